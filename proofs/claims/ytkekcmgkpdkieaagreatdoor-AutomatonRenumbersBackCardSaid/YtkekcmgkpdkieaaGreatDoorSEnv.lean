import Derived.Test.YtkekcmgkpdkieaaGreatDoorSCode
import Derived.Test.YtkekcmgkpdkieaaGreatDoorFiF
noncomputable section
namespace Fi.S
open Go Fi
def ajy (sz:Nat)(args:List FV)(B:List ae):bG :=
 match args with
 | [.d (.s eG [])]=>if eG=sz then some (.d (.s sz []),none) else none
 | [.d (.s eG (e::es))]=>if eG=sz/\(e::es).length<=1000000 then some (.ls (.old B.length) 1 sz 0 (e::es).length,some (B++[.row 1 sz (e::es)])) else none
 | _=>none
def d9 (_:Nat):Option D:=none
def uK (g:Nat):Option (List D->Option D):=bif Nat.beq g 1098 then some (yS 1) else none
def E0:Env:={fn:=fn,d9:=d9,ja:=uK,iF:=fun _=>none}
end Fi.S
