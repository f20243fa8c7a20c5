import Derived.Test.YtbbogkfadofneaaGreatDoorSCode
import Derived.Test.YtbbogkfadofneaaGreatDoorFiF
import Derived.Test.YtbbogkfadofneaaGreatDoorFiG
noncomputable section
namespace Fi.S
open Go Fi
def ajC (sz:Nat)(args:List FV)(B:List ah):bF :=
 match args with
 | [.d (.s eQ [])]=>if eQ=sz then some (.d (.s sz []),none) else none
 | [.d (.s eQ (e::es))]=>if eQ=sz/\(e::es).length<=1000000 then some (.ls (.old B.length) 1 sz 0 (e::es).length,some (B++[.row 1 sz (e::es)])) else none
 | _=>none
def d9 (_:Nat):Option D:=none
def uA (g:Nat):Option (List D->Option D):=bif Nat.beq g 1098 then some (yK 1) else none
def E0:Env:={fn:=fn,d9:=d9,iV:=uA,iH:=fun _=>none}
set_option maxHeartbeats 8000000
def LK (k:IntKind)(l:List Int):List D:=l.map fun x=>D.v (.int k x)
def aT (k:Int)(ps:List Int):D:=.a [vI k,.s 1 (LK .i64 ps)]
end Fi.S
