import Derived.Test.YtkekcmgkpdkieaaGreatDoorSCode
import Derived.Test.YtkekcmgkpdkieaaGreatDoorFiF
import Derived.Test.YtkekcmgkpdkieaaGreatDoorFiG
noncomputable section
namespace Fi.S
open Go Fi
def ah4 (sz:Nat)(args:List FV)(B:List ai):bF :=
 match args with
 | [.d (.s dY [])]=>if dY=sz then some (.d (.s sz []),none) else none
 | [.d (.s dY (e::es))]=>if dY=sz/\(e::es).length<=1000000 then some (.ls (.old B.length) 1 sz 0 (e::es).length,some (B++[.row 1 sz (e::es)])) else none
 | _=>none
def dU (_:Nat):Option D:=none
def yw (g:Nat):Option (List D->Option D):=bif Nat.beq g 1098 then some (xN 1) else none
def E0:Env:={fn:=fn,dU:=dU,iK:=yw,iC:=fun _=>none}
set_option maxHeartbeats 8000000
def LK (k:IntKind)(l:List Int):List D:=l.map fun x=>D.v (.int k x)
def bD (k:Int)(ps:List Int):D:=.a [vI k,.s 1 (LK .i64 ps)]
end Fi.S
