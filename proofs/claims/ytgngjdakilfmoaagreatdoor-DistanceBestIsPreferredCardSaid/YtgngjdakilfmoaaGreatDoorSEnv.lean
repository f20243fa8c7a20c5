import Derived.Test.YtgngjdakilfmoaaGreatDoorSCode
import Derived.Test.YtgngjdakilfmoaaGreatDoorFiF
import Derived.Test.YtgngjdakilfmoaaGreatDoorFiG
noncomputable section
namespace Fi.S
open Go Fi
def alB (sz:Nat)(args:List FV)(B:List ah):bJ :=
 match args with
 | [.d (.s fE [])]=>if fE=sz then some (.d (.s sz []),none) else none
 | [.d (.s fE (e::es))]=>if fE=sz/\(e::es).length<=1000000 then some (.ls (.old B.length) 1 sz 0 (e::es).length,some (B++[.row 1 sz (e::es)])) else none
 | _=>none
def eG (_:Nat):Option D:=none
def ve (g:Nat):Option (List D->Option D):=bif Nat.beq g 1098 then some (zA 1) else none
def E0:Env:={fn:=fn,eG:=eG,jq:=ve,iO:=fun _=>none}
set_option maxHeartbeats 8000000
def LK (k:IntKind)(l:List Int):List D:=l.map fun x=>D.v (.int k x)
def aU (k:Int)(ps:List Int):D:=.a [vI k,.s 1 (LK .i64 ps)]
end Fi.S
