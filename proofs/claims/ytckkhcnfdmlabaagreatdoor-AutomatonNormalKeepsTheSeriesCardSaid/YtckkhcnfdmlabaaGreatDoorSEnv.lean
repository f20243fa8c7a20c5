import Derived.Test.YtckkhcnfdmlabaaGreatDoorSCode
import Derived.Test.YtckkhcnfdmlabaaGreatDoorFiF
set_option linter.unusedVariables false
set_option linter.unusedSimpArgs false
noncomputable section
noncomputable section
namespace Fi.S
open Go Fi
def ah1 (sz:Nat)(args:List FV)(B:List ae):bF :=
 match args with
 | [.d (.s eu [])]=>if eu=sz then some (.d (.s sz []),none) else none
 | [.d (.s eu (e::es))]=>if eu=sz/\(e::es).length<=1000000 then some (.ls (.old B.length) 1 sz 0 (e::es).length,some (B++[.row 1 sz (e::es)])) else none
 | _=>none
def dY (_:Nat):Option D:=none
def tO (g:Nat):Option (List D->Option D):=bif Nat.beq g 1098 then some (xV 1) else none
def E0:Env:={fn:=fn,dY:=dY,iR:=tO,ik:=fun _=>none}
end Fi.S
