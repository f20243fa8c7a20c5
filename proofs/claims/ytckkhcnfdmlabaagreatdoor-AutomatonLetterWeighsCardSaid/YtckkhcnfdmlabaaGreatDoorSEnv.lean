import Derived.Test.YtckkhcnfdmlabaaGreatDoorSCode
import Derived.Test.YtckkhcnfdmlabaaGreatDoorFiF
set_option linter.unusedVariables false
set_option linter.unusedSimpArgs false
noncomputable section
noncomputable section
namespace Fi.S
open Go Fi
def ajN (sz:Nat)(args:List FV)(B:List ae):bH :=
 match args with
 | [.d (.s eG [])]=>if eG=sz then some (.d (.s sz []),none) else none
 | [.d (.s eG (e::es))]=>if eG=sz/\(e::es).length<=1000000 then some (.ls (.old B.length) 1 sz 0 (e::es).length,some (B++[.row 1 sz (e::es)])) else none
 | _=>none
def dZ (_:Nat):Option D:=none
def uZ (g:Nat):Option (List D->Option D):=bif Nat.beq g 1098 then some (zC 1) else none
def E0:Env:={fn:=fn,dZ:=dZ,ja:=uZ,iA:=fun _=>none}
end Fi.S
