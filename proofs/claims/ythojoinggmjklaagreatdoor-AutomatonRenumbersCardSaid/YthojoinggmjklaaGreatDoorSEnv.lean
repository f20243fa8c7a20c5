import Derived.Test.YthojoinggmjklaaGreatDoorSCode
import Derived.Test.YthojoinggmjklaaGreatDoorFiF
set_option linter.unusedVariables false
set_option linter.unusedSimpArgs false
noncomputable section
noncomputable section
namespace Fi.S
open Go Fi
def afh (sz:Nat)(args:List FV)(B:List ae):bA :=
 match args with
 | [.d (.s dN [])]=>if dN=sz then some (.d (.s sz []),none) else none
 | [.d (.s dN (e::es))]=>if dN=sz/\(e::es).length<=1000000 then some (.ls (.old B.length) 1 sz 0 (e::es).length,some (B++[.row 1 sz (e::es)])) else none
 | _=>none
def dO (_:Nat):Option D:=none
def xk (g:Nat):Option (List D->Option D):=bif Nat.beq g 1098 then some (wM 1) else none
def E0:Env:={fn:=fn,dO:=dO,iF:=xk,gU:=fun _=>none}
end Fi.S
