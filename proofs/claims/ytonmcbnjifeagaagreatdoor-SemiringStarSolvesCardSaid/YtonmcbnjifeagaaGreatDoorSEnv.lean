/- The seat's environment. -/
import Derived.Test.YtonmcbnjifeagaaGreatDoorSCode
import Derived.Test.YtonmcbnjifeagaaGreatDoorFiF
set_option linter.unusedVariables false
set_option linter.unusedSimpArgs false
noncomputable section
noncomputable section
namespace Fi.S
open Go Fi
def glob (k:Nat):Option D:=bif Nat.beq k 3 then some pow10D else none
def prim0 (g:Nat):Option (List D->Option D):=bif Nat.beq g 76 then some joinP else bif Nat.beq g 129 then some itoaP else none
def E0:Env:={fn:=fn,glob:=glob,prim:=prim0,primB:=fun _=>none}
end Fi.S
