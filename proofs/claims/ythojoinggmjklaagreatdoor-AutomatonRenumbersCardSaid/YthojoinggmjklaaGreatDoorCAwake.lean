import Derived.Test.YthojoinggmjklaaGreatDoorCH
set_option linter.unusedVariables false
set_option linter.unusedSimpArgs false
noncomputable section
noncomputable section
namespace Fi.S
open Go Fi
set_option maxRecDepth 1000000
def EA:Env:={fn:=fn,dO:=dO,iF:=xk,gU:=fun g=>bif Nat.beq g 1100 then some (o8 11) else none}
theorem X3:EA.Le E1:=⟨rfl,rfl,rfl,fun g p hp=>by
 unfold EA at hp;unfold E1;simp only at hp ⊢
 by_cases h:g=1100
 ·subst h;exact hp
 ·have:Nat.beq g 1100=false:=by
   cases hb:Nat.beq g 1100 with
   | false=>rfl
   | true=>exact absurd (Nat.eq_of_beq_eq_true hb) h
  rw[this]at hp;cases hp⟩
theorem Lv:yes (cK EA 100000 1011 [] [])=true:=by kernel_rfl
theorem OY:Ca E1 1011 [] (.d (.v (.bool true)),none):=(Ca.of (X4 Lv)).up X3
end Fi.S
