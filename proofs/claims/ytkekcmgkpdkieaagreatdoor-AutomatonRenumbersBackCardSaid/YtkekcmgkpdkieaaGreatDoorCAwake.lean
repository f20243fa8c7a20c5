import Derived.Test.YtkekcmgkpdkieaaGreatDoorCH
noncomputable section
namespace Fi.S
open Go Fi
set_option maxRecDepth 1000000
def EA:Env:={fn:=fn,d9:=d9,ja:=uK,iF:=fun g=>bif Nat.beq g 1100 then some (q8 11) else none}
theorem abI:EA.Le E1:=⟨rfl,rfl,rfl,fun g p hp=>by
 unfold EA at hp;unfold E1;simp only at hp ⊢
 by_cases h:g=1100
 ·subst h;exact hp
 ·have:Nat.beq g 1100=false:=by
   cases hb:Nat.beq g 1100 with
   | false=>rfl
   | true=>exact absurd (Ql2 hb) h
  rw[this]at hp;cases hp⟩
theorem PM:yes (bW EA 100000 1011 [] [])=true:=by kernel_rfl
theorem Tc:Ca E1 1011 [] (.d (.v (.bool true)),none):=(Ca.of (abJ PM)).up abI
end Fi.S
