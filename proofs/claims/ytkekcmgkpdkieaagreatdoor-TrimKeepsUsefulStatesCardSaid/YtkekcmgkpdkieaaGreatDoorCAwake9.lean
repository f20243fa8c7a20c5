import Derived.Test.YtkekcmgkpdkieaaGreatDoorCH
noncomputable section
namespace Fi.S
open Go Fi
set_option maxRecDepth 1000000
def EA:Env:={fn:=fn,dU:=dU,iK:=yw,iC:=fun g=>bif Nat.beq g 1100 then some (qK 11) else none}
theorem aaL:EA.Le E1:=⟨rfl,rfl,rfl,fun g p hp=>by
 unfold EA at hp;unfold E1;simp only at hp ⊢
 by_cases h:g=1100
 ·subst h;exact hp
 ·have:Nat.beq g 1100=false:=by
   cases hb:Nat.beq g 1100 with
   | false=>rfl
   | true=>exact absurd (Qk1 hb) h
  rw[this]at hp;cases hp⟩
theorem JS:yes (dx EA 100000 1504 [] [])=true:=by kernel_rfl
theorem NG:Ca E1 1504 [] (dB true,none):=(Ca.of (aaM JS)).up aaL
end Fi.S
