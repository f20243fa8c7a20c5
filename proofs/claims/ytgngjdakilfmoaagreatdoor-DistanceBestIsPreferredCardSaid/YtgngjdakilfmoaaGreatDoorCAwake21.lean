import Derived.Test.YtgngjdakilfmoaaGreatDoorCH
noncomputable section
namespace Fi.S
open Go Fi
set_option maxRecDepth 1000000
def EA:Env:={fn:=fn,eG:=eG,jq:=ve,iO:=fun g=>bif Nat.beq g 1100 then some (r_ 11) else none}
theorem adz:EA.Le E1:=⟨rfl,rfl,rfl,fun g p hp=>by
 unfold EA at hp;unfold E1;simp only at hp ⊢
 by_cases h:g=1100
 ·subst h;exact hp
 ·have:Nat.beq g 1100=false:=by
   cases hb:Nat.beq g 1100 with
   | false=>rfl
   | true=>exact absurd (Ql0 hb) h
  rw[this]at hp;cases hp⟩
theorem Jz:yes (cz EA 100000 1706 [] [])=true:=by kernel_rfl
theorem Ms:Ca E1 1706 [] (dB true,none):=(Ca.of (adA Jz)).up adz
end Fi.S
