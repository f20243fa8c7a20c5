/- For every input, Plus, Times, Star and Better of package semiring return the specified results, at any semirings and weights of light numbers: the Go function SemiringCalculates returns true; its tied card. No condition beyond the card's own. -/
import Derived.Test.YtonmcbnjifeagaaGreatDoorSCard3a
import Derived.Test.YtonmcbnjifeagaaGreatDoorSCard3c
set_option linter.unusedVariables false
set_option linter.unusedSimpArgs false
namespace Go.Proofs.YtonmcbnjifeagaaGreatDoor
open Go.ChangeShapes Go.WideShapes Go.ChangeAt Go.RowKit
set_option maxRecDepth 1000000
set_option maxHeartbeats 40000000
theorem adz:Rows.SemiringCalculatesSaid :=
 OpenClaim.holds_of_wide 5 Tryz.f5 rfl rfl rfl rfl rfl rfl rfl ⟨rfl,rfl,rfl,rfl,rfl⟩ rfl rfl rfl rfl rfl (by as_aux_lemma=>kernel_rfl) Tryz.func5 UZ
  (of_decide_eq_true (by as_aux_lemma=>kernel_rfl)) (by unfold Func.isWrapper;first|(rw[if_pos (by decide +kernel)];kernel_rfl)|(rw[if_neg (by decide +kernel)];exact⟨rfl,rfl⟩))
  (fun os started H enc _=>U0 os started H enc)
theorem calculates_hold:Rows.SemiringCalculatesCardSaid :=
 Claim7.holds_tied_plain_at .later [] [.data, .data, .data, .data, .sentinel, .sentinel, .pinned] true (true, "5884b6a6b8b58feebbd40f2f00cb84f5056ce1aaa70d56625b2a9f24e93d1dbf") true adz (fun _ h => by cases h) (by as_aux_lemma => kernel_rfl) (fun _ h => by cases h) semiringCalculates_row_tie rfl ⟨rfl, rfl⟩ (by as_aux_lemma => kernel_rfl) rfl
  (fun f fn hf hfn=>by
   obtain rfl : f = 5 := Option.some.inj ((show Tryz.prog.funcNamed "weighted/weightedlaw03.SemiringCalculates" = some 5 by as_aux_lemma => kernel_rfl).symm.trans hf) |>.symm
   obtain rfl:fn=Tryz.f5:=(Option.some.inj (Tryz.func5.symm.trans hfn)).symm;exact⟨by as_aux_lemma=>kernel_rfl,fun j t ht=>by
    rw[Tryz.params5]at ht;have hm:t ∈ [24,33,33]:=by simpa using Array.mem_of_getElem? ht
    have hall:([24,33,33].all fun u => !Tryz.prog.wantsStandIn u)=true:=by as_aux_lemma=>kernel_rfl
    exact(show Tryz.prog.wantsStandIn t=false by simpa using List.all_eq_true.1 hall t hm)⟩)
  (by as_aux_lemma=>kernel_rfl)
#print axioms calculates_hold
end Go.Proofs.YtonmcbnjifeagaaGreatDoor
