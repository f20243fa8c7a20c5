/- For every input, a weight that is not one of the semiring counts as Zero, and all results are weights of it: the Go function SemiringTakesStrangersAsZero returns true; its tied card. No condition beyond the card's own. -/
import Derived.Test.YtonmcbnjifeagaaGreatDoorSCard6a
import Derived.Test.YtonmcbnjifeagaaGreatDoorSCard6c
set_option linter.unusedVariables false
set_option linter.unusedSimpArgs false
namespace Go.Proofs.YtonmcbnjifeagaaGreatDoor
open Go.ChangeShapes Go.WideShapes Go.ChangeAt Go.RowKit
set_option maxRecDepth 1000000
set_option maxHeartbeats 40000000
theorem row6:Rows.SemiringTakesStrangersAsZeroSaid :=
 OpenClaim.holds_of_wide 8 Tryz.f8 rfl rfl rfl rfl rfl rfl rfl ⟨rfl,rfl,rfl,rfl,rfl⟩ rfl rfl rfl rfl rfl (by as_aux_lemma=>kernel_rfl) Tryz.func8 closed6
  (of_decide_eq_true (by as_aux_lemma=>kernel_rfl)) (by unfold Func.isWrapper; first | (rw [if_pos (by decide +kernel)]; kernel_rfl) | (rw [if_neg (by decide +kernel)]; exact ⟨rfl,rfl⟩))
  (fun os started H enc _=>lifted8 os started H enc)
theorem strangers_hold:Rows.SemiringTakesStrangersAsZeroCardSaid :=
 Claim7.holds_tied_plain_at .later [] [.data, .data, .data, .data, .sentinel, .sentinel, .pinned] true (true, "5884b6a6b8b58feebbd40f2f00cb84f5056ce1aaa70d56625b2a9f24e93d1dbf") true row6 (fun _ h => by cases h) (by as_aux_lemma => kernel_rfl) (fun _ h => by cases h) semiringTakesStrangersAsZero_row_tie rfl ⟨rfl, rfl⟩ (by as_aux_lemma => kernel_rfl) rfl
  (fun f fn hf hfn=>by
   obtain rfl : f = 8 := Option.some.inj ((show Tryz.prog.funcNamed "weighted/weightedlaw03.SemiringTakesStrangersAsZero" = some 8 by as_aux_lemma => kernel_rfl).symm.trans hf) |>.symm
   obtain rfl:fn=Tryz.f8:=(Option.some.inj (Tryz.func8.symm.trans hfn)).symm
   exact ⟨by as_aux_lemma=>kernel_rfl,fun j t ht=>by
    rw [Tryz.params8] at ht
    have hm:t ∈ [24,33,33]:=by simpa using Array.mem_of_getElem? ht
    have hall:([24,33,33].all fun u => !Tryz.prog.wantsStandIn u)=true:=by as_aux_lemma=>kernel_rfl
    exact (show Tryz.prog.wantsStandIn t=false by simpa using List.all_eq_true.1 hall t hm)⟩)
  (by as_aux_lemma=>kernel_rfl)
#print axioms strangers_hold
end Go.Proofs.YtonmcbnjifeagaaGreatDoor
