/- For every input, made weights of seven semirings follow the laws of a commutative semiring: the Go function SemiringFollowsLaws returns true; its tied card. No condition beyond the card's own. -/
import Derived.Test.YtonmcbnjifeagaaGreatDoorSCard5a
import Derived.Test.YtonmcbnjifeagaaGreatDoorSCard5c
set_option linter.unusedVariables false
set_option linter.unusedSimpArgs false
namespace Go.Proofs.YtonmcbnjifeagaaGreatDoor
open Go.ChangeShapes Go.WideShapes Go.ChangeAt Go.RowKit
set_option maxRecDepth 1000000
set_option maxHeartbeats 40000000
theorem row5:Rows.SemiringFollowsLawsSaid :=
 OpenClaim.holds_of_wide 7 Tryz.f7 rfl rfl rfl rfl rfl rfl rfl ⟨rfl,rfl,rfl,rfl,rfl⟩ rfl rfl rfl rfl rfl (by as_aux_lemma=>kernel_rfl) Tryz.func7 closed5
  (of_decide_eq_true (by as_aux_lemma=>kernel_rfl)) (by unfold Func.isWrapper; first | (rw [if_pos (by decide +kernel)]; kernel_rfl) | (rw [if_neg (by decide +kernel)]; exact ⟨rfl,rfl⟩))
  (fun os started H enc _=>lifted7 os started H enc)
theorem laws_hold:Rows.SemiringFollowsLawsCardSaid :=
 Claim7.holds_tied_plain_at .later [] [.data, .data, .data, .data, .sentinel, .sentinel, .pinned] true (true, "5884b6a6b8b58feebbd40f2f00cb84f5056ce1aaa70d56625b2a9f24e93d1dbf") true row5 (fun _ h => by cases h) (by as_aux_lemma => kernel_rfl) (fun _ h => by cases h) semiringFollowsLaws_row_tie rfl ⟨rfl, rfl⟩ (by as_aux_lemma => kernel_rfl) rfl
  (fun f fn hf hfn=>by
   obtain rfl : f = 7 := Option.some.inj ((show Tryz.prog.funcNamed "weighted/weightedlaw03.SemiringFollowsLaws" = some 7 by as_aux_lemma => kernel_rfl).symm.trans hf) |>.symm
   obtain rfl:fn=Tryz.f7:=(Option.some.inj (Tryz.func7.symm.trans hfn)).symm
   exact ⟨by as_aux_lemma=>kernel_rfl,fun j t ht=>by
    rw [Tryz.params7] at ht
    have hm:t ∈ [3,3,3,3]:=by simpa using Array.mem_of_getElem? ht
    have hall:([3,3,3,3].all fun u => !Tryz.prog.wantsStandIn u)=true:=by as_aux_lemma=>kernel_rfl
    exact (show Tryz.prog.wantsStandIn t=false by simpa using List.all_eq_true.1 hall t hm)⟩)
  (by as_aux_lemma=>kernel_rfl)
#print axioms laws_hold
end Go.Proofs.YtonmcbnjifeagaaGreatDoor
