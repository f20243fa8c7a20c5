/- The row of SemiringFollowsLawsForCosts. -/
import Derived.Test.YtonmcbnjifeagaaGreatDoorSCard1a
set_option linter.unusedVariables false
set_option linter.unusedSimpArgs false
namespace Go.Proofs.YtonmcbnjifeagaaGreatDoor
open Go.ChangeShapes Go.WideShapes Go.ChangeAt Go.RowKit
set_option maxRecDepth 1000000
set_option maxHeartbeats 40000000
theorem closed1 : joinedFacts Tryz.pinned.checked.prog 3 Tryz.f3 Rows.semiringFollowsLawsForCostsSpec Rows.semiringFollowsLawsForCostsRow = true := by
  unfold joinedFacts
  repeat (refine (Bool.and_eq_true_iff).2 ⟨?_, by as_aux_lemma => kernel_rfl⟩)
  as_aux_lemma => kernel_rfl
theorem row1 : Rows.SemiringFollowsLawsForCostsSaid :=
  OpenClaim.holds_of_wide 3 Tryz.f3 rfl rfl rfl rfl rfl rfl rfl ⟨rfl, rfl, rfl, rfl, rfl⟩ rfl rfl rfl rfl rfl (by as_aux_lemma => kernel_rfl) Tryz.func3 closed1
    (of_decide_eq_true (by as_aux_lemma => kernel_rfl)) (by unfold Func.isWrapper; first | (rw [if_pos (by decide +kernel)]; kernel_rfl) | (rw [if_neg (by decide +kernel)]; exact ⟨rfl, rfl⟩))
    (fun os started H enc _ => lifted1 os started H enc)
end Go.Proofs.YtonmcbnjifeagaaGreatDoor
