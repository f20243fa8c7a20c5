/- The row's facts. -/
import Derived.Test.YtonmcbnjifeagaaGreatDoorRows
import Derived.WalkKit
import Derived.ProofKit
import Derived.Handy
import Derived.SevenTiedAt
namespace Go.Proofs.YtonmcbnjifeagaaGreatDoor
open Go.ChangeShapes Go.WideShapes Go.ChangeAt Go.RowKit
set_option maxRecDepth 1000000
set_option maxHeartbeats 40000000
theorem UZ:joinedFacts Tryz.pinned.checked.prog 5 Tryz.f5 Rows.semiringCalculatesSpec Rows.semiringCalculatesRow=true:=by
 unfold joinedFacts
 repeat (refine(Bool.and_eq_true_iff).2 ⟨?_,by as_aux_lemma=>kernel_rfl⟩)
 as_aux_lemma=>kernel_rfl
end Go.Proofs.YtonmcbnjifeagaaGreatDoor
