import Derived.Test.YtgngjdakilfmoaaGreatDoorRows
import Derived.WalkKit
import Derived.ProofKit
import Derived.Handy
import Derived.SevenTiedAt
set_option linter.unusedVariables false
set_option linter.unusedSimpArgs false
namespace Go.Proofs.YtgngjdakilfmoaaGreatDoor
open Go.ChangeShapes Go.WideShapes Go.ChangeAt Go.RowKit
set_option maxRecDepth 1000000
set_option maxHeartbeats 40000000
theorem ajk:joinedFacts Tryz.pinned.checked.prog 3 Tryz.f3 Rows.distanceBestIsPreferredSpec Rows.distanceBestIsPreferredRow=true:=by
 unfold joinedFacts
 repeat (refine(Bool.and_eq_true_iff).2 ⟨?_,by as_aux_lemma=>kernel_rfl⟩)
 as_aux_lemma=>kernel_rfl
end Go.Proofs.YtgngjdakilfmoaaGreatDoor
