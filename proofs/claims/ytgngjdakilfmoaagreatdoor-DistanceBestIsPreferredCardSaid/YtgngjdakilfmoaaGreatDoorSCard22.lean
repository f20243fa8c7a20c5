/- For every input, no path of at most four arcs, which numbers choose, is preferred to Best of a made automaton: the Go function DistanceBestIsPreferred returns true; its tied card. No condition beyond the card's own. -/
import Derived.Test.YtgngjdakilfmoaaGreatDoorSCard22a
import Derived.Test.YtgngjdakilfmoaaGreatDoorSCard22c
set_option linter.unusedVariables false
set_option linter.unusedSimpArgs false
namespace Go.Proofs.YtgngjdakilfmoaaGreatDoor
open Go.ChangeShapes Go.WideShapes Go.ChangeAt Go.RowKit
set_option maxRecDepth 1000000
set_option maxHeartbeats 40000000
theorem anI:Rows.DistanceBestIsPreferredSaid :=
 OpenClaim.holds_of_wide 3 Tryz.f3 rfl rfl rfl rfl rfl rfl rfl ⟨rfl,rfl,rfl,rfl,rfl⟩ rfl rfl rfl rfl rfl (by as_aux_lemma=>kernel_rfl) Tryz.func3 ajk
  (of_decide_eq_true (by as_aux_lemma=>kernel_rfl)) (by unfold Func.isWrapper;first|(rw[if_pos (by decide +kernel)];kernel_rfl)|(rw[if_neg (by decide +kernel)];exact⟨rfl,rfl⟩))
  (fun os started H enc _=>akf os started H enc)
theorem preferred_holds:Rows.DistanceBestIsPreferredCardSaid :=
 Claim7.holds_tied_plain_at .later [] [.data, .data, .data, .data, .sentinel, .sentinel, .pinned] true (true, "f9d5d44da95c7ccb7fd209bdd6c2a6c6560d50611c4efeeddb80d84caeee3102") true anI (fun _ h => by cases h) (by as_aux_lemma => kernel_rfl) (fun _ h => by cases h) distanceBestIsPreferred_row_tie rfl ⟨rfl, rfl⟩ (by as_aux_lemma => kernel_rfl) rfl
  (fun f fn hf hfn=>by
   obtain rfl : f = 3 := Qy0 ((show Tryz.prog.funcNamed "weighted/weightedlaw21.DistanceBestIsPreferred" = some 3 by as_aux_lemma => kernel_rfl).symm.trans hf) |>.symm
   obtain rfl:fn=Tryz.f3:=(Qy0 (Tryz.func3.symm.trans hfn)).symm;exact⟨by as_aux_lemma=>kernel_rfl,fun j t ht=>by
    rw[Tryz.params3]at ht;have hm:t ∈ [4,24,3,22]:=by simpa using Array.mem_of_getElem? ht
    have hall:([4,24,3,22].all fun u => !Tryz.prog.wantsStandIn u)=true:=by as_aux_lemma=>kernel_rfl
    exact(show Tryz.prog.wantsStandIn t=false by simpa using Qh2.1 hall t hm)⟩)
  (by as_aux_lemma=>kernel_rfl)
#print axioms preferred_holds
end Go.Proofs.YtgngjdakilfmoaaGreatDoor
