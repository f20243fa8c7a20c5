/- For every input, the normal form of a made automaton is valid, its own normal form, does not depend on the order of the arcs, and gives words the same weights: the Go function AutomatonNormalKeepsTheSeries returns true; its tied card. No condition beyond the card's own. -/
import Derived.Test.YtckkhcnfdmlabaaGreatDoorSCard17a
import Derived.Test.YtckkhcnfdmlabaaGreatDoorSCard17c
set_option linter.unusedVariables false
set_option linter.unusedSimpArgs false
namespace Go.Proofs.YtckkhcnfdmlabaaGreatDoor
open Go.ChangeShapes Go.WideShapes Go.ChangeAt Go.RowKit
set_option maxRecDepth 1000000
set_option maxHeartbeats 40000000
theorem afy:Rows.AutomatonNormalKeepsTheSeriesSaid :=
 OpenClaim.holds_of_wide 6 Tryz.f6 rfl rfl rfl rfl rfl rfl rfl ⟨rfl,rfl,rfl,rfl,rfl⟩ rfl rfl rfl rfl rfl (by as_aux_lemma=>kernel_rfl) Tryz.func6 VD
  (of_decide_eq_true (by as_aux_lemma=>kernel_rfl)) (by unfold Func.isWrapper;first|(rw[if_pos (by decide +kernel)];kernel_rfl)|(rw[if_neg (by decide +kernel)];exact⟨rfl,rfl⟩))
  (fun os started H enc _=>Y3 os started H enc)
theorem normal_holds:Rows.AutomatonNormalKeepsTheSeriesCardSaid :=
 Claim7.holds_tied_plain_at .later [] [.data, .data, .data, .data, .sentinel, .sentinel, .pinned] true (true, "7b794ae52fe4ec5de85cb4bea553b318f4536a9367e985ad50e0ca9979955475") true afy (fun _ h => by cases h) (by as_aux_lemma => kernel_rfl) (fun _ h => by cases h) automatonNormalKeepsTheSeries_row_tie rfl ⟨rfl, rfl⟩ (by as_aux_lemma => kernel_rfl) rfl
  (fun f fn hf hfn=>by
   obtain rfl : f = 6 := Option.some.inj ((show Tryz.prog.funcNamed "weighted/weightedlaw06.AutomatonNormalKeepsTheSeries" = some 6 by as_aux_lemma => kernel_rfl).symm.trans hf) |>.symm
   obtain rfl:fn=Tryz.f6:=(Option.some.inj (Tryz.func6.symm.trans hfn)).symm;exact⟨by as_aux_lemma=>kernel_rfl,fun j t ht=>by
    rw[Tryz.params6]at ht;have hm:t ∈ [3,55,22,3]:=by simpa using Array.mem_of_getElem? ht
    have hall:([3,55,22,3].all fun u => !Tryz.prog.wantsStandIn u)=true:=by as_aux_lemma=>kernel_rfl
    exact(show Tryz.prog.wantsStandIn t=false by simpa using List.all_eq_true.1 hall t hm)⟩)
  (by as_aux_lemma=>kernel_rfl)
#print axioms normal_holds
end Go.Proofs.YtckkhcnfdmlabaaGreatDoor
