/- For every input, Valid, Normal and Same return the specified results, for automata of at most 6 states and 16 arcs: the Go function AutomatonHasAForm returns true; its tied card. No condition beyond the card's own. -/
import Derived.Test.YtckkhcnfdmlabaaGreatDoorSCard15a
import Derived.Test.YtckkhcnfdmlabaaGreatDoorSCard15c
set_option linter.unusedVariables false
set_option linter.unusedSimpArgs false
namespace Go.Proofs.YtckkhcnfdmlabaaGreatDoor
open Go.ChangeShapes Go.WideShapes Go.ChangeAt Go.RowKit
set_option maxRecDepth 1000000
set_option maxHeartbeats 40000000
theorem ag3:Rows.AutomatonHasAFormSaid :=
 OpenClaim.holds_of_wide 5 Tryz.f5 rfl rfl rfl rfl rfl rfl rfl ⟨rfl,rfl,rfl,rfl,rfl⟩ rfl rfl rfl rfl rfl (by as_aux_lemma=>kernel_rfl) Tryz.func5 WX
  (of_decide_eq_true (by as_aux_lemma=>kernel_rfl)) (by unfold Func.isWrapper;first|(rw[if_pos (by decide +kernel)];kernel_rfl)|(rw[if_neg (by decide +kernel)];exact⟨rfl,rfl⟩))
  (fun os started H enc _=>aat os started H enc)
theorem form_holds:Rows.AutomatonHasAFormCardSaid :=
 Claim7.holds_tied_plain_at .later [] [.data, .data, .data, .data, .sentinel, .sentinel, .pinned] true (true, "7b794ae52fe4ec5de85cb4bea553b318f4536a9367e985ad50e0ca9979955475") true ag3 (fun _ h => by cases h) (by as_aux_lemma => kernel_rfl) (fun _ h => by cases h) automatonHasAForm_row_tie rfl ⟨rfl, rfl⟩ (by as_aux_lemma => kernel_rfl) rfl
  (fun f fn hf hfn=>by
   obtain rfl : f = 5 := Option.some.inj ((show Tryz.prog.funcNamed "weighted/weightedlaw06.AutomatonHasAForm" = some 5 by as_aux_lemma => kernel_rfl).symm.trans hf) |>.symm
   obtain rfl:fn=Tryz.f5:=(Option.some.inj (Tryz.func5.symm.trans hfn)).symm;exact⟨by as_aux_lemma=>kernel_rfl,fun j t ht=>by
    rw[Tryz.params5]at ht;have hm:t ∈ [38,38]:=by simpa using Array.mem_of_getElem? ht
    have hall:([38,38].all fun u => !Tryz.prog.wantsStandIn u)=true:=by as_aux_lemma=>kernel_rfl
    exact(show Tryz.prog.wantsStandIn t=false by simpa using List.all_eq_true.1 hall t hm)⟩)
  (by as_aux_lemma=>kernel_rfl)
#print axioms form_holds
end Go.Proofs.YtckkhcnfdmlabaaGreatDoor
