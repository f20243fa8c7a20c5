/- For every input, Restrict of a made automaton gives words over the chosen symbols their weights, and others Zero: the Go function ProductRestrictKeepsWords returns true; its tied card. No condition beyond the card's own. -/
import Derived.Test.YtbbogkfadofneaaGreatDoorSCard45a
import Derived.Test.YtbbogkfadofneaaGreatDoorSCard45c
set_option linter.unusedVariables false
set_option linter.unusedSimpArgs false
namespace Go.Proofs.YtbbogkfadofneaaGreatDoor
open Go.ChangeShapes Go.WideShapes Go.ChangeAt Go.RowKit
set_option maxRecDepth 1000000
set_option maxHeartbeats 40000000
theorem ahc:Rows.ProductRestrictKeepsWordsSaid :=
 OpenClaim.holds_of_wide 3 Tryz.f3 rfl rfl rfl rfl rfl rfl rfl ⟨rfl,rfl,rfl,rfl,rfl⟩ rfl rfl rfl rfl rfl (by as_aux_lemma=>kernel_rfl) Tryz.func3 Xk
  (of_decide_eq_true (by as_aux_lemma=>kernel_rfl)) (by unfold Func.isWrapper;first|(rw[if_pos (by decide +kernel)];kernel_rfl)|(rw[if_neg (by decide +kernel)];exact⟨rfl,rfl⟩))
  (fun os started H enc _=>aaA os started H enc)
theorem restrict_holds:Rows.ProductRestrictKeepsWordsCardSaid :=
 Claim7.holds_tied_plain_at .later [] [.data, .data, .data, .data, .sentinel, .sentinel, .pinned] true (true, "e430710ebf876179bfcc284c71d574f3ba6241cfd0769eb747c675b48dba649e") true ahc (fun _ h => by cases h) (by as_aux_lemma => kernel_rfl) (fun _ h => by cases h) productRestrictKeepsWords_row_tie rfl ⟨rfl, rfl⟩ (by as_aux_lemma => kernel_rfl) rfl
  (fun f fn hf hfn=>by
   obtain rfl : f = 3 := Qw1 ((show Tryz.prog.funcNamed "weighted/weightedlaw16.ProductRestrictKeepsWords" = some 3 by as_aux_lemma => kernel_rfl).symm.trans hf) |>.symm
   obtain rfl:fn=Tryz.f3:=(Qw1 (Tryz.func3.symm.trans hfn)).symm;exact⟨by as_aux_lemma=>kernel_rfl,fun j t ht=>by
    rw[Tryz.params3]at ht;have hm:t ∈ [3,24,22,5]:=by simpa using Array.mem_of_getElem? ht
    have hall:([3,24,22,5].all fun u => !Tryz.prog.wantsStandIn u)=true:=by as_aux_lemma=>kernel_rfl
    exact(show Tryz.prog.wantsStandIn t=false by simpa using Qh2.1 hall t hm)⟩)
  (by as_aux_lemma=>kernel_rfl)
#print axioms restrict_holds
end Go.Proofs.YtbbogkfadofneaaGreatDoor
