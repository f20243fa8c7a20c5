/- For every input, a state of a made automaton that is useful stays useful when an arc is added: the Go function TrimGrowsWithArcs returns true; its tied card. No condition beyond the card's own. -/
import Derived.Test.YtkekcmgkpdkieaaGreatDoorSCard25a
import Derived.Test.YtkekcmgkpdkieaaGreatDoorSCard25c
set_option linter.unusedVariables false
set_option linter.unusedSimpArgs false
namespace Go.Proofs.YtkekcmgkpdkieaaGreatDoor
open Go.ChangeShapes Go.WideShapes Go.ChangeAt Go.RowKit
set_option maxRecDepth 1000000
set_option maxHeartbeats 40000000
theorem aik:Rows.TrimGrowsWithArcsSaid :=
 OpenClaim.holds_of_wide 6 Tryz.f6 rfl rfl rfl rfl rfl rfl rfl ⟨rfl,rfl,rfl,rfl,rfl⟩ rfl rfl rfl rfl rfl (by as_aux_lemma=>kernel_rfl) Tryz.func6 ad7
  (of_decide_eq_true (by as_aux_lemma=>kernel_rfl)) (by unfold Func.isWrapper;first|(rw[if_pos (by decide +kernel)];kernel_rfl)|(rw[if_neg (by decide +kernel)];exact⟨rfl,rfl⟩))
  (fun os started H enc _=>aej os started H enc)
theorem grows_holds:Rows.TrimGrowsWithArcsCardSaid :=
 Claim7.holds_tied_plain_at .later [] [.data, .data, .data, .data, .sentinel, .sentinel, .pinned] true (true, "af58d71e6caa90d56f86788d75e30e46753ea21cc7e8a2ec22f21ee56135186f") true aik (fun _ h => by cases h) (by as_aux_lemma => kernel_rfl) (fun _ h => by cases h) trimGrowsWithArcs_row_tie rfl ⟨rfl, rfl⟩ (by as_aux_lemma => kernel_rfl) rfl
  (fun f fn hf hfn=>by
   obtain rfl : f = 6 := Q00 ((show Tryz.prog.funcNamed "weighted/weightedlaw09.TrimGrowsWithArcs" = some 6 by as_aux_lemma => kernel_rfl).symm.trans hf) |>.symm
   obtain rfl:fn=Tryz.f6:=(Q00 (Tryz.func6.symm.trans hfn)).symm;exact⟨by as_aux_lemma=>kernel_rfl,fun j t ht=>by
    rw[Tryz.params6]at ht;have hm:t ∈ [3,24,3,3,3,3]:=by simpa using Array.mem_of_getElem? ht
    have hall:([3,24,3,3,3,3].all fun u => !Tryz.prog.wantsStandIn u)=true:=by as_aux_lemma=>kernel_rfl
    exact(show Tryz.prog.wantsStandIn t=false by simpa using Qh0.1 hall t hm)⟩)
  (by as_aux_lemma=>kernel_rfl)
#print axioms grows_holds
end Go.Proofs.YtkekcmgkpdkieaaGreatDoor
