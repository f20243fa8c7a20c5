/- For every input, Trim of a made automaton gives words the weights that the automaton gives them, and is its own Trim, with all states useful: the Go function TrimKeepsTheSeries returns true; its tied card. No condition beyond the card's own. -/
import Derived.Test.YtkekcmgkpdkieaaGreatDoorSCard24a
import Derived.Test.YtkekcmgkpdkieaaGreatDoorSCard24c
set_option linter.unusedVariables false
set_option linter.unusedSimpArgs false
namespace Go.Proofs.YtkekcmgkpdkieaaGreatDoor
open Go.ChangeShapes Go.WideShapes Go.ChangeAt Go.RowKit
set_option maxRecDepth 1000000
set_option maxHeartbeats 40000000
theorem ajs:Rows.TrimKeepsTheSeriesSaid :=
 OpenClaim.holds_of_wide 5 Tryz.f5 rfl rfl rfl rfl rfl rfl rfl ⟨rfl,rfl,rfl,rfl,rfl⟩ rfl rfl rfl rfl rfl (by as_aux_lemma=>kernel_rfl) Tryz.func5 Y0
  (of_decide_eq_true (by as_aux_lemma=>kernel_rfl)) (by unfold Func.isWrapper;first|(rw[if_pos (by decide +kernel)];kernel_rfl)|(rw[if_neg (by decide +kernel)];exact⟨rfl,rfl⟩))
  (fun os started H enc _=>acD os started H enc)
theorem trim_holds:Rows.TrimKeepsTheSeriesCardSaid :=
 Claim7.holds_tied_plain_at .later [] [.data, .data, .data, .data, .sentinel, .sentinel, .pinned] true (true, "af58d71e6caa90d56f86788d75e30e46753ea21cc7e8a2ec22f21ee56135186f") true ajs (fun _ h => by cases h) (by as_aux_lemma => kernel_rfl) (fun _ h => by cases h) trimKeepsTheSeries_row_tie rfl ⟨rfl, rfl⟩ (by as_aux_lemma => kernel_rfl) rfl
  (fun f fn hf hfn=>by
   obtain rfl : f = 5 := Q10 ((show Tryz.prog.funcNamed "weighted/weightedlaw09.TrimKeepsTheSeries" = some 5 by as_aux_lemma => kernel_rfl).symm.trans hf) |>.symm
   obtain rfl:fn=Tryz.f5:=(Q10 (Tryz.func5.symm.trans hfn)).symm;exact⟨by as_aux_lemma=>kernel_rfl,fun j t ht=>by
    rw[Tryz.params5]at ht;have hm:t ∈ [3,24,22]:=by simpa using Array.mem_of_getElem? ht
    have hall:([3,24,22].all fun u => !Tryz.prog.wantsStandIn u)=true:=by as_aux_lemma=>kernel_rfl
    exact(show Tryz.prog.wantsStandIn t=false by simpa using Qh0.1 hall t hm)⟩)
  (by as_aux_lemma=>kernel_rfl)
#print axioms trim_holds
end Go.Proofs.YtkekcmgkpdkieaaGreatDoor
