/- For every input, Useful and Trim return the specified results, for automata of at most 6 states and 16 arcs: the Go function TrimKeepsUsefulStates returns true; its tied card. No condition beyond the card's own. -/
import Derived.Test.YtkekcmgkpdkieaaGreatDoorSCard23a
import Derived.Test.YtkekcmgkpdkieaaGreatDoorSCard23c
set_option linter.unusedVariables false
set_option linter.unusedSimpArgs false
namespace Go.Proofs.YtkekcmgkpdkieaaGreatDoor
open Go.ChangeShapes Go.WideShapes Go.ChangeAt Go.RowKit
set_option maxRecDepth 1000000
set_option maxHeartbeats 40000000
theorem agj:Rows.TrimKeepsUsefulStatesSaid :=
 OpenClaim.holds_of_wide 4 Tryz.f4 rfl rfl rfl rfl rfl rfl rfl ⟨rfl,rfl,rfl,rfl,rfl⟩ rfl rfl rfl rfl rfl (by as_aux_lemma=>kernel_rfl) Tryz.func4 VE
  (of_decide_eq_true (by as_aux_lemma=>kernel_rfl)) (by unfold Func.isWrapper;first|(rw[if_pos (by decide +kernel)];kernel_rfl)|(rw[if_neg (by decide +kernel)];exact⟨rfl,rfl⟩))
  (fun os started H enc _=>Zw os started H enc)
theorem useful_holds:Rows.TrimKeepsUsefulStatesCardSaid :=
 Claim7.holds_tied_plain_at .later [] [.data, .data, .data, .data, .sentinel, .sentinel, .pinned] true (true, "af58d71e6caa90d56f86788d75e30e46753ea21cc7e8a2ec22f21ee56135186f") true agj (fun _ h => by cases h) (by as_aux_lemma => kernel_rfl) (fun _ h => by cases h) trimKeepsUsefulStates_row_tie rfl ⟨rfl, rfl⟩ (by as_aux_lemma => kernel_rfl) rfl
  (fun f fn hf hfn=>by
   obtain rfl : f = 4 := Qz2 ((show Tryz.prog.funcNamed "weighted/weightedlaw09.TrimKeepsUsefulStates" = some 4 by as_aux_lemma => kernel_rfl).symm.trans hf) |>.symm
   obtain rfl:fn=Tryz.f4:=(Qz2 (Tryz.func4.symm.trans hfn)).symm;exact⟨by as_aux_lemma=>kernel_rfl,fun j t ht=>by
    rw[Tryz.params4]at ht;have hm:t ∈ [31]:=by simpa using Array.mem_of_getElem? ht
    have hall:([31].all fun u => !Tryz.prog.wantsStandIn u)=true:=by as_aux_lemma=>kernel_rfl
    exact(show Tryz.prog.wantsStandIn t=false by simpa using Qf0.1 hall t hm)⟩)
  (by as_aux_lemma=>kernel_rfl)
#print axioms useful_holds
end Go.Proofs.YtkekcmgkpdkieaaGreatDoor
