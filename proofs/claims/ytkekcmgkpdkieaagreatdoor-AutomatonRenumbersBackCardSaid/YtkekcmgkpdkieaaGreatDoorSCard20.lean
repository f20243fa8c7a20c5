/- For every input, a made automaton renumbered and renumbered back by the inverse is its normal form, and words keep their weights: the Go function AutomatonRenumbersBack returns true; its tied card. No condition beyond the card's own. -/
import Derived.Test.YtkekcmgkpdkieaaGreatDoorSCard20a
import Derived.Test.YtkekcmgkpdkieaaGreatDoorSCard20c
set_option linter.unusedVariables false
set_option linter.unusedSimpArgs false
namespace Go.Proofs.YtkekcmgkpdkieaaGreatDoor
open Go.ChangeShapes Go.WideShapes Go.ChangeAt Go.RowKit
set_option maxRecDepth 1000000
set_option maxHeartbeats 40000000
theorem ag7:Rows.AutomatonRenumbersBackSaid :=
 OpenClaim.holds_of_wide 3 Tryz.f3 rfl rfl rfl rfl rfl rfl rfl ⟨rfl,rfl,rfl,rfl,rfl⟩ rfl rfl rfl rfl rfl (by as_aux_lemma=>kernel_rfl) Tryz.func3 Xg
  (of_decide_eq_true (by as_aux_lemma=>kernel_rfl)) (by unfold Func.isWrapper;first|(rw[if_pos (by decide +kernel)];kernel_rfl)|(rw[if_neg (by decide +kernel)];exact⟨rfl,rfl⟩))
  (fun os started H enc _=>aax os started H enc)
theorem back_holds:Rows.AutomatonRenumbersBackCardSaid :=
 Claim7.holds_tied_plain_at .later [] [.data, .data, .data, .data, .sentinel, .sentinel, .pinned] true (true, "af58d71e6caa90d56f86788d75e30e46753ea21cc7e8a2ec22f21ee56135186f") true ag7 (fun _ h => by cases h) (by as_aux_lemma => kernel_rfl) (fun _ h => by cases h) automatonRenumbersBack_row_tie rfl ⟨rfl, rfl⟩ (by as_aux_lemma => kernel_rfl) rfl
  (fun f fn hf hfn=>by
   obtain rfl : f = 3 := Qo2 ((show Tryz.prog.funcNamed "weighted/weightedlaw06.AutomatonRenumbersBack" = some 3 by as_aux_lemma => kernel_rfl).symm.trans hf) |>.symm
   obtain rfl:fn=Tryz.f3:=(Qo2 (Tryz.func3.symm.trans hfn)).symm;exact⟨by as_aux_lemma=>kernel_rfl,fun j t ht=>by
    rw[Tryz.params3]at ht;have hm:t ∈ [3,24,22,22]:=by simpa using Array.mem_of_getElem? ht
    have hall:([3,24,22,22].all fun u => !Tryz.prog.wantsStandIn u)=true:=by as_aux_lemma=>kernel_rfl
    exact(show Tryz.prog.wantsStandIn t=false by simpa using Qf2.1 hall t hm)⟩)
  (by as_aux_lemma=>kernel_rfl)
#print axioms back_holds
end Go.Proofs.YtkekcmgkpdkieaaGreatDoor
