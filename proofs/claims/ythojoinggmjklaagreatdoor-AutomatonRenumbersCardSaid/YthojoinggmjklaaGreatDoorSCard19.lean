/- For every input, Renumber returns the specified automaton and error, for at most 6 states and 16 arcs: the Go function AutomatonRenumbers returns true; its tied card. No condition beyond the card's own. -/
import Derived.Test.YthojoinggmjklaaGreatDoorSCard19a
import Derived.Test.YthojoinggmjklaaGreatDoorSCard19c
set_option linter.unusedVariables false
set_option linter.unusedSimpArgs false
namespace Go.Proofs.YthojoinggmjklaaGreatDoor
open Go.ChangeShapes Go.WideShapes Go.ChangeAt Go.RowKit
set_option maxRecDepth 1000000
set_option maxHeartbeats 40000000
theorem adw:Rows.AutomatonRenumbersSaid :=
 OpenClaim.holds_of_wide 3 Tryz.f3 rfl rfl rfl rfl rfl rfl rfl ⟨rfl,rfl,rfl,rfl,rfl⟩ rfl rfl rfl rfl rfl (by as_aux_lemma=>kernel_rfl) Tryz.func3 SN
  (of_decide_eq_true (by as_aux_lemma=>kernel_rfl)) (by unfold Func.isWrapper;first|(rw[if_pos (by decide +kernel)];kernel_rfl)|(rw[if_neg (by decide +kernel)];exact⟨rfl,rfl⟩))
  (fun os started H enc _=>WC os started H enc)
theorem renumbers_hold:Rows.AutomatonRenumbersCardSaid :=
 Claim7.holds_tied_plain_at .later [] [.data, .data, .data, .data, .sentinel, .sentinel, .pinned] true (true, "f07bf4c8271cb5099e8ca9a94996d791a15dab6a655255bfba6cd72da3714ca7") true adw (fun _ h => by cases h) (by as_aux_lemma => kernel_rfl) (fun _ h => by cases h) automatonRenumbers_row_tie rfl ⟨rfl, rfl⟩ (by as_aux_lemma => kernel_rfl) rfl
  (fun f fn hf hfn=>by
   obtain rfl : f = 3 := Option.some.inj ((show Tryz.prog.funcNamed "weighted/weightedlaw06.AutomatonRenumbers" = some 3 by as_aux_lemma => kernel_rfl).symm.trans hf) |>.symm
   obtain rfl:fn=Tryz.f3:=(Option.some.inj (Tryz.func3.symm.trans hfn)).symm;exact⟨by as_aux_lemma=>kernel_rfl,fun j t ht=>by
    rw[Tryz.params3]at ht;have hm:t ∈ [28,22]:=by simpa using Array.mem_of_getElem? ht
    have hall:([28,22].all fun u => !Tryz.prog.wantsStandIn u)=true:=by as_aux_lemma=>kernel_rfl
    exact(show Tryz.prog.wantsStandIn t=false by simpa using List.all_eq_true.1 hall t hm)⟩)
  (by as_aux_lemma=>kernel_rfl)
#print axioms renumbers_hold
end Go.Proofs.YthojoinggmjklaaGreatDoor
