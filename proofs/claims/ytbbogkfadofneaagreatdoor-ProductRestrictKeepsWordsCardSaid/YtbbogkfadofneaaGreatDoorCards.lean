/-
  DERIVED. GIVEN WITH THE SEED: THE CARDS: each row of YtbbogkfadofneaaGreatDoorRows.lean that lists a variable, with what it lists TIED to the program's text (the seventh form; the later family's looks); each row that meets fmt, with fmt's text TOLD by the authors' own Lean function (tested against real Go, not proved from fmt's source: count such statements apart). THE CARD IS WHAT COUNTS. Prove the row's statement (the work); the ties are given (YtbbogkfadofneaaGreatDoorTie.lean); close each card by the builder's one call (the guide's Derived/Test/ToyasCard.lean, 'card_holds'). Laid BY PROGRAM, IN A SANDBOX (cutbox-door.mjs). By AI agents, Wed Nov 11 2026. No macro, syntax, notation, axiom, sorry.
-/
import Derived.Test.YtbbogkfadofneaaGreatDoorRows
import GoSem.ClaimSeven
namespace Go.Proofs.YtbbogkfadofneaaGreatDoor
namespace Rows

/-- THE TIED CARD OF 'weightedlaw16.ProductRestrictKeepsWords'. -/
def productRestrictKeepsWordsCard : Claim7 := { stood := { row := productRestrictKeepsWordsRow, standIns := [], harness := (true, "e430710ebf876179bfcc284c71d574f3ba6241cfd0769eb747c675b48dba649e"), looks := true }, kinds := [], alts := [], laidByText := true, laidKinds := [.data, .data, .data, .data, .sentinel, .sentinel, .pinned], laidTests := true, laidLooks := .later }
def ProductRestrictKeepsWordsCardSaid : Prop := Claim7.holds Tryz.pinned (.plain (OpenSpec.ofChange productRestrictKeepsWordsSpec)) productRestrictKeepsWordsCard

/-- THE TIED CARD OF 'weightedlaw16.ProductQuotientsWeigh'. -/
def productQuotientsWeighCard : Claim7 := { stood := { row := productQuotientsWeighRow, standIns := [], harness := (true, "e430710ebf876179bfcc284c71d574f3ba6241cfd0769eb747c675b48dba649e"), looks := true }, kinds := [], alts := [], laidByText := true, laidKinds := [.data, .data, .data, .data, .sentinel, .sentinel, .pinned], laidTests := true, laidLooks := .later }
def ProductQuotientsWeighCardSaid : Prop := Claim7.holds Tryz.pinned (.plain (OpenSpec.ofChange productQuotientsWeighSpec)) productQuotientsWeighCard

/-- THE SECOND FORM's CARD OF 'weightedlaw16.ProductRestrictKeepsWords'. -/
def productRestrictKeepsWordsUptoCard : Claim7 := { stood := { row := productRestrictKeepsWordsUptoRow, standIns := [], harness := (true, "e430710ebf876179bfcc284c71d574f3ba6241cfd0769eb747c675b48dba649e"), looks := true }, kinds := [], alts := [], laidByText := true, laidKinds := [.data, .data, .data, .data, .sentinel, .sentinel, .pinned], laidTests := true, laidLooks := .later }
def ProductRestrictKeepsWordsUptoCardSaid : Prop := Claim7.holds Tryz.pinned (.plain (OpenSpec.upto productRestrictKeepsWordsSpec)) productRestrictKeepsWordsUptoCard

/-- THE SECOND FORM's CARD OF 'weightedlaw16.ProductQuotientsWeigh'. -/
def productQuotientsWeighUptoCard : Claim7 := { stood := { row := productQuotientsWeighUptoRow, standIns := [], harness := (true, "e430710ebf876179bfcc284c71d574f3ba6241cfd0769eb747c675b48dba649e"), looks := true }, kinds := [], alts := [], laidByText := true, laidKinds := [.data, .data, .data, .data, .sentinel, .sentinel, .pinned], laidTests := true, laidLooks := .later }
def ProductQuotientsWeighUptoCardSaid : Prop := Claim7.holds Tryz.pinned (.plain (OpenSpec.upto productQuotientsWeighSpec)) productQuotientsWeighUptoCard
end Rows
end Go.Proofs.YtbbogkfadofneaaGreatDoor
