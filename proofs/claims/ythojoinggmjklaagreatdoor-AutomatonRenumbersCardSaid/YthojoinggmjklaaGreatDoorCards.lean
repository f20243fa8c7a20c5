/-
  DERIVED. GIVEN WITH THE SEED: THE CARDS: each row of YthojoinggmjklaaGreatDoorRows.lean that lists a variable, with what it lists TIED to the program's text (the seventh form; the later family's looks); each row that meets fmt, with fmt's text TOLD by the authors' own Lean function (tested against real Go, not proved from fmt's source: count such statements apart). THE CARD IS WHAT COUNTS. Prove the row's statement (the work); the ties are given (YthojoinggmjklaaGreatDoorTie.lean); close each card by the builder's one call (the guide's Derived/Test/ToyasCard.lean, 'card_holds'). Laid BY PROGRAM, IN A SANDBOX (cutbox-door.mjs). By AI agents, Wed Nov 11 2026. No macro, syntax, notation, axiom, sorry.
-/
import Derived.Test.YthojoinggmjklaaGreatDoorRows
import GoSem.ClaimSeven
namespace Go.Proofs.YthojoinggmjklaaGreatDoor
namespace Rows

/-- THE TIED CARD OF 'weightedlaw06.AutomatonRenumbers'. -/
def automatonRenumbersCard : Claim7 := { stood := { row := automatonRenumbersRow, standIns := [], harness := (true, "f07bf4c8271cb5099e8ca9a94996d791a15dab6a655255bfba6cd72da3714ca7"), looks := true }, kinds := [], alts := [], laidByText := true, laidKinds := [.data, .data, .data, .data, .sentinel, .sentinel, .pinned], laidTests := true, laidLooks := .later }
def AutomatonRenumbersCardSaid : Prop := Claim7.holds Tryz.pinned (.plain (OpenSpec.ofChange automatonRenumbersSpec)) automatonRenumbersCard

/-- THE SECOND FORM's CARD OF 'weightedlaw06.AutomatonRenumbers'. -/
def automatonRenumbersUptoCard : Claim7 := { stood := { row := automatonRenumbersUptoRow, standIns := [], harness := (true, "f07bf4c8271cb5099e8ca9a94996d791a15dab6a655255bfba6cd72da3714ca7"), looks := true }, kinds := [], alts := [], laidByText := true, laidKinds := [.data, .data, .data, .data, .sentinel, .sentinel, .pinned], laidTests := true, laidLooks := .later }
def AutomatonRenumbersUptoCardSaid : Prop := Claim7.holds Tryz.pinned (.plain (OpenSpec.upto automatonRenumbersSpec)) automatonRenumbersUptoCard
end Rows
end Go.Proofs.YthojoinggmjklaaGreatDoor
