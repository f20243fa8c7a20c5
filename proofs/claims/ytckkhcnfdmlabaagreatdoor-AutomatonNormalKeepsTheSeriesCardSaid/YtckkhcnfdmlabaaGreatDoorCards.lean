/-
  DERIVED. GIVEN WITH THE SEED: THE CARDS: each row of YtckkhcnfdmlabaaGreatDoorRows.lean that lists a variable, with what it lists TIED to the program's text (the seventh form; the later family's looks); each row that meets fmt, with fmt's text TOLD by the authors' own Lean function (tested against real Go, not proved from fmt's source: count such statements apart). THE CARD IS WHAT COUNTS. Prove the row's statement (the work); the ties are given (YtckkhcnfdmlabaaGreatDoorTie.lean); close each card by the builder's one call (the guide's Derived/Test/ToyasCard.lean, 'card_holds'). Laid BY PROGRAM, IN A SANDBOX (cutbox-door.mjs). By AI agents, Wed Nov 11 2026. No macro, syntax, notation, axiom, sorry.
-/
import Derived.Test.YtckkhcnfdmlabaaGreatDoorRows
import GoSem.ClaimSeven
namespace Go.Proofs.YtckkhcnfdmlabaaGreatDoor
namespace Rows

/-- THE TIED CARD OF 'weightedlaw06.AutomatonOfALetter'. -/
def automatonOfALetterCard : Claim7 := { stood := { row := automatonOfALetterRow, standIns := [], harness := (true, "7b794ae52fe4ec5de85cb4bea553b318f4536a9367e985ad50e0ca9979955475"), looks := true }, kinds := [], alts := [], laidByText := true, laidKinds := [.data, .data, .data, .data, .sentinel, .sentinel, .pinned], laidTests := true, laidLooks := .later }
def AutomatonOfALetterCardSaid : Prop := Claim7.holds Tryz.pinned (.plain (OpenSpec.ofChange automatonOfALetterSpec)) automatonOfALetterCard

/-- THE TIED CARD OF 'weightedlaw06.AutomatonLetterWeighs'. -/
def automatonLetterWeighsCard : Claim7 := { stood := { row := automatonLetterWeighsRow, standIns := [], harness := (true, "7b794ae52fe4ec5de85cb4bea553b318f4536a9367e985ad50e0ca9979955475"), looks := true }, kinds := [], alts := [], laidByText := true, laidKinds := [.data, .data, .data, .data, .sentinel, .sentinel, .pinned], laidTests := true, laidLooks := .later }
def AutomatonLetterWeighsCardSaid : Prop := Claim7.holds Tryz.pinned (.plain (OpenSpec.ofChange automatonLetterWeighsSpec)) automatonLetterWeighsCard

/-- THE TIED CARD OF 'weightedlaw06.AutomatonHasAForm'. -/
def automatonHasAFormCard : Claim7 := { stood := { row := automatonHasAFormRow, standIns := [], harness := (true, "7b794ae52fe4ec5de85cb4bea553b318f4536a9367e985ad50e0ca9979955475"), looks := true }, kinds := [], alts := [], laidByText := true, laidKinds := [.data, .data, .data, .data, .sentinel, .sentinel, .pinned], laidTests := true, laidLooks := .later }
def AutomatonHasAFormCardSaid : Prop := Claim7.holds Tryz.pinned (.plain (OpenSpec.ofChange automatonHasAFormSpec)) automatonHasAFormCard

/-- THE TIED CARD OF 'weightedlaw06.AutomatonNormalKeepsTheSeries'. -/
def automatonNormalKeepsTheSeriesCard : Claim7 := { stood := { row := automatonNormalKeepsTheSeriesRow, standIns := [], harness := (true, "7b794ae52fe4ec5de85cb4bea553b318f4536a9367e985ad50e0ca9979955475"), looks := true }, kinds := [], alts := [], laidByText := true, laidKinds := [.data, .data, .data, .data, .sentinel, .sentinel, .pinned], laidTests := true, laidLooks := .later }
def AutomatonNormalKeepsTheSeriesCardSaid : Prop := Claim7.holds Tryz.pinned (.plain (OpenSpec.ofChange automatonNormalKeepsTheSeriesSpec)) automatonNormalKeepsTheSeriesCard

/-- THE TIED CARD OF 'weightedlaw06.AutomatonRenumbers'. -/
def automatonRenumbersCard : Claim7 := { stood := { row := automatonRenumbersRow, standIns := [], harness := (true, "7b794ae52fe4ec5de85cb4bea553b318f4536a9367e985ad50e0ca9979955475"), looks := true }, kinds := [], alts := [], laidByText := true, laidKinds := [.data, .data, .data, .data, .sentinel, .sentinel, .pinned], laidTests := true, laidLooks := .later }
def AutomatonRenumbersCardSaid : Prop := Claim7.holds Tryz.pinned (.plain (OpenSpec.ofChange automatonRenumbersSpec)) automatonRenumbersCard

/-- THE TIED CARD OF 'weightedlaw06.AutomatonRenumbersBack'. -/
def automatonRenumbersBackCard : Claim7 := { stood := { row := automatonRenumbersBackRow, standIns := [], harness := (true, "7b794ae52fe4ec5de85cb4bea553b318f4536a9367e985ad50e0ca9979955475"), looks := true }, kinds := [], alts := [], laidByText := true, laidKinds := [.data, .data, .data, .data, .sentinel, .sentinel, .pinned], laidTests := true, laidLooks := .later }
def AutomatonRenumbersBackCardSaid : Prop := Claim7.holds Tryz.pinned (.plain (OpenSpec.ofChange automatonRenumbersBackSpec)) automatonRenumbersBackCard

/-- THE SECOND FORM's CARD OF 'weightedlaw06.AutomatonOfALetter'. -/
def automatonOfALetterUptoCard : Claim7 := { stood := { row := automatonOfALetterUptoRow, standIns := [], harness := (true, "7b794ae52fe4ec5de85cb4bea553b318f4536a9367e985ad50e0ca9979955475"), looks := true }, kinds := [], alts := [], laidByText := true, laidKinds := [.data, .data, .data, .data, .sentinel, .sentinel, .pinned], laidTests := true, laidLooks := .later }
def AutomatonOfALetterUptoCardSaid : Prop := Claim7.holds Tryz.pinned (.plain (OpenSpec.upto automatonOfALetterSpec)) automatonOfALetterUptoCard

/-- THE SECOND FORM's CARD OF 'weightedlaw06.AutomatonLetterWeighs'. -/
def automatonLetterWeighsUptoCard : Claim7 := { stood := { row := automatonLetterWeighsUptoRow, standIns := [], harness := (true, "7b794ae52fe4ec5de85cb4bea553b318f4536a9367e985ad50e0ca9979955475"), looks := true }, kinds := [], alts := [], laidByText := true, laidKinds := [.data, .data, .data, .data, .sentinel, .sentinel, .pinned], laidTests := true, laidLooks := .later }
def AutomatonLetterWeighsUptoCardSaid : Prop := Claim7.holds Tryz.pinned (.plain (OpenSpec.upto automatonLetterWeighsSpec)) automatonLetterWeighsUptoCard

/-- THE SECOND FORM's CARD OF 'weightedlaw06.AutomatonHasAForm'. -/
def automatonHasAFormUptoCard : Claim7 := { stood := { row := automatonHasAFormUptoRow, standIns := [], harness := (true, "7b794ae52fe4ec5de85cb4bea553b318f4536a9367e985ad50e0ca9979955475"), looks := true }, kinds := [], alts := [], laidByText := true, laidKinds := [.data, .data, .data, .data, .sentinel, .sentinel, .pinned], laidTests := true, laidLooks := .later }
def AutomatonHasAFormUptoCardSaid : Prop := Claim7.holds Tryz.pinned (.plain (OpenSpec.upto automatonHasAFormSpec)) automatonHasAFormUptoCard

/-- THE SECOND FORM's CARD OF 'weightedlaw06.AutomatonNormalKeepsTheSeries'. -/
def automatonNormalKeepsTheSeriesUptoCard : Claim7 := { stood := { row := automatonNormalKeepsTheSeriesUptoRow, standIns := [], harness := (true, "7b794ae52fe4ec5de85cb4bea553b318f4536a9367e985ad50e0ca9979955475"), looks := true }, kinds := [], alts := [], laidByText := true, laidKinds := [.data, .data, .data, .data, .sentinel, .sentinel, .pinned], laidTests := true, laidLooks := .later }
def AutomatonNormalKeepsTheSeriesUptoCardSaid : Prop := Claim7.holds Tryz.pinned (.plain (OpenSpec.upto automatonNormalKeepsTheSeriesSpec)) automatonNormalKeepsTheSeriesUptoCard

/-- THE SECOND FORM's CARD OF 'weightedlaw06.AutomatonRenumbers'. -/
def automatonRenumbersUptoCard : Claim7 := { stood := { row := automatonRenumbersUptoRow, standIns := [], harness := (true, "7b794ae52fe4ec5de85cb4bea553b318f4536a9367e985ad50e0ca9979955475"), looks := true }, kinds := [], alts := [], laidByText := true, laidKinds := [.data, .data, .data, .data, .sentinel, .sentinel, .pinned], laidTests := true, laidLooks := .later }
def AutomatonRenumbersUptoCardSaid : Prop := Claim7.holds Tryz.pinned (.plain (OpenSpec.upto automatonRenumbersSpec)) automatonRenumbersUptoCard

/-- THE SECOND FORM's CARD OF 'weightedlaw06.AutomatonRenumbersBack'. -/
def automatonRenumbersBackUptoCard : Claim7 := { stood := { row := automatonRenumbersBackUptoRow, standIns := [], harness := (true, "7b794ae52fe4ec5de85cb4bea553b318f4536a9367e985ad50e0ca9979955475"), looks := true }, kinds := [], alts := [], laidByText := true, laidKinds := [.data, .data, .data, .data, .sentinel, .sentinel, .pinned], laidTests := true, laidLooks := .later }
def AutomatonRenumbersBackUptoCardSaid : Prop := Claim7.holds Tryz.pinned (.plain (OpenSpec.upto automatonRenumbersBackSpec)) automatonRenumbersBackUptoCard
end Rows
end Go.Proofs.YtckkhcnfdmlabaaGreatDoor
