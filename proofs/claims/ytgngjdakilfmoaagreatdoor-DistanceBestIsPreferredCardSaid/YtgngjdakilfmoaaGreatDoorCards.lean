/-
  DERIVED. GIVEN WITH THE SEED: THE CARDS: each row of YtgngjdakilfmoaaGreatDoorRows.lean that lists a variable, with what it lists TIED to the program's text (the seventh form; the later family's looks); each row that meets fmt, with fmt's text TOLD by the authors' own Lean function (tested against real Go, not proved from fmt's source: count such statements apart). THE CARD IS WHAT COUNTS. Prove the row's statement (the work); the ties are given (YtgngjdakilfmoaaGreatDoorTie.lean); close each card by the builder's one call (the guide's Derived/Test/ToyasCard.lean, 'card_holds'). Laid BY PROGRAM, IN A SANDBOX (cutbox-door.mjs). By AI agents, Wed Nov 11 2026. No macro, syntax, notation, axiom, sorry.
-/
import Derived.Test.YtgngjdakilfmoaaGreatDoorRows
import GoSem.ClaimSeven
namespace Go.Proofs.YtgngjdakilfmoaaGreatDoor
namespace Rows

/-- THE TIED CARD OF 'weightedlaw21.DistanceBestIsPreferred'. -/
def distanceBestIsPreferredCard : Claim7 := { stood := { row := distanceBestIsPreferredRow, standIns := [], harness := (true, "f9d5d44da95c7ccb7fd209bdd6c2a6c6560d50611c4efeeddb80d84caeee3102"), looks := true }, kinds := [], alts := [], laidByText := true, laidKinds := [.data, .data, .data, .data, .sentinel, .sentinel, .pinned], laidTests := true, laidLooks := .later }
def DistanceBestIsPreferredCardSaid : Prop := Claim7.holds Tryz.pinned (.plain (OpenSpec.ofChange distanceBestIsPreferredSpec)) distanceBestIsPreferredCard

/-- THE TIED CARD OF 'weightedlaw21.DistanceFindsInMadeModels'. -/
def distanceFindsInMadeModelsCard : Claim7 := { stood := { row := distanceFindsInMadeModelsRow, standIns := [], harness := (true, "f9d5d44da95c7ccb7fd209bdd6c2a6c6560d50611c4efeeddb80d84caeee3102"), looks := true }, kinds := [], alts := [], laidByText := true, laidKinds := [.data, .data, .data, .data, .sentinel, .sentinel, .pinned], laidTests := true, laidLooks := .later }
def DistanceFindsInMadeModelsCardSaid : Prop := Claim7.holds Tryz.pinned (.plain (OpenSpec.ofChange distanceFindsInMadeModelsSpec)) distanceFindsInMadeModelsCard

/-- THE TIED CARD OF 'weightedlaw21.DistanceFinds'. -/
def distanceFindsCard : Claim7 := { stood := { row := distanceFindsRow, standIns := [], harness := (true, "f9d5d44da95c7ccb7fd209bdd6c2a6c6560d50611c4efeeddb80d84caeee3102"), looks := true }, kinds := [], alts := [], laidByText := true, laidKinds := [.data, .data, .data, .data, .sentinel, .sentinel, .pinned], laidTests := true, laidLooks := .later }
def DistanceFindsCardSaid : Prop := Claim7.holds Tryz.pinned (.plain (OpenSpec.ofChange distanceFindsSpec)) distanceFindsCard

/-- THE TIED CARD OF 'weightedlaw21.DistanceBestIsAPath'. -/
def distanceBestIsAPathCard : Claim7 := { stood := { row := distanceBestIsAPathRow, standIns := [], harness := (true, "f9d5d44da95c7ccb7fd209bdd6c2a6c6560d50611c4efeeddb80d84caeee3102"), looks := true }, kinds := [], alts := [], laidByText := true, laidKinds := [.data, .data, .data, .data, .sentinel, .sentinel, .pinned], laidTests := true, laidLooks := .later }
def DistanceBestIsAPathCardSaid : Prop := Claim7.holds Tryz.pinned (.plain (OpenSpec.ofChange distanceBestIsAPathSpec)) distanceBestIsAPathCard

/-- THE TIED CARD OF 'weightedlaw21.DistanceIsConsistent'. -/
def distanceIsConsistentCard : Claim7 := { stood := { row := distanceIsConsistentRow, standIns := [], harness := (true, "f9d5d44da95c7ccb7fd209bdd6c2a6c6560d50611c4efeeddb80d84caeee3102"), looks := true }, kinds := [], alts := [], laidByText := true, laidKinds := [.data, .data, .data, .data, .sentinel, .sentinel, .pinned], laidTests := true, laidLooks := .later }
def DistanceIsConsistentCardSaid : Prop := Claim7.holds Tryz.pinned (.plain (OpenSpec.ofChange distanceIsConsistentSpec)) distanceIsConsistentCard

/-- THE SECOND FORM's CARD OF 'weightedlaw21.DistanceBestIsPreferred'. -/
def distanceBestIsPreferredUptoCard : Claim7 := { stood := { row := distanceBestIsPreferredUptoRow, standIns := [], harness := (true, "f9d5d44da95c7ccb7fd209bdd6c2a6c6560d50611c4efeeddb80d84caeee3102"), looks := true }, kinds := [], alts := [], laidByText := true, laidKinds := [.data, .data, .data, .data, .sentinel, .sentinel, .pinned], laidTests := true, laidLooks := .later }
def DistanceBestIsPreferredUptoCardSaid : Prop := Claim7.holds Tryz.pinned (.plain (OpenSpec.upto distanceBestIsPreferredSpec)) distanceBestIsPreferredUptoCard

/-- THE SECOND FORM's CARD OF 'weightedlaw21.DistanceFindsInMadeModels'. -/
def distanceFindsInMadeModelsUptoCard : Claim7 := { stood := { row := distanceFindsInMadeModelsUptoRow, standIns := [], harness := (true, "f9d5d44da95c7ccb7fd209bdd6c2a6c6560d50611c4efeeddb80d84caeee3102"), looks := true }, kinds := [], alts := [], laidByText := true, laidKinds := [.data, .data, .data, .data, .sentinel, .sentinel, .pinned], laidTests := true, laidLooks := .later }
def DistanceFindsInMadeModelsUptoCardSaid : Prop := Claim7.holds Tryz.pinned (.plain (OpenSpec.upto distanceFindsInMadeModelsSpec)) distanceFindsInMadeModelsUptoCard

/-- THE SECOND FORM's CARD OF 'weightedlaw21.DistanceFinds'. -/
def distanceFindsUptoCard : Claim7 := { stood := { row := distanceFindsUptoRow, standIns := [], harness := (true, "f9d5d44da95c7ccb7fd209bdd6c2a6c6560d50611c4efeeddb80d84caeee3102"), looks := true }, kinds := [], alts := [], laidByText := true, laidKinds := [.data, .data, .data, .data, .sentinel, .sentinel, .pinned], laidTests := true, laidLooks := .later }
def DistanceFindsUptoCardSaid : Prop := Claim7.holds Tryz.pinned (.plain (OpenSpec.upto distanceFindsSpec)) distanceFindsUptoCard

/-- THE SECOND FORM's CARD OF 'weightedlaw21.DistanceBestIsAPath'. -/
def distanceBestIsAPathUptoCard : Claim7 := { stood := { row := distanceBestIsAPathUptoRow, standIns := [], harness := (true, "f9d5d44da95c7ccb7fd209bdd6c2a6c6560d50611c4efeeddb80d84caeee3102"), looks := true }, kinds := [], alts := [], laidByText := true, laidKinds := [.data, .data, .data, .data, .sentinel, .sentinel, .pinned], laidTests := true, laidLooks := .later }
def DistanceBestIsAPathUptoCardSaid : Prop := Claim7.holds Tryz.pinned (.plain (OpenSpec.upto distanceBestIsAPathSpec)) distanceBestIsAPathUptoCard

/-- THE SECOND FORM's CARD OF 'weightedlaw21.DistanceIsConsistent'. -/
def distanceIsConsistentUptoCard : Claim7 := { stood := { row := distanceIsConsistentUptoRow, standIns := [], harness := (true, "f9d5d44da95c7ccb7fd209bdd6c2a6c6560d50611c4efeeddb80d84caeee3102"), looks := true }, kinds := [], alts := [], laidByText := true, laidKinds := [.data, .data, .data, .data, .sentinel, .sentinel, .pinned], laidTests := true, laidLooks := .later }
def DistanceIsConsistentUptoCardSaid : Prop := Claim7.holds Tryz.pinned (.plain (OpenSpec.upto distanceIsConsistentSpec)) distanceIsConsistentUptoCard
end Rows
end Go.Proofs.YtgngjdakilfmoaaGreatDoor
