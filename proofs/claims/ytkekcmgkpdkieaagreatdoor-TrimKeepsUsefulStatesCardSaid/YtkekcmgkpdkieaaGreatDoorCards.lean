/-
  DERIVED. GIVEN WITH THE SEED: THE CARDS: each row of YtkekcmgkpdkieaaGreatDoorRows.lean that lists a variable, with what it lists TIED to the program's text (the seventh form; the later family's looks); each row that meets fmt, with fmt's text TOLD by the authors' own Lean function (tested against real Go, not proved from fmt's source: count such statements apart). THE CARD IS WHAT COUNTS. Prove the row's statement (the work); the ties are given (YtkekcmgkpdkieaaGreatDoorTie.lean); close each card by the builder's one call (the guide's Derived/Test/ToyasCard.lean, 'card_holds'). Laid BY PROGRAM, IN A SANDBOX (cutbox-door.mjs). By AI agents, Wed Nov 11 2026. No macro, syntax, notation, axiom, sorry.
-/
import Derived.Test.YtkekcmgkpdkieaaGreatDoorRows
import GoSem.ClaimSeven
namespace Go.Proofs.YtkekcmgkpdkieaaGreatDoor
namespace Rows

/-- THE TIED CARD OF 'weightedlaw06.AutomatonRenumbersBack'. -/
def automatonRenumbersBackCard : Claim7 := { stood := { row := automatonRenumbersBackRow, standIns := [], harness := (true, "af58d71e6caa90d56f86788d75e30e46753ea21cc7e8a2ec22f21ee56135186f"), looks := true }, kinds := [], alts := [], laidByText := true, laidKinds := [.data, .data, .data, .data, .sentinel, .sentinel, .pinned], laidTests := true, laidLooks := .later }
def AutomatonRenumbersBackCardSaid : Prop := Claim7.holds Tryz.pinned (.plain (OpenSpec.ofChange automatonRenumbersBackSpec)) automatonRenumbersBackCard

/-- THE TIED CARD OF 'weightedlaw09.TrimKeepsUsefulStates'. -/
def trimKeepsUsefulStatesCard : Claim7 := { stood := { row := trimKeepsUsefulStatesRow, standIns := [], harness := (true, "af58d71e6caa90d56f86788d75e30e46753ea21cc7e8a2ec22f21ee56135186f"), looks := true }, kinds := [], alts := [], laidByText := true, laidKinds := [.data, .data, .data, .data, .sentinel, .sentinel, .pinned], laidTests := true, laidLooks := .later }
def TrimKeepsUsefulStatesCardSaid : Prop := Claim7.holds Tryz.pinned (.plain (OpenSpec.ofChange trimKeepsUsefulStatesSpec)) trimKeepsUsefulStatesCard

/-- THE TIED CARD OF 'weightedlaw09.TrimKeepsTheSeries'. -/
def trimKeepsTheSeriesCard : Claim7 := { stood := { row := trimKeepsTheSeriesRow, standIns := [], harness := (true, "af58d71e6caa90d56f86788d75e30e46753ea21cc7e8a2ec22f21ee56135186f"), looks := true }, kinds := [], alts := [], laidByText := true, laidKinds := [.data, .data, .data, .data, .sentinel, .sentinel, .pinned], laidTests := true, laidLooks := .later }
def TrimKeepsTheSeriesCardSaid : Prop := Claim7.holds Tryz.pinned (.plain (OpenSpec.ofChange trimKeepsTheSeriesSpec)) trimKeepsTheSeriesCard

/-- THE TIED CARD OF 'weightedlaw09.TrimGrowsWithArcs'. -/
def trimGrowsWithArcsCard : Claim7 := { stood := { row := trimGrowsWithArcsRow, standIns := [], harness := (true, "af58d71e6caa90d56f86788d75e30e46753ea21cc7e8a2ec22f21ee56135186f"), looks := true }, kinds := [], alts := [], laidByText := true, laidKinds := [.data, .data, .data, .data, .sentinel, .sentinel, .pinned], laidTests := true, laidLooks := .later }
def TrimGrowsWithArcsCardSaid : Prop := Claim7.holds Tryz.pinned (.plain (OpenSpec.ofChange trimGrowsWithArcsSpec)) trimGrowsWithArcsCard

/-- THE SECOND FORM's CARD OF 'weightedlaw06.AutomatonRenumbersBack'. -/
def automatonRenumbersBackUptoCard : Claim7 := { stood := { row := automatonRenumbersBackUptoRow, standIns := [], harness := (true, "af58d71e6caa90d56f86788d75e30e46753ea21cc7e8a2ec22f21ee56135186f"), looks := true }, kinds := [], alts := [], laidByText := true, laidKinds := [.data, .data, .data, .data, .sentinel, .sentinel, .pinned], laidTests := true, laidLooks := .later }
def AutomatonRenumbersBackUptoCardSaid : Prop := Claim7.holds Tryz.pinned (.plain (OpenSpec.upto automatonRenumbersBackSpec)) automatonRenumbersBackUptoCard

/-- THE SECOND FORM's CARD OF 'weightedlaw09.TrimKeepsUsefulStates'. -/
def trimKeepsUsefulStatesUptoCard : Claim7 := { stood := { row := trimKeepsUsefulStatesUptoRow, standIns := [], harness := (true, "af58d71e6caa90d56f86788d75e30e46753ea21cc7e8a2ec22f21ee56135186f"), looks := true }, kinds := [], alts := [], laidByText := true, laidKinds := [.data, .data, .data, .data, .sentinel, .sentinel, .pinned], laidTests := true, laidLooks := .later }
def TrimKeepsUsefulStatesUptoCardSaid : Prop := Claim7.holds Tryz.pinned (.plain (OpenSpec.upto trimKeepsUsefulStatesSpec)) trimKeepsUsefulStatesUptoCard

/-- THE SECOND FORM's CARD OF 'weightedlaw09.TrimKeepsTheSeries'. -/
def trimKeepsTheSeriesUptoCard : Claim7 := { stood := { row := trimKeepsTheSeriesUptoRow, standIns := [], harness := (true, "af58d71e6caa90d56f86788d75e30e46753ea21cc7e8a2ec22f21ee56135186f"), looks := true }, kinds := [], alts := [], laidByText := true, laidKinds := [.data, .data, .data, .data, .sentinel, .sentinel, .pinned], laidTests := true, laidLooks := .later }
def TrimKeepsTheSeriesUptoCardSaid : Prop := Claim7.holds Tryz.pinned (.plain (OpenSpec.upto trimKeepsTheSeriesSpec)) trimKeepsTheSeriesUptoCard

/-- THE SECOND FORM's CARD OF 'weightedlaw09.TrimGrowsWithArcs'. -/
def trimGrowsWithArcsUptoCard : Claim7 := { stood := { row := trimGrowsWithArcsUptoRow, standIns := [], harness := (true, "af58d71e6caa90d56f86788d75e30e46753ea21cc7e8a2ec22f21ee56135186f"), looks := true }, kinds := [], alts := [], laidByText := true, laidKinds := [.data, .data, .data, .data, .sentinel, .sentinel, .pinned], laidTests := true, laidLooks := .later }
def TrimGrowsWithArcsUptoCardSaid : Prop := Claim7.holds Tryz.pinned (.plain (OpenSpec.upto trimGrowsWithArcsSpec)) trimGrowsWithArcsUptoCard
end Rows
end Go.Proofs.YtkekcmgkpdkieaaGreatDoor
