/-
  DERIVED. GIVEN WITH THE SEED: THE CARDS: each row of YtonmcbnjifeagaaGreatDoorRows.lean that lists a variable, with what it lists TIED to the program's text (the seventh form; the later family's looks); each row that meets fmt, with fmt's text TOLD by the authors' own Lean function (tested against real Go, not proved from fmt's source: count such statements apart). THE CARD IS WHAT COUNTS. Prove the row's statement (the work); the ties are given (YtonmcbnjifeagaaGreatDoorTie.lean); close each card by the builder's one call (the guide's Derived/Test/ToyasCard.lean, 'card_holds'). Laid BY PROGRAM, IN A SANDBOX (cutbox-door.mjs). By AI agents, Wed Nov 11 2026. No macro, syntax, notation, axiom, sorry.
-/
import Derived.Test.YtonmcbnjifeagaaGreatDoorRows
import GoSem.ClaimSeven
namespace Go.Proofs.YtonmcbnjifeagaaGreatDoor
namespace Rows

/-- THE TIED CARD OF 'weightedlaw03.SemiringFollowsLawsForCosts'. -/
def semiringFollowsLawsForCostsCard : Claim7 := { stood := { row := semiringFollowsLawsForCostsRow, standIns := [], harness := (true, "5884b6a6b8b58feebbd40f2f00cb84f5056ce1aaa70d56625b2a9f24e93d1dbf"), looks := true }, kinds := [], alts := [], laidByText := true, laidKinds := [.data, .data, .data, .data, .sentinel, .sentinel, .pinned], laidTests := true, laidLooks := .later }
def SemiringFollowsLawsForCostsCardSaid : Prop := Claim7.holds Tryz.pinned (.plain (OpenSpec.ofChange semiringFollowsLawsForCostsSpec)) semiringFollowsLawsForCostsCard

/-- THE TIED CARD OF 'weightedlaw03.SemiringStarSolves'. -/
def semiringStarSolvesCard : Claim7 := { stood := { row := semiringStarSolvesRow, standIns := [], harness := (true, "5884b6a6b8b58feebbd40f2f00cb84f5056ce1aaa70d56625b2a9f24e93d1dbf"), looks := true }, kinds := [], alts := [], laidByText := true, laidKinds := [.data, .data, .data, .data, .sentinel, .sentinel, .pinned], laidTests := true, laidLooks := .later }
def SemiringStarSolvesCardSaid : Prop := Claim7.holds Tryz.pinned (.plain (OpenSpec.ofChange semiringStarSolvesSpec)) semiringStarSolvesCard

/-- THE TIED CARD OF 'weightedlaw03.SemiringCalculates'. -/
def semiringCalculatesCard : Claim7 := { stood := { row := semiringCalculatesRow, standIns := [], harness := (true, "5884b6a6b8b58feebbd40f2f00cb84f5056ce1aaa70d56625b2a9f24e93d1dbf"), looks := true }, kinds := [], alts := [], laidByText := true, laidKinds := [.data, .data, .data, .data, .sentinel, .sentinel, .pinned], laidTests := true, laidLooks := .later }
def SemiringCalculatesCardSaid : Prop := Claim7.holds Tryz.pinned (.plain (OpenSpec.ofChange semiringCalculatesSpec)) semiringCalculatesCard

/-- THE TIED CARD OF 'weightedlaw03.SemiringPrefersTheSum'. -/
def semiringPrefersTheSumCard : Claim7 := { stood := { row := semiringPrefersTheSumRow, standIns := [], harness := (true, "5884b6a6b8b58feebbd40f2f00cb84f5056ce1aaa70d56625b2a9f24e93d1dbf"), looks := true }, kinds := [], alts := [], laidByText := true, laidKinds := [.data, .data, .data, .data, .sentinel, .sentinel, .pinned], laidTests := true, laidLooks := .later }
def SemiringPrefersTheSumCardSaid : Prop := Claim7.holds Tryz.pinned (.plain (OpenSpec.ofChange semiringPrefersTheSumSpec)) semiringPrefersTheSumCard

/-- THE TIED CARD OF 'weightedlaw03.SemiringFollowsLaws'. -/
def semiringFollowsLawsCard : Claim7 := { stood := { row := semiringFollowsLawsRow, standIns := [], harness := (true, "5884b6a6b8b58feebbd40f2f00cb84f5056ce1aaa70d56625b2a9f24e93d1dbf"), looks := true }, kinds := [], alts := [], laidByText := true, laidKinds := [.data, .data, .data, .data, .sentinel, .sentinel, .pinned], laidTests := true, laidLooks := .later }
def SemiringFollowsLawsCardSaid : Prop := Claim7.holds Tryz.pinned (.plain (OpenSpec.ofChange semiringFollowsLawsSpec)) semiringFollowsLawsCard

/-- THE TIED CARD OF 'weightedlaw03.SemiringTakesStrangersAsZero'. -/
def semiringTakesStrangersAsZeroCard : Claim7 := { stood := { row := semiringTakesStrangersAsZeroRow, standIns := [], harness := (true, "5884b6a6b8b58feebbd40f2f00cb84f5056ce1aaa70d56625b2a9f24e93d1dbf"), looks := true }, kinds := [], alts := [], laidByText := true, laidKinds := [.data, .data, .data, .data, .sentinel, .sentinel, .pinned], laidTests := true, laidLooks := .later }
def SemiringTakesStrangersAsZeroCardSaid : Prop := Claim7.holds Tryz.pinned (.plain (OpenSpec.ofChange semiringTakesStrangersAsZeroSpec)) semiringTakesStrangersAsZeroCard

/-- THE TIED CARD OF 'weightedlaw03.SemiringChecks'. -/
def semiringChecksCard : Claim7 := { stood := { row := semiringChecksRow, standIns := [], harness := (true, "5884b6a6b8b58feebbd40f2f00cb84f5056ce1aaa70d56625b2a9f24e93d1dbf"), looks := true }, kinds := [], alts := [], laidByText := true, laidKinds := [.data, .data, .data, .data, .sentinel, .sentinel, .pinned], laidTests := true, laidLooks := .later }
def SemiringChecksCardSaid : Prop := Claim7.holds Tryz.pinned (.plain (OpenSpec.ofChange semiringChecksSpec)) semiringChecksCard

/-- THE TIED CARD OF 'weightedlaw03.SemiringReadsBack'. -/
def semiringReadsBackCard : Claim7 := { stood := { row := semiringReadsBackRow, standIns := [], harness := (true, "5884b6a6b8b58feebbd40f2f00cb84f5056ce1aaa70d56625b2a9f24e93d1dbf"), looks := true }, kinds := [], alts := [], laidByText := true, laidKinds := [.data, .data, .data, .data, .sentinel, .sentinel, .pinned], laidTests := true, laidLooks := .later }
def SemiringReadsBackCardSaid : Prop := Claim7.holds Tryz.pinned (.plain (OpenSpec.ofChange semiringReadsBackSpec)) semiringReadsBackCard

/-- THE SECOND FORM's CARD OF 'weightedlaw03.SemiringFollowsLawsForCosts'. -/
def semiringFollowsLawsForCostsUptoCard : Claim7 := { stood := { row := semiringFollowsLawsForCostsUptoRow, standIns := [], harness := (true, "5884b6a6b8b58feebbd40f2f00cb84f5056ce1aaa70d56625b2a9f24e93d1dbf"), looks := true }, kinds := [], alts := [], laidByText := true, laidKinds := [.data, .data, .data, .data, .sentinel, .sentinel, .pinned], laidTests := true, laidLooks := .later }
def SemiringFollowsLawsForCostsUptoCardSaid : Prop := Claim7.holds Tryz.pinned (.plain (OpenSpec.upto semiringFollowsLawsForCostsSpec)) semiringFollowsLawsForCostsUptoCard

/-- THE SECOND FORM's CARD OF 'weightedlaw03.SemiringStarSolves'. -/
def semiringStarSolvesUptoCard : Claim7 := { stood := { row := semiringStarSolvesUptoRow, standIns := [], harness := (true, "5884b6a6b8b58feebbd40f2f00cb84f5056ce1aaa70d56625b2a9f24e93d1dbf"), looks := true }, kinds := [], alts := [], laidByText := true, laidKinds := [.data, .data, .data, .data, .sentinel, .sentinel, .pinned], laidTests := true, laidLooks := .later }
def SemiringStarSolvesUptoCardSaid : Prop := Claim7.holds Tryz.pinned (.plain (OpenSpec.upto semiringStarSolvesSpec)) semiringStarSolvesUptoCard

/-- THE SECOND FORM's CARD OF 'weightedlaw03.SemiringCalculates'. -/
def semiringCalculatesUptoCard : Claim7 := { stood := { row := semiringCalculatesUptoRow, standIns := [], harness := (true, "5884b6a6b8b58feebbd40f2f00cb84f5056ce1aaa70d56625b2a9f24e93d1dbf"), looks := true }, kinds := [], alts := [], laidByText := true, laidKinds := [.data, .data, .data, .data, .sentinel, .sentinel, .pinned], laidTests := true, laidLooks := .later }
def SemiringCalculatesUptoCardSaid : Prop := Claim7.holds Tryz.pinned (.plain (OpenSpec.upto semiringCalculatesSpec)) semiringCalculatesUptoCard

/-- THE SECOND FORM's CARD OF 'weightedlaw03.SemiringPrefersTheSum'. -/
def semiringPrefersTheSumUptoCard : Claim7 := { stood := { row := semiringPrefersTheSumUptoRow, standIns := [], harness := (true, "5884b6a6b8b58feebbd40f2f00cb84f5056ce1aaa70d56625b2a9f24e93d1dbf"), looks := true }, kinds := [], alts := [], laidByText := true, laidKinds := [.data, .data, .data, .data, .sentinel, .sentinel, .pinned], laidTests := true, laidLooks := .later }
def SemiringPrefersTheSumUptoCardSaid : Prop := Claim7.holds Tryz.pinned (.plain (OpenSpec.upto semiringPrefersTheSumSpec)) semiringPrefersTheSumUptoCard

/-- THE SECOND FORM's CARD OF 'weightedlaw03.SemiringFollowsLaws'. -/
def semiringFollowsLawsUptoCard : Claim7 := { stood := { row := semiringFollowsLawsUptoRow, standIns := [], harness := (true, "5884b6a6b8b58feebbd40f2f00cb84f5056ce1aaa70d56625b2a9f24e93d1dbf"), looks := true }, kinds := [], alts := [], laidByText := true, laidKinds := [.data, .data, .data, .data, .sentinel, .sentinel, .pinned], laidTests := true, laidLooks := .later }
def SemiringFollowsLawsUptoCardSaid : Prop := Claim7.holds Tryz.pinned (.plain (OpenSpec.upto semiringFollowsLawsSpec)) semiringFollowsLawsUptoCard

/-- THE SECOND FORM's CARD OF 'weightedlaw03.SemiringTakesStrangersAsZero'. -/
def semiringTakesStrangersAsZeroUptoCard : Claim7 := { stood := { row := semiringTakesStrangersAsZeroUptoRow, standIns := [], harness := (true, "5884b6a6b8b58feebbd40f2f00cb84f5056ce1aaa70d56625b2a9f24e93d1dbf"), looks := true }, kinds := [], alts := [], laidByText := true, laidKinds := [.data, .data, .data, .data, .sentinel, .sentinel, .pinned], laidTests := true, laidLooks := .later }
def SemiringTakesStrangersAsZeroUptoCardSaid : Prop := Claim7.holds Tryz.pinned (.plain (OpenSpec.upto semiringTakesStrangersAsZeroSpec)) semiringTakesStrangersAsZeroUptoCard

/-- THE SECOND FORM's CARD OF 'weightedlaw03.SemiringChecks'. -/
def semiringChecksUptoCard : Claim7 := { stood := { row := semiringChecksUptoRow, standIns := [], harness := (true, "5884b6a6b8b58feebbd40f2f00cb84f5056ce1aaa70d56625b2a9f24e93d1dbf"), looks := true }, kinds := [], alts := [], laidByText := true, laidKinds := [.data, .data, .data, .data, .sentinel, .sentinel, .pinned], laidTests := true, laidLooks := .later }
def SemiringChecksUptoCardSaid : Prop := Claim7.holds Tryz.pinned (.plain (OpenSpec.upto semiringChecksSpec)) semiringChecksUptoCard

/-- THE SECOND FORM's CARD OF 'weightedlaw03.SemiringReadsBack'. -/
def semiringReadsBackUptoCard : Claim7 := { stood := { row := semiringReadsBackUptoRow, standIns := [], harness := (true, "5884b6a6b8b58feebbd40f2f00cb84f5056ce1aaa70d56625b2a9f24e93d1dbf"), looks := true }, kinds := [], alts := [], laidByText := true, laidKinds := [.data, .data, .data, .data, .sentinel, .sentinel, .pinned], laidTests := true, laidLooks := .later }
def SemiringReadsBackUptoCardSaid : Prop := Claim7.holds Tryz.pinned (.plain (OpenSpec.upto semiringReadsBackSpec)) semiringReadsBackUptoCard
end Rows
end Go.Proofs.YtonmcbnjifeagaaGreatDoor
