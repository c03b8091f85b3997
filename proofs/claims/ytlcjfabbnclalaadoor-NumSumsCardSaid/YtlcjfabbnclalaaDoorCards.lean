/-
  DERIVED. GIVEN WITH THE SEED: THE CARDS: each row of YtlcjfabbnclalaaDoorRows.lean that lists a variable, with what it lists TIED to the program's text (the seventh form; the later family's looks); each row that meets fmt, with fmt's text TOLD by the authors' own Lean function (tested against real Go, not proved from fmt's source: count such statements apart). THE CARD IS WHAT COUNTS. Prove the row's statement (the work); the ties are given (YtlcjfabbnclalaaDoorTie.lean); close each card by the builder's one call (the guide's Derived/Test/ToyasCard.lean, 'card_holds'). Laid BY PROGRAM, IN A SANDBOX (cutbox-door.mjs). By AI agents, Wed Nov 11 2026. No macro, syntax, notation, axiom, sorry.
-/
import Derived.Test.YtlcjfabbnclalaaDoorRows
import GoSem.ClaimSeven
namespace Go.Proofs.YtlcjfabbnclalaaDoor
namespace Rows

/-- THE TIED CARD OF 'whittlelaw1.NumMakes'. -/
def numMakesCard : Claim7 := { stood := { row := numMakesRow, standIns := [], harness := (true, "0c2ce3bd3089db21fa1ea1fad3cb10cff875536ea0a42f5aa9d6a0e09221028c"), looks := false }, kinds := [], alts := [], laidByText := true, laidKinds := [.data, .data, .data, .data, .pinned], laidTests := true, laidLooks := .later }
def NumMakesCardSaid : Prop := Claim7.holds Tryd.pinned (.plain (OpenSpec.ofChange numMakesSpec)) numMakesCard

/-- THE TIED CARD OF 'whittlelaw1.NumCmps'. -/
def numCmpsCard : Claim7 := { stood := { row := numCmpsRow, standIns := [], harness := (true, "0c2ce3bd3089db21fa1ea1fad3cb10cff875536ea0a42f5aa9d6a0e09221028c"), looks := false }, kinds := [], alts := [], laidByText := true, laidKinds := [.data, .data, .data, .data, .pinned], laidTests := true, laidLooks := .later }
def NumCmpsCardSaid : Prop := Claim7.holds Tryd.pinned (.plain (OpenSpec.ofChange numCmpsSpec)) numCmpsCard

/-- THE TIED CARD OF 'whittlelaw1.NumTexts'. -/
def numTextsCard : Claim7 := { stood := { row := numTextsRow, standIns := [], harness := (true, "0c2ce3bd3089db21fa1ea1fad3cb10cff875536ea0a42f5aa9d6a0e09221028c"), looks := false }, kinds := [], alts := [], laidByText := true, laidKinds := [.data, .data, .data, .data, .pinned], laidTests := true, laidLooks := .later }
def NumTextsCardSaid : Prop := Claim7.holds Tryd.pinned (.plain (OpenSpec.ofChange numTextsSpec)) numTextsCard

/-- THE TIED CARD OF 'whittlelaw1.NumReads'. -/
def numReadsCard : Claim7 := { stood := { row := numReadsRow, standIns := [], harness := (true, "0c2ce3bd3089db21fa1ea1fad3cb10cff875536ea0a42f5aa9d6a0e09221028c"), looks := false }, kinds := [], alts := [], laidByText := true, laidKinds := [.data, .data, .data, .data, .pinned], laidTests := true, laidLooks := .later }
def NumReadsCardSaid : Prop := Claim7.holds Tryd.pinned (.plain (OpenSpec.ofChange numReadsSpec)) numReadsCard

/-- THE TIED CARD OF 'whittlelaw1.NumWritten'. -/
def numWrittenCard : Claim7 := { stood := { row := numWrittenRow, standIns := [], harness := (true, "0c2ce3bd3089db21fa1ea1fad3cb10cff875536ea0a42f5aa9d6a0e09221028c"), looks := false }, kinds := [], alts := [], laidByText := true, laidKinds := [.data, .data, .data, .data, .pinned], laidTests := true, laidLooks := .later }
def NumWrittenCardSaid : Prop := Claim7.holds Tryd.pinned (.plain (OpenSpec.ofChange numWrittenSpec)) numWrittenCard

/-- THE TIED CARD OF 'whittlelaw1.NumAdds'. -/
def numAddsCard : Claim7 := { stood := { row := numAddsRow, standIns := [], harness := (true, "0c2ce3bd3089db21fa1ea1fad3cb10cff875536ea0a42f5aa9d6a0e09221028c"), looks := false }, kinds := [], alts := [], laidByText := true, laidKinds := [.data, .data, .data, .data, .pinned], laidTests := true, laidLooks := .later }
def NumAddsCardSaid : Prop := Claim7.holds Tryd.pinned (.plain (OpenSpec.ofChange numAddsSpec)) numAddsCard

/-- THE TIED CARD OF 'whittlelaw1.NumSums'. -/
def numSumsCard : Claim7 := { stood := { row := numSumsRow, standIns := [], harness := (true, "0c2ce3bd3089db21fa1ea1fad3cb10cff875536ea0a42f5aa9d6a0e09221028c"), looks := false }, kinds := [], alts := [], laidByText := true, laidKinds := [.data, .data, .data, .data, .pinned], laidTests := true, laidLooks := .later }
def NumSumsCardSaid : Prop := Claim7.holds Tryd.pinned (.plain (OpenSpec.ofChange numSumsSpec)) numSumsCard

/-- THE TIED CARD OF 'whittlelaw1.NumGroups'. -/
def numGroupsCard : Claim7 := { stood := { row := numGroupsRow, standIns := [], harness := (true, "0c2ce3bd3089db21fa1ea1fad3cb10cff875536ea0a42f5aa9d6a0e09221028c"), looks := false }, kinds := [], alts := [], laidByText := true, laidKinds := [.data, .data, .data, .data, .pinned], laidTests := true, laidLooks := .later }
def NumGroupsCardSaid : Prop := Claim7.holds Tryd.pinned (.plain (OpenSpec.ofChange numGroupsSpec)) numGroupsCard

/-- THE TIED CARD OF 'whittlelaw1.NumOrder'. -/
def numOrderCard : Claim7 := { stood := { row := numOrderRow, standIns := [], harness := (true, "0c2ce3bd3089db21fa1ea1fad3cb10cff875536ea0a42f5aa9d6a0e09221028c"), looks := false }, kinds := [], alts := [], laidByText := true, laidKinds := [.data, .data, .data, .data, .pinned], laidTests := true, laidLooks := .later }
def NumOrderCardSaid : Prop := Claim7.holds Tryd.pinned (.plain (OpenSpec.ofChange numOrderSpec)) numOrderCard

/-- THE TIED CARD OF 'whittlelaw1.NumMuls'. -/
def numMulsCard : Claim7 := { stood := { row := numMulsRow, standIns := [], harness := (true, "0c2ce3bd3089db21fa1ea1fad3cb10cff875536ea0a42f5aa9d6a0e09221028c"), looks := false }, kinds := [], alts := [], laidByText := true, laidKinds := [.data, .data, .data, .data, .pinned], laidTests := true, laidLooks := .later }
def NumMulsCardSaid : Prop := Claim7.holds Tryd.pinned (.plain (OpenSpec.ofChange numMulsSpec)) numMulsCard

/-- THE TIED CARD OF 'whittlelaw1.NumPows'. -/
def numPowsCard : Claim7 := { stood := { row := numPowsRow, standIns := [], harness := (true, "0c2ce3bd3089db21fa1ea1fad3cb10cff875536ea0a42f5aa9d6a0e09221028c"), looks := false }, kinds := [], alts := [], laidByText := true, laidKinds := [.data, .data, .data, .data, .pinned], laidTests := true, laidLooks := .later }
def NumPowsCardSaid : Prop := Claim7.holds Tryd.pinned (.plain (OpenSpec.ofChange numPowsSpec)) numPowsCard

/-- THE TIED CARD OF 'whittlelaw1.NumRounds'. -/
def numRoundsCard : Claim7 := { stood := { row := numRoundsRow, standIns := [], harness := (true, "0c2ce3bd3089db21fa1ea1fad3cb10cff875536ea0a42f5aa9d6a0e09221028c"), looks := false }, kinds := [], alts := [], laidByText := true, laidKinds := [.data, .data, .data, .data, .pinned], laidTests := true, laidLooks := .later }
def NumRoundsCardSaid : Prop := Claim7.holds Tryd.pinned (.plain (OpenSpec.ofChange numRoundsSpec)) numRoundsCard

/-- THE TIED CARD OF 'whittlelaw1.NumBacks'. -/
def numBacksCard : Claim7 := { stood := { row := numBacksRow, standIns := [], harness := (true, "0c2ce3bd3089db21fa1ea1fad3cb10cff875536ea0a42f5aa9d6a0e09221028c"), looks := false }, kinds := [], alts := [], laidByText := true, laidKinds := [.data, .data, .data, .data, .pinned], laidTests := true, laidLooks := .later }
def NumBacksCardSaid : Prop := Claim7.holds Tryd.pinned (.plain (OpenSpec.ofChange numBacksSpec)) numBacksCard

/-- THE TIED CARD OF 'whittlelaw1.NumMods'. -/
def numModsCard : Claim7 := { stood := { row := numModsRow, standIns := [], harness := (true, "0c2ce3bd3089db21fa1ea1fad3cb10cff875536ea0a42f5aa9d6a0e09221028c"), looks := false }, kinds := [], alts := [], laidByText := true, laidKinds := [.data, .data, .data, .data, .pinned], laidTests := true, laidLooks := .later }
def NumModsCardSaid : Prop := Claim7.holds Tryd.pinned (.plain (OpenSpec.ofChange numModsSpec)) numModsCard

/-- THE TIED CARD OF 'whittlelaw1.NumPowers'. -/
def numPowersCard : Claim7 := { stood := { row := numPowersRow, standIns := [], harness := (true, "0c2ce3bd3089db21fa1ea1fad3cb10cff875536ea0a42f5aa9d6a0e09221028c"), looks := false }, kinds := [], alts := [], laidByText := true, laidKinds := [.data, .data, .data, .data, .pinned], laidTests := true, laidLooks := .later }
def NumPowersCardSaid : Prop := Claim7.holds Tryd.pinned (.plain (OpenSpec.ofChange numPowersSpec)) numPowersCard

/-- THE TIED CARD OF 'whittlelaw1.NumFloors'. -/
def numFloorsCard : Claim7 := { stood := { row := numFloorsRow, standIns := [], harness := (true, "0c2ce3bd3089db21fa1ea1fad3cb10cff875536ea0a42f5aa9d6a0e09221028c"), looks := false }, kinds := [], alts := [], laidByText := true, laidKinds := [.data, .data, .data, .data, .pinned], laidTests := true, laidLooks := .later }
def NumFloorsCardSaid : Prop := Claim7.holds Tryd.pinned (.plain (OpenSpec.ofChange numFloorsSpec)) numFloorsCard

/-- THE TIED CARD OF 'whittlelaw1.NumWrong'. -/
def numWrongCard : Claim7 := { stood := { row := numWrongRow, standIns := [], harness := (true, "0c2ce3bd3089db21fa1ea1fad3cb10cff875536ea0a42f5aa9d6a0e09221028c"), looks := false }, kinds := [], alts := [], laidByText := true, laidKinds := [.data, .data, .data, .data, .pinned], laidTests := true, laidLooks := .later }
def NumWrongCardSaid : Prop := Claim7.holds Tryd.pinned (.plain (OpenSpec.ofChange numWrongSpec)) numWrongCard

/-- THE SECOND FORM's CARD OF 'whittlelaw1.NumMakes'. -/
def numMakesUptoCard : Claim7 := { stood := { row := numMakesUptoRow, standIns := [], harness := (true, "0c2ce3bd3089db21fa1ea1fad3cb10cff875536ea0a42f5aa9d6a0e09221028c"), looks := false }, kinds := [], alts := [], laidByText := true, laidKinds := [.data, .data, .data, .data, .pinned], laidTests := true, laidLooks := .later }
def NumMakesUptoCardSaid : Prop := Claim7.holds Tryd.pinned (.plain (OpenSpec.upto numMakesSpec)) numMakesUptoCard

/-- THE SECOND FORM's CARD OF 'whittlelaw1.NumCmps'. -/
def numCmpsUptoCard : Claim7 := { stood := { row := numCmpsUptoRow, standIns := [], harness := (true, "0c2ce3bd3089db21fa1ea1fad3cb10cff875536ea0a42f5aa9d6a0e09221028c"), looks := false }, kinds := [], alts := [], laidByText := true, laidKinds := [.data, .data, .data, .data, .pinned], laidTests := true, laidLooks := .later }
def NumCmpsUptoCardSaid : Prop := Claim7.holds Tryd.pinned (.plain (OpenSpec.upto numCmpsSpec)) numCmpsUptoCard

/-- THE SECOND FORM's CARD OF 'whittlelaw1.NumTexts'. -/
def numTextsUptoCard : Claim7 := { stood := { row := numTextsUptoRow, standIns := [], harness := (true, "0c2ce3bd3089db21fa1ea1fad3cb10cff875536ea0a42f5aa9d6a0e09221028c"), looks := false }, kinds := [], alts := [], laidByText := true, laidKinds := [.data, .data, .data, .data, .pinned], laidTests := true, laidLooks := .later }
def NumTextsUptoCardSaid : Prop := Claim7.holds Tryd.pinned (.plain (OpenSpec.upto numTextsSpec)) numTextsUptoCard

/-- THE SECOND FORM's CARD OF 'whittlelaw1.NumReads'. -/
def numReadsUptoCard : Claim7 := { stood := { row := numReadsUptoRow, standIns := [], harness := (true, "0c2ce3bd3089db21fa1ea1fad3cb10cff875536ea0a42f5aa9d6a0e09221028c"), looks := false }, kinds := [], alts := [], laidByText := true, laidKinds := [.data, .data, .data, .data, .pinned], laidTests := true, laidLooks := .later }
def NumReadsUptoCardSaid : Prop := Claim7.holds Tryd.pinned (.plain (OpenSpec.upto numReadsSpec)) numReadsUptoCard

/-- THE SECOND FORM's CARD OF 'whittlelaw1.NumWritten'. -/
def numWrittenUptoCard : Claim7 := { stood := { row := numWrittenUptoRow, standIns := [], harness := (true, "0c2ce3bd3089db21fa1ea1fad3cb10cff875536ea0a42f5aa9d6a0e09221028c"), looks := false }, kinds := [], alts := [], laidByText := true, laidKinds := [.data, .data, .data, .data, .pinned], laidTests := true, laidLooks := .later }
def NumWrittenUptoCardSaid : Prop := Claim7.holds Tryd.pinned (.plain (OpenSpec.upto numWrittenSpec)) numWrittenUptoCard

/-- THE SECOND FORM's CARD OF 'whittlelaw1.NumAdds'. -/
def numAddsUptoCard : Claim7 := { stood := { row := numAddsUptoRow, standIns := [], harness := (true, "0c2ce3bd3089db21fa1ea1fad3cb10cff875536ea0a42f5aa9d6a0e09221028c"), looks := false }, kinds := [], alts := [], laidByText := true, laidKinds := [.data, .data, .data, .data, .pinned], laidTests := true, laidLooks := .later }
def NumAddsUptoCardSaid : Prop := Claim7.holds Tryd.pinned (.plain (OpenSpec.upto numAddsSpec)) numAddsUptoCard

/-- THE SECOND FORM's CARD OF 'whittlelaw1.NumSums'. -/
def numSumsUptoCard : Claim7 := { stood := { row := numSumsUptoRow, standIns := [], harness := (true, "0c2ce3bd3089db21fa1ea1fad3cb10cff875536ea0a42f5aa9d6a0e09221028c"), looks := false }, kinds := [], alts := [], laidByText := true, laidKinds := [.data, .data, .data, .data, .pinned], laidTests := true, laidLooks := .later }
def NumSumsUptoCardSaid : Prop := Claim7.holds Tryd.pinned (.plain (OpenSpec.upto numSumsSpec)) numSumsUptoCard

/-- THE SECOND FORM's CARD OF 'whittlelaw1.NumGroups'. -/
def numGroupsUptoCard : Claim7 := { stood := { row := numGroupsUptoRow, standIns := [], harness := (true, "0c2ce3bd3089db21fa1ea1fad3cb10cff875536ea0a42f5aa9d6a0e09221028c"), looks := false }, kinds := [], alts := [], laidByText := true, laidKinds := [.data, .data, .data, .data, .pinned], laidTests := true, laidLooks := .later }
def NumGroupsUptoCardSaid : Prop := Claim7.holds Tryd.pinned (.plain (OpenSpec.upto numGroupsSpec)) numGroupsUptoCard

/-- THE SECOND FORM's CARD OF 'whittlelaw1.NumOrder'. -/
def numOrderUptoCard : Claim7 := { stood := { row := numOrderUptoRow, standIns := [], harness := (true, "0c2ce3bd3089db21fa1ea1fad3cb10cff875536ea0a42f5aa9d6a0e09221028c"), looks := false }, kinds := [], alts := [], laidByText := true, laidKinds := [.data, .data, .data, .data, .pinned], laidTests := true, laidLooks := .later }
def NumOrderUptoCardSaid : Prop := Claim7.holds Tryd.pinned (.plain (OpenSpec.upto numOrderSpec)) numOrderUptoCard

/-- THE SECOND FORM's CARD OF 'whittlelaw1.NumMuls'. -/
def numMulsUptoCard : Claim7 := { stood := { row := numMulsUptoRow, standIns := [], harness := (true, "0c2ce3bd3089db21fa1ea1fad3cb10cff875536ea0a42f5aa9d6a0e09221028c"), looks := false }, kinds := [], alts := [], laidByText := true, laidKinds := [.data, .data, .data, .data, .pinned], laidTests := true, laidLooks := .later }
def NumMulsUptoCardSaid : Prop := Claim7.holds Tryd.pinned (.plain (OpenSpec.upto numMulsSpec)) numMulsUptoCard

/-- THE SECOND FORM's CARD OF 'whittlelaw1.NumPows'. -/
def numPowsUptoCard : Claim7 := { stood := { row := numPowsUptoRow, standIns := [], harness := (true, "0c2ce3bd3089db21fa1ea1fad3cb10cff875536ea0a42f5aa9d6a0e09221028c"), looks := false }, kinds := [], alts := [], laidByText := true, laidKinds := [.data, .data, .data, .data, .pinned], laidTests := true, laidLooks := .later }
def NumPowsUptoCardSaid : Prop := Claim7.holds Tryd.pinned (.plain (OpenSpec.upto numPowsSpec)) numPowsUptoCard

/-- THE SECOND FORM's CARD OF 'whittlelaw1.NumRounds'. -/
def numRoundsUptoCard : Claim7 := { stood := { row := numRoundsUptoRow, standIns := [], harness := (true, "0c2ce3bd3089db21fa1ea1fad3cb10cff875536ea0a42f5aa9d6a0e09221028c"), looks := false }, kinds := [], alts := [], laidByText := true, laidKinds := [.data, .data, .data, .data, .pinned], laidTests := true, laidLooks := .later }
def NumRoundsUptoCardSaid : Prop := Claim7.holds Tryd.pinned (.plain (OpenSpec.upto numRoundsSpec)) numRoundsUptoCard

/-- THE SECOND FORM's CARD OF 'whittlelaw1.NumBacks'. -/
def numBacksUptoCard : Claim7 := { stood := { row := numBacksUptoRow, standIns := [], harness := (true, "0c2ce3bd3089db21fa1ea1fad3cb10cff875536ea0a42f5aa9d6a0e09221028c"), looks := false }, kinds := [], alts := [], laidByText := true, laidKinds := [.data, .data, .data, .data, .pinned], laidTests := true, laidLooks := .later }
def NumBacksUptoCardSaid : Prop := Claim7.holds Tryd.pinned (.plain (OpenSpec.upto numBacksSpec)) numBacksUptoCard

/-- THE SECOND FORM's CARD OF 'whittlelaw1.NumMods'. -/
def numModsUptoCard : Claim7 := { stood := { row := numModsUptoRow, standIns := [], harness := (true, "0c2ce3bd3089db21fa1ea1fad3cb10cff875536ea0a42f5aa9d6a0e09221028c"), looks := false }, kinds := [], alts := [], laidByText := true, laidKinds := [.data, .data, .data, .data, .pinned], laidTests := true, laidLooks := .later }
def NumModsUptoCardSaid : Prop := Claim7.holds Tryd.pinned (.plain (OpenSpec.upto numModsSpec)) numModsUptoCard

/-- THE SECOND FORM's CARD OF 'whittlelaw1.NumPowers'. -/
def numPowersUptoCard : Claim7 := { stood := { row := numPowersUptoRow, standIns := [], harness := (true, "0c2ce3bd3089db21fa1ea1fad3cb10cff875536ea0a42f5aa9d6a0e09221028c"), looks := false }, kinds := [], alts := [], laidByText := true, laidKinds := [.data, .data, .data, .data, .pinned], laidTests := true, laidLooks := .later }
def NumPowersUptoCardSaid : Prop := Claim7.holds Tryd.pinned (.plain (OpenSpec.upto numPowersSpec)) numPowersUptoCard

/-- THE SECOND FORM's CARD OF 'whittlelaw1.NumFloors'. -/
def numFloorsUptoCard : Claim7 := { stood := { row := numFloorsUptoRow, standIns := [], harness := (true, "0c2ce3bd3089db21fa1ea1fad3cb10cff875536ea0a42f5aa9d6a0e09221028c"), looks := false }, kinds := [], alts := [], laidByText := true, laidKinds := [.data, .data, .data, .data, .pinned], laidTests := true, laidLooks := .later }
def NumFloorsUptoCardSaid : Prop := Claim7.holds Tryd.pinned (.plain (OpenSpec.upto numFloorsSpec)) numFloorsUptoCard

/-- THE SECOND FORM's CARD OF 'whittlelaw1.NumWrong'. -/
def numWrongUptoCard : Claim7 := { stood := { row := numWrongUptoRow, standIns := [], harness := (true, "0c2ce3bd3089db21fa1ea1fad3cb10cff875536ea0a42f5aa9d6a0e09221028c"), looks := false }, kinds := [], alts := [], laidByText := true, laidKinds := [.data, .data, .data, .data, .pinned], laidTests := true, laidLooks := .later }
def NumWrongUptoCardSaid : Prop := Claim7.holds Tryd.pinned (.plain (OpenSpec.upto numWrongSpec)) numWrongUptoCard
end Rows
end Go.Proofs.YtlcjfabbnclalaaDoor
