/-
  DERIVED. GIVEN WITH THE SEED: THE CARDS: each row of YtmakkdlkgfgaoaaDoorRows.lean that lists a variable, with what it lists TIED to the program's text (the seventh form; the later family's looks); each row that meets fmt, with fmt's text TOLD by the authors' own Lean function (tested against real Go, not proved from fmt's source: count such statements apart). THE CARD IS WHAT COUNTS. Prove the row's statement (the work); the ties are given (YtmakkdlkgfgaoaaDoorTie.lean); close each card by the builder's one call (the guide's Derived/Test/ToyasCard.lean, 'card_holds'). Laid BY PROGRAM, IN A SANDBOX (cutbox-door.mjs). By AI agents, Wed Nov 11 2026. No macro, syntax, notation, axiom, sorry.
-/
import Derived.Test.YtmakkdlkgfgaoaaDoorRows
import GoSem.ClaimSeven
namespace Go.Proofs.YtmakkdlkgfgaoaaDoor
namespace Rows

/-- THE TIED CARD OF 'whittlelaw2.ValueMakes'. -/
def valueMakesCard : Claim7 := { stood := { row := valueMakesRow, standIns := [], harness := (true, "39c1e3d5876ff15174a8b280aec7700d5350b9a82fc0bb8d109cc777445d2b9a"), looks := false }, kinds := [], alts := [], laidByText := true, laidKinds := [.data, .data, .data, .data, .data, .pinned], laidTests := true, laidLooks := .later }
def ValueMakesCardSaid : Prop := Claim7.holds Tryd.pinned (.plain (OpenSpec.ofChange valueMakesSpec)) valueMakesCard

/-- THE TIED CARD OF 'whittlelaw2.ValueReads'. -/
def valueReadsCard : Claim7 := { stood := { row := valueReadsRow, standIns := [], harness := (true, "39c1e3d5876ff15174a8b280aec7700d5350b9a82fc0bb8d109cc777445d2b9a"), looks := false }, kinds := [], alts := [], laidByText := true, laidKinds := [.data, .data, .data, .data, .data, .pinned], laidTests := true, laidLooks := .later }
def ValueReadsCardSaid : Prop := Claim7.holds Tryd.pinned (.plain (OpenSpec.ofChange valueReadsSpec)) valueReadsCard

/-- THE TIED CARD OF 'whittlelaw2.ValueShows'. -/
def valueShowsCard : Claim7 := { stood := { row := valueShowsRow, standIns := [], harness := (true, "39c1e3d5876ff15174a8b280aec7700d5350b9a82fc0bb8d109cc777445d2b9a"), looks := false }, kinds := [], alts := [], laidByText := true, laidKinds := [.data, .data, .data, .data, .data, .pinned], laidTests := true, laidLooks := .later }
def ValueShowsCardSaid : Prop := Claim7.holds Tryd.pinned (.plain (OpenSpec.ofChange valueShowsSpec)) valueShowsCard

/-- THE TIED CARD OF 'whittlelaw2.ValueBack'. -/
def valueBackCard : Claim7 := { stood := { row := valueBackRow, standIns := [], harness := (true, "39c1e3d5876ff15174a8b280aec7700d5350b9a82fc0bb8d109cc777445d2b9a"), looks := false }, kinds := [], alts := [], laidByText := true, laidKinds := [.data, .data, .data, .data, .data, .pinned], laidTests := true, laidLooks := .later }
def ValueBackCardSaid : Prop := Claim7.holds Tryd.pinned (.plain (OpenSpec.ofChange valueBackSpec)) valueBackCard

/-- THE TIED CARD OF 'whittlelaw2.ValueOpposite'. -/
def valueOppositeCard : Claim7 := { stood := { row := valueOppositeRow, standIns := [], harness := (true, "39c1e3d5876ff15174a8b280aec7700d5350b9a82fc0bb8d109cc777445d2b9a"), looks := false }, kinds := [], alts := [], laidByText := true, laidKinds := [.data, .data, .data, .data, .data, .pinned], laidTests := true, laidLooks := .later }
def ValueOppositeCardSaid : Prop := Claim7.holds Tryd.pinned (.plain (OpenSpec.ofChange valueOppositeSpec)) valueOppositeCard

/-- THE TIED CARD OF 'whittlelaw2.ValueCmps'. -/
def valueCmpsCard : Claim7 := { stood := { row := valueCmpsRow, standIns := [], harness := (true, "39c1e3d5876ff15174a8b280aec7700d5350b9a82fc0bb8d109cc777445d2b9a"), looks := false }, kinds := [], alts := [], laidByText := true, laidKinds := [.data, .data, .data, .data, .data, .pinned], laidTests := true, laidLooks := .later }
def ValueCmpsCardSaid : Prop := Claim7.holds Tryd.pinned (.plain (OpenSpec.ofChange valueCmpsSpec)) valueCmpsCard

/-- THE TIED CARD OF 'whittlelaw2.ValueOrder'. -/
def valueOrderCard : Claim7 := { stood := { row := valueOrderRow, standIns := [], harness := (true, "39c1e3d5876ff15174a8b280aec7700d5350b9a82fc0bb8d109cc777445d2b9a"), looks := false }, kinds := [], alts := [], laidByText := true, laidKinds := [.data, .data, .data, .data, .data, .pinned], laidTests := true, laidLooks := .later }
def ValueOrderCardSaid : Prop := Claim7.holds Tryd.pinned (.plain (OpenSpec.ofChange valueOrderSpec)) valueOrderCard

/-- THE TIED CARD OF 'whittlelaw2.ValueTexts'. -/
def valueTextsCard : Claim7 := { stood := { row := valueTextsRow, standIns := [], harness := (true, "39c1e3d5876ff15174a8b280aec7700d5350b9a82fc0bb8d109cc777445d2b9a"), looks := false }, kinds := [], alts := [], laidByText := true, laidKinds := [.data, .data, .data, .data, .data, .pinned], laidTests := true, laidLooks := .later }
def ValueTextsCardSaid : Prop := Claim7.holds Tryd.pinned (.plain (OpenSpec.ofChange valueTextsSpec)) valueTextsCard

/-- THE TIED CARD OF 'whittlelaw2.ValueAs'. -/
def valueAsCard : Claim7 := { stood := { row := valueAsRow, standIns := [], harness := (true, "39c1e3d5876ff15174a8b280aec7700d5350b9a82fc0bb8d109cc777445d2b9a"), looks := false }, kinds := [], alts := [], laidByText := true, laidKinds := [.data, .data, .data, .data, .data, .pinned], laidTests := true, laidLooks := .later }
def ValueAsCardSaid : Prop := Claim7.holds Tryd.pinned (.plain (OpenSpec.ofChange valueAsSpec)) valueAsCard

/-- THE TIED CARD OF 'whittlelaw2.ValueUns'. -/
def valueUnsCard : Claim7 := { stood := { row := valueUnsRow, standIns := [], harness := (true, "39c1e3d5876ff15174a8b280aec7700d5350b9a82fc0bb8d109cc777445d2b9a"), looks := false }, kinds := [], alts := [], laidByText := true, laidKinds := [.data, .data, .data, .data, .data, .pinned], laidTests := true, laidLooks := .later }
def ValueUnsCardSaid : Prop := Claim7.holds Tryd.pinned (.plain (OpenSpec.ofChange valueUnsSpec)) valueUnsCard

/-- THE TIED CARD OF 'whittlelaw2.ValueFaults'. -/
def valueFaultsCard : Claim7 := { stood := { row := valueFaultsRow, standIns := [], harness := (true, "39c1e3d5876ff15174a8b280aec7700d5350b9a82fc0bb8d109cc777445d2b9a"), looks := false }, kinds := [], alts := [], laidByText := true, laidKinds := [.data, .data, .data, .data, .data, .pinned], laidTests := true, laidLooks := .later }
def ValueFaultsCardSaid : Prop := Claim7.holds Tryd.pinned (.plain (OpenSpec.ofChange valueFaultsSpec)) valueFaultsCard

/-- THE TIED CARD OF 'whittlelaw2.ValueNumbers'. -/
def valueNumbersCard : Claim7 := { stood := { row := valueNumbersRow, standIns := [], harness := (true, "39c1e3d5876ff15174a8b280aec7700d5350b9a82fc0bb8d109cc777445d2b9a"), looks := false }, kinds := [], alts := [], laidByText := true, laidKinds := [.data, .data, .data, .data, .data, .pinned], laidTests := true, laidLooks := .later }
def ValueNumbersCardSaid : Prop := Claim7.holds Tryd.pinned (.plain (OpenSpec.ofChange valueNumbersSpec)) valueNumbersCard

/-- THE SECOND FORM's CARD OF 'whittlelaw2.ValueMakes'. -/
def valueMakesUptoCard : Claim7 := { stood := { row := valueMakesUptoRow, standIns := [], harness := (true, "39c1e3d5876ff15174a8b280aec7700d5350b9a82fc0bb8d109cc777445d2b9a"), looks := false }, kinds := [], alts := [], laidByText := true, laidKinds := [.data, .data, .data, .data, .data, .pinned], laidTests := true, laidLooks := .later }
def ValueMakesUptoCardSaid : Prop := Claim7.holds Tryd.pinned (.plain (OpenSpec.upto valueMakesSpec)) valueMakesUptoCard

/-- THE SECOND FORM's CARD OF 'whittlelaw2.ValueReads'. -/
def valueReadsUptoCard : Claim7 := { stood := { row := valueReadsUptoRow, standIns := [], harness := (true, "39c1e3d5876ff15174a8b280aec7700d5350b9a82fc0bb8d109cc777445d2b9a"), looks := false }, kinds := [], alts := [], laidByText := true, laidKinds := [.data, .data, .data, .data, .data, .pinned], laidTests := true, laidLooks := .later }
def ValueReadsUptoCardSaid : Prop := Claim7.holds Tryd.pinned (.plain (OpenSpec.upto valueReadsSpec)) valueReadsUptoCard

/-- THE SECOND FORM's CARD OF 'whittlelaw2.ValueShows'. -/
def valueShowsUptoCard : Claim7 := { stood := { row := valueShowsUptoRow, standIns := [], harness := (true, "39c1e3d5876ff15174a8b280aec7700d5350b9a82fc0bb8d109cc777445d2b9a"), looks := false }, kinds := [], alts := [], laidByText := true, laidKinds := [.data, .data, .data, .data, .data, .pinned], laidTests := true, laidLooks := .later }
def ValueShowsUptoCardSaid : Prop := Claim7.holds Tryd.pinned (.plain (OpenSpec.upto valueShowsSpec)) valueShowsUptoCard

/-- THE SECOND FORM's CARD OF 'whittlelaw2.ValueBack'. -/
def valueBackUptoCard : Claim7 := { stood := { row := valueBackUptoRow, standIns := [], harness := (true, "39c1e3d5876ff15174a8b280aec7700d5350b9a82fc0bb8d109cc777445d2b9a"), looks := false }, kinds := [], alts := [], laidByText := true, laidKinds := [.data, .data, .data, .data, .data, .pinned], laidTests := true, laidLooks := .later }
def ValueBackUptoCardSaid : Prop := Claim7.holds Tryd.pinned (.plain (OpenSpec.upto valueBackSpec)) valueBackUptoCard

/-- THE SECOND FORM's CARD OF 'whittlelaw2.ValueOpposite'. -/
def valueOppositeUptoCard : Claim7 := { stood := { row := valueOppositeUptoRow, standIns := [], harness := (true, "39c1e3d5876ff15174a8b280aec7700d5350b9a82fc0bb8d109cc777445d2b9a"), looks := false }, kinds := [], alts := [], laidByText := true, laidKinds := [.data, .data, .data, .data, .data, .pinned], laidTests := true, laidLooks := .later }
def ValueOppositeUptoCardSaid : Prop := Claim7.holds Tryd.pinned (.plain (OpenSpec.upto valueOppositeSpec)) valueOppositeUptoCard

/-- THE SECOND FORM's CARD OF 'whittlelaw2.ValueCmps'. -/
def valueCmpsUptoCard : Claim7 := { stood := { row := valueCmpsUptoRow, standIns := [], harness := (true, "39c1e3d5876ff15174a8b280aec7700d5350b9a82fc0bb8d109cc777445d2b9a"), looks := false }, kinds := [], alts := [], laidByText := true, laidKinds := [.data, .data, .data, .data, .data, .pinned], laidTests := true, laidLooks := .later }
def ValueCmpsUptoCardSaid : Prop := Claim7.holds Tryd.pinned (.plain (OpenSpec.upto valueCmpsSpec)) valueCmpsUptoCard

/-- THE SECOND FORM's CARD OF 'whittlelaw2.ValueOrder'. -/
def valueOrderUptoCard : Claim7 := { stood := { row := valueOrderUptoRow, standIns := [], harness := (true, "39c1e3d5876ff15174a8b280aec7700d5350b9a82fc0bb8d109cc777445d2b9a"), looks := false }, kinds := [], alts := [], laidByText := true, laidKinds := [.data, .data, .data, .data, .data, .pinned], laidTests := true, laidLooks := .later }
def ValueOrderUptoCardSaid : Prop := Claim7.holds Tryd.pinned (.plain (OpenSpec.upto valueOrderSpec)) valueOrderUptoCard

/-- THE SECOND FORM's CARD OF 'whittlelaw2.ValueTexts'. -/
def valueTextsUptoCard : Claim7 := { stood := { row := valueTextsUptoRow, standIns := [], harness := (true, "39c1e3d5876ff15174a8b280aec7700d5350b9a82fc0bb8d109cc777445d2b9a"), looks := false }, kinds := [], alts := [], laidByText := true, laidKinds := [.data, .data, .data, .data, .data, .pinned], laidTests := true, laidLooks := .later }
def ValueTextsUptoCardSaid : Prop := Claim7.holds Tryd.pinned (.plain (OpenSpec.upto valueTextsSpec)) valueTextsUptoCard

/-- THE SECOND FORM's CARD OF 'whittlelaw2.ValueAs'. -/
def valueAsUptoCard : Claim7 := { stood := { row := valueAsUptoRow, standIns := [], harness := (true, "39c1e3d5876ff15174a8b280aec7700d5350b9a82fc0bb8d109cc777445d2b9a"), looks := false }, kinds := [], alts := [], laidByText := true, laidKinds := [.data, .data, .data, .data, .data, .pinned], laidTests := true, laidLooks := .later }
def ValueAsUptoCardSaid : Prop := Claim7.holds Tryd.pinned (.plain (OpenSpec.upto valueAsSpec)) valueAsUptoCard

/-- THE SECOND FORM's CARD OF 'whittlelaw2.ValueUns'. -/
def valueUnsUptoCard : Claim7 := { stood := { row := valueUnsUptoRow, standIns := [], harness := (true, "39c1e3d5876ff15174a8b280aec7700d5350b9a82fc0bb8d109cc777445d2b9a"), looks := false }, kinds := [], alts := [], laidByText := true, laidKinds := [.data, .data, .data, .data, .data, .pinned], laidTests := true, laidLooks := .later }
def ValueUnsUptoCardSaid : Prop := Claim7.holds Tryd.pinned (.plain (OpenSpec.upto valueUnsSpec)) valueUnsUptoCard

/-- THE SECOND FORM's CARD OF 'whittlelaw2.ValueFaults'. -/
def valueFaultsUptoCard : Claim7 := { stood := { row := valueFaultsUptoRow, standIns := [], harness := (true, "39c1e3d5876ff15174a8b280aec7700d5350b9a82fc0bb8d109cc777445d2b9a"), looks := false }, kinds := [], alts := [], laidByText := true, laidKinds := [.data, .data, .data, .data, .data, .pinned], laidTests := true, laidLooks := .later }
def ValueFaultsUptoCardSaid : Prop := Claim7.holds Tryd.pinned (.plain (OpenSpec.upto valueFaultsSpec)) valueFaultsUptoCard

/-- THE SECOND FORM's CARD OF 'whittlelaw2.ValueNumbers'. -/
def valueNumbersUptoCard : Claim7 := { stood := { row := valueNumbersUptoRow, standIns := [], harness := (true, "39c1e3d5876ff15174a8b280aec7700d5350b9a82fc0bb8d109cc777445d2b9a"), looks := false }, kinds := [], alts := [], laidByText := true, laidKinds := [.data, .data, .data, .data, .data, .pinned], laidTests := true, laidLooks := .later }
def ValueNumbersUptoCardSaid : Prop := Claim7.holds Tryd.pinned (.plain (OpenSpec.upto valueNumbersSpec)) valueNumbersUptoCard
end Rows
end Go.Proofs.YtmakkdlkgfgaoaaDoor
