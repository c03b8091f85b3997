/-
  DERIVED. GIVEN WITH THE SEED: THE CARDS: each row of YtmakkdlkgfgaoaaGreatDoorRows.lean that lists a variable, with what it lists TIED to the program's text (the seventh form; the later family's looks); each row that meets fmt, with fmt's text TOLD by the authors' own Lean function (tested against real Go, not proved from fmt's source: count such statements apart). THE CARD IS WHAT COUNTS. Prove the row's statement (the work); the ties are given (YtmakkdlkgfgaoaaGreatDoorTie.lean); close each card by the builder's one call (the guide's Derived/Test/ToyasCard.lean, 'card_holds'). Laid BY PROGRAM, IN A SANDBOX (cutbox-door.mjs). By AI agents, Wed Nov 11 2026. No macro, syntax, notation, axiom, sorry.
-/
import Derived.Test.YtmakkdlkgfgaoaaGreatDoorRows
import GoSem.ClaimSeven
namespace Go.Proofs.YtmakkdlkgfgaoaaGreatDoor
namespace Rows

/-- THE TIED CARD OF 'whittlelaw2.ValueBins'. -/
def valueBinsCard : Claim7 := { stood := { row := valueBinsRow, standIns := [], harness := (true, "c6d751eb2d93a1f8b930c4885f89443122cec99c9da50ced9df08f00dbc3b5fb"), looks := false }, kinds := [], alts := [], laidByText := true, laidKinds := [.data, .data, .data, .data, .data, .pinned], laidTests := true, laidLooks := .later }
def ValueBinsCardSaid : Prop := Claim7.holds Tryz.pinned (.plain (OpenSpec.ofChange valueBinsSpec)) valueBinsCard

/-- THE TIED CARD OF 'whittlelaw2.ValueJoins'. -/
def valueJoinsCard : Claim7 := { stood := { row := valueJoinsRow, standIns := [], harness := (true, "c6d751eb2d93a1f8b930c4885f89443122cec99c9da50ced9df08f00dbc3b5fb"), looks := false }, kinds := [], alts := [], laidByText := true, laidKinds := [.data, .data, .data, .data, .data, .pinned], laidTests := true, laidLooks := .later }
def ValueJoinsCardSaid : Prop := Claim7.holds Tryz.pinned (.plain (OpenSpec.ofChange valueJoinsSpec)) valueJoinsCard

/-- THE SECOND FORM's CARD OF 'whittlelaw2.ValueBins'. -/
def valueBinsUptoCard : Claim7 := { stood := { row := valueBinsUptoRow, standIns := [], harness := (true, "c6d751eb2d93a1f8b930c4885f89443122cec99c9da50ced9df08f00dbc3b5fb"), looks := false }, kinds := [], alts := [], laidByText := true, laidKinds := [.data, .data, .data, .data, .data, .pinned], laidTests := true, laidLooks := .later }
def ValueBinsUptoCardSaid : Prop := Claim7.holds Tryz.pinned (.plain (OpenSpec.upto valueBinsSpec)) valueBinsUptoCard

/-- THE SECOND FORM's CARD OF 'whittlelaw2.ValueJoins'. -/
def valueJoinsUptoCard : Claim7 := { stood := { row := valueJoinsUptoRow, standIns := [], harness := (true, "c6d751eb2d93a1f8b930c4885f89443122cec99c9da50ced9df08f00dbc3b5fb"), looks := false }, kinds := [], alts := [], laidByText := true, laidKinds := [.data, .data, .data, .data, .data, .pinned], laidTests := true, laidLooks := .later }
def ValueJoinsUptoCardSaid : Prop := Claim7.holds Tryz.pinned (.plain (OpenSpec.upto valueJoinsSpec)) valueJoinsUptoCard
end Rows
end Go.Proofs.YtmakkdlkgfgaoaaGreatDoor
