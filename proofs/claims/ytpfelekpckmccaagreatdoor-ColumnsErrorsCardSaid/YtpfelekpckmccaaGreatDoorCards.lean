/-
  DERIVED. GIVEN WITH THE SEED: THE CARDS: each row of YtpfelekpckmccaaGreatDoorRows.lean that lists a variable, with what it lists TIED to the program's text (the seventh form; the later family's looks); each row that meets fmt, with fmt's text TOLD by the authors' own Lean function (tested against real Go, not proved from fmt's source: count such statements apart). THE CARD IS WHAT COUNTS. Prove the row's statement (the work); the ties are given (YtpfelekpckmccaaGreatDoorTie.lean); close each card by the builder's one call (the guide's Derived/Test/ToyasCard.lean, 'card_holds'). Laid BY PROGRAM, IN A SANDBOX (cutbox-door.mjs). By AI agents, Wed Nov 11 2026. No macro, syntax, notation, axiom, sorry.
-/
import Derived.Test.YtpfelekpckmccaaGreatDoorRows
import GoSem.ClaimSeven
namespace Go.Proofs.YtpfelekpckmccaaGreatDoor
namespace Rows

/-- THE TIED CARD OF 'drydocklaw18.ColumnsPriced'. -/
def columnsPricedCard : Claim7 := { stood := { row := columnsPricedRow, standIns := [], harness := (true, "ea4d910669e37e3add3af5d619e7cf55a99f4c9cc76cff31aefd131fd3cddbda"), looks := false }, kinds := [], alts := [], laidByText := true, laidKinds := [.data, .data, .data], laidTests := true, laidLooks := .later }
def ColumnsPricedCardSaid : Prop := Claim7.holds Tryz.pinned (.plain (OpenSpec.ofChange columnsPricedSpec)) columnsPricedCard

/-- THE TIED CARD OF 'drydocklaw18.ColumnsErrors'. -/
def columnsErrorsCard : Claim7 := { stood := { row := columnsErrorsRow, standIns := [], harness := (true, "ea4d910669e37e3add3af5d619e7cf55a99f4c9cc76cff31aefd131fd3cddbda"), looks := false }, kinds := [], alts := [], laidByText := true, laidKinds := [.data, .data, .data], laidTests := true, laidLooks := .later }
def ColumnsErrorsCardSaid : Prop := Claim7.holds Tryz.pinned (.plain (OpenSpec.ofChange columnsErrorsSpec)) columnsErrorsCard

/-- THE TIED CARD OF 'drydocklaw18.ColumnsWeak'. -/
def columnsWeakCard : Claim7 := { stood := { row := columnsWeakRow, standIns := [], harness := (true, "ea4d910669e37e3add3af5d619e7cf55a99f4c9cc76cff31aefd131fd3cddbda"), looks := false }, kinds := [], alts := [], laidByText := true, laidKinds := [.data, .data, .data], laidTests := true, laidLooks := .later }
def ColumnsWeakCardSaid : Prop := Claim7.holds Tryz.pinned (.plain (OpenSpec.ofChange columnsWeakSpec)) columnsWeakCard

/-- THE SECOND FORM's CARD OF 'drydocklaw18.ColumnsPriced'. -/
def columnsPricedUptoCard : Claim7 := { stood := { row := columnsPricedUptoRow, standIns := [], harness := (true, "ea4d910669e37e3add3af5d619e7cf55a99f4c9cc76cff31aefd131fd3cddbda"), looks := false }, kinds := [], alts := [], laidByText := true, laidKinds := [.data, .data, .data], laidTests := true, laidLooks := .later }
def ColumnsPricedUptoCardSaid : Prop := Claim7.holds Tryz.pinned (.plain (OpenSpec.upto columnsPricedSpec)) columnsPricedUptoCard

/-- THE SECOND FORM's CARD OF 'drydocklaw18.ColumnsErrors'. -/
def columnsErrorsUptoCard : Claim7 := { stood := { row := columnsErrorsUptoRow, standIns := [], harness := (true, "ea4d910669e37e3add3af5d619e7cf55a99f4c9cc76cff31aefd131fd3cddbda"), looks := false }, kinds := [], alts := [], laidByText := true, laidKinds := [.data, .data, .data], laidTests := true, laidLooks := .later }
def ColumnsErrorsUptoCardSaid : Prop := Claim7.holds Tryz.pinned (.plain (OpenSpec.upto columnsErrorsSpec)) columnsErrorsUptoCard

/-- THE SECOND FORM's CARD OF 'drydocklaw18.ColumnsWeak'. -/
def columnsWeakUptoCard : Claim7 := { stood := { row := columnsWeakUptoRow, standIns := [], harness := (true, "ea4d910669e37e3add3af5d619e7cf55a99f4c9cc76cff31aefd131fd3cddbda"), looks := false }, kinds := [], alts := [], laidByText := true, laidKinds := [.data, .data, .data], laidTests := true, laidLooks := .later }
def ColumnsWeakUptoCardSaid : Prop := Claim7.holds Tryz.pinned (.plain (OpenSpec.upto columnsWeakSpec)) columnsWeakUptoCard
end Rows
end Go.Proofs.YtpfelekpckmccaaGreatDoor
