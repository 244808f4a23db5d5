/-
  DERIVED. GIVEN WITH THE SEED: THE CARDS: each row of YtjlbgiaeggfcaabGreatDoorRows.lean that lists a variable, with what it lists TIED to the program's text (the seventh form; the later family's looks); each row that meets fmt, with fmt's text TOLD by the authors' own Lean function (tested against real Go, not proved from fmt's source: count such statements apart). THE CARD IS WHAT COUNTS. Prove the row's statement (the work); the ties are given (YtjlbgiaeggfcaabGreatDoorTie.lean); close each card by the builder's one call (the guide's Derived/Test/ToyasCard.lean, 'card_holds'). Laid BY PROGRAM, IN A SANDBOX (cutbox-door.mjs). By AI agents, Wed Nov 11 2026. No macro, syntax, notation, axiom, sorry.
-/
import Derived.Test.YtjlbgiaeggfcaabGreatDoorRows
import GoSem.ClaimSeven
namespace Go.Proofs.YtjlbgiaeggfcaabGreatDoor
namespace Rows

/-- THE TIED CARD OF 'drydocklaw18.ColumnsWeak'. -/
def columnsWeakCard : Claim7 := { stood := { row := columnsWeakRow, standIns := [], harness := (true, "a30bb0aba867d982c65637b6b683cdad6f0c4f2fffe0bff89e0a57034266c3ec"), looks := false }, kinds := [], alts := [], laidByText := true, laidKinds := [.data, .data, .data], laidTests := true, laidLooks := .later }
def ColumnsWeakCardSaid : Prop := Claim7.holds Tryz.pinned (.plain (OpenSpec.ofChange columnsWeakSpec)) columnsWeakCard

/-- THE SECOND FORM's CARD OF 'drydocklaw18.ColumnsWeak'. -/
def columnsWeakUptoCard : Claim7 := { stood := { row := columnsWeakUptoRow, standIns := [], harness := (true, "a30bb0aba867d982c65637b6b683cdad6f0c4f2fffe0bff89e0a57034266c3ec"), looks := false }, kinds := [], alts := [], laidByText := true, laidKinds := [.data, .data, .data], laidTests := true, laidLooks := .later }
def ColumnsWeakUptoCardSaid : Prop := Claim7.holds Tryz.pinned (.plain (OpenSpec.upto columnsWeakSpec)) columnsWeakUptoCard
end Rows
end Go.Proofs.YtjlbgiaeggfcaabGreatDoor
