/-
  DERIVED. GIVEN WITH THE SEED: THE CARDS: each row of YtmjecabkffiabaaGreatDoorRows.lean that lists a variable, with what it lists TIED to the program's text (the seventh form; the later family's looks); each row that meets fmt, with fmt's text TOLD by the authors' own Lean function (tested against real Go, not proved from fmt's source: count such statements apart). THE CARD IS WHAT COUNTS. Prove the row's statement (the work); the ties are given (YtmjecabkffiabaaGreatDoorTie.lean); close each card by the builder's one call (the guide's Derived/Test/ToyasCard.lean, 'card_holds'). Laid BY PROGRAM, IN A SANDBOX (cutbox-door.mjs). By AI agents, Wed Nov 11 2026. No macro, syntax, notation, axiom, sorry.
-/
import Derived.Test.YtmjecabkffiabaaGreatDoorRows
import GoSem.ClaimSeven
namespace Go.Proofs.YtmjecabkffiabaaGreatDoor
namespace Rows

/-- THE TIED CARD OF 'drydocklaw18.ColumnsRooms'. -/
def columnsRoomsCard : Claim7 := { stood := { row := columnsRoomsRow, standIns := [], harness := (true, "007a8146c2475cec8ec3a8f689b452f7664328dc4c395bddcdc9b9da7490e59d"), looks := false }, kinds := [], alts := [], laidByText := true, laidKinds := [.data, .data, .data], laidTests := true, laidLooks := .later }
def ColumnsRoomsCardSaid : Prop := Claim7.holds Tryz.pinned (.plain (OpenSpec.ofChange columnsRoomsSpec)) columnsRoomsCard

/-- THE SECOND FORM's CARD OF 'drydocklaw18.ColumnsRooms'. -/
def columnsRoomsUptoCard : Claim7 := { stood := { row := columnsRoomsUptoRow, standIns := [], harness := (true, "007a8146c2475cec8ec3a8f689b452f7664328dc4c395bddcdc9b9da7490e59d"), looks := false }, kinds := [], alts := [], laidByText := true, laidKinds := [.data, .data, .data], laidTests := true, laidLooks := .later }
def ColumnsRoomsUptoCardSaid : Prop := Claim7.holds Tryz.pinned (.plain (OpenSpec.upto columnsRoomsSpec)) columnsRoomsUptoCard
end Rows
end Go.Proofs.YtmjecabkffiabaaGreatDoor
