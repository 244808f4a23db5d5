/-
  DERIVED. GIVEN WITH THE SEED: THE CARDS: each row of YtjlbgiaeggfcaaaGreatDoorRows.lean that lists a variable, with what it lists TIED to the program's text (the seventh form; the later family's looks); each row that meets fmt, with fmt's text TOLD by the authors' own Lean function (tested against real Go, not proved from fmt's source: count such statements apart). THE CARD IS WHAT COUNTS. Prove the row's statement (the work); the ties are given (YtjlbgiaeggfcaaaGreatDoorTie.lean); close each card by the builder's one call (the guide's Derived/Test/ToyasCard.lean, 'card_holds'). Laid BY PROGRAM, IN A SANDBOX (cutbox-door.mjs). By AI agents, Wed Nov 11 2026. No macro, syntax, notation, axiom, sorry.
-/
import Derived.Test.YtjlbgiaeggfcaaaGreatDoorRows
import GoSem.ClaimSeven
namespace Go.Proofs.YtjlbgiaeggfcaaaGreatDoor
namespace Rows

/-- THE TIED CARD OF 'drydocklaw18.ColumnsPriced'. -/
def columnsPricedCard : Claim7 := { stood := { row := columnsPricedRow, standIns := [], harness := (true, "b689222283047f849e1e357ab8d78e3a168c359d837e4fe16737dfd3a0b20585"), looks := false }, kinds := [], alts := [], laidByText := true, laidKinds := [.data, .data, .data], laidTests := true, laidLooks := .later }
def ColumnsPricedCardSaid : Prop := Claim7.holds Tryz.pinned (.plain (OpenSpec.ofChange columnsPricedSpec)) columnsPricedCard

/-- THE SECOND FORM's CARD OF 'drydocklaw18.ColumnsPriced'. -/
def columnsPricedUptoCard : Claim7 := { stood := { row := columnsPricedUptoRow, standIns := [], harness := (true, "b689222283047f849e1e357ab8d78e3a168c359d837e4fe16737dfd3a0b20585"), looks := false }, kinds := [], alts := [], laidByText := true, laidKinds := [.data, .data, .data], laidTests := true, laidLooks := .later }
def ColumnsPricedUptoCardSaid : Prop := Claim7.holds Tryz.pinned (.plain (OpenSpec.upto columnsPricedSpec)) columnsPricedUptoCard
end Rows
end Go.Proofs.YtjlbgiaeggfcaaaGreatDoor
