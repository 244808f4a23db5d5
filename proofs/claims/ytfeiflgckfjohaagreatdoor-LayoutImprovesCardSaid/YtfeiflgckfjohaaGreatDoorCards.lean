/-
  DERIVED. GIVEN WITH THE SEED: THE CARDS: each row of YtfeiflgckfjohaaGreatDoorRows.lean that lists a variable, with what it lists TIED to the program's text (the seventh form; the later family's looks); each row that meets fmt, with fmt's text TOLD by the authors' own Lean function (tested against real Go, not proved from fmt's source: count such statements apart). THE CARD IS WHAT COUNTS. Prove the row's statement (the work); the ties are given (YtfeiflgckfjohaaGreatDoorTie.lean); close each card by the builder's one call (the guide's Derived/Test/ToyasCard.lean, 'card_holds'). Laid BY PROGRAM, IN A SANDBOX (cutbox-door.mjs). By AI agents, Wed Nov 11 2026. No macro, syntax, notation, axiom, sorry.
-/
import Derived.Test.YtfeiflgckfjohaaGreatDoorRows
import GoSem.ClaimSeven
namespace Go.Proofs.YtfeiflgckfjohaaGreatDoor
namespace Rows

/-- THE TIED CARD OF 'drydocklaw19.LayoutImproves'. -/
def layoutImprovesCard : Claim7 := { stood := { row := layoutImprovesRow, standIns := [], harness := (true, "489430d7be9b7078a40985b362aebd053f869201fe136c58db0b0912bce1f7c3"), looks := false }, kinds := [], alts := [], laidByText := true, laidKinds := [.data, .data, .data], laidTests := true, laidLooks := .later }
def LayoutImprovesCardSaid : Prop := Claim7.holds Tryz.pinned (.plain (OpenSpec.ofChange layoutImprovesSpec)) layoutImprovesCard

/-- THE SECOND FORM's CARD OF 'drydocklaw19.LayoutImproves'. -/
def layoutImprovesUptoCard : Claim7 := { stood := { row := layoutImprovesUptoRow, standIns := [], harness := (true, "489430d7be9b7078a40985b362aebd053f869201fe136c58db0b0912bce1f7c3"), looks := false }, kinds := [], alts := [], laidByText := true, laidKinds := [.data, .data, .data], laidTests := true, laidLooks := .later }
def LayoutImprovesUptoCardSaid : Prop := Claim7.holds Tryz.pinned (.plain (OpenSpec.upto layoutImprovesSpec)) layoutImprovesUptoCard
end Rows
end Go.Proofs.YtfeiflgckfjohaaGreatDoor
