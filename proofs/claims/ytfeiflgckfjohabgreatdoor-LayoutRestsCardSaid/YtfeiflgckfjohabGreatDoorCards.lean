/-
  DERIVED. GIVEN WITH THE SEED: THE CARDS: each row of YtfeiflgckfjohabGreatDoorRows.lean that lists a variable, with what it lists TIED to the program's text (the seventh form; the later family's looks); each row that meets fmt, with fmt's text TOLD by the authors' own Lean function (tested against real Go, not proved from fmt's source: count such statements apart). THE CARD IS WHAT COUNTS. Prove the row's statement (the work); the ties are given (YtfeiflgckfjohabGreatDoorTie.lean); close each card by the builder's one call (the guide's Derived/Test/ToyasCard.lean, 'card_holds'). Laid BY PROGRAM, IN A SANDBOX (cutbox-door.mjs). By AI agents, Wed Nov 11 2026. No macro, syntax, notation, axiom, sorry.
-/
import Derived.Test.YtfeiflgckfjohabGreatDoorRows
import GoSem.ClaimSeven
namespace Go.Proofs.YtfeiflgckfjohabGreatDoor
namespace Rows

/-- THE TIED CARD OF 'drydocklaw19.LayoutRests'. -/
def layoutRestsCard : Claim7 := { stood := { row := layoutRestsRow, standIns := [], harness := (true, "a091f7145225163e08695ce661df37abed95068a3106ea6bac01af64a8469654"), looks := false }, kinds := [], alts := [], laidByText := true, laidKinds := [.data, .data, .data], laidTests := true, laidLooks := .later }
def LayoutRestsCardSaid : Prop := Claim7.holds Tryz.pinned (.plain (OpenSpec.ofChange layoutRestsSpec)) layoutRestsCard

/-- THE SECOND FORM's CARD OF 'drydocklaw19.LayoutRests'. -/
def layoutRestsUptoCard : Claim7 := { stood := { row := layoutRestsUptoRow, standIns := [], harness := (true, "a091f7145225163e08695ce661df37abed95068a3106ea6bac01af64a8469654"), looks := false }, kinds := [], alts := [], laidByText := true, laidKinds := [.data, .data, .data], laidTests := true, laidLooks := .later }
def LayoutRestsUptoCardSaid : Prop := Claim7.holds Tryz.pinned (.plain (OpenSpec.upto layoutRestsSpec)) layoutRestsUptoCard
end Rows
end Go.Proofs.YtfeiflgckfjohabGreatDoor
