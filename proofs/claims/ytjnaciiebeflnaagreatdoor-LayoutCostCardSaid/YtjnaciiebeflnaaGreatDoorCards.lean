/-
  DERIVED. GIVEN WITH THE SEED: THE CARDS: each row of YtjnaciiebeflnaaGreatDoorRows.lean that lists a variable, with what it lists TIED to the program's text (the seventh form; the later family's looks); each row that meets fmt, with fmt's text TOLD by the authors' own Lean function (tested against real Go, not proved from fmt's source: count such statements apart). THE CARD IS WHAT COUNTS. Prove the row's statement (the work); the ties are given (YtjnaciiebeflnaaGreatDoorTie.lean); close each card by the builder's one call (the guide's Derived/Test/ToyasCard.lean, 'card_holds'). Laid BY PROGRAM, IN A SANDBOX (cutbox-door.mjs). By AI agents, Wed Nov 11 2026. No macro, syntax, notation, axiom, sorry.
-/
import Derived.Test.YtjnaciiebeflnaaGreatDoorRows
import GoSem.ClaimSeven
namespace Go.Proofs.YtjnaciiebeflnaaGreatDoor
namespace Rows

/-- THE TIED CARD OF 'drydocklaw19.LayoutCost'. -/
def layoutCostCard : Claim7 := { stood := { row := layoutCostRow, standIns := [], harness := (true, "6edb792ae64defe0e17d967aecd93fdf22d25c38389ffec53d3d75db5feda608"), looks := false }, kinds := [], alts := [], laidByText := true, laidKinds := [.data, .data, .data], laidTests := true, laidLooks := .later }
def LayoutCostCardSaid : Prop := Claim7.holds Tryz.pinned (.plain (OpenSpec.ofChange layoutCostSpec)) layoutCostCard

/-- THE SECOND FORM's CARD OF 'drydocklaw19.LayoutCost'. -/
def layoutCostUptoCard : Claim7 := { stood := { row := layoutCostUptoRow, standIns := [], harness := (true, "6edb792ae64defe0e17d967aecd93fdf22d25c38389ffec53d3d75db5feda608"), looks := false }, kinds := [], alts := [], laidByText := true, laidKinds := [.data, .data, .data], laidTests := true, laidLooks := .later }
def LayoutCostUptoCardSaid : Prop := Claim7.holds Tryz.pinned (.plain (OpenSpec.upto layoutCostSpec)) layoutCostUptoCard
end Rows
end Go.Proofs.YtjnaciiebeflnaaGreatDoor
