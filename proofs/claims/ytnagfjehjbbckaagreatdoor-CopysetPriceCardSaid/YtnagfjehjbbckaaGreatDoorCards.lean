/-
  DERIVED. GIVEN WITH THE SEED: THE CARDS: each row of YtnagfjehjbbckaaGreatDoorRows.lean that lists a variable, with what it lists TIED to the program's text (the seventh form; the later family's looks); each row that meets fmt, with fmt's text TOLD by the authors' own Lean function (tested against real Go, not proved from fmt's source: count such statements apart). THE CARD IS WHAT COUNTS. Prove the row's statement (the work); the ties are given (YtnagfjehjbbckaaGreatDoorTie.lean); close each card by the builder's one call (the guide's Derived/Test/ToyasCard.lean, 'card_holds'). Laid BY PROGRAM, IN A SANDBOX (cutbox-door.mjs). By AI agents, Wed Nov 11 2026. No macro, syntax, notation, axiom, sorry.
-/
import Derived.Test.YtnagfjehjbbckaaGreatDoorRows
import GoSem.ClaimSeven
namespace Go.Proofs.YtnagfjehjbbckaaGreatDoor
namespace Rows

/-- THE TIED CARD OF 'drydocklaw17.CopysetPrice'. -/
def copysetPriceCard : Claim7 := { stood := { row := copysetPriceRow, standIns := [], harness := (true, "c847c1ff7fce4549af16ae78c93f2bb3124acbe7246b27670d5e773cd9b7e619"), looks := false }, kinds := [], alts := [], laidByText := true, laidKinds := [.data, .data, .data], laidTests := true, laidLooks := .later }
def CopysetPriceCardSaid : Prop := Claim7.holds Tryz.pinned (.plain (OpenSpec.ofChange copysetPriceSpec)) copysetPriceCard

/-- THE TIED CARD OF 'drydocklaw17.CopysetLeast'. -/
def copysetLeastCard : Claim7 := { stood := { row := copysetLeastRow, standIns := [], harness := (true, "c847c1ff7fce4549af16ae78c93f2bb3124acbe7246b27670d5e773cd9b7e619"), looks := false }, kinds := [], alts := [], laidByText := true, laidKinds := [.data, .data, .data], laidTests := true, laidLooks := .later }
def CopysetLeastCardSaid : Prop := Claim7.holds Tryz.pinned (.plain (OpenSpec.ofChange copysetLeastSpec)) copysetLeastCard

/-- THE TIED CARD OF 'drydocklaw17.CopysetHolds'. -/
def copysetHoldsCard : Claim7 := { stood := { row := copysetHoldsRow, standIns := [], harness := (true, "c847c1ff7fce4549af16ae78c93f2bb3124acbe7246b27670d5e773cd9b7e619"), looks := false }, kinds := [], alts := [], laidByText := true, laidKinds := [.data, .data, .data], laidTests := true, laidLooks := .later }
def CopysetHoldsCardSaid : Prop := Claim7.holds Tryz.pinned (.plain (OpenSpec.ofChange copysetHoldsSpec)) copysetHoldsCard

/-- THE SECOND FORM's CARD OF 'drydocklaw17.CopysetPrice'. -/
def copysetPriceUptoCard : Claim7 := { stood := { row := copysetPriceUptoRow, standIns := [], harness := (true, "c847c1ff7fce4549af16ae78c93f2bb3124acbe7246b27670d5e773cd9b7e619"), looks := false }, kinds := [], alts := [], laidByText := true, laidKinds := [.data, .data, .data], laidTests := true, laidLooks := .later }
def CopysetPriceUptoCardSaid : Prop := Claim7.holds Tryz.pinned (.plain (OpenSpec.upto copysetPriceSpec)) copysetPriceUptoCard

/-- THE SECOND FORM's CARD OF 'drydocklaw17.CopysetLeast'. -/
def copysetLeastUptoCard : Claim7 := { stood := { row := copysetLeastUptoRow, standIns := [], harness := (true, "c847c1ff7fce4549af16ae78c93f2bb3124acbe7246b27670d5e773cd9b7e619"), looks := false }, kinds := [], alts := [], laidByText := true, laidKinds := [.data, .data, .data], laidTests := true, laidLooks := .later }
def CopysetLeastUptoCardSaid : Prop := Claim7.holds Tryz.pinned (.plain (OpenSpec.upto copysetLeastSpec)) copysetLeastUptoCard

/-- THE SECOND FORM's CARD OF 'drydocklaw17.CopysetHolds'. -/
def copysetHoldsUptoCard : Claim7 := { stood := { row := copysetHoldsUptoRow, standIns := [], harness := (true, "c847c1ff7fce4549af16ae78c93f2bb3124acbe7246b27670d5e773cd9b7e619"), looks := false }, kinds := [], alts := [], laidByText := true, laidKinds := [.data, .data, .data], laidTests := true, laidLooks := .later }
def CopysetHoldsUptoCardSaid : Prop := Claim7.holds Tryz.pinned (.plain (OpenSpec.upto copysetHoldsSpec)) copysetHoldsUptoCard
end Rows
end Go.Proofs.YtnagfjehjbbckaaGreatDoor
