/-
  DERIVED. GIVEN WITH THE SEED: THE CARDS: each row of YtgfeljaimmnmmaaGreatDoorRows.lean that lists a variable, with what it lists TIED to the program's text (the seventh form; the later family's looks); each row that meets fmt, with fmt's text TOLD by the authors' own Lean function (tested against real Go, not proved from fmt's source: count such statements apart). THE CARD IS WHAT COUNTS. Prove the row's statement (the work); the ties are given (YtgfeljaimmnmmaaGreatDoorTie.lean); close each card by the builder's one call (the guide's Derived/Test/ToyasCard.lean, 'card_holds'). Laid BY PROGRAM, IN A SANDBOX (cutbox-door.mjs). By AI agents, Wed Nov 11 2026. No macro, syntax, notation, axiom, sorry.
-/
import Derived.Test.YtgfeljaimmnmmaaGreatDoorRows
import GoSem.ClaimSeven
namespace Go.Proofs.YtgfeljaimmnmmaaGreatDoor
namespace Rows

/-- THE TIED CARD OF 'drydocklaw17.CopysetAll'. -/
def copysetAllCard : Claim7 := { stood := { row := copysetAllRow, standIns := [], harness := (true, "416719fd36fcf2340e9414b63f7ec7fe803d16726753b5c6cccafeac3546cf3e"), looks := false }, kinds := [], alts := [], laidByText := true, laidKinds := [.data, .data, .data], laidTests := true, laidLooks := .later }
def CopysetAllCardSaid : Prop := Claim7.holds Tryz.pinned (.plain (OpenSpec.ofChange copysetAllSpec)) copysetAllCard

/-- THE TIED CARD OF 'drydocklaw17.CopysetScenarios'. -/
def copysetScenariosCard : Claim7 := { stood := { row := copysetScenariosRow, standIns := [], harness := (true, "416719fd36fcf2340e9414b63f7ec7fe803d16726753b5c6cccafeac3546cf3e"), looks := false }, kinds := [], alts := [], laidByText := true, laidKinds := [.data, .data, .data], laidTests := true, laidLooks := .later }
def CopysetScenariosCardSaid : Prop := Claim7.holds Tryz.pinned (.plain (OpenSpec.ofChange copysetScenariosSpec)) copysetScenariosCard

/-- THE TIED CARD OF 'drydocklaw17.CopysetRaw'. -/
def copysetRawCard : Claim7 := { stood := { row := copysetRawRow, standIns := [], harness := (true, "416719fd36fcf2340e9414b63f7ec7fe803d16726753b5c6cccafeac3546cf3e"), looks := false }, kinds := [], alts := [], laidByText := true, laidKinds := [.data, .data, .data], laidTests := true, laidLooks := .later }
def CopysetRawCardSaid : Prop := Claim7.holds Tryz.pinned (.plain (OpenSpec.ofChange copysetRawSpec)) copysetRawCard

/-- THE TIED CARD OF 'drydocklaw17.CopysetLosses'. -/
def copysetLossesCard : Claim7 := { stood := { row := copysetLossesRow, standIns := [], harness := (true, "416719fd36fcf2340e9414b63f7ec7fe803d16726753b5c6cccafeac3546cf3e"), looks := false }, kinds := [], alts := [], laidByText := true, laidKinds := [.data, .data, .data], laidTests := true, laidLooks := .later }
def CopysetLossesCardSaid : Prop := Claim7.holds Tryz.pinned (.plain (OpenSpec.ofChange copysetLossesSpec)) copysetLossesCard

/-- THE TIED CARD OF 'drydocklaw17.CopysetGrows'. -/
def copysetGrowsCard : Claim7 := { stood := { row := copysetGrowsRow, standIns := [], harness := (true, "416719fd36fcf2340e9414b63f7ec7fe803d16726753b5c6cccafeac3546cf3e"), looks := false }, kinds := [], alts := [], laidByText := true, laidKinds := [.data, .data, .data], laidTests := true, laidLooks := .later }
def CopysetGrowsCardSaid : Prop := Claim7.holds Tryz.pinned (.plain (OpenSpec.ofChange copysetGrowsSpec)) copysetGrowsCard

/-- THE SECOND FORM's CARD OF 'drydocklaw17.CopysetAll'. -/
def copysetAllUptoCard : Claim7 := { stood := { row := copysetAllUptoRow, standIns := [], harness := (true, "416719fd36fcf2340e9414b63f7ec7fe803d16726753b5c6cccafeac3546cf3e"), looks := false }, kinds := [], alts := [], laidByText := true, laidKinds := [.data, .data, .data], laidTests := true, laidLooks := .later }
def CopysetAllUptoCardSaid : Prop := Claim7.holds Tryz.pinned (.plain (OpenSpec.upto copysetAllSpec)) copysetAllUptoCard

/-- THE SECOND FORM's CARD OF 'drydocklaw17.CopysetScenarios'. -/
def copysetScenariosUptoCard : Claim7 := { stood := { row := copysetScenariosUptoRow, standIns := [], harness := (true, "416719fd36fcf2340e9414b63f7ec7fe803d16726753b5c6cccafeac3546cf3e"), looks := false }, kinds := [], alts := [], laidByText := true, laidKinds := [.data, .data, .data], laidTests := true, laidLooks := .later }
def CopysetScenariosUptoCardSaid : Prop := Claim7.holds Tryz.pinned (.plain (OpenSpec.upto copysetScenariosSpec)) copysetScenariosUptoCard

/-- THE SECOND FORM's CARD OF 'drydocklaw17.CopysetRaw'. -/
def copysetRawUptoCard : Claim7 := { stood := { row := copysetRawUptoRow, standIns := [], harness := (true, "416719fd36fcf2340e9414b63f7ec7fe803d16726753b5c6cccafeac3546cf3e"), looks := false }, kinds := [], alts := [], laidByText := true, laidKinds := [.data, .data, .data], laidTests := true, laidLooks := .later }
def CopysetRawUptoCardSaid : Prop := Claim7.holds Tryz.pinned (.plain (OpenSpec.upto copysetRawSpec)) copysetRawUptoCard

/-- THE SECOND FORM's CARD OF 'drydocklaw17.CopysetLosses'. -/
def copysetLossesUptoCard : Claim7 := { stood := { row := copysetLossesUptoRow, standIns := [], harness := (true, "416719fd36fcf2340e9414b63f7ec7fe803d16726753b5c6cccafeac3546cf3e"), looks := false }, kinds := [], alts := [], laidByText := true, laidKinds := [.data, .data, .data], laidTests := true, laidLooks := .later }
def CopysetLossesUptoCardSaid : Prop := Claim7.holds Tryz.pinned (.plain (OpenSpec.upto copysetLossesSpec)) copysetLossesUptoCard

/-- THE SECOND FORM's CARD OF 'drydocklaw17.CopysetGrows'. -/
def copysetGrowsUptoCard : Claim7 := { stood := { row := copysetGrowsUptoRow, standIns := [], harness := (true, "416719fd36fcf2340e9414b63f7ec7fe803d16726753b5c6cccafeac3546cf3e"), looks := false }, kinds := [], alts := [], laidByText := true, laidKinds := [.data, .data, .data], laidTests := true, laidLooks := .later }
def CopysetGrowsUptoCardSaid : Prop := Claim7.holds Tryz.pinned (.plain (OpenSpec.upto copysetGrowsSpec)) copysetGrowsUptoCard
end Rows
end Go.Proofs.YtgfeljaimmnmmaaGreatDoor
