/-
  DERIVED. GIVEN WITH THE SEED: THE CARDS: each row of YtkknafmijabgaaaGreatDoorRows.lean that lists a variable, with what it lists TIED to the program's text (the seventh form; the later family's looks); each row that meets fmt, with fmt's text TOLD by the authors' own Lean function (tested against real Go, not proved from fmt's source: count such statements apart). THE CARD IS WHAT COUNTS. Prove the row's statement (the work); the ties are given (YtkknafmijabgaaaGreatDoorTie.lean); close each card by the builder's one call (the guide's Derived/Test/ToyasCard.lean, 'card_holds'). Laid BY PROGRAM, IN A SANDBOX (cutbox-door.mjs). By AI agents, Wed Nov 11 2026. No macro, syntax, notation, axiom, sorry.
-/
import Derived.Test.YtkknafmijabgaaaGreatDoorRows
import GoSem.ClaimSeven
namespace Go.Proofs.YtkknafmijabgaaaGreatDoor
namespace Rows

/-- THE TIED CARD OF 'drydocklaw14.FeasibleNetwork'. -/
def feasibleNetworkCard : Claim7 := { stood := { row := feasibleNetworkRow, standIns := [], harness := (true, "1abc24bc01dfb624e2255950c5e5bd558c8c8f8e9041aaebe6d78b793c91b757"), looks := false }, kinds := [], alts := [], laidByText := true, laidKinds := [.data, .data, .data], laidTests := true, laidLooks := .later }
def FeasibleNetworkCardSaid : Prop := Claim7.holds Tryz.pinned (.plain (OpenSpec.ofChange feasibleNetworkSpec)) feasibleNetworkCard

/-- THE TIED CARD OF 'drydocklaw14.FeasibleRaw'. -/
def feasibleRawCard : Claim7 := { stood := { row := feasibleRawRow, standIns := [], harness := (true, "1abc24bc01dfb624e2255950c5e5bd558c8c8f8e9041aaebe6d78b793c91b757"), looks := false }, kinds := [], alts := [], laidByText := true, laidKinds := [.data, .data, .data], laidTests := true, laidLooks := .later }
def FeasibleRawCardSaid : Prop := Claim7.holds Tryz.pinned (.plain (OpenSpec.ofChange feasibleRawSpec)) feasibleRawCard

/-- THE TIED CARD OF 'drydocklaw14.FeasibleCuts'. -/
def feasibleCutsCard : Claim7 := { stood := { row := feasibleCutsRow, standIns := [], harness := (true, "1abc24bc01dfb624e2255950c5e5bd558c8c8f8e9041aaebe6d78b793c91b757"), looks := false }, kinds := [], alts := [], laidByText := true, laidKinds := [.data, .data, .data], laidTests := true, laidLooks := .later }
def FeasibleCutsCardSaid : Prop := Claim7.holds Tryz.pinned (.plain (OpenSpec.ofChange feasibleCutsSpec)) feasibleCutsCard

/-- THE TIED CARD OF 'drydocklaw14.FeasibleGrows'. -/
def feasibleGrowsCard : Claim7 := { stood := { row := feasibleGrowsRow, standIns := [], harness := (true, "1abc24bc01dfb624e2255950c5e5bd558c8c8f8e9041aaebe6d78b793c91b757"), looks := false }, kinds := [], alts := [], laidByText := true, laidKinds := [.data, .data, .data], laidTests := true, laidLooks := .later }
def FeasibleGrowsCardSaid : Prop := Claim7.holds Tryz.pinned (.plain (OpenSpec.ofChange feasibleGrowsSpec)) feasibleGrowsCard

/-- THE TIED CARD OF 'drydocklaw14.FeasibleAlone'. -/
def feasibleAloneCard : Claim7 := { stood := { row := feasibleAloneRow, standIns := [], harness := (true, "1abc24bc01dfb624e2255950c5e5bd558c8c8f8e9041aaebe6d78b793c91b757"), looks := false }, kinds := [], alts := [], laidByText := true, laidKinds := [.data, .data, .data], laidTests := true, laidLooks := .later }
def FeasibleAloneCardSaid : Prop := Claim7.holds Tryz.pinned (.plain (OpenSpec.ofChange feasibleAloneSpec)) feasibleAloneCard

/-- THE TIED CARD OF 'drydocklaw14.FeasibleDecides'. -/
def feasibleDecidesCard : Claim7 := { stood := { row := feasibleDecidesRow, standIns := [], harness := (true, "1abc24bc01dfb624e2255950c5e5bd558c8c8f8e9041aaebe6d78b793c91b757"), looks := false }, kinds := [], alts := [], laidByText := true, laidKinds := [.data, .data, .data], laidTests := true, laidLooks := .later }
def FeasibleDecidesCardSaid : Prop := Claim7.holds Tryz.pinned (.plain (OpenSpec.ofChange feasibleDecidesSpec)) feasibleDecidesCard

/-- THE TIED CARD OF 'drydocklaw14.FeasibleSound'. -/
def feasibleSoundCard : Claim7 := { stood := { row := feasibleSoundRow, standIns := [], harness := (true, "1abc24bc01dfb624e2255950c5e5bd558c8c8f8e9041aaebe6d78b793c91b757"), looks := false }, kinds := [], alts := [], laidByText := true, laidKinds := [.data, .data, .data], laidTests := true, laidLooks := .later }
def FeasibleSoundCardSaid : Prop := Claim7.holds Tryz.pinned (.plain (OpenSpec.ofChange feasibleSoundSpec)) feasibleSoundCard

/-- THE SECOND FORM's CARD OF 'drydocklaw14.FeasibleNetwork'. -/
def feasibleNetworkUptoCard : Claim7 := { stood := { row := feasibleNetworkUptoRow, standIns := [], harness := (true, "1abc24bc01dfb624e2255950c5e5bd558c8c8f8e9041aaebe6d78b793c91b757"), looks := false }, kinds := [], alts := [], laidByText := true, laidKinds := [.data, .data, .data], laidTests := true, laidLooks := .later }
def FeasibleNetworkUptoCardSaid : Prop := Claim7.holds Tryz.pinned (.plain (OpenSpec.upto feasibleNetworkSpec)) feasibleNetworkUptoCard

/-- THE SECOND FORM's CARD OF 'drydocklaw14.FeasibleRaw'. -/
def feasibleRawUptoCard : Claim7 := { stood := { row := feasibleRawUptoRow, standIns := [], harness := (true, "1abc24bc01dfb624e2255950c5e5bd558c8c8f8e9041aaebe6d78b793c91b757"), looks := false }, kinds := [], alts := [], laidByText := true, laidKinds := [.data, .data, .data], laidTests := true, laidLooks := .later }
def FeasibleRawUptoCardSaid : Prop := Claim7.holds Tryz.pinned (.plain (OpenSpec.upto feasibleRawSpec)) feasibleRawUptoCard

/-- THE SECOND FORM's CARD OF 'drydocklaw14.FeasibleCuts'. -/
def feasibleCutsUptoCard : Claim7 := { stood := { row := feasibleCutsUptoRow, standIns := [], harness := (true, "1abc24bc01dfb624e2255950c5e5bd558c8c8f8e9041aaebe6d78b793c91b757"), looks := false }, kinds := [], alts := [], laidByText := true, laidKinds := [.data, .data, .data], laidTests := true, laidLooks := .later }
def FeasibleCutsUptoCardSaid : Prop := Claim7.holds Tryz.pinned (.plain (OpenSpec.upto feasibleCutsSpec)) feasibleCutsUptoCard

/-- THE SECOND FORM's CARD OF 'drydocklaw14.FeasibleGrows'. -/
def feasibleGrowsUptoCard : Claim7 := { stood := { row := feasibleGrowsUptoRow, standIns := [], harness := (true, "1abc24bc01dfb624e2255950c5e5bd558c8c8f8e9041aaebe6d78b793c91b757"), looks := false }, kinds := [], alts := [], laidByText := true, laidKinds := [.data, .data, .data], laidTests := true, laidLooks := .later }
def FeasibleGrowsUptoCardSaid : Prop := Claim7.holds Tryz.pinned (.plain (OpenSpec.upto feasibleGrowsSpec)) feasibleGrowsUptoCard

/-- THE SECOND FORM's CARD OF 'drydocklaw14.FeasibleAlone'. -/
def feasibleAloneUptoCard : Claim7 := { stood := { row := feasibleAloneUptoRow, standIns := [], harness := (true, "1abc24bc01dfb624e2255950c5e5bd558c8c8f8e9041aaebe6d78b793c91b757"), looks := false }, kinds := [], alts := [], laidByText := true, laidKinds := [.data, .data, .data], laidTests := true, laidLooks := .later }
def FeasibleAloneUptoCardSaid : Prop := Claim7.holds Tryz.pinned (.plain (OpenSpec.upto feasibleAloneSpec)) feasibleAloneUptoCard

/-- THE SECOND FORM's CARD OF 'drydocklaw14.FeasibleDecides'. -/
def feasibleDecidesUptoCard : Claim7 := { stood := { row := feasibleDecidesUptoRow, standIns := [], harness := (true, "1abc24bc01dfb624e2255950c5e5bd558c8c8f8e9041aaebe6d78b793c91b757"), looks := false }, kinds := [], alts := [], laidByText := true, laidKinds := [.data, .data, .data], laidTests := true, laidLooks := .later }
def FeasibleDecidesUptoCardSaid : Prop := Claim7.holds Tryz.pinned (.plain (OpenSpec.upto feasibleDecidesSpec)) feasibleDecidesUptoCard

/-- THE SECOND FORM's CARD OF 'drydocklaw14.FeasibleSound'. -/
def feasibleSoundUptoCard : Claim7 := { stood := { row := feasibleSoundUptoRow, standIns := [], harness := (true, "1abc24bc01dfb624e2255950c5e5bd558c8c8f8e9041aaebe6d78b793c91b757"), looks := false }, kinds := [], alts := [], laidByText := true, laidKinds := [.data, .data, .data], laidTests := true, laidLooks := .later }
def FeasibleSoundUptoCardSaid : Prop := Claim7.holds Tryz.pinned (.plain (OpenSpec.upto feasibleSoundSpec)) feasibleSoundUptoCard
end Rows
end Go.Proofs.YtkknafmijabgaaaGreatDoor
