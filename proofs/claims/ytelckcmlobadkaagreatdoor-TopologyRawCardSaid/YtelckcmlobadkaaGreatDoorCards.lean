/-
  DERIVED. GIVEN WITH THE SEED: THE CARDS: each row of YtelckcmlobadkaaGreatDoorRows.lean that lists a variable, with what it lists TIED to the program's text (the seventh form; the later family's looks); each row that meets fmt, with fmt's text TOLD by the authors' own Lean function (tested against real Go, not proved from fmt's source: count such statements apart). THE CARD IS WHAT COUNTS. Prove the row's statement (the work); the ties are given (YtelckcmlobadkaaGreatDoorTie.lean); close each card by the builder's one call (the guide's Derived/Test/ToyasCard.lean, 'card_holds'). Laid BY PROGRAM, IN A SANDBOX (cutbox-door.mjs). By AI agents, Wed Nov 11 2026. No macro, syntax, notation, axiom, sorry.
-/
import Derived.Test.YtelckcmlobadkaaGreatDoorRows
import GoSem.ClaimSeven
namespace Go.Proofs.YtelckcmlobadkaaGreatDoor
namespace Rows

/-- THE TIED CARD OF 'drydocklaw11.TopologyCounts'. -/
def topologyCountsCard : Claim7 := { stood := { row := topologyCountsRow, standIns := [], harness := (true, "0274820c616a522d60ae96bb3bb76ba88db858f1cec11c98534319f0edbce220"), looks := false }, kinds := [], alts := [], laidByText := true, laidKinds := [.data, .data, .data], laidTests := true, laidLooks := .later }
def TopologyCountsCardSaid : Prop := Claim7.holds Tryz.pinned (.plain (OpenSpec.ofChange topologyCountsSpec)) topologyCountsCard

/-- THE TIED CARD OF 'drydocklaw11.TopologyRooms'. -/
def topologyRoomsCard : Claim7 := { stood := { row := topologyRoomsRow, standIns := [], harness := (true, "0274820c616a522d60ae96bb3bb76ba88db858f1cec11c98534319f0edbce220"), looks := false }, kinds := [], alts := [], laidByText := true, laidKinds := [.data, .data, .data], laidTests := true, laidLooks := .later }
def TopologyRoomsCardSaid : Prop := Claim7.holds Tryz.pinned (.plain (OpenSpec.ofChange topologyRoomsSpec)) topologyRoomsCard

/-- THE TIED CARD OF 'drydocklaw11.TopologyMoves'. -/
def topologyMovesCard : Claim7 := { stood := { row := topologyMovesRow, standIns := [], harness := (true, "0274820c616a522d60ae96bb3bb76ba88db858f1cec11c98534319f0edbce220"), looks := false }, kinds := [], alts := [], laidByText := true, laidKinds := [.data, .data, .data], laidTests := true, laidLooks := .later }
def TopologyMovesCardSaid : Prop := Claim7.holds Tryz.pinned (.plain (OpenSpec.ofChange topologyMovesSpec)) topologyMovesCard

/-- THE TIED CARD OF 'drydocklaw11.TopologyTree'. -/
def topologyTreeCard : Claim7 := { stood := { row := topologyTreeRow, standIns := [], harness := (true, "0274820c616a522d60ae96bb3bb76ba88db858f1cec11c98534319f0edbce220"), looks := false }, kinds := [], alts := [], laidByText := true, laidKinds := [.data, .data, .data], laidTests := true, laidLooks := .later }
def TopologyTreeCardSaid : Prop := Claim7.holds Tryz.pinned (.plain (OpenSpec.ofChange topologyTreeSpec)) topologyTreeCard

/-- THE TIED CARD OF 'drydocklaw11.TopologyExact'. -/
def topologyExactCard : Claim7 := { stood := { row := topologyExactRow, standIns := [], harness := (true, "0274820c616a522d60ae96bb3bb76ba88db858f1cec11c98534319f0edbce220"), looks := false }, kinds := [], alts := [], laidByText := true, laidKinds := [.data, .data, .data], laidTests := true, laidLooks := .later }
def TopologyExactCardSaid : Prop := Claim7.holds Tryz.pinned (.plain (OpenSpec.ofChange topologyExactSpec)) topologyExactCard

/-- THE TIED CARD OF 'drydocklaw11.TopologyRaw'. -/
def topologyRawCard : Claim7 := { stood := { row := topologyRawRow, standIns := [], harness := (true, "0274820c616a522d60ae96bb3bb76ba88db858f1cec11c98534319f0edbce220"), looks := false }, kinds := [], alts := [], laidByText := true, laidKinds := [.data, .data, .data], laidTests := true, laidLooks := .later }
def TopologyRawCardSaid : Prop := Claim7.holds Tryz.pinned (.plain (OpenSpec.ofChange topologyRawSpec)) topologyRawCard

/-- THE TIED CARD OF 'drydocklaw11.TopologyMade'. -/
def topologyMadeCard : Claim7 := { stood := { row := topologyMadeRow, standIns := [], harness := (true, "0274820c616a522d60ae96bb3bb76ba88db858f1cec11c98534319f0edbce220"), looks := false }, kinds := [], alts := [], laidByText := true, laidKinds := [.data, .data, .data], laidTests := true, laidLooks := .later }
def TopologyMadeCardSaid : Prop := Claim7.holds Tryz.pinned (.plain (OpenSpec.ofChange topologyMadeSpec)) topologyMadeCard

/-- THE SECOND FORM's CARD OF 'drydocklaw11.TopologyCounts'. -/
def topologyCountsUptoCard : Claim7 := { stood := { row := topologyCountsUptoRow, standIns := [], harness := (true, "0274820c616a522d60ae96bb3bb76ba88db858f1cec11c98534319f0edbce220"), looks := false }, kinds := [], alts := [], laidByText := true, laidKinds := [.data, .data, .data], laidTests := true, laidLooks := .later }
def TopologyCountsUptoCardSaid : Prop := Claim7.holds Tryz.pinned (.plain (OpenSpec.upto topologyCountsSpec)) topologyCountsUptoCard

/-- THE SECOND FORM's CARD OF 'drydocklaw11.TopologyRooms'. -/
def topologyRoomsUptoCard : Claim7 := { stood := { row := topologyRoomsUptoRow, standIns := [], harness := (true, "0274820c616a522d60ae96bb3bb76ba88db858f1cec11c98534319f0edbce220"), looks := false }, kinds := [], alts := [], laidByText := true, laidKinds := [.data, .data, .data], laidTests := true, laidLooks := .later }
def TopologyRoomsUptoCardSaid : Prop := Claim7.holds Tryz.pinned (.plain (OpenSpec.upto topologyRoomsSpec)) topologyRoomsUptoCard

/-- THE SECOND FORM's CARD OF 'drydocklaw11.TopologyMoves'. -/
def topologyMovesUptoCard : Claim7 := { stood := { row := topologyMovesUptoRow, standIns := [], harness := (true, "0274820c616a522d60ae96bb3bb76ba88db858f1cec11c98534319f0edbce220"), looks := false }, kinds := [], alts := [], laidByText := true, laidKinds := [.data, .data, .data], laidTests := true, laidLooks := .later }
def TopologyMovesUptoCardSaid : Prop := Claim7.holds Tryz.pinned (.plain (OpenSpec.upto topologyMovesSpec)) topologyMovesUptoCard

/-- THE SECOND FORM's CARD OF 'drydocklaw11.TopologyTree'. -/
def topologyTreeUptoCard : Claim7 := { stood := { row := topologyTreeUptoRow, standIns := [], harness := (true, "0274820c616a522d60ae96bb3bb76ba88db858f1cec11c98534319f0edbce220"), looks := false }, kinds := [], alts := [], laidByText := true, laidKinds := [.data, .data, .data], laidTests := true, laidLooks := .later }
def TopologyTreeUptoCardSaid : Prop := Claim7.holds Tryz.pinned (.plain (OpenSpec.upto topologyTreeSpec)) topologyTreeUptoCard

/-- THE SECOND FORM's CARD OF 'drydocklaw11.TopologyExact'. -/
def topologyExactUptoCard : Claim7 := { stood := { row := topologyExactUptoRow, standIns := [], harness := (true, "0274820c616a522d60ae96bb3bb76ba88db858f1cec11c98534319f0edbce220"), looks := false }, kinds := [], alts := [], laidByText := true, laidKinds := [.data, .data, .data], laidTests := true, laidLooks := .later }
def TopologyExactUptoCardSaid : Prop := Claim7.holds Tryz.pinned (.plain (OpenSpec.upto topologyExactSpec)) topologyExactUptoCard

/-- THE SECOND FORM's CARD OF 'drydocklaw11.TopologyRaw'. -/
def topologyRawUptoCard : Claim7 := { stood := { row := topologyRawUptoRow, standIns := [], harness := (true, "0274820c616a522d60ae96bb3bb76ba88db858f1cec11c98534319f0edbce220"), looks := false }, kinds := [], alts := [], laidByText := true, laidKinds := [.data, .data, .data], laidTests := true, laidLooks := .later }
def TopologyRawUptoCardSaid : Prop := Claim7.holds Tryz.pinned (.plain (OpenSpec.upto topologyRawSpec)) topologyRawUptoCard

/-- THE SECOND FORM's CARD OF 'drydocklaw11.TopologyMade'. -/
def topologyMadeUptoCard : Claim7 := { stood := { row := topologyMadeUptoRow, standIns := [], harness := (true, "0274820c616a522d60ae96bb3bb76ba88db858f1cec11c98534319f0edbce220"), looks := false }, kinds := [], alts := [], laidByText := true, laidKinds := [.data, .data, .data], laidTests := true, laidLooks := .later }
def TopologyMadeUptoCardSaid : Prop := Claim7.holds Tryz.pinned (.plain (OpenSpec.upto topologyMadeSpec)) topologyMadeUptoCard
end Rows
end Go.Proofs.YtelckcmlobadkaaGreatDoor
