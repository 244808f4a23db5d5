/-
  NARROWER THAN 'FOR EVERY INPUT', by the rows' own cells (each row's printed sentence says how): TopologyCounts: laid · TopologyRooms: laid · TopologyMoves: laid · TopologyTree: laid · TopologyExact: laid · TopologyRaw: laid · TopologyMade: laid.
  DERIVED. THE GIVEN ROWS OF THIS SEAT. 7 by the template 'for every input the law returns true; each argument reads behind the call as it read before'; 0 by the template 'total and deterministic' (their statements: YtelckcmlobadkaaGreatDoorTotals.lean).
  GIVEN WITH THE SEED: the statements are not yours to turn. If you find one false, say at which input.
  Laid BY PROGRAM, IN A SANDBOX (cutbox-rows.mjs): the forced cells as the released guide's own fill.sh prints them over the translation b652052feb3ff715… (all of the seat's roots in one cut). By AI agents, Wed Nov 11 2026. No macro, syntax, notation, axiom, sorry.
-/
import Derived.Test.YtelckcmlobadkaaGreatDoorChecked
import GoSem.Claim
import GoSem.ClaimJoined
import GoSem.ClaimMapViews
import Derived.JoinedTies
import Derived.KernelRfl
namespace Go.Proofs.YtelckcmlobadkaaGreatDoor
/- THE CELL 'sum', in the pinned program and in every row, IS THE sha256 OF THE DUMP (.gsa) THAT YtelckcmlobadkaaGreatDoorProg.lean LOADS. Nothing in Lean hashes anything: it is a label: what it is worth is what the hold of that sum in a sandbox is worth. -/
noncomputable def Tryz.pinned : Pinned := { name := "ytelckcmlobadkaagreatdoor", sum := "b652052feb3ff715d197647b4cb120ba2f44f4a0e9f1789ec1a3c481b550bbfb", checked := Tryz.checked }
namespace Rows
def none {H : Type} : Left H := { results := [], args := [] }

/- WHAT THE LISTED PACKAGE-LEVEL VARIABLES READ AS WHEN THE CALL BEGINS. Each datum BY PROGRAM (the guide's laid-datum.mjs) off the statement by which the dump's own 'gosem.cut.vars' lays the variable. In a bare row this is a premise. The card (YtelckcmlobadkaaGreatDoorCards.lean) ties it to the program's text. -/
def laid_math_bits_deBruijn32tab {H : Type} : DataW H := .agg [.lit (.int .u8 0), .lit (.int .u8 1), .lit (.int .u8 28), .lit (.int .u8 2), .lit (.int .u8 29), .lit (.int .u8 14), .lit (.int .u8 24), .lit (.int .u8 3), .lit (.int .u8 30), .lit (.int .u8 22), .lit (.int .u8 20), .lit (.int .u8 15), .lit (.int .u8 25), .lit (.int .u8 17), .lit (.int .u8 4), .lit (.int .u8 8), .lit (.int .u8 31), .lit (.int .u8 27), .lit (.int .u8 13), .lit (.int .u8 23), .lit (.int .u8 21), .lit (.int .u8 19), .lit (.int .u8 16), .lit (.int .u8 7), .lit (.int .u8 26), .lit (.int .u8 12), .lit (.int .u8 18), .lit (.int .u8 6), .lit (.int .u8 11), .lit (.int .u8 5), .lit (.int .u8 10), .lit (.int .u8 9)]
def laid_math_bits_deBruijn64tab {H : Type} : DataW H := .agg [.lit (.int .u8 0), .lit (.int .u8 1), .lit (.int .u8 56), .lit (.int .u8 2), .lit (.int .u8 57), .lit (.int .u8 49), .lit (.int .u8 28), .lit (.int .u8 3), .lit (.int .u8 61), .lit (.int .u8 58), .lit (.int .u8 42), .lit (.int .u8 50), .lit (.int .u8 38), .lit (.int .u8 29), .lit (.int .u8 17), .lit (.int .u8 4), .lit (.int .u8 62), .lit (.int .u8 47), .lit (.int .u8 59), .lit (.int .u8 36), .lit (.int .u8 45), .lit (.int .u8 43), .lit (.int .u8 51), .lit (.int .u8 22), .lit (.int .u8 53), .lit (.int .u8 39), .lit (.int .u8 33), .lit (.int .u8 30), .lit (.int .u8 24), .lit (.int .u8 18), .lit (.int .u8 12), .lit (.int .u8 5), .lit (.int .u8 63), .lit (.int .u8 55), .lit (.int .u8 48), .lit (.int .u8 27), .lit (.int .u8 60), .lit (.int .u8 41), .lit (.int .u8 37), .lit (.int .u8 16), .lit (.int .u8 46), .lit (.int .u8 35), .lit (.int .u8 44), .lit (.int .u8 21), .lit (.int .u8 52), .lit (.int .u8 32), .lit (.int .u8 23), .lit (.int .u8 11), .lit (.int .u8 54), .lit (.int .u8 26), .lit (.int .u8 40), .lit (.int .u8 15), .lit (.int .u8 34), .lit (.int .u8 20), .lit (.int .u8 31), .lit (.int .u8 10), .lit (.int .u8 25), .lit (.int .u8 14), .lit (.int .u8 19), .lit (.int .u8 9), .lit (.int .u8 13), .lit (.int .u8 8), .lit (.int .u8 7), .lit (.int .u8 6)]
def laid_internal_strconv_uint64pow10 {H : Type} : DataW H := .agg [.lit (.int .u64 1), .lit (.int .u64 10), .lit (.int .u64 100), .lit (.int .u64 1000), .lit (.int .u64 10000), .lit (.int .u64 100000), .lit (.int .u64 1000000), .lit (.int .u64 10000000), .lit (.int .u64 100000000), .lit (.int .u64 1000000000), .lit (.int .u64 10000000000), .lit (.int .u64 100000000000), .lit (.int .u64 1000000000000), .lit (.int .u64 10000000000000), .lit (.int .u64 100000000000000), .lit (.int .u64 1000000000000000), .lit (.int .u64 10000000000000000), .lit (.int .u64 100000000000000000), .lit (.int .u64 1000000000000000000), .lit (.int .u64 10000000000000000000)]

/-- 'drydocklaw11.TopologyCounts': WHATEVER THE INPUT: true; the input reads as it did. -/
def topologyCountsSpec : ChangeSpec := { name := "topologyCounts", fn := fun _ => fun
  | [d] => { results := [.lit (.bool true)], args := [d] }
  | _ => none }
def topologyCountsRow : OpenClaim := { program := "ytelckcmlobadkaagreatdoor", sum := "b652052feb3ff715d197647b4cb120ba2f44f4a0e9f1789ec1a3c481b550bbfb", func := "drydock/drydocklaw11.TopologyCounts", spec := "topologyCounts", unfollowed := true, recurses := true, named := ["internal/strconv.uint64pow10", "math/bits.deBruijn32tab", "math/bits.deBruijn64tab"], apart := false, laid := [("math/bits.deBruijn32tab", laid_math_bits_deBruijn32tab), ("math/bits.deBruijn64tab", laid_math_bits_deBruijn64tab), ("internal/strconv.uint64pow10", laid_internal_strconv_uint64pow10)] }
def TopologyCountsSaid : Prop := topologyCountsRow.holds Tryz.pinned (OpenSpec.ofChange topologyCountsSpec)

/-- ITS FALSE NEIGHBOUR: 'it returns false'. Refute it at one input. -/
def topologyCountsWrong : ChangeSpec := { name := "topologyCounts", fn := fun _ => fun
  | [d] => { results := [.lit (.bool false)], args := [d] }
  | _ => none }
def TopologyCountsWrongFalsely : Prop := topologyCountsRow.holds Tryz.pinned (OpenSpec.ofChange topologyCountsWrong)

/-- 'drydocklaw11.TopologyRooms': WHATEVER THE INPUT: true; the input reads as it did. -/
def topologyRoomsSpec : ChangeSpec := { name := "topologyRooms", fn := fun _ => fun
  | [d1, d2] => { results := [.lit (.bool true)], args := [d1, d2] }
  | _ => none }
def topologyRoomsRow : OpenClaim := { program := "ytelckcmlobadkaagreatdoor", sum := "b652052feb3ff715d197647b4cb120ba2f44f4a0e9f1789ec1a3c481b550bbfb", func := "drydock/drydocklaw11.TopologyRooms", spec := "topologyRooms", unfollowed := true, recurses := true, named := ["internal/strconv.uint64pow10", "math/bits.deBruijn32tab", "math/bits.deBruijn64tab"], apart := false, laid := [("math/bits.deBruijn32tab", laid_math_bits_deBruijn32tab), ("math/bits.deBruijn64tab", laid_math_bits_deBruijn64tab), ("internal/strconv.uint64pow10", laid_internal_strconv_uint64pow10)] }
def TopologyRoomsSaid : Prop := topologyRoomsRow.holds Tryz.pinned (OpenSpec.ofChange topologyRoomsSpec)

/-- ITS FALSE NEIGHBOUR: 'it returns false'. Refute it at one input. -/
def topologyRoomsWrong : ChangeSpec := { name := "topologyRooms", fn := fun _ => fun
  | [d1, d2] => { results := [.lit (.bool false)], args := [d1, d2] }
  | _ => none }
def TopologyRoomsWrongFalsely : Prop := topologyRoomsRow.holds Tryz.pinned (OpenSpec.ofChange topologyRoomsWrong)

/-- 'drydocklaw11.TopologyMoves': WHATEVER THE INPUT: true; the input reads as it did. -/
def topologyMovesSpec : ChangeSpec := { name := "topologyMoves", fn := fun _ => fun
  | [d1, d2, d3, d4] => { results := [.lit (.bool true)], args := [d1, d2, d3, d4] }
  | _ => none }
def topologyMovesRow : OpenClaim := { program := "ytelckcmlobadkaagreatdoor", sum := "b652052feb3ff715d197647b4cb120ba2f44f4a0e9f1789ec1a3c481b550bbfb", func := "drydock/drydocklaw11.TopologyMoves", spec := "topologyMoves", unfollowed := true, recurses := true, named := ["internal/strconv.uint64pow10", "math/bits.deBruijn32tab", "math/bits.deBruijn64tab"], apart := false, laid := [("math/bits.deBruijn32tab", laid_math_bits_deBruijn32tab), ("math/bits.deBruijn64tab", laid_math_bits_deBruijn64tab), ("internal/strconv.uint64pow10", laid_internal_strconv_uint64pow10)] }
def TopologyMovesSaid : Prop := topologyMovesRow.holds Tryz.pinned (OpenSpec.ofChange topologyMovesSpec)

/-- ITS FALSE NEIGHBOUR: 'it returns false'. Refute it at one input. -/
def topologyMovesWrong : ChangeSpec := { name := "topologyMoves", fn := fun _ => fun
  | [d1, d2, d3, d4] => { results := [.lit (.bool false)], args := [d1, d2, d3, d4] }
  | _ => none }
def TopologyMovesWrongFalsely : Prop := topologyMovesRow.holds Tryz.pinned (OpenSpec.ofChange topologyMovesWrong)

/-- 'drydocklaw11.TopologyTree': WHATEVER THE INPUT: true; the input reads as it did. -/
def topologyTreeSpec : ChangeSpec := { name := "topologyTree", fn := fun _ => fun
  | [d] => { results := [.lit (.bool true)], args := [d] }
  | _ => none }
def topologyTreeRow : OpenClaim := { program := "ytelckcmlobadkaagreatdoor", sum := "b652052feb3ff715d197647b4cb120ba2f44f4a0e9f1789ec1a3c481b550bbfb", func := "drydock/drydocklaw11.TopologyTree", spec := "topologyTree", unfollowed := true, recurses := true, named := ["internal/strconv.uint64pow10", "math/bits.deBruijn32tab", "math/bits.deBruijn64tab"], apart := false, laid := [("math/bits.deBruijn32tab", laid_math_bits_deBruijn32tab), ("math/bits.deBruijn64tab", laid_math_bits_deBruijn64tab), ("internal/strconv.uint64pow10", laid_internal_strconv_uint64pow10)] }
def TopologyTreeSaid : Prop := topologyTreeRow.holds Tryz.pinned (OpenSpec.ofChange topologyTreeSpec)

/-- ITS FALSE NEIGHBOUR: 'it returns false'. Refute it at one input. -/
def topologyTreeWrong : ChangeSpec := { name := "topologyTree", fn := fun _ => fun
  | [d] => { results := [.lit (.bool false)], args := [d] }
  | _ => none }
def TopologyTreeWrongFalsely : Prop := topologyTreeRow.holds Tryz.pinned (OpenSpec.ofChange topologyTreeWrong)

/-- 'drydocklaw11.TopologyExact': WHATEVER THE INPUT: true; the input reads as it did. -/
def topologyExactSpec : ChangeSpec := { name := "topologyExact", fn := fun _ => fun
  | [d1, d2, d3, d4, d5, d6] => { results := [.lit (.bool true)], args := [d1, d2, d3, d4, d5, d6] }
  | _ => none }
def topologyExactRow : OpenClaim := { program := "ytelckcmlobadkaagreatdoor", sum := "b652052feb3ff715d197647b4cb120ba2f44f4a0e9f1789ec1a3c481b550bbfb", func := "drydock/drydocklaw11.TopologyExact", spec := "topologyExact", unfollowed := true, recurses := true, named := ["internal/strconv.uint64pow10", "math/bits.deBruijn32tab", "math/bits.deBruijn64tab"], apart := false, laid := [("math/bits.deBruijn32tab", laid_math_bits_deBruijn32tab), ("math/bits.deBruijn64tab", laid_math_bits_deBruijn64tab), ("internal/strconv.uint64pow10", laid_internal_strconv_uint64pow10)] }
def TopologyExactSaid : Prop := topologyExactRow.holds Tryz.pinned (OpenSpec.ofChange topologyExactSpec)

/-- ITS FALSE NEIGHBOUR: 'it returns false'. Refute it at one input. -/
def topologyExactWrong : ChangeSpec := { name := "topologyExact", fn := fun _ => fun
  | [d1, d2, d3, d4, d5, d6] => { results := [.lit (.bool false)], args := [d1, d2, d3, d4, d5, d6] }
  | _ => none }
def TopologyExactWrongFalsely : Prop := topologyExactRow.holds Tryz.pinned (OpenSpec.ofChange topologyExactWrong)

/-- 'drydocklaw11.TopologyRaw': WHATEVER THE INPUT: true; the input reads as it did. -/
def topologyRawSpec : ChangeSpec := { name := "topologyRaw", fn := fun _ => fun
  | [d1, d2, d3, d4, d5, d6] => { results := [.lit (.bool true)], args := [d1, d2, d3, d4, d5, d6] }
  | _ => none }
def topologyRawRow : OpenClaim := { program := "ytelckcmlobadkaagreatdoor", sum := "b652052feb3ff715d197647b4cb120ba2f44f4a0e9f1789ec1a3c481b550bbfb", func := "drydock/drydocklaw11.TopologyRaw", spec := "topologyRaw", unfollowed := true, recurses := true, named := ["internal/strconv.uint64pow10", "math/bits.deBruijn32tab", "math/bits.deBruijn64tab"], apart := false, laid := [("math/bits.deBruijn32tab", laid_math_bits_deBruijn32tab), ("math/bits.deBruijn64tab", laid_math_bits_deBruijn64tab), ("internal/strconv.uint64pow10", laid_internal_strconv_uint64pow10)] }
def TopologyRawSaid : Prop := topologyRawRow.holds Tryz.pinned (OpenSpec.ofChange topologyRawSpec)

/-- ITS FALSE NEIGHBOUR: 'it returns false'. Refute it at one input. -/
def topologyRawWrong : ChangeSpec := { name := "topologyRaw", fn := fun _ => fun
  | [d1, d2, d3, d4, d5, d6] => { results := [.lit (.bool false)], args := [d1, d2, d3, d4, d5, d6] }
  | _ => none }
def TopologyRawWrongFalsely : Prop := topologyRawRow.holds Tryz.pinned (OpenSpec.ofChange topologyRawWrong)

/-- 'drydocklaw11.TopologyMade': WHATEVER THE INPUT: true; the input reads as it did. -/
def topologyMadeSpec : ChangeSpec := { name := "topologyMade", fn := fun _ => fun
  | [d] => { results := [.lit (.bool true)], args := [d] }
  | _ => none }
def topologyMadeRow : OpenClaim := { program := "ytelckcmlobadkaagreatdoor", sum := "b652052feb3ff715d197647b4cb120ba2f44f4a0e9f1789ec1a3c481b550bbfb", func := "drydock/drydocklaw11.TopologyMade", spec := "topologyMade", unfollowed := true, recurses := true, named := ["internal/strconv.uint64pow10", "math/bits.deBruijn32tab", "math/bits.deBruijn64tab"], apart := false, laid := [("math/bits.deBruijn32tab", laid_math_bits_deBruijn32tab), ("math/bits.deBruijn64tab", laid_math_bits_deBruijn64tab), ("internal/strconv.uint64pow10", laid_internal_strconv_uint64pow10)] }
def TopologyMadeSaid : Prop := topologyMadeRow.holds Tryz.pinned (OpenSpec.ofChange topologyMadeSpec)

/-- ITS FALSE NEIGHBOUR: 'it returns false'. Refute it at one input. -/
def topologyMadeWrong : ChangeSpec := { name := "topologyMade", fn := fun _ => fun
  | [d] => { results := [.lit (.bool false)], args := [d] }
  | _ => none }
def TopologyMadeWrongFalsely : Prop := topologyMadeRow.holds Tryz.pinned (OpenSpec.ofChange topologyMadeWrong)

/- THE SECOND FORM. 'bulk': how many values and letters a reading holds, each counted each time it is reached (what is shared counts as often as it is met; a slice's spare places count too). A statement '..UptoSaid' is the law's where the arguments, and the package variables that the reading takes, are together of bulk at most 1048576: NARROWER than '..Said'. Prove '..Said' where nothing that the law and all that it calls make is longer than what came in: it says more and counts as full. Else prove '..UptoSaid'. A law counts once. -/
mutual
def uptoBulk {H : Type} : DataW H → Nat
  | .lit (.string bytes) => bytes.length + 1
  | .lit _ => 1
  | .nil => 1
  | .ptr d => uptoBulk d + 1
  | .slice elems spare => uptoBulkAll elems + uptoBulkAll spare + 1
  | .agg parts => uptoBulkAll parts + 1
  | .iface _ d => uptoBulk d + 1
  | .map entries => uptoBulkEntries entries + 1
  | .held _ => 1
def uptoBulkAll {H : Type} : List (DataW H) → Nat
  | [] => 0
  | d :: r => uptoBulk d + uptoBulkAll r
def uptoBulkEntries {H : Type} : List (Lit × DataW H) → Nat
  | [] => 0
  | x :: r => uptoBulkEntry x + uptoBulkEntries r
def uptoBulkEntry {H : Type} : Lit × DataW H → Nat
  | (.string bytes, d) => bytes.length + uptoBulk d + 1
  | (_, d) => uptoBulk d + 1
 end
def uptoSmall : (H : Type) → List (DataW H) → Bool := fun _ ds => decide (uptoBulkAll ds ≤ 1048576)
def OpenSpec.upto (s : _root_.Go.ChangeSpec) : _root_.Go.OpenSpec := { _root_.Go.OpenSpec.ofChange s with cond := some uptoSmall }

/-- 'drydocklaw11.TopologyCounts', WHERE WHAT IT READS IS OF BULK AT MOST 1048576: true; the input reads as it did. -/
def topologyCountsUptoRow : OpenClaim := { program := "ytelckcmlobadkaagreatdoor", sum := "b652052feb3ff715d197647b4cb120ba2f44f4a0e9f1789ec1a3c481b550bbfb", func := "drydock/drydocklaw11.TopologyCounts", spec := "topologyCounts", unfollowed := true, recurses := true, named := ["internal/strconv.uint64pow10", "math/bits.deBruijn32tab", "math/bits.deBruijn64tab"], apart := false, laid := [("math/bits.deBruijn32tab", laid_math_bits_deBruijn32tab), ("math/bits.deBruijn64tab", laid_math_bits_deBruijn64tab), ("internal/strconv.uint64pow10", laid_internal_strconv_uint64pow10)], narrowed := true }
def TopologyCountsUptoSaid : Prop := topologyCountsUptoRow.holds Tryz.pinned (OpenSpec.upto topologyCountsSpec)

/-- 'drydocklaw11.TopologyRooms', WHERE WHAT IT READS IS OF BULK AT MOST 1048576: true; the input reads as it did. -/
def topologyRoomsUptoRow : OpenClaim := { program := "ytelckcmlobadkaagreatdoor", sum := "b652052feb3ff715d197647b4cb120ba2f44f4a0e9f1789ec1a3c481b550bbfb", func := "drydock/drydocklaw11.TopologyRooms", spec := "topologyRooms", unfollowed := true, recurses := true, named := ["internal/strconv.uint64pow10", "math/bits.deBruijn32tab", "math/bits.deBruijn64tab"], apart := false, laid := [("math/bits.deBruijn32tab", laid_math_bits_deBruijn32tab), ("math/bits.deBruijn64tab", laid_math_bits_deBruijn64tab), ("internal/strconv.uint64pow10", laid_internal_strconv_uint64pow10)], narrowed := true }
def TopologyRoomsUptoSaid : Prop := topologyRoomsUptoRow.holds Tryz.pinned (OpenSpec.upto topologyRoomsSpec)

/-- 'drydocklaw11.TopologyMoves', WHERE WHAT IT READS IS OF BULK AT MOST 1048576: true; the input reads as it did. -/
def topologyMovesUptoRow : OpenClaim := { program := "ytelckcmlobadkaagreatdoor", sum := "b652052feb3ff715d197647b4cb120ba2f44f4a0e9f1789ec1a3c481b550bbfb", func := "drydock/drydocklaw11.TopologyMoves", spec := "topologyMoves", unfollowed := true, recurses := true, named := ["internal/strconv.uint64pow10", "math/bits.deBruijn32tab", "math/bits.deBruijn64tab"], apart := false, laid := [("math/bits.deBruijn32tab", laid_math_bits_deBruijn32tab), ("math/bits.deBruijn64tab", laid_math_bits_deBruijn64tab), ("internal/strconv.uint64pow10", laid_internal_strconv_uint64pow10)], narrowed := true }
def TopologyMovesUptoSaid : Prop := topologyMovesUptoRow.holds Tryz.pinned (OpenSpec.upto topologyMovesSpec)

/-- 'drydocklaw11.TopologyTree', WHERE WHAT IT READS IS OF BULK AT MOST 1048576: true; the input reads as it did. -/
def topologyTreeUptoRow : OpenClaim := { program := "ytelckcmlobadkaagreatdoor", sum := "b652052feb3ff715d197647b4cb120ba2f44f4a0e9f1789ec1a3c481b550bbfb", func := "drydock/drydocklaw11.TopologyTree", spec := "topologyTree", unfollowed := true, recurses := true, named := ["internal/strconv.uint64pow10", "math/bits.deBruijn32tab", "math/bits.deBruijn64tab"], apart := false, laid := [("math/bits.deBruijn32tab", laid_math_bits_deBruijn32tab), ("math/bits.deBruijn64tab", laid_math_bits_deBruijn64tab), ("internal/strconv.uint64pow10", laid_internal_strconv_uint64pow10)], narrowed := true }
def TopologyTreeUptoSaid : Prop := topologyTreeUptoRow.holds Tryz.pinned (OpenSpec.upto topologyTreeSpec)

/-- 'drydocklaw11.TopologyExact', WHERE WHAT IT READS IS OF BULK AT MOST 1048576: true; the input reads as it did. -/
def topologyExactUptoRow : OpenClaim := { program := "ytelckcmlobadkaagreatdoor", sum := "b652052feb3ff715d197647b4cb120ba2f44f4a0e9f1789ec1a3c481b550bbfb", func := "drydock/drydocklaw11.TopologyExact", spec := "topologyExact", unfollowed := true, recurses := true, named := ["internal/strconv.uint64pow10", "math/bits.deBruijn32tab", "math/bits.deBruijn64tab"], apart := false, laid := [("math/bits.deBruijn32tab", laid_math_bits_deBruijn32tab), ("math/bits.deBruijn64tab", laid_math_bits_deBruijn64tab), ("internal/strconv.uint64pow10", laid_internal_strconv_uint64pow10)], narrowed := true }
def TopologyExactUptoSaid : Prop := topologyExactUptoRow.holds Tryz.pinned (OpenSpec.upto topologyExactSpec)

/-- 'drydocklaw11.TopologyRaw', WHERE WHAT IT READS IS OF BULK AT MOST 1048576: true; the input reads as it did. -/
def topologyRawUptoRow : OpenClaim := { program := "ytelckcmlobadkaagreatdoor", sum := "b652052feb3ff715d197647b4cb120ba2f44f4a0e9f1789ec1a3c481b550bbfb", func := "drydock/drydocklaw11.TopologyRaw", spec := "topologyRaw", unfollowed := true, recurses := true, named := ["internal/strconv.uint64pow10", "math/bits.deBruijn32tab", "math/bits.deBruijn64tab"], apart := false, laid := [("math/bits.deBruijn32tab", laid_math_bits_deBruijn32tab), ("math/bits.deBruijn64tab", laid_math_bits_deBruijn64tab), ("internal/strconv.uint64pow10", laid_internal_strconv_uint64pow10)], narrowed := true }
def TopologyRawUptoSaid : Prop := topologyRawUptoRow.holds Tryz.pinned (OpenSpec.upto topologyRawSpec)

/-- 'drydocklaw11.TopologyMade', WHERE WHAT IT READS IS OF BULK AT MOST 1048576: true; the input reads as it did. -/
def topologyMadeUptoRow : OpenClaim := { program := "ytelckcmlobadkaagreatdoor", sum := "b652052feb3ff715d197647b4cb120ba2f44f4a0e9f1789ec1a3c481b550bbfb", func := "drydock/drydocklaw11.TopologyMade", spec := "topologyMade", unfollowed := true, recurses := true, named := ["internal/strconv.uint64pow10", "math/bits.deBruijn32tab", "math/bits.deBruijn64tab"], apart := false, laid := [("math/bits.deBruijn32tab", laid_math_bits_deBruijn32tab), ("math/bits.deBruijn64tab", laid_math_bits_deBruijn64tab), ("internal/strconv.uint64pow10", laid_internal_strconv_uint64pow10)], narrowed := true }
def TopologyMadeUptoSaid : Prop := topologyMadeUptoRow.holds Tryz.pinned (OpenSpec.upto topologyMadeSpec)

end Rows
end Go.Proofs.YtelckcmlobadkaaGreatDoor
