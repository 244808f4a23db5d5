/-
  NARROWER THAN 'FOR EVERY INPUT', by the rows' own cells (each row's printed sentence says how): FeasibleNetwork: laid · FeasibleRaw: laid · FeasibleCuts: laid · FeasibleGrows: laid · FeasibleAlone: laid · FeasibleDecides: laid · FeasibleSound: laid.
  DERIVED. THE GIVEN ROWS OF THIS SEAT. 7 by the template 'for every input the law returns true; each argument reads behind the call as it read before'; 0 by the template 'total and deterministic' (their statements: YtkknafmijabgaaaGreatDoorTotals.lean).
  GIVEN WITH THE SEED: the statements are not yours to turn. If you find one false, say at which input.
  Laid BY PROGRAM, IN A SANDBOX (cutbox-rows.mjs): the forced cells as the released guide's own fill.sh prints them over the translation e9282a969e2f5a60… (all of the seat's roots in one cut). By AI agents, Wed Nov 11 2026. No macro, syntax, notation, axiom, sorry.
-/
import Derived.Test.YtkknafmijabgaaaGreatDoorChecked
import GoSem.Claim
import GoSem.ClaimJoined
import GoSem.ClaimMapViews
import Derived.JoinedTies
import Derived.KernelRfl
namespace Go.Proofs.YtkknafmijabgaaaGreatDoor
/- THE CELL 'sum', in the pinned program and in every row, IS THE sha256 OF THE DUMP (.gsa) THAT YtkknafmijabgaaaGreatDoorProg.lean LOADS. Nothing in Lean hashes anything: it is a label: what it is worth is what the hold of that sum in a sandbox is worth. -/
noncomputable def Tryz.pinned : Pinned := { name := "ytkknafmijabgaaagreatdoor", sum := "e9282a969e2f5a602d10c1449d939a4a7c827ed9248e769eb28d4acbcecd07dd", checked := Tryz.checked }
namespace Rows
def none {H : Type} : Left H := { results := [], args := [] }

/- WHAT THE LISTED PACKAGE-LEVEL VARIABLES READ AS WHEN THE CALL BEGINS. Each datum BY PROGRAM (the guide's laid-datum.mjs) off the statement by which the dump's own 'gosem.cut.vars' lays the variable. In a bare row this is a premise. The card (YtkknafmijabgaaaGreatDoorCards.lean) ties it to the program's text. -/
def laid_math_bits_deBruijn32tab {H : Type} : DataW H := .agg [.lit (.int .u8 0), .lit (.int .u8 1), .lit (.int .u8 28), .lit (.int .u8 2), .lit (.int .u8 29), .lit (.int .u8 14), .lit (.int .u8 24), .lit (.int .u8 3), .lit (.int .u8 30), .lit (.int .u8 22), .lit (.int .u8 20), .lit (.int .u8 15), .lit (.int .u8 25), .lit (.int .u8 17), .lit (.int .u8 4), .lit (.int .u8 8), .lit (.int .u8 31), .lit (.int .u8 27), .lit (.int .u8 13), .lit (.int .u8 23), .lit (.int .u8 21), .lit (.int .u8 19), .lit (.int .u8 16), .lit (.int .u8 7), .lit (.int .u8 26), .lit (.int .u8 12), .lit (.int .u8 18), .lit (.int .u8 6), .lit (.int .u8 11), .lit (.int .u8 5), .lit (.int .u8 10), .lit (.int .u8 9)]
def laid_math_bits_deBruijn64tab {H : Type} : DataW H := .agg [.lit (.int .u8 0), .lit (.int .u8 1), .lit (.int .u8 56), .lit (.int .u8 2), .lit (.int .u8 57), .lit (.int .u8 49), .lit (.int .u8 28), .lit (.int .u8 3), .lit (.int .u8 61), .lit (.int .u8 58), .lit (.int .u8 42), .lit (.int .u8 50), .lit (.int .u8 38), .lit (.int .u8 29), .lit (.int .u8 17), .lit (.int .u8 4), .lit (.int .u8 62), .lit (.int .u8 47), .lit (.int .u8 59), .lit (.int .u8 36), .lit (.int .u8 45), .lit (.int .u8 43), .lit (.int .u8 51), .lit (.int .u8 22), .lit (.int .u8 53), .lit (.int .u8 39), .lit (.int .u8 33), .lit (.int .u8 30), .lit (.int .u8 24), .lit (.int .u8 18), .lit (.int .u8 12), .lit (.int .u8 5), .lit (.int .u8 63), .lit (.int .u8 55), .lit (.int .u8 48), .lit (.int .u8 27), .lit (.int .u8 60), .lit (.int .u8 41), .lit (.int .u8 37), .lit (.int .u8 16), .lit (.int .u8 46), .lit (.int .u8 35), .lit (.int .u8 44), .lit (.int .u8 21), .lit (.int .u8 52), .lit (.int .u8 32), .lit (.int .u8 23), .lit (.int .u8 11), .lit (.int .u8 54), .lit (.int .u8 26), .lit (.int .u8 40), .lit (.int .u8 15), .lit (.int .u8 34), .lit (.int .u8 20), .lit (.int .u8 31), .lit (.int .u8 10), .lit (.int .u8 25), .lit (.int .u8 14), .lit (.int .u8 19), .lit (.int .u8 9), .lit (.int .u8 13), .lit (.int .u8 8), .lit (.int .u8 7), .lit (.int .u8 6)]
def laid_internal_strconv_uint64pow10 {H : Type} : DataW H := .agg [.lit (.int .u64 1), .lit (.int .u64 10), .lit (.int .u64 100), .lit (.int .u64 1000), .lit (.int .u64 10000), .lit (.int .u64 100000), .lit (.int .u64 1000000), .lit (.int .u64 10000000), .lit (.int .u64 100000000), .lit (.int .u64 1000000000), .lit (.int .u64 10000000000), .lit (.int .u64 100000000000), .lit (.int .u64 1000000000000), .lit (.int .u64 10000000000000), .lit (.int .u64 100000000000000), .lit (.int .u64 1000000000000000), .lit (.int .u64 10000000000000000), .lit (.int .u64 100000000000000000), .lit (.int .u64 1000000000000000000), .lit (.int .u64 10000000000000000000)]

/-- 'drydocklaw14.FeasibleNetwork': WHATEVER THE INPUT: true; the input reads as it did. -/
def feasibleNetworkSpec : ChangeSpec := { name := "feasibleNetwork", fn := fun _ => fun
  | [d1, d2] => { results := [.lit (.bool true)], args := [d1, d2] }
  | _ => none }
def feasibleNetworkRow : OpenClaim := { program := "ytkknafmijabgaaagreatdoor", sum := "e9282a969e2f5a602d10c1449d939a4a7c827ed9248e769eb28d4acbcecd07dd", func := "drydock/drydocklaw14.FeasibleNetwork", spec := "feasibleNetwork", unfollowed := true, recurses := true, named := ["internal/strconv.uint64pow10", "math/bits.deBruijn32tab", "math/bits.deBruijn64tab"], apart := false, laid := [("math/bits.deBruijn32tab", laid_math_bits_deBruijn32tab), ("math/bits.deBruijn64tab", laid_math_bits_deBruijn64tab), ("internal/strconv.uint64pow10", laid_internal_strconv_uint64pow10)] }
def FeasibleNetworkSaid : Prop := feasibleNetworkRow.holds Tryz.pinned (OpenSpec.ofChange feasibleNetworkSpec)

/-- ITS FALSE NEIGHBOUR: 'it returns false'. Refute it at one input. -/
def feasibleNetworkWrong : ChangeSpec := { name := "feasibleNetwork", fn := fun _ => fun
  | [d1, d2] => { results := [.lit (.bool false)], args := [d1, d2] }
  | _ => none }
def FeasibleNetworkWrongFalsely : Prop := feasibleNetworkRow.holds Tryz.pinned (OpenSpec.ofChange feasibleNetworkWrong)

/-- 'drydocklaw14.FeasibleRaw': WHATEVER THE INPUT: true; the input reads as it did. -/
def feasibleRawSpec : ChangeSpec := { name := "feasibleRaw", fn := fun _ => fun
  | [d1, d2, d3] => { results := [.lit (.bool true)], args := [d1, d2, d3] }
  | _ => none }
def feasibleRawRow : OpenClaim := { program := "ytkknafmijabgaaagreatdoor", sum := "e9282a969e2f5a602d10c1449d939a4a7c827ed9248e769eb28d4acbcecd07dd", func := "drydock/drydocklaw14.FeasibleRaw", spec := "feasibleRaw", unfollowed := true, recurses := true, named := ["internal/strconv.uint64pow10", "math/bits.deBruijn32tab", "math/bits.deBruijn64tab"], apart := false, laid := [("math/bits.deBruijn32tab", laid_math_bits_deBruijn32tab), ("math/bits.deBruijn64tab", laid_math_bits_deBruijn64tab), ("internal/strconv.uint64pow10", laid_internal_strconv_uint64pow10)] }
def FeasibleRawSaid : Prop := feasibleRawRow.holds Tryz.pinned (OpenSpec.ofChange feasibleRawSpec)

/-- ITS FALSE NEIGHBOUR: 'it returns false'. Refute it at one input. -/
def feasibleRawWrong : ChangeSpec := { name := "feasibleRaw", fn := fun _ => fun
  | [d1, d2, d3] => { results := [.lit (.bool false)], args := [d1, d2, d3] }
  | _ => none }
def FeasibleRawWrongFalsely : Prop := feasibleRawRow.holds Tryz.pinned (OpenSpec.ofChange feasibleRawWrong)

/-- 'drydocklaw14.FeasibleCuts': WHATEVER THE INPUT: true; the input reads as it did. -/
def feasibleCutsSpec : ChangeSpec := { name := "feasibleCuts", fn := fun _ => fun
  | [d1, d2] => { results := [.lit (.bool true)], args := [d1, d2] }
  | _ => none }
def feasibleCutsRow : OpenClaim := { program := "ytkknafmijabgaaagreatdoor", sum := "e9282a969e2f5a602d10c1449d939a4a7c827ed9248e769eb28d4acbcecd07dd", func := "drydock/drydocklaw14.FeasibleCuts", spec := "feasibleCuts", unfollowed := true, recurses := true, named := ["internal/strconv.uint64pow10", "math/bits.deBruijn32tab", "math/bits.deBruijn64tab"], apart := false, laid := [("math/bits.deBruijn32tab", laid_math_bits_deBruijn32tab), ("math/bits.deBruijn64tab", laid_math_bits_deBruijn64tab), ("internal/strconv.uint64pow10", laid_internal_strconv_uint64pow10)] }
def FeasibleCutsSaid : Prop := feasibleCutsRow.holds Tryz.pinned (OpenSpec.ofChange feasibleCutsSpec)

/-- ITS FALSE NEIGHBOUR: 'it returns false'. Refute it at one input. -/
def feasibleCutsWrong : ChangeSpec := { name := "feasibleCuts", fn := fun _ => fun
  | [d1, d2] => { results := [.lit (.bool false)], args := [d1, d2] }
  | _ => none }
def FeasibleCutsWrongFalsely : Prop := feasibleCutsRow.holds Tryz.pinned (OpenSpec.ofChange feasibleCutsWrong)

/-- 'drydocklaw14.FeasibleGrows': WHATEVER THE INPUT: true; the input reads as it did. -/
def feasibleGrowsSpec : ChangeSpec := { name := "feasibleGrows", fn := fun _ => fun
  | [d1, d2, d3] => { results := [.lit (.bool true)], args := [d1, d2, d3] }
  | _ => none }
def feasibleGrowsRow : OpenClaim := { program := "ytkknafmijabgaaagreatdoor", sum := "e9282a969e2f5a602d10c1449d939a4a7c827ed9248e769eb28d4acbcecd07dd", func := "drydock/drydocklaw14.FeasibleGrows", spec := "feasibleGrows", unfollowed := true, recurses := true, named := ["internal/strconv.uint64pow10", "math/bits.deBruijn32tab", "math/bits.deBruijn64tab"], apart := false, laid := [("math/bits.deBruijn32tab", laid_math_bits_deBruijn32tab), ("math/bits.deBruijn64tab", laid_math_bits_deBruijn64tab), ("internal/strconv.uint64pow10", laid_internal_strconv_uint64pow10)] }
def FeasibleGrowsSaid : Prop := feasibleGrowsRow.holds Tryz.pinned (OpenSpec.ofChange feasibleGrowsSpec)

/-- ITS FALSE NEIGHBOUR: 'it returns false'. Refute it at one input. -/
def feasibleGrowsWrong : ChangeSpec := { name := "feasibleGrows", fn := fun _ => fun
  | [d1, d2, d3] => { results := [.lit (.bool false)], args := [d1, d2, d3] }
  | _ => none }
def FeasibleGrowsWrongFalsely : Prop := feasibleGrowsRow.holds Tryz.pinned (OpenSpec.ofChange feasibleGrowsWrong)

/-- 'drydocklaw14.FeasibleAlone': WHATEVER THE INPUT: true; the input reads as it did. -/
def feasibleAloneSpec : ChangeSpec := { name := "feasibleAlone", fn := fun _ => fun
  | [d] => { results := [.lit (.bool true)], args := [d] }
  | _ => none }
def feasibleAloneRow : OpenClaim := { program := "ytkknafmijabgaaagreatdoor", sum := "e9282a969e2f5a602d10c1449d939a4a7c827ed9248e769eb28d4acbcecd07dd", func := "drydock/drydocklaw14.FeasibleAlone", spec := "feasibleAlone", unfollowed := true, recurses := true, named := ["internal/strconv.uint64pow10", "math/bits.deBruijn32tab", "math/bits.deBruijn64tab"], apart := false, laid := [("math/bits.deBruijn32tab", laid_math_bits_deBruijn32tab), ("math/bits.deBruijn64tab", laid_math_bits_deBruijn64tab), ("internal/strconv.uint64pow10", laid_internal_strconv_uint64pow10)] }
def FeasibleAloneSaid : Prop := feasibleAloneRow.holds Tryz.pinned (OpenSpec.ofChange feasibleAloneSpec)

/-- ITS FALSE NEIGHBOUR: 'it returns false'. Refute it at one input. -/
def feasibleAloneWrong : ChangeSpec := { name := "feasibleAlone", fn := fun _ => fun
  | [d] => { results := [.lit (.bool false)], args := [d] }
  | _ => none }
def FeasibleAloneWrongFalsely : Prop := feasibleAloneRow.holds Tryz.pinned (OpenSpec.ofChange feasibleAloneWrong)

/-- 'drydocklaw14.FeasibleDecides': WHATEVER THE INPUT: true; the input reads as it did. -/
def feasibleDecidesSpec : ChangeSpec := { name := "feasibleDecides", fn := fun _ => fun
  | [d] => { results := [.lit (.bool true)], args := [d] }
  | _ => none }
def feasibleDecidesRow : OpenClaim := { program := "ytkknafmijabgaaagreatdoor", sum := "e9282a969e2f5a602d10c1449d939a4a7c827ed9248e769eb28d4acbcecd07dd", func := "drydock/drydocklaw14.FeasibleDecides", spec := "feasibleDecides", unfollowed := true, recurses := true, named := ["internal/strconv.uint64pow10", "math/bits.deBruijn32tab", "math/bits.deBruijn64tab"], apart := false, laid := [("math/bits.deBruijn32tab", laid_math_bits_deBruijn32tab), ("math/bits.deBruijn64tab", laid_math_bits_deBruijn64tab), ("internal/strconv.uint64pow10", laid_internal_strconv_uint64pow10)] }
def FeasibleDecidesSaid : Prop := feasibleDecidesRow.holds Tryz.pinned (OpenSpec.ofChange feasibleDecidesSpec)

/-- ITS FALSE NEIGHBOUR: 'it returns false'. Refute it at one input. -/
def feasibleDecidesWrong : ChangeSpec := { name := "feasibleDecides", fn := fun _ => fun
  | [d] => { results := [.lit (.bool false)], args := [d] }
  | _ => none }
def FeasibleDecidesWrongFalsely : Prop := feasibleDecidesRow.holds Tryz.pinned (OpenSpec.ofChange feasibleDecidesWrong)

/-- 'drydocklaw14.FeasibleSound': WHATEVER THE INPUT: true; the input reads as it did. -/
def feasibleSoundSpec : ChangeSpec := { name := "feasibleSound", fn := fun _ => fun
  | [d] => { results := [.lit (.bool true)], args := [d] }
  | _ => none }
def feasibleSoundRow : OpenClaim := { program := "ytkknafmijabgaaagreatdoor", sum := "e9282a969e2f5a602d10c1449d939a4a7c827ed9248e769eb28d4acbcecd07dd", func := "drydock/drydocklaw14.FeasibleSound", spec := "feasibleSound", unfollowed := true, recurses := true, named := ["internal/strconv.uint64pow10", "math/bits.deBruijn32tab", "math/bits.deBruijn64tab"], apart := false, laid := [("math/bits.deBruijn32tab", laid_math_bits_deBruijn32tab), ("math/bits.deBruijn64tab", laid_math_bits_deBruijn64tab), ("internal/strconv.uint64pow10", laid_internal_strconv_uint64pow10)] }
def FeasibleSoundSaid : Prop := feasibleSoundRow.holds Tryz.pinned (OpenSpec.ofChange feasibleSoundSpec)

/-- ITS FALSE NEIGHBOUR: 'it returns false'. Refute it at one input. -/
def feasibleSoundWrong : ChangeSpec := { name := "feasibleSound", fn := fun _ => fun
  | [d] => { results := [.lit (.bool false)], args := [d] }
  | _ => none }
def FeasibleSoundWrongFalsely : Prop := feasibleSoundRow.holds Tryz.pinned (OpenSpec.ofChange feasibleSoundWrong)

/- THE SECOND FORM. 'bulk': how many values and letters a reading holds, each counted each time it is reached (what is shared counts as often as it is met; a slice's spare places count too). A statement '..UptoSaid' is the law's where the arguments, and the package variables that the reading takes, are together of bulk at most 1048576: NARROWER than '..Said'. Prove '..Said' where nothing that the law and all that it calls make is longer than what came in: it says more and counts as full. Else prove '..UptoSaid'. A law counts once. -/
mutual
def uptoBulk {H : Type} : DataW H → Nat
  | .lit (.string bytes) => bytes.length + 1
  | .lit _ => 1
  | .nil => 1
  | .ptr d => uptoBulk d + 1
  | .slice elems spare => uptoBulkAll elems + uptoBulkAll spare + 1
  | .agg parts => uptoBulkAll parts + 1
  | .iface _ d => uptoBulk d + 1
  | .map entries => uptoBulkEntries entries + 1
  | .held _ => 1
def uptoBulkAll {H : Type} : List (DataW H) → Nat
  | [] => 0
  | d :: r => uptoBulk d + uptoBulkAll r
def uptoBulkEntries {H : Type} : List (Lit × DataW H) → Nat
  | [] => 0
  | x :: r => uptoBulkEntry x + uptoBulkEntries r
def uptoBulkEntry {H : Type} : Lit × DataW H → Nat
  | (.string bytes, d) => bytes.length + uptoBulk d + 1
  | (_, d) => uptoBulk d + 1
 end
def uptoSmall : (H : Type) → List (DataW H) → Bool := fun _ ds => decide (uptoBulkAll ds ≤ 1048576)
def OpenSpec.upto (s : _root_.Go.ChangeSpec) : _root_.Go.OpenSpec := { _root_.Go.OpenSpec.ofChange s with cond := some uptoSmall }

/-- 'drydocklaw14.FeasibleNetwork', WHERE WHAT IT READS IS OF BULK AT MOST 1048576: true; the input reads as it did. -/
def feasibleNetworkUptoRow : OpenClaim := { program := "ytkknafmijabgaaagreatdoor", sum := "e9282a969e2f5a602d10c1449d939a4a7c827ed9248e769eb28d4acbcecd07dd", func := "drydock/drydocklaw14.FeasibleNetwork", spec := "feasibleNetwork", unfollowed := true, recurses := true, named := ["internal/strconv.uint64pow10", "math/bits.deBruijn32tab", "math/bits.deBruijn64tab"], apart := false, laid := [("math/bits.deBruijn32tab", laid_math_bits_deBruijn32tab), ("math/bits.deBruijn64tab", laid_math_bits_deBruijn64tab), ("internal/strconv.uint64pow10", laid_internal_strconv_uint64pow10)], narrowed := true }
def FeasibleNetworkUptoSaid : Prop := feasibleNetworkUptoRow.holds Tryz.pinned (OpenSpec.upto feasibleNetworkSpec)

/-- 'drydocklaw14.FeasibleRaw', WHERE WHAT IT READS IS OF BULK AT MOST 1048576: true; the input reads as it did. -/
def feasibleRawUptoRow : OpenClaim := { program := "ytkknafmijabgaaagreatdoor", sum := "e9282a969e2f5a602d10c1449d939a4a7c827ed9248e769eb28d4acbcecd07dd", func := "drydock/drydocklaw14.FeasibleRaw", spec := "feasibleRaw", unfollowed := true, recurses := true, named := ["internal/strconv.uint64pow10", "math/bits.deBruijn32tab", "math/bits.deBruijn64tab"], apart := false, laid := [("math/bits.deBruijn32tab", laid_math_bits_deBruijn32tab), ("math/bits.deBruijn64tab", laid_math_bits_deBruijn64tab), ("internal/strconv.uint64pow10", laid_internal_strconv_uint64pow10)], narrowed := true }
def FeasibleRawUptoSaid : Prop := feasibleRawUptoRow.holds Tryz.pinned (OpenSpec.upto feasibleRawSpec)

/-- 'drydocklaw14.FeasibleCuts', WHERE WHAT IT READS IS OF BULK AT MOST 1048576: true; the input reads as it did. -/
def feasibleCutsUptoRow : OpenClaim := { program := "ytkknafmijabgaaagreatdoor", sum := "e9282a969e2f5a602d10c1449d939a4a7c827ed9248e769eb28d4acbcecd07dd", func := "drydock/drydocklaw14.FeasibleCuts", spec := "feasibleCuts", unfollowed := true, recurses := true, named := ["internal/strconv.uint64pow10", "math/bits.deBruijn32tab", "math/bits.deBruijn64tab"], apart := false, laid := [("math/bits.deBruijn32tab", laid_math_bits_deBruijn32tab), ("math/bits.deBruijn64tab", laid_math_bits_deBruijn64tab), ("internal/strconv.uint64pow10", laid_internal_strconv_uint64pow10)], narrowed := true }
def FeasibleCutsUptoSaid : Prop := feasibleCutsUptoRow.holds Tryz.pinned (OpenSpec.upto feasibleCutsSpec)

/-- 'drydocklaw14.FeasibleGrows', WHERE WHAT IT READS IS OF BULK AT MOST 1048576: true; the input reads as it did. -/
def feasibleGrowsUptoRow : OpenClaim := { program := "ytkknafmijabgaaagreatdoor", sum := "e9282a969e2f5a602d10c1449d939a4a7c827ed9248e769eb28d4acbcecd07dd", func := "drydock/drydocklaw14.FeasibleGrows", spec := "feasibleGrows", unfollowed := true, recurses := true, named := ["internal/strconv.uint64pow10", "math/bits.deBruijn32tab", "math/bits.deBruijn64tab"], apart := false, laid := [("math/bits.deBruijn32tab", laid_math_bits_deBruijn32tab), ("math/bits.deBruijn64tab", laid_math_bits_deBruijn64tab), ("internal/strconv.uint64pow10", laid_internal_strconv_uint64pow10)], narrowed := true }
def FeasibleGrowsUptoSaid : Prop := feasibleGrowsUptoRow.holds Tryz.pinned (OpenSpec.upto feasibleGrowsSpec)

/-- 'drydocklaw14.FeasibleAlone', WHERE WHAT IT READS IS OF BULK AT MOST 1048576: true; the input reads as it did. -/
def feasibleAloneUptoRow : OpenClaim := { program := "ytkknafmijabgaaagreatdoor", sum := "e9282a969e2f5a602d10c1449d939a4a7c827ed9248e769eb28d4acbcecd07dd", func := "drydock/drydocklaw14.FeasibleAlone", spec := "feasibleAlone", unfollowed := true, recurses := true, named := ["internal/strconv.uint64pow10", "math/bits.deBruijn32tab", "math/bits.deBruijn64tab"], apart := false, laid := [("math/bits.deBruijn32tab", laid_math_bits_deBruijn32tab), ("math/bits.deBruijn64tab", laid_math_bits_deBruijn64tab), ("internal/strconv.uint64pow10", laid_internal_strconv_uint64pow10)], narrowed := true }
def FeasibleAloneUptoSaid : Prop := feasibleAloneUptoRow.holds Tryz.pinned (OpenSpec.upto feasibleAloneSpec)

/-- 'drydocklaw14.FeasibleDecides', WHERE WHAT IT READS IS OF BULK AT MOST 1048576: true; the input reads as it did. -/
def feasibleDecidesUptoRow : OpenClaim := { program := "ytkknafmijabgaaagreatdoor", sum := "e9282a969e2f5a602d10c1449d939a4a7c827ed9248e769eb28d4acbcecd07dd", func := "drydock/drydocklaw14.FeasibleDecides", spec := "feasibleDecides", unfollowed := true, recurses := true, named := ["internal/strconv.uint64pow10", "math/bits.deBruijn32tab", "math/bits.deBruijn64tab"], apart := false, laid := [("math/bits.deBruijn32tab", laid_math_bits_deBruijn32tab), ("math/bits.deBruijn64tab", laid_math_bits_deBruijn64tab), ("internal/strconv.uint64pow10", laid_internal_strconv_uint64pow10)], narrowed := true }
def FeasibleDecidesUptoSaid : Prop := feasibleDecidesUptoRow.holds Tryz.pinned (OpenSpec.upto feasibleDecidesSpec)

/-- 'drydocklaw14.FeasibleSound', WHERE WHAT IT READS IS OF BULK AT MOST 1048576: true; the input reads as it did. -/
def feasibleSoundUptoRow : OpenClaim := { program := "ytkknafmijabgaaagreatdoor", sum := "e9282a969e2f5a602d10c1449d939a4a7c827ed9248e769eb28d4acbcecd07dd", func := "drydock/drydocklaw14.FeasibleSound", spec := "feasibleSound", unfollowed := true, recurses := true, named := ["internal/strconv.uint64pow10", "math/bits.deBruijn32tab", "math/bits.deBruijn64tab"], apart := false, laid := [("math/bits.deBruijn32tab", laid_math_bits_deBruijn32tab), ("math/bits.deBruijn64tab", laid_math_bits_deBruijn64tab), ("internal/strconv.uint64pow10", laid_internal_strconv_uint64pow10)], narrowed := true }
def FeasibleSoundUptoSaid : Prop := feasibleSoundUptoRow.holds Tryz.pinned (OpenSpec.upto feasibleSoundSpec)

end Rows
end Go.Proofs.YtkknafmijabgaaaGreatDoor
