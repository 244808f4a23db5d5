/-
  No cell of these rows narrows 'for every input' (looked for: loops, veiled, ifaces, maps, wideKeys, modest, calm, conditions, laid).
  DERIVED. THE GIVEN ROWS OF THIS SEAT. 5 by the template 'for every input the law returns true; each argument reads behind the call as it read before'; 0 by the template 'total and deterministic' (their statements: YthbkofcdddghgaaGreatTotals.lean).
  GIVEN WITH THE SEED: the statements are not yours to turn. If you find one false, say at which input.
  Laid BY PROGRAM, IN A SANDBOX (cutbox-rows.mjs): the forced cells as the released guide's own fill.sh prints them over the translation 0431efdcebc9b881… (all of the seat's roots in one cut). By AI agents, Wed Nov 11 2026. No macro, syntax, notation, axiom, sorry.
-/
import Derived.Test.YthbkofcdddghgaaGreatChecked
import GoSem.Claim
import GoSem.ClaimJoined
import GoSem.ClaimMapViews
import Derived.JoinedTies
import Derived.KernelRfl
namespace Go.Proofs.YthbkofcdddghgaaGreat
/- THE CELL 'sum', in the pinned program and in every row, IS THE sha256 OF THE DUMP (.gsa) THAT YthbkofcdddghgaaGreatProg.lean LOADS. Nothing in Lean hashes anything: it is a label: what it is worth is what the hold of that sum in a sandbox is worth. -/
noncomputable def Tryz.pinned : Pinned := { name := "ythbkofcdddghgaagreat", sum := "0431efdcebc9b8815ec61547c8e65decd8a5b87b482300db37750aa2e1da23ad", checked := Tryz.checked }
namespace Rows
def none {H : Type} : Left H := { results := [], args := [] }

/-- 'drydocklaw37.RolloutChecks': WHATEVER THE INPUT: true; the input reads as it did. -/
def rolloutChecksSpec : ChangeSpec := { name := "rolloutChecks", fn := fun _ => fun
  | [d1, d2, d3, d4, d5, d6] => { results := [.lit (.bool true)], args := [d1, d2, d3, d4, d5, d6] }
  | _ => none }
def rolloutChecksRow : OpenClaim := { program := "ythbkofcdddghgaagreat", sum := "0431efdcebc9b8815ec61547c8e65decd8a5b87b482300db37750aa2e1da23ad", func := "drydock/drydocklaw37.RolloutChecks", spec := "rolloutChecks", unfollowed := true, recurses := true, plainKeys := false, apart := false }
def RolloutChecksSaid : Prop := rolloutChecksRow.holds Tryz.pinned (OpenSpec.ofChange rolloutChecksSpec)

/-- ITS FALSE NEIGHBOUR: 'it returns false'. Refute it at one input. -/
def rolloutChecksWrong : ChangeSpec := { name := "rolloutChecks", fn := fun _ => fun
  | [d1, d2, d3, d4, d5, d6] => { results := [.lit (.bool false)], args := [d1, d2, d3, d4, d5, d6] }
  | _ => none }
def RolloutChecksWrongFalsely : Prop := rolloutChecksRow.holds Tryz.pinned (OpenSpec.ofChange rolloutChecksWrong)

/-- 'drydocklaw37.RolloutEnds': WHATEVER THE INPUT: true; the input reads as it did. -/
def rolloutEndsSpec : ChangeSpec := { name := "rolloutEnds", fn := fun _ => fun
  | [d1, d2, d3] => { results := [.lit (.bool true)], args := [d1, d2, d3] }
  | _ => none }
def rolloutEndsRow : OpenClaim := { program := "ythbkofcdddghgaagreat", sum := "0431efdcebc9b8815ec61547c8e65decd8a5b87b482300db37750aa2e1da23ad", func := "drydock/drydocklaw37.RolloutEnds", spec := "rolloutEnds", unfollowed := true, recurses := true, plainKeys := false, apart := false }
def RolloutEndsSaid : Prop := rolloutEndsRow.holds Tryz.pinned (OpenSpec.ofChange rolloutEndsSpec)

/-- ITS FALSE NEIGHBOUR: 'it returns false'. Refute it at one input. -/
def rolloutEndsWrong : ChangeSpec := { name := "rolloutEnds", fn := fun _ => fun
  | [d1, d2, d3] => { results := [.lit (.bool false)], args := [d1, d2, d3] }
  | _ => none }
def RolloutEndsWrongFalsely : Prop := rolloutEndsRow.holds Tryz.pinned (OpenSpec.ofChange rolloutEndsWrong)

/-- 'drydocklaw37.RolloutBound': WHATEVER THE INPUT: true; the input reads as it did. -/
def rolloutBoundSpec : ChangeSpec := { name := "rolloutBound", fn := fun _ => fun
  | [d1, d2, d3] => { results := [.lit (.bool true)], args := [d1, d2, d3] }
  | _ => none }
def rolloutBoundRow : OpenClaim := { program := "ythbkofcdddghgaagreat", sum := "0431efdcebc9b8815ec61547c8e65decd8a5b87b482300db37750aa2e1da23ad", func := "drydock/drydocklaw37.RolloutBound", spec := "rolloutBound", unfollowed := true, recurses := true, plainKeys := false, apart := false }
def RolloutBoundSaid : Prop := rolloutBoundRow.holds Tryz.pinned (OpenSpec.ofChange rolloutBoundSpec)

/-- ITS FALSE NEIGHBOUR: 'it returns false'. Refute it at one input. -/
def rolloutBoundWrong : ChangeSpec := { name := "rolloutBound", fn := fun _ => fun
  | [d1, d2, d3] => { results := [.lit (.bool false)], args := [d1, d2, d3] }
  | _ => none }
def RolloutBoundWrongFalsely : Prop := rolloutBoundRow.holds Tryz.pinned (OpenSpec.ofChange rolloutBoundWrong)

/-- 'drydocklaw37.RolloutWaves': WHATEVER THE INPUT: true; the input reads as it did. -/
def rolloutWavesSpec : ChangeSpec := { name := "rolloutWaves", fn := fun _ => fun
  | [d1, d2, d3] => { results := [.lit (.bool true)], args := [d1, d2, d3] }
  | _ => none }
def rolloutWavesRow : OpenClaim := { program := "ythbkofcdddghgaagreat", sum := "0431efdcebc9b8815ec61547c8e65decd8a5b87b482300db37750aa2e1da23ad", func := "drydock/drydocklaw37.RolloutWaves", spec := "rolloutWaves", unfollowed := true, recurses := true, plainKeys := false, apart := false }
def RolloutWavesSaid : Prop := rolloutWavesRow.holds Tryz.pinned (OpenSpec.ofChange rolloutWavesSpec)

/-- ITS FALSE NEIGHBOUR: 'it returns false'. Refute it at one input. -/
def rolloutWavesWrong : ChangeSpec := { name := "rolloutWaves", fn := fun _ => fun
  | [d1, d2, d3] => { results := [.lit (.bool false)], args := [d1, d2, d3] }
  | _ => none }
def RolloutWavesWrongFalsely : Prop := rolloutWavesRow.holds Tryz.pinned (OpenSpec.ofChange rolloutWavesWrong)

/-- 'drydocklaw37.RolloutRight': WHATEVER THE INPUT: true; the input reads as it did. -/
def rolloutRightSpec : ChangeSpec := { name := "rolloutRight", fn := fun _ => fun
  | [d1, d2] => { results := [.lit (.bool true)], args := [d1, d2] }
  | _ => none }
def rolloutRightRow : OpenClaim := { program := "ythbkofcdddghgaagreat", sum := "0431efdcebc9b8815ec61547c8e65decd8a5b87b482300db37750aa2e1da23ad", func := "drydock/drydocklaw37.RolloutRight", spec := "rolloutRight", unfollowed := true, recurses := true, plainKeys := false, apart := false }
def RolloutRightSaid : Prop := rolloutRightRow.holds Tryz.pinned (OpenSpec.ofChange rolloutRightSpec)

/-- ITS FALSE NEIGHBOUR: 'it returns false'. Refute it at one input. -/
def rolloutRightWrong : ChangeSpec := { name := "rolloutRight", fn := fun _ => fun
  | [d1, d2] => { results := [.lit (.bool false)], args := [d1, d2] }
  | _ => none }
def RolloutRightWrongFalsely : Prop := rolloutRightRow.holds Tryz.pinned (OpenSpec.ofChange rolloutRightWrong)

/- THE SECOND FORM. 'bulk': how many values and letters a reading holds, each counted each time it is reached (what is shared counts as often as it is met; a slice's spare places count too). A statement '..UptoSaid' is the law's where the arguments, and the package variables that the reading takes, are together of bulk at most 1048576: NARROWER than '..Said'. Prove '..Said' where nothing that the law and all that it calls make is longer than what came in: it says more and counts as full. Else prove '..UptoSaid'. A law counts once. -/
mutual
def uptoBulk {H : Type} : DataW H → Nat
  | .lit (.string bytes) => bytes.length + 1
  | .lit _ => 1
  | .nil => 1
  | .ptr d => uptoBulk d + 1
  | .slice elems spare => uptoBulkAll elems + uptoBulkAll spare + 1
  | .agg parts => uptoBulkAll parts + 1
  | .iface _ d => uptoBulk d + 1
  | .map entries => uptoBulkEntries entries + 1
  | .held _ => 1
def uptoBulkAll {H : Type} : List (DataW H) → Nat
  | [] => 0
  | d :: r => uptoBulk d + uptoBulkAll r
def uptoBulkEntries {H : Type} : List (Lit × DataW H) → Nat
  | [] => 0
  | x :: r => uptoBulkEntry x + uptoBulkEntries r
def uptoBulkEntry {H : Type} : Lit × DataW H → Nat
  | (.string bytes, d) => bytes.length + uptoBulk d + 1
  | (_, d) => uptoBulk d + 1
 end
def uptoSmall : (H : Type) → List (DataW H) → Bool := fun _ ds => decide (uptoBulkAll ds ≤ 1048576)
def OpenSpec.upto (s : _root_.Go.ChangeSpec) : _root_.Go.OpenSpec := { _root_.Go.OpenSpec.ofChange s with cond := some uptoSmall }

/-- 'drydocklaw37.RolloutChecks', WHERE WHAT IT READS IS OF BULK AT MOST 1048576: true; the input reads as it did. -/
def rolloutChecksUptoRow : OpenClaim := { program := "ythbkofcdddghgaagreat", sum := "0431efdcebc9b8815ec61547c8e65decd8a5b87b482300db37750aa2e1da23ad", func := "drydock/drydocklaw37.RolloutChecks", spec := "rolloutChecks", unfollowed := true, recurses := true, plainKeys := false, apart := false, narrowed := true }
def RolloutChecksUptoSaid : Prop := rolloutChecksUptoRow.holds Tryz.pinned (OpenSpec.upto rolloutChecksSpec)

/-- 'drydocklaw37.RolloutEnds', WHERE WHAT IT READS IS OF BULK AT MOST 1048576: true; the input reads as it did. -/
def rolloutEndsUptoRow : OpenClaim := { program := "ythbkofcdddghgaagreat", sum := "0431efdcebc9b8815ec61547c8e65decd8a5b87b482300db37750aa2e1da23ad", func := "drydock/drydocklaw37.RolloutEnds", spec := "rolloutEnds", unfollowed := true, recurses := true, plainKeys := false, apart := false, narrowed := true }
def RolloutEndsUptoSaid : Prop := rolloutEndsUptoRow.holds Tryz.pinned (OpenSpec.upto rolloutEndsSpec)

/-- 'drydocklaw37.RolloutBound', WHERE WHAT IT READS IS OF BULK AT MOST 1048576: true; the input reads as it did. -/
def rolloutBoundUptoRow : OpenClaim := { program := "ythbkofcdddghgaagreat", sum := "0431efdcebc9b8815ec61547c8e65decd8a5b87b482300db37750aa2e1da23ad", func := "drydock/drydocklaw37.RolloutBound", spec := "rolloutBound", unfollowed := true, recurses := true, plainKeys := false, apart := false, narrowed := true }
def RolloutBoundUptoSaid : Prop := rolloutBoundUptoRow.holds Tryz.pinned (OpenSpec.upto rolloutBoundSpec)

/-- 'drydocklaw37.RolloutWaves', WHERE WHAT IT READS IS OF BULK AT MOST 1048576: true; the input reads as it did. -/
def rolloutWavesUptoRow : OpenClaim := { program := "ythbkofcdddghgaagreat", sum := "0431efdcebc9b8815ec61547c8e65decd8a5b87b482300db37750aa2e1da23ad", func := "drydock/drydocklaw37.RolloutWaves", spec := "rolloutWaves", unfollowed := true, recurses := true, plainKeys := false, apart := false, narrowed := true }
def RolloutWavesUptoSaid : Prop := rolloutWavesUptoRow.holds Tryz.pinned (OpenSpec.upto rolloutWavesSpec)

/-- 'drydocklaw37.RolloutRight', WHERE WHAT IT READS IS OF BULK AT MOST 1048576: true; the input reads as it did. -/
def rolloutRightUptoRow : OpenClaim := { program := "ythbkofcdddghgaagreat", sum := "0431efdcebc9b8815ec61547c8e65decd8a5b87b482300db37750aa2e1da23ad", func := "drydock/drydocklaw37.RolloutRight", spec := "rolloutRight", unfollowed := true, recurses := true, plainKeys := false, apart := false, narrowed := true }
def RolloutRightUptoSaid : Prop := rolloutRightUptoRow.holds Tryz.pinned (OpenSpec.upto rolloutRightSpec)

end Rows
end Go.Proofs.YthbkofcdddghgaaGreat
