/-
  Contracts of the functions of a rollout: SameInts. No condition.
-/
import Derived.Test.YtelckcmlobadkaaRoCode
import Derived.Test.YtelckcmlobadkaaPm29
set_option linter.unusedSimpArgs false
set_option linter.unusedVariables false
namespace Go.PM
open Go

def sameF (xs ys : List Int) (i : Nat) : PF := (((PF.nil.set 0 (ints xs)).set 1 (ints ys)).set 4 (.bool false)).set 5 (.int .i64 i)
theorem same_ok {C : Ctx} (xs ys : List Int) (hmax : xs.length ≤ 9223372036854775806) : same_body.wp C (retK same.res (Gives (.bool (xs == ys)))) (PF.args [ints xs, ints ys]) .nil := by
  simp -implicitDefEqProofs only [go_sem, Nat.reduceEqDiff, Nat.reduceAdd, Nat.reduceSub, Nat.reduceMul, Nat.reduceLT, Nat.reduceLeDiff, Int.reduceLT, Int.reduceLE, Int.reduceEq, Int.reduceToNat, Int.reduceAdd, Int.reduceNeg, Int.reduceBEq, Int.reduceBNe, Nat.reduceBEq, reduceIte, reduceCtorEq, same_body, same_r0, same_r1, ints, same, List.length_map]
  refine condP_of (fun h => ?_) (fun h => ?_)
  · simp -implicitDefEqProofs only [go_sem, Nat.reduceEqDiff, Nat.reduceAdd, Nat.reduceSub, Nat.reduceMul, Nat.reduceLT, Nat.reduceLeDiff, Int.reduceLT, Int.reduceLE, Int.reduceEq, Int.reduceToNat, Int.reduceAdd, Int.reduceNeg, Int.reduceBEq, Int.reduceBNe, Nat.reduceBEq, reduceIte, reduceCtorEq, same_r2]
    refine retK_pure (.inr rfl) (by first | (simp -implicitDefEqProofs only [go_sem, Nat.reduceEqDiff, Nat.reduceAdd, Nat.reduceSub, Nat.reduceMul, Nat.reduceLT, Nat.reduceLeDiff, Int.reduceLT, Int.reduceLE, Int.reduceEq, Int.reduceToNat, Int.reduceAdd, Int.reduceNeg, Int.reduceBEq, Int.reduceBNe, Nat.reduceBEq, reduceIte, reduceCtorEq]; done) | (simp -implicitDefEqProofs only [go_sem, Nat.reduceEqDiff, Nat.reduceAdd, Nat.reduceSub, Nat.reduceMul, Nat.reduceLT, Nat.reduceLeDiff, Int.reduceLT, Int.reduceLE, Int.reduceEq, Int.reduceToNat, Int.reduceAdd, Int.reduceNeg, Int.reduceBEq, Int.reduceBNe, Nat.reduceBEq, reduceIte, reduceCtorEq]; rfl)) ?_
    have : ¬ xs = ys := by rintro rfl; simp at h
    simp [packRes, this]
  · have hl : xs.length = ys.length := by simp at h; omega
    simp -implicitDefEqProofs only [go_sem, Nat.reduceEqDiff, Nat.reduceAdd, Nat.reduceSub, Nat.reduceMul, Nat.reduceLT, Nat.reduceLeDiff, Int.reduceLT, Int.reduceLE, Int.reduceEq, Int.reduceToNat, Int.reduceAdd, Int.reduceNeg, Int.reduceBEq, Int.reduceBNe, Nat.reduceBEq, reduceIte, reduceCtorEq, same_r3]
    refine wp_loop (α := Nat) (sameF xs ys) (fun _ => .nil) (fun i => i ≤ xs.length ∧ xs.take i = ys.take i) (fun i => xs.length - i) 0 ⟨by omega, by simp⟩ ?_ PH.nil_le ?_
    · unfold sameF
      refine PF.set_le (PF.set_le (PF.set_le (PF.set_le PF.nil_le ?_) ?_) ?_) ?_ <;> simp -implicitDefEqProofs only [go_sem, Nat.reduceEqDiff, Nat.reduceAdd, Nat.reduceSub, Nat.reduceMul, Nat.reduceLT, Nat.reduceLeDiff, Int.reduceLT, Int.reduceLE, Int.reduceEq, Int.reduceToNat, Int.reduceAdd, Int.reduceNeg, Int.reduceBEq, Int.reduceBNe, Nat.reduceBEq, reduceIte, reduceCtorEq, ints] <;> rfl
    · rintro i ⟨hi, htake⟩
      simp -implicitDefEqProofs only [go_sem, Nat.reduceEqDiff, Nat.reduceAdd, Nat.reduceSub, Nat.reduceMul, Nat.reduceLT, Nat.reduceLeDiff, Int.reduceLT, Int.reduceLE, Int.reduceEq, Int.reduceToNat, Int.reduceAdd, Int.reduceNeg, Int.reduceBEq, Int.reduceBNe, Nat.reduceBEq, reduceIte, reduceCtorEq, same_l8, same_r4, sameF, ints, List.length_map]
      refine condP_of (fun h => ?_) (fun h => ?_)
      · have hlt : i < xs.length := by simpa using h
        simp -implicitDefEqProofs only [go_sem, Nat.reduceEqDiff, Nat.reduceAdd, Nat.reduceSub, Nat.reduceMul, Nat.reduceLT, Nat.reduceLeDiff, Int.reduceLT, Int.reduceLE, Int.reduceEq, Int.reduceToNat, Int.reduceAdd, Int.reduceNeg, Int.reduceBEq, Int.reduceBNe, Nat.reduceBEq, reduceIte, reduceCtorEq]
        refine wp_draw .nil noCalls PH.nil_le ?_
        have hx : (xs.map fun n => [PV.int .i64 n])[i]? = some [.int .i64 xs[i]] := by simp [hlt]
        have hy : (ys.map fun n => [PV.int .i64 n])[i]? = some [.int .i64 ys[i]] := by simp [show i < ys.length by omega]
        simp -implicitDefEqProofs only [go_sem, Nat.reduceEqDiff, Nat.reduceAdd, Nat.reduceSub, Nat.reduceMul, Nat.reduceLT, Nat.reduceLeDiff, Int.reduceLT, Int.reduceLE, Int.reduceEq, Int.reduceToNat, Int.reduceAdd, Int.reduceNeg, Int.reduceBEq, Int.reduceBNe, Nat.reduceBEq, reduceIte, reduceCtorEq, same_r5, Int.toNat_natCast, Int.natCast_nonneg, hx, hy, loadCells, List.length_singleton, Nat.le_refl]
        refine condP_of (fun h2 => ?_) (fun h2 => ?_)
        · simp -implicitDefEqProofs only [go_sem, Nat.reduceEqDiff, Nat.reduceAdd, Nat.reduceSub, Nat.reduceMul, Nat.reduceLT, Nat.reduceLeDiff, Int.reduceLT, Int.reduceLE, Int.reduceEq, Int.reduceToNat, Int.reduceAdd, Int.reduceNeg, Int.reduceBEq, Int.reduceBNe, Nat.reduceBEq, reduceIte, reduceCtorEq, same_r6]
          refine retK_pure (.inr rfl) (by first | (simp -implicitDefEqProofs only [go_sem, Nat.reduceEqDiff, Nat.reduceAdd, Nat.reduceSub, Nat.reduceMul, Nat.reduceLT, Nat.reduceLeDiff, Int.reduceLT, Int.reduceLE, Int.reduceEq, Int.reduceToNat, Int.reduceAdd, Int.reduceNeg, Int.reduceBEq, Int.reduceBNe, Nat.reduceBEq, reduceIte, reduceCtorEq]; done) | (simp -implicitDefEqProofs only [go_sem, Nat.reduceEqDiff, Nat.reduceAdd, Nat.reduceSub, Nat.reduceMul, Nat.reduceLT, Nat.reduceLeDiff, Int.reduceLT, Int.reduceLE, Int.reduceEq, Int.reduceToNat, Int.reduceAdd, Int.reduceNeg, Int.reduceBEq, Int.reduceBNe, Nat.reduceBEq, reduceIte, reduceCtorEq]; rfl)) ?_
          have hne : xs[i] ≠ ys[i] := by simpa using h2
          have : ¬ xs = ys := by rintro rfl; simp at hne
          simp [packRes, this]
        · have he : xs[i] = ys[i] := by simpa using h2
          simp -implicitDefEqProofs only [go_sem, Nat.reduceEqDiff, Nat.reduceAdd, Nat.reduceSub, Nat.reduceMul, Nat.reduceLT, Nat.reduceLeDiff, Int.reduceLT, Int.reduceLE, Int.reduceEq, Int.reduceToNat, Int.reduceAdd, Int.reduceNeg, Int.reduceBEq, Int.reduceBNe, Nat.reduceBEq, reduceIte, reduceCtorEq, same_r7]
          refine loopK_normal (i + 1) ⟨by omega, ?_⟩ (by omega) ?_ PH.nil_le
          · rw [List.take_succ_eq_append_getElem hlt, List.take_succ_eq_append_getElem (by omega : i < ys.length), htake, he]
          · unfold sameF
            have hw : IntKind.i64.wrap ((i : Int) + 1) = ((i + 1 : Nat) : Int) := by
              exact wrap_succ (by omega)
            refine PF.set_le (PF.set_le (PF.set_le (PF.set_le PF.nil_le ?_) ?_) ?_) ?_ <;> simp -implicitDefEqProofs only [go_sem, Nat.reduceEqDiff, Nat.reduceAdd, Nat.reduceSub, Nat.reduceMul, Nat.reduceLT, Nat.reduceLeDiff, Int.reduceLT, Int.reduceLE, Int.reduceEq, Int.reduceToNat, Int.reduceAdd, Int.reduceNeg, Int.reduceBEq, Int.reduceBNe, Nat.reduceBEq, reduceIte, reduceCtorEq, ints, hw]
      · have hge : i = xs.length := by simp at h; omega
        simp -implicitDefEqProofs only [go_sem, Nat.reduceEqDiff, Nat.reduceAdd, Nat.reduceSub, Nat.reduceMul, Nat.reduceLT, Nat.reduceLeDiff, Int.reduceLT, Int.reduceLE, Int.reduceEq, Int.reduceToNat, Int.reduceAdd, Int.reduceNeg, Int.reduceBEq, Int.reduceBNe, Nat.reduceBEq, reduceIte, reduceCtorEq, same_r9]
        refine retK_pure (.inr rfl) (by first | (simp -implicitDefEqProofs only [go_sem, Nat.reduceEqDiff, Nat.reduceAdd, Nat.reduceSub, Nat.reduceMul, Nat.reduceLT, Nat.reduceLeDiff, Int.reduceLT, Int.reduceLE, Int.reduceEq, Int.reduceToNat, Int.reduceAdd, Int.reduceNeg, Int.reduceBEq, Int.reduceBNe, Nat.reduceBEq, reduceIte, reduceCtorEq]; done) | (simp -implicitDefEqProofs only [go_sem, Nat.reduceEqDiff, Nat.reduceAdd, Nat.reduceSub, Nat.reduceMul, Nat.reduceLT, Nat.reduceLeDiff, Int.reduceLT, Int.reduceLE, Int.reduceEq, Int.reduceToNat, Int.reduceAdd, Int.reduceNeg, Int.reduceBEq, Int.reduceBNe, Nat.reduceBEq, reduceIte, reduceCtorEq]; rfl)) ?_
        subst hge
        have : xs = ys := by
          rw [List.take_length] at htake
          rw [htake, hl, List.take_length]
        simp [packRes, this]
end Go.PM
