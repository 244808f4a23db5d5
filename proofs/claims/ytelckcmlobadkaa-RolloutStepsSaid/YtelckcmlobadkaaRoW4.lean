/-
  Contracts of the functions of a rollout: Updated. No condition.
-/
import Derived.Test.YtelckcmlobadkaaRoW3
import Derived.Test.YtelckcmlobadkaaRoPlain
import Derived.Test.YtelckcmlobadkaaRoW1
set_option linter.unusedSimpArgs false
set_option linter.unusedVariables false
namespace Go.PM
open Go

def updN (len : Nat) (p w : Int) : Nat := if w < len then (if p = 3 ∨ p = 4 then w.toNat + 1 else w.toNat) else len
def updL (ws : List (List Int)) (p w : Int) : List Int := if p < 1 ∨ p > 5 ∨ w < 0 then [] else RO.insAll [] (ws.take (updN ws.length p w)).flatten

structure SortLib (C : Ctx) : Prop where
  concat : ∀ ws : List (List Int), ws.length ≤ 1000000 → ws.flatten.length ≤ 1000000 → ECalls C 178 [lists ws] .nil (Owns ws.flatten)
  sort : ∀ (o : Nat) (xs : List Int), xs ≠ [] → xs.length < 4611686018427387904 → ECalls C 180 [.osl o 1 0 xs.length] (PH.nil.set o (.rows 1 (irows xs))) (fun r H' => r = .tup [] ∧ H' = PH.nil.set o (.rows 1 (irows (sorted xs))))
  sort0 : ECalls C 180 [.nils] .nil (fun r H' => r = .tup [] ∧ H' = .nil)
  compact : ∀ (o : Nat) (xs : List Int), xs ≠ [] → xs.length < 4611686018427387904 → ECalls C 177 [.osl o 1 0 xs.length] (PH.nil.set o (.rows 1 (irows xs))) (fun r H' => r = .osl o 1 0 (Lib.compact xs).length ∧ H' = PH.nil.set o (.rows 1 (irows (Lib.compact xs ++ List.replicate (xs.length - (Lib.compact xs).length) 0))))
  compact0 : ECalls C 177 [.nils] .nil (fun r H' => r = .nils ∧ H' = .nil)

theorem irows_len (xs : List Int) : (irows xs).length = xs.length := by simp [irows]

theorem upd8_tail {C : Ctx} (L : SortLib C) (ws : List (List Int)) (h1 : ws.length ≤ 1000000) (h2 : ws.flatten.length ≤ 1000000) (n : Nat) (hn : n ≤ ws.length) (F : PF) (f0 : F 0 = some (lists ws)) (f5 : F 5 = some (.int .i64 n)) :
    PCode.wp C (.seq (.region upd8_r6) (.seq (.region upd8_r7) (.seq (.region upd8_r8) .ret))) (retK [.tmp 4] (Sees (ints (RO.insAll [] (ws.take n).flatten)))) F .nil := by
  have hr : (ws.map fun w => [ints w]).take n = (ws.take n).map fun w => [ints w] := by rw [List.map_take]
  have hc1 : (n : Int) ≤ (ws.length : Nat) := by omega
  simp -implicitDefEqProofs only [go_sem, Nat.reduceEqDiff, Nat.reduceAdd, Nat.reduceSub, Nat.reduceMul, Nat.reduceLT, Nat.reduceLeDiff, Int.reduceLT, Int.reduceLE, Int.reduceEq, Int.reduceToNat, Int.reduceAdd, Int.reduceNeg, Int.reduceBEq, Int.reduceBNe, Nat.reduceBEq, reduceIte, reduceCtorEq, upd8_r6, f0, f5, hr, hc1]
  have hfl := flat_le ws n
  refine wpCall_own (L.concat (ws.take n) (by rw [List.length_take]; omega) (by omega)) (by first | (simp -implicitDefEqProofs only [go_sem, Nat.reduceEqDiff, Nat.reduceAdd, Nat.reduceSub, Nat.reduceMul, Nat.reduceLT, Nat.reduceLeDiff, Int.reduceLT, Int.reduceLE, Int.reduceEq, Int.reduceToNat, Int.reduceAdd, Int.reduceNeg, Int.reduceBEq, Int.reduceBNe, Nat.reduceBEq, reduceIte, reduceCtorEq]; done) | (simp -implicitDefEqProofs only [go_sem, Nat.reduceEqDiff, Nat.reduceAdd, Nat.reduceSub, Nat.reduceMul, Nat.reduceLT, Nat.reduceLeDiff, Int.reduceLT, Int.reduceLE, Int.reduceEq, Int.reduceToNat, Int.reduceAdd, Int.reduceNeg, Int.reduceBEq, Int.reduceBNe, Nat.reduceBEq, reduceIte, reduceCtorEq]; rfl)) PH.nil_le ?_
  rw [← RO.compact_srt]
  generalize (ws.take n).flatten = xs at hfl
  intro r H' hr ha
  rcases hr with ⟨h0, rfl, rfl⟩ | ⟨h0, o, rfl, rfl⟩
  · subst h0
    rw [PH.over_nil]
    simp -implicitDefEqProofs only [go_sem, Nat.reduceEqDiff, Nat.reduceAdd, Nat.reduceSub, Nat.reduceMul, Nat.reduceLT, Nat.reduceLeDiff, Int.reduceLT, Int.reduceLE, Int.reduceEq, Int.reduceToNat, Int.reduceAdd, Int.reduceNeg, Int.reduceBEq, Int.reduceBNe, Nat.reduceBEq, reduceIte, reduceCtorEq, upd8_r7]
    refine wpCall_own L.sort0 (by first | (simp -implicitDefEqProofs only [go_sem, Nat.reduceEqDiff, Nat.reduceAdd, Nat.reduceSub, Nat.reduceMul, Nat.reduceLT, Nat.reduceLeDiff, Int.reduceLT, Int.reduceLE, Int.reduceEq, Int.reduceToNat, Int.reduceAdd, Int.reduceNeg, Int.reduceBEq, Int.reduceBNe, Nat.reduceBEq, reduceIte, reduceCtorEq]; done) | (simp -implicitDefEqProofs only [go_sem, Nat.reduceEqDiff, Nat.reduceAdd, Nat.reduceSub, Nat.reduceMul, Nat.reduceLT, Nat.reduceLeDiff, Int.reduceLT, Int.reduceLE, Int.reduceEq, Int.reduceToNat, Int.reduceAdd, Int.reduceNeg, Int.reduceBEq, Int.reduceBNe, Nat.reduceBEq, reduceIte, reduceCtorEq]; rfl)) PH.nil_le ?_
    rintro r H' ⟨rfl, rfl⟩ -
    rw [PH.over_nil]
    simp -implicitDefEqProofs only [go_sem, Nat.reduceEqDiff, Nat.reduceAdd, Nat.reduceSub, Nat.reduceMul, Nat.reduceLT, Nat.reduceLeDiff, Int.reduceLT, Int.reduceLE, Int.reduceEq, Int.reduceToNat, Int.reduceAdd, Int.reduceNeg, Int.reduceBEq, Int.reduceBNe, Nat.reduceBEq, reduceIte, reduceCtorEq, upd8_r8]
    refine wpCall_own L.compact0 (by first | (simp -implicitDefEqProofs only [go_sem, Nat.reduceEqDiff, Nat.reduceAdd, Nat.reduceSub, Nat.reduceMul, Nat.reduceLT, Nat.reduceLeDiff, Int.reduceLT, Int.reduceLE, Int.reduceEq, Int.reduceToNat, Int.reduceAdd, Int.reduceNeg, Int.reduceBEq, Int.reduceBNe, Nat.reduceBEq, reduceIte, reduceCtorEq]; done) | (simp -implicitDefEqProofs only [go_sem, Nat.reduceEqDiff, Nat.reduceAdd, Nat.reduceSub, Nat.reduceMul, Nat.reduceLT, Nat.reduceLeDiff, Int.reduceLT, Int.reduceLE, Int.reduceEq, Int.reduceToNat, Int.reduceAdd, Int.reduceNeg, Int.reduceBEq, Int.reduceBNe, Nat.reduceBEq, reduceIte, reduceCtorEq]; rfl)) PH.nil_le ?_
    rintro r H' ⟨rfl, rfl⟩ -
    rw [PH.over_nil]
    simp -implicitDefEqProofs only [go_sem, Nat.reduceEqDiff, Nat.reduceAdd, Nat.reduceSub, Nat.reduceMul, Nat.reduceLT, Nat.reduceLeDiff, Int.reduceLT, Int.reduceLE, Int.reduceEq, Int.reduceToNat, Int.reduceAdd, Int.reduceNeg, Int.reduceBEq, Int.reduceBNe, Nat.reduceBEq, reduceIte, reduceCtorEq]
    have e : Lib.compact (RO.srt []) = [] := by simp [RO.srt, Lib.compact, Lib.compactUpTo]
    rw [e]
    exact retK_keep (vs := [.nils]) (.inr rfl) .nil (by first | (simp -implicitDefEqProofs only [go_sem, Nat.reduceEqDiff, Nat.reduceAdd, Nat.reduceSub, Nat.reduceMul, Nat.reduceLT, Nat.reduceLeDiff, Int.reduceLT, Int.reduceLE, Int.reduceEq, Int.reduceToNat, Int.reduceAdd, Int.reduceNeg, Int.reduceBEq, Int.reduceBNe, Nat.reduceBEq, reduceIte, reduceCtorEq]; done) | (simp -implicitDefEqProofs only [go_sem, Nat.reduceEqDiff, Nat.reduceAdd, Nat.reduceSub, Nat.reduceMul, Nat.reduceLT, Nat.reduceLeDiff, Int.reduceLT, Int.reduceLE, Int.reduceEq, Int.reduceToNat, Int.reduceAdd, Int.reduceNeg, Int.reduceBEq, Int.reduceBNe, Nat.reduceBEq, reduceIte, reduceCtorEq]; rfl)) PH.nil_le ⟨.nil 1, rfl⟩
  · rw [PH.over_nil_set]
    simp -implicitDefEqProofs only [go_sem, Nat.reduceEqDiff, Nat.reduceAdd, Nat.reduceSub, Nat.reduceMul, Nat.reduceLT, Nat.reduceLeDiff, Int.reduceLT, Int.reduceLE, Int.reduceEq, Int.reduceToNat, Int.reduceAdd, Int.reduceNeg, Int.reduceBEq, Int.reduceBNe, Nat.reduceBEq, reduceIte, reduceCtorEq, upd8_r7]
    refine wpCall_own (L.sort o xs h0 (by omega)) (by first | (simp -implicitDefEqProofs only [go_sem, Nat.reduceEqDiff, Nat.reduceAdd, Nat.reduceSub, Nat.reduceMul, Nat.reduceLT, Nat.reduceLeDiff, Int.reduceLT, Int.reduceLE, Int.reduceEq, Int.reduceToNat, Int.reduceAdd, Int.reduceNeg, Int.reduceBEq, Int.reduceBNe, Nat.reduceBEq, reduceIte, reduceCtorEq]; done) | (simp -implicitDefEqProofs only [go_sem, Nat.reduceEqDiff, Nat.reduceAdd, Nat.reduceSub, Nat.reduceMul, Nat.reduceLT, Nat.reduceLeDiff, Int.reduceLT, Int.reduceLE, Int.reduceEq, Int.reduceToNat, Int.reduceAdd, Int.reduceNeg, Int.reduceBEq, Int.reduceBNe, Nat.reduceBEq, reduceIte, reduceCtorEq]; rfl)) PH.le_refl ?_
    rintro r H' ⟨rfl, rfl⟩ -
    rw [PH.over_set_set, PH.set_set]
    simp -implicitDefEqProofs only [go_sem, Nat.reduceEqDiff, Nat.reduceAdd, Nat.reduceSub, Nat.reduceMul, Nat.reduceLT, Nat.reduceLeDiff, Int.reduceLT, Int.reduceLE, Int.reduceEq, Int.reduceToNat, Int.reduceAdd, Int.reduceNeg, Int.reduceBEq, Int.reduceBNe, Nat.reduceBEq, reduceIte, reduceCtorEq, upd8_r8]
    have hsl : (sorted xs).length = xs.length := by simp [sorted]
    have hs0 : sorted xs ≠ [] := by
      intro e; rw [e] at hsl; exact h0 (List.eq_nil_of_length_eq_zero hsl.symm)
    refine wpCall_own (L.compact o (sorted xs) hs0 (by omega)) (by rw [hsl]; simp -implicitDefEqProofs only [go_sem, Nat.reduceEqDiff, Nat.reduceAdd, Nat.reduceSub, Nat.reduceMul, Nat.reduceLT, Nat.reduceLeDiff, Int.reduceLT, Int.reduceLE, Int.reduceEq, Int.reduceToNat, Int.reduceAdd, Int.reduceNeg, Int.reduceBEq, Int.reduceBNe, Nat.reduceBEq, reduceIte, reduceCtorEq]) PH.le_refl ?_
    rintro r H' ⟨rfl, rfl⟩ -
    rw [PH.over_set_set, PH.set_set]
    simp -implicitDefEqProofs only [go_sem, Nat.reduceEqDiff, Nat.reduceAdd, Nat.reduceSub, Nat.reduceMul, Nat.reduceLT, Nat.reduceLeDiff, Int.reduceLT, Int.reduceLE, Int.reduceEq, Int.reduceToNat, Int.reduceAdd, Int.reduceNeg, Int.reduceBEq, Int.reduceBNe, Nat.reduceBEq, reduceIte, reduceCtorEq]
    refine retK_frz (o := o) (s := 1) (k := (Lib.compact (sorted xs)).length) (rs := irows (Lib.compact (sorted xs) ++ List.replicate ((sorted xs).length - (Lib.compact (sorted xs)).length) 0)) (.inr rfl) (by simp -implicitDefEqProofs only [go_sem, Nat.reduceEqDiff, Nat.reduceAdd, Nat.reduceSub, Nat.reduceMul, Nat.reduceLT, Nat.reduceLeDiff, Int.reduceLT, Int.reduceLE, Int.reduceEq, Int.reduceToNat, Int.reduceAdd, Int.reduceNeg, Int.reduceBEq, Int.reduceBNe, Nat.reduceBEq, reduceIte, reduceCtorEq]) (by simp -implicitDefEqProofs only [go_sem, Nat.reduceEqDiff, Nat.reduceAdd, Nat.reduceSub, Nat.reduceMul, Nat.reduceLT, Nat.reduceLeDiff, Int.reduceLT, Int.reduceLE, Int.reduceEq, Int.reduceToNat, Int.reduceAdd, Int.reduceNeg, Int.reduceBEq, Int.reduceBNe, Nat.reduceBEq, reduceIte, reduceCtorEq]) (by rw [irows_len, List.length_append]; omega) ⟨?_, rfl⟩
    have e : (irows (Lib.compact (sorted xs) ++ List.replicate ((sorted xs).length - (Lib.compact (sorted xs)).length) 0)).take (Lib.compact (sorted xs)).length = irows (Lib.compact (sorted xs)) := by
      unfold irows
      rw [List.map_append, List.take_append_of_le_length (by rw [List.length_map]; exact Nat.le_refl _), List.take_of_length_le (by rw [List.length_map]; exact Nat.le_refl _)]
    rw [e]
    exact .refl _

theorem upd8_ok {C : Ctx} (L : SortLib C) (ws : List (List Int)) (h1 : ws.length ≤ 1000000) (h2 : ws.flatten.length ≤ 1000000) (p w : Int) :
    upd8_body.wp C (retK upd8.res (Sees (ints (updL ws p w)))) (PF.args [lists ws, .agg [.int .i64 p, .int .i64 w]]) .nil := by
  simp -implicitDefEqProofs only [go_sem, Nat.reduceEqDiff, Nat.reduceAdd, Nat.reduceSub, Nat.reduceMul, Nat.reduceLT, Nat.reduceLeDiff, Int.reduceLT, Int.reduceLE, Int.reduceEq, Int.reduceToNat, Int.reduceAdd, Int.reduceNeg, Int.reduceBEq, Int.reduceBNe, Nat.reduceBEq, reduceIte, reduceCtorEq, upd8_body, upd8_r0, upd8_r1, upd8]
  by_cases c1 : p < 1
  · simp -implicitDefEqProofs only [go_sem, Nat.reduceEqDiff, Nat.reduceAdd, Nat.reduceSub, Nat.reduceMul, Nat.reduceLT, Nat.reduceLeDiff, Int.reduceLT, Int.reduceLE, Int.reduceEq, Int.reduceToNat, Int.reduceAdd, Int.reduceNeg, Int.reduceBEq, Int.reduceBNe, Nat.reduceBEq, reduceIte, reduceCtorEq, c1, upd8_r2]
    refine retK_keep (.inr rfl) .nil (by first | (simp -implicitDefEqProofs only [go_sem, Nat.reduceEqDiff, Nat.reduceAdd, Nat.reduceSub, Nat.reduceMul, Nat.reduceLT, Nat.reduceLeDiff, Int.reduceLT, Int.reduceLE, Int.reduceEq, Int.reduceToNat, Int.reduceAdd, Int.reduceNeg, Int.reduceBEq, Int.reduceBNe, Nat.reduceBEq, reduceIte, reduceCtorEq]; done) | (simp -implicitDefEqProofs only [go_sem, Nat.reduceEqDiff, Nat.reduceAdd, Nat.reduceSub, Nat.reduceMul, Nat.reduceLT, Nat.reduceLeDiff, Int.reduceLT, Int.reduceLE, Int.reduceEq, Int.reduceToNat, Int.reduceAdd, Int.reduceNeg, Int.reduceBEq, Int.reduceBNe, Nat.reduceBEq, reduceIte, reduceCtorEq]; rfl)) PH.nil_le ⟨?_, rfl⟩
    simp only [updL, c1, true_or, if_true]; exact .nil 1
  simp -implicitDefEqProofs only [go_sem, Nat.reduceEqDiff, Nat.reduceAdd, Nat.reduceSub, Nat.reduceMul, Nat.reduceLT, Nat.reduceLeDiff, Int.reduceLT, Int.reduceLE, Int.reduceEq, Int.reduceToNat, Int.reduceAdd, Int.reduceNeg, Int.reduceBEq, Int.reduceBNe, Nat.reduceBEq, reduceIte, reduceCtorEq, c1]
  by_cases c2 : p > 5
  · simp -implicitDefEqProofs only [go_sem, Nat.reduceEqDiff, Nat.reduceAdd, Nat.reduceSub, Nat.reduceMul, Nat.reduceLT, Nat.reduceLeDiff, Int.reduceLT, Int.reduceLE, Int.reduceEq, Int.reduceToNat, Int.reduceAdd, Int.reduceNeg, Int.reduceBEq, Int.reduceBNe, Nat.reduceBEq, reduceIte, reduceCtorEq, c2, upd8_r2]
    refine retK_keep (.inr rfl) .nil (by first | (simp -implicitDefEqProofs only [go_sem, Nat.reduceEqDiff, Nat.reduceAdd, Nat.reduceSub, Nat.reduceMul, Nat.reduceLT, Nat.reduceLeDiff, Int.reduceLT, Int.reduceLE, Int.reduceEq, Int.reduceToNat, Int.reduceAdd, Int.reduceNeg, Int.reduceBEq, Int.reduceBNe, Nat.reduceBEq, reduceIte, reduceCtorEq]; done) | (simp -implicitDefEqProofs only [go_sem, Nat.reduceEqDiff, Nat.reduceAdd, Nat.reduceSub, Nat.reduceMul, Nat.reduceLT, Nat.reduceLeDiff, Int.reduceLT, Int.reduceLE, Int.reduceEq, Int.reduceToNat, Int.reduceAdd, Int.reduceNeg, Int.reduceBEq, Int.reduceBNe, Nat.reduceBEq, reduceIte, reduceCtorEq]; rfl)) PH.nil_le ⟨?_, rfl⟩
    simp only [updL, c2, true_or, or_true, if_true]; exact .nil 1
  simp -implicitDefEqProofs only [go_sem, Nat.reduceEqDiff, Nat.reduceAdd, Nat.reduceSub, Nat.reduceMul, Nat.reduceLT, Nat.reduceLeDiff, Int.reduceLT, Int.reduceLE, Int.reduceEq, Int.reduceToNat, Int.reduceAdd, Int.reduceNeg, Int.reduceBEq, Int.reduceBNe, Nat.reduceBEq, reduceIte, reduceCtorEq, c2]
  by_cases c3 : w < 0
  · simp -implicitDefEqProofs only [go_sem, Nat.reduceEqDiff, Nat.reduceAdd, Nat.reduceSub, Nat.reduceMul, Nat.reduceLT, Nat.reduceLeDiff, Int.reduceLT, Int.reduceLE, Int.reduceEq, Int.reduceToNat, Int.reduceAdd, Int.reduceNeg, Int.reduceBEq, Int.reduceBNe, Nat.reduceBEq, reduceIte, reduceCtorEq, c3, upd8_r2]
    refine retK_keep (.inr rfl) .nil (by first | (simp -implicitDefEqProofs only [go_sem, Nat.reduceEqDiff, Nat.reduceAdd, Nat.reduceSub, Nat.reduceMul, Nat.reduceLT, Nat.reduceLeDiff, Int.reduceLT, Int.reduceLE, Int.reduceEq, Int.reduceToNat, Int.reduceAdd, Int.reduceNeg, Int.reduceBEq, Int.reduceBNe, Nat.reduceBEq, reduceIte, reduceCtorEq]; done) | (simp -implicitDefEqProofs only [go_sem, Nat.reduceEqDiff, Nat.reduceAdd, Nat.reduceSub, Nat.reduceMul, Nat.reduceLT, Nat.reduceLeDiff, Int.reduceLT, Int.reduceLE, Int.reduceEq, Int.reduceToNat, Int.reduceAdd, Int.reduceNeg, Int.reduceBEq, Int.reduceBNe, Nat.reduceBEq, reduceIte, reduceCtorEq]; rfl)) PH.nil_le ⟨?_, rfl⟩
    simp only [updL, c3, or_true, if_true]; exact .nil 1
  simp -implicitDefEqProofs only [go_sem, Nat.reduceEqDiff, Nat.reduceAdd, Nat.reduceSub, Nat.reduceMul, Nat.reduceLT, Nat.reduceLeDiff, Int.reduceLT, Int.reduceLE, Int.reduceEq, Int.reduceToNat, Int.reduceAdd, Int.reduceNeg, Int.reduceBEq, Int.reduceBNe, Nat.reduceBEq, reduceIte, reduceCtorEq, c3]
  have hu : updL ws p w = RO.insAll [] (ws.take (updN ws.length p w)).flatten := by
    simp only [updL, c1, c2, c3, or_self, if_false]
  rw [hu]
  by_cases c4 : w < ws.length
  · have c5 : ¬ (ws.length : Int) < w := by omega
    simp -implicitDefEqProofs only [go_sem, Nat.reduceEqDiff, Nat.reduceAdd, Nat.reduceSub, Nat.reduceMul, Nat.reduceLT, Nat.reduceLeDiff, Int.reduceLT, Int.reduceLE, Int.reduceEq, Int.reduceToNat, Int.reduceAdd, Int.reduceNeg, Int.reduceBEq, Int.reduceBNe, Nat.reduceBEq, reduceIte, reduceCtorEq, upd8_r3, c5, upd8_r4, c4]
    by_cases c6 : p = 3
    · subst c6
      have e : updN ws.length 3 w = w.toNat + 1 := by simp [updN, c4]
      rw [e]
      simp -implicitDefEqProofs only [go_sem, Nat.reduceEqDiff, Nat.reduceAdd, Nat.reduceSub, Nat.reduceMul, Nat.reduceLT, Nat.reduceLeDiff, Int.reduceLT, Int.reduceLE, Int.reduceEq, Int.reduceToNat, Int.reduceAdd, Int.reduceNeg, Int.reduceBEq, Int.reduceBNe, Nat.reduceBEq, reduceIte, reduceCtorEq, upd8_r5]
      refine upd8_tail L ws h1 h2 _ (by omega) _ (by simp -implicitDefEqProofs only [go_sem, Nat.reduceEqDiff, Nat.reduceAdd, Nat.reduceSub, Nat.reduceMul, Nat.reduceLT, Nat.reduceLeDiff, Int.reduceLT, Int.reduceLE, Int.reduceEq, Int.reduceToNat, Int.reduceAdd, Int.reduceNeg, Int.reduceBEq, Int.reduceBNe, Nat.reduceBEq, reduceIte, reduceCtorEq]) (by simp -implicitDefEqProofs only [go_sem, Nat.reduceEqDiff, Nat.reduceAdd, Nat.reduceSub, Nat.reduceMul, Nat.reduceLT, Nat.reduceLeDiff, Int.reduceLT, Int.reduceLE, Int.reduceEq, Int.reduceToNat, Int.reduceAdd, Int.reduceNeg, Int.reduceBEq, Int.reduceBNe, Nat.reduceBEq, reduceIte, reduceCtorEq]; rw [wrap_i64 (by omega) (by omega)]; omega)
    simp -implicitDefEqProofs only [go_sem, Nat.reduceEqDiff, Nat.reduceAdd, Nat.reduceSub, Nat.reduceMul, Nat.reduceLT, Nat.reduceLeDiff, Int.reduceLT, Int.reduceLE, Int.reduceEq, Int.reduceToNat, Int.reduceAdd, Int.reduceNeg, Int.reduceBEq, Int.reduceBNe, Nat.reduceBEq, reduceIte, reduceCtorEq, int_beq_false c6]
    by_cases c7 : p = 4
    · subst c7
      have e : updN ws.length 4 w = w.toNat + 1 := by simp [updN, c4]
      rw [e]
      simp -implicitDefEqProofs only [go_sem, Nat.reduceEqDiff, Nat.reduceAdd, Nat.reduceSub, Nat.reduceMul, Nat.reduceLT, Nat.reduceLeDiff, Int.reduceLT, Int.reduceLE, Int.reduceEq, Int.reduceToNat, Int.reduceAdd, Int.reduceNeg, Int.reduceBEq, Int.reduceBNe, Nat.reduceBEq, reduceIte, reduceCtorEq, upd8_r5]
      refine upd8_tail L ws h1 h2 _ (by omega) _ (by simp -implicitDefEqProofs only [go_sem, Nat.reduceEqDiff, Nat.reduceAdd, Nat.reduceSub, Nat.reduceMul, Nat.reduceLT, Nat.reduceLeDiff, Int.reduceLT, Int.reduceLE, Int.reduceEq, Int.reduceToNat, Int.reduceAdd, Int.reduceNeg, Int.reduceBEq, Int.reduceBNe, Nat.reduceBEq, reduceIte, reduceCtorEq]) (by simp -implicitDefEqProofs only [go_sem, Nat.reduceEqDiff, Nat.reduceAdd, Nat.reduceSub, Nat.reduceMul, Nat.reduceLT, Nat.reduceLeDiff, Int.reduceLT, Int.reduceLE, Int.reduceEq, Int.reduceToNat, Int.reduceAdd, Int.reduceNeg, Int.reduceBEq, Int.reduceBNe, Nat.reduceBEq, reduceIte, reduceCtorEq]; rw [wrap_i64 (by omega) (by omega)]; omega)
    have e : updN ws.length p w = w.toNat := by simp [updN, c4, c6, c7]
    rw [e]
    simp -implicitDefEqProofs only [go_sem, Nat.reduceEqDiff, Nat.reduceAdd, Nat.reduceSub, Nat.reduceMul, Nat.reduceLT, Nat.reduceLeDiff, Int.reduceLT, Int.reduceLE, Int.reduceEq, Int.reduceToNat, Int.reduceAdd, Int.reduceNeg, Int.reduceBEq, Int.reduceBNe, Nat.reduceBEq, reduceIte, reduceCtorEq, int_beq_false c7]
    refine upd8_tail L ws h1 h2 _ (by omega) _ (by simp -implicitDefEqProofs only [go_sem, Nat.reduceEqDiff, Nat.reduceAdd, Nat.reduceSub, Nat.reduceMul, Nat.reduceLT, Nat.reduceLeDiff, Int.reduceLT, Int.reduceLE, Int.reduceEq, Int.reduceToNat, Int.reduceAdd, Int.reduceNeg, Int.reduceBEq, Int.reduceBNe, Nat.reduceBEq, reduceIte, reduceCtorEq]) (by simp -implicitDefEqProofs only [go_sem, Nat.reduceEqDiff, Nat.reduceAdd, Nat.reduceSub, Nat.reduceMul, Nat.reduceLT, Nat.reduceLeDiff, Int.reduceLT, Int.reduceLE, Int.reduceEq, Int.reduceToNat, Int.reduceAdd, Int.reduceNeg, Int.reduceBEq, Int.reduceBNe, Nat.reduceBEq, reduceIte, reduceCtorEq]; omega)
  · have e : updN ws.length p w = ws.length := by simp [updN, c4]
    rw [e]
    by_cases c5 : (ws.length : Int) < w
    · simp -implicitDefEqProofs only [go_sem, Nat.reduceEqDiff, Nat.reduceAdd, Nat.reduceSub, Nat.reduceMul, Nat.reduceLT, Nat.reduceLeDiff, Int.reduceLT, Int.reduceLE, Int.reduceEq, Int.reduceToNat, Int.reduceAdd, Int.reduceNeg, Int.reduceBEq, Int.reduceBNe, Nat.reduceBEq, reduceIte, reduceCtorEq, upd8_r3, c5, upd8_r4]
      refine upd8_tail L ws h1 h2 _ (Nat.le_refl _) _ (by simp -implicitDefEqProofs only [go_sem, Nat.reduceEqDiff, Nat.reduceAdd, Nat.reduceSub, Nat.reduceMul, Nat.reduceLT, Nat.reduceLeDiff, Int.reduceLT, Int.reduceLE, Int.reduceEq, Int.reduceToNat, Int.reduceAdd, Int.reduceNeg, Int.reduceBEq, Int.reduceBNe, Nat.reduceBEq, reduceIte, reduceCtorEq]) (by simp -implicitDefEqProofs only [go_sem, Nat.reduceEqDiff, Nat.reduceAdd, Nat.reduceSub, Nat.reduceMul, Nat.reduceLT, Nat.reduceLeDiff, Int.reduceLT, Int.reduceLE, Int.reduceEq, Int.reduceToNat, Int.reduceAdd, Int.reduceNeg, Int.reduceBEq, Int.reduceBNe, Nat.reduceBEq, reduceIte, reduceCtorEq])
    · have c6 : w = (ws.length : Nat) := by omega
      subst c6
      simp -implicitDefEqProofs only [go_sem, Nat.reduceEqDiff, Nat.reduceAdd, Nat.reduceSub, Nat.reduceMul, Nat.reduceLT, Nat.reduceLeDiff, Int.reduceLT, Int.reduceLE, Int.reduceEq, Int.reduceToNat, Int.reduceAdd, Int.reduceNeg, Int.reduceBEq, Int.reduceBNe, Nat.reduceBEq, reduceIte, reduceCtorEq, upd8_r3, upd8_r4]
      refine upd8_tail L ws h1 h2 _ (Nat.le_refl _) _ (by simp -implicitDefEqProofs only [go_sem, Nat.reduceEqDiff, Nat.reduceAdd, Nat.reduceSub, Nat.reduceMul, Nat.reduceLT, Nat.reduceLeDiff, Int.reduceLT, Int.reduceLE, Int.reduceEq, Int.reduceToNat, Int.reduceAdd, Int.reduceNeg, Int.reduceBEq, Int.reduceBNe, Nat.reduceBEq, reduceIte, reduceCtorEq]) (by simp -implicitDefEqProofs only [go_sem, Nat.reduceEqDiff, Nat.reduceAdd, Nat.reduceSub, Nat.reduceMul, Nat.reduceLT, Nat.reduceLeDiff, Int.reduceLT, Int.reduceLE, Int.reduceEq, Int.reduceToNat, Int.reduceAdd, Int.reduceNeg, Int.reduceBEq, Int.reduceBNe, Nat.reduceBEq, reduceIte, reduceCtorEq])
end Go.PM
