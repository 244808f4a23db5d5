/-
  Contracts of the functions of a rollout: slices.Concat. No condition.
-/
import Derived.Test.YtelckcmlobadkaaRoCode
import Derived.Test.YtelckcmlobadkaaPm30
import Derived.Test.YtelckcmlobadkaaPm28
set_option linter.unusedSimpArgs false
set_option linter.unusedVariables false
namespace Go.PM
open Go

abbrev lists (ws : List (List Int)) : PV := .sl 1 (ws.map fun w => [ints w])
/-- A new list of numbers of the call's own, or nil. -/
def Owns (xs : List Int) (r : PV) (H : PH) : Prop := (xs = [] ∧ r = .nils ∧ H = .nil) ∨ (xs ≠ [] ∧ ∃ o, r = .osl o 1 0 xs.length ∧ H = PH.nil.set o (.rows 1 (irows xs)))
def growR (n : Int) (r : PV) (H : PH) : Prop := (n = 0 ∧ r = .nils ∧ H = .nil) ∨ (0 < n ∧ ∃ o, r = .osl o 1 0 0 ∧ H = PH.nil.set o (.rows 1 []))

def cat1 (ws : List (List Int)) (i : Nat) : PF := ((((((PF.nil.set 0 (lists ws)).set 2 (.nils)).set 3 (.int .i64 ((ws.take i).flatten.length : Nat))).set 9 (lists ws)).set 10 (.int .i64 (ws.length : Nat))).set 11 (.int .i64 i))
def cat2 (ws : List (List Int)) (v : PV) (i : Nat) : PF := (((((PF.nil.set 2 (.nils)).set 6 (v)).set 25 (lists ws)).set 26 (.int .i64 (ws.length : Nat))).set 27 (.int .i64 i))

theorem flat_succ (ws : List (List Int)) {i : Nat} (h : i < ws.length) : (ws.take (i + 1)).flatten = (ws.take i).flatten ++ ws[i] := by
  rw [List.take_succ_eq_append_getElem h, List.flatten_append]; simp
theorem flat_le (ws : List (List Int)) (i : Nat) : (ws.take i).flatten.length ≤ ws.flatten.length := by
  conv => rhs; rw [← List.take_append_drop i ws, List.flatten_append, List.length_append]
  omega

theorem concat_ok {C : Ctx} (ws : List (List Int)) (h1 : ws.length ≤ 1000000) (h2 : ws.flatten.length ≤ 1000000) (hg : ∀ n : Int, 0 ≤ n → n ≤ 1000000 → ECalls C 179 [.nils, .int .i64 n] .nil (growR n)) :
    concat_body.wp C (retK concat.res (Owns ws.flatten)) (PF.args [lists ws]) .nil := by
  simp -implicitDefEqProofs only [go_sem, Nat.reduceEqDiff, Nat.reduceAdd, Nat.reduceSub, Nat.reduceMul, Nat.reduceLT, Nat.reduceLeDiff, Int.reduceLT, Int.reduceLE, Int.reduceEq, Int.reduceToNat, Int.reduceAdd, Int.reduceNeg, Int.reduceBEq, Int.reduceBNe, Nat.reduceBEq, reduceIte, reduceCtorEq, concat_body, concat_r0, concat_r1, concat_r2, lists, concat]
  refine wp_loop (α := Nat) (cat1 ws) (fun _ => .nil) (fun i => i ≤ ws.length) (fun i => ws.length - i) 0 (by omega) ?_ PH.nil_le ?_
  · unfold cat1
    (repeat' (first | exact PF.nil_le | refine PF.set_le ?_ ?_)) <;> first | (simp -implicitDefEqProofs only [go_sem, Nat.reduceEqDiff, Nat.reduceAdd, Nat.reduceSub, Nat.reduceMul, Nat.reduceLT, Nat.reduceLeDiff, Int.reduceLT, Int.reduceLE, Int.reduceEq, Int.reduceToNat, Int.reduceAdd, Int.reduceNeg, Int.reduceBEq, Int.reduceBNe, Nat.reduceBEq, reduceIte, reduceCtorEq]; done) | (simp -implicitDefEqProofs only [go_sem, Nat.reduceEqDiff, Nat.reduceAdd, Nat.reduceSub, Nat.reduceMul, Nat.reduceLT, Nat.reduceLeDiff, Int.reduceLT, Int.reduceLE, Int.reduceEq, Int.reduceToNat, Int.reduceAdd, Int.reduceNeg, Int.reduceBEq, Int.reduceBNe, Nat.reduceBEq, reduceIte, reduceCtorEq]; rfl) | rfl
  intro i hi
  simp -implicitDefEqProofs only [go_sem, Nat.reduceEqDiff, Nat.reduceAdd, Nat.reduceSub, Nat.reduceMul, Nat.reduceLT, Nat.reduceLeDiff, Int.reduceLT, Int.reduceLE, Int.reduceEq, Int.reduceToNat, Int.reduceAdd, Int.reduceNeg, Int.reduceBEq, Int.reduceBNe, Nat.reduceBEq, reduceIte, reduceCtorEq, concat_l9, concat_r3, cat1]
  refine condP_of (fun h => ?_) (fun h => ?_)
  · have hlt : i < ws.length := by simpa using h
    have hx : (ws.map fun w => [ints w])[i]? = some [ints ws[i]] := by simp [hlt]
    have hf := flat_succ ws hlt
    have hle := flat_le ws (i + 1)
    have hlen : (ws.take (i + 1)).flatten.length = (ws.take i).flatten.length + ws[i].length := by rw [hf, List.length_append]
    have hw : IntKind.i64.wrap (((ws.take i).flatten.length : Nat) + (ws[i].length : Int)) = ((ws.take (i + 1)).flatten.length : Nat) := by
      rw [hlen]
      rw [show (((ws.take i).flatten.length : Nat) : Int) + (ws[i].length : Int) = (((ws.take i).flatten.length + ws[i].length : Nat) : Int) by omega]
      exact wrap_nat (by omega)
    have hn : ¬ (((ws.take (i + 1)).flatten.length : Nat) : Int) < 0 := by omega
    simp -implicitDefEqProofs only [go_sem, Nat.reduceEqDiff, Nat.reduceAdd, Nat.reduceSub, Nat.reduceMul, Nat.reduceLT, Nat.reduceLeDiff, Int.reduceLT, Int.reduceLE, Int.reduceEq, Int.reduceToNat, Int.reduceAdd, Int.reduceNeg, Int.reduceBEq, Int.reduceBNe, Nat.reduceBEq, reduceIte, reduceCtorEq, concat_r4, concat_r5, hx, hw, concat_r6, hn, concat_r8]
    refine loopK_normal (i + 1) (by omega) (by omega) ?_ PH.nil_le
    unfold cat1
    (repeat' (first | exact PF.nil_le | refine PF.set_le ?_ ?_)) <;> first | (simp -implicitDefEqProofs only [go_sem, Nat.reduceEqDiff, Nat.reduceAdd, Nat.reduceSub, Nat.reduceMul, Nat.reduceLT, Nat.reduceLeDiff, Int.reduceLT, Int.reduceLE, Int.reduceEq, Int.reduceToNat, Int.reduceAdd, Int.reduceNeg, Int.reduceBEq, Int.reduceBNe, Nat.reduceBEq, reduceIte, reduceCtorEq, wrap_succ (show i < 9223372036854775807 by omega)]; done) | (simp -implicitDefEqProofs only [go_sem, Nat.reduceEqDiff, Nat.reduceAdd, Nat.reduceSub, Nat.reduceMul, Nat.reduceLT, Nat.reduceLeDiff, Int.reduceLT, Int.reduceLE, Int.reduceEq, Int.reduceToNat, Int.reduceAdd, Int.reduceNeg, Int.reduceBEq, Int.reduceBNe, Nat.reduceBEq, reduceIte, reduceCtorEq, wrap_succ (show i < 9223372036854775807 by omega)]; rfl) | rfl
  · have he : i = ws.length := by simp at h; omega
    subst he
    have ht : (ws.take ws.length).flatten = ws.flatten := by rw [List.take_length]
    simp -implicitDefEqProofs only [go_sem, Nat.reduceEqDiff, Nat.reduceAdd, Nat.reduceSub, Nat.reduceMul, Nat.reduceLT, Nat.reduceLeDiff, Int.reduceLT, Int.reduceLE, Int.reduceEq, Int.reduceToNat, Int.reduceAdd, Int.reduceNeg, Int.reduceBEq, Int.reduceBNe, Nat.reduceBEq, reduceIte, reduceCtorEq, concat_r10, ht]
    refine wpCall_own (hg (ws.flatten.length : Nat) (by omega) (by omega)) (by first | (simp -implicitDefEqProofs only [go_sem, Nat.reduceEqDiff, Nat.reduceAdd, Nat.reduceSub, Nat.reduceMul, Nat.reduceLT, Nat.reduceLeDiff, Int.reduceLT, Int.reduceLE, Int.reduceEq, Int.reduceToNat, Int.reduceAdd, Int.reduceNeg, Int.reduceBEq, Int.reduceBNe, Nat.reduceBEq, reduceIte, reduceCtorEq]; done) | (simp -implicitDefEqProofs only [go_sem, Nat.reduceEqDiff, Nat.reduceAdd, Nat.reduceSub, Nat.reduceMul, Nat.reduceLT, Nat.reduceLeDiff, Int.reduceLT, Int.reduceLE, Int.reduceEq, Int.reduceToNat, Int.reduceAdd, Int.reduceNeg, Int.reduceBEq, Int.reduceBNe, Nat.reduceBEq, reduceIte, reduceCtorEq]; rfl)) PH.nil_le ?_
    intro r H' hr ha
    rcases hr with ⟨hn, rfl, rfl⟩ | ⟨hn, o, rfl, rfl⟩
    · have h0 : ws.flatten = [] := List.eq_nil_of_length_eq_zero (by omega)
      rw [PH.over_nil]
      simp -implicitDefEqProofs only [go_sem, Nat.reduceEqDiff, Nat.reduceAdd, Nat.reduceSub, Nat.reduceMul, Nat.reduceLT, Nat.reduceLeDiff, Int.reduceLT, Int.reduceLE, Int.reduceEq, Int.reduceToNat, Int.reduceAdd, Int.reduceNeg, Int.reduceBEq, Int.reduceBNe, Nat.reduceBEq, reduceIte, reduceCtorEq, concat_r11]
      refine wp_loop (α := Nat) (cat2 ws .nils) (fun _ => .nil) (fun i => i ≤ ws.length) (fun i => ws.length - i) 0 (by omega) ?_ PH.nil_le ?_
      · unfold cat2
        (repeat' (first | exact PF.nil_le | refine PF.set_le ?_ ?_)) <;> first | (simp -implicitDefEqProofs only [go_sem, Nat.reduceEqDiff, Nat.reduceAdd, Nat.reduceSub, Nat.reduceMul, Nat.reduceLT, Nat.reduceLeDiff, Int.reduceLT, Int.reduceLE, Int.reduceEq, Int.reduceToNat, Int.reduceAdd, Int.reduceNeg, Int.reduceBEq, Int.reduceBNe, Nat.reduceBEq, reduceIte, reduceCtorEq]; done) | (simp -implicitDefEqProofs only [go_sem, Nat.reduceEqDiff, Nat.reduceAdd, Nat.reduceSub, Nat.reduceMul, Nat.reduceLT, Nat.reduceLeDiff, Int.reduceLT, Int.reduceLE, Int.reduceEq, Int.reduceToNat, Int.reduceAdd, Int.reduceNeg, Int.reduceBEq, Int.reduceBNe, Nat.reduceBEq, reduceIte, reduceCtorEq]; rfl) | rfl
      intro i hi
      simp -implicitDefEqProofs only [go_sem, Nat.reduceEqDiff, Nat.reduceAdd, Nat.reduceSub, Nat.reduceMul, Nat.reduceLT, Nat.reduceLeDiff, Int.reduceLT, Int.reduceLE, Int.reduceEq, Int.reduceToNat, Int.reduceAdd, Int.reduceNeg, Int.reduceBEq, Int.reduceBNe, Nat.reduceBEq, reduceIte, reduceCtorEq, concat_l16, concat_r12, cat2]
      refine condP_of (fun h => ?_) (fun h => ?_)
      · have hlt : i < ws.length := by simpa using h
        have hx : (ws.map fun w => [ints w])[i]? = some [ints ws[i]] := by simp [hlt]
        have he : ws[i] = [] := by
          rw [List.flatten_eq_nil_iff] at h0
          exact h0 _ (List.getElem_mem _)
        simp -implicitDefEqProofs only [go_sem, Nat.reduceEqDiff, Nat.reduceAdd, Nat.reduceSub, Nat.reduceMul, Nat.reduceLT, Nat.reduceLeDiff, Int.reduceLT, Int.reduceLE, Int.reduceEq, Int.reduceToNat, Int.reduceAdd, Int.reduceNeg, Int.reduceBEq, Int.reduceBNe, Nat.reduceBEq, reduceIte, reduceCtorEq, concat_r13, concat_r14, hx, he]
        refine wpAppend_nil (src := []) rfl (by unfold roomFor; simp) (fun _ => ?_) (fun h => (h rfl).elim)
        simp -implicitDefEqProofs only [go_sem, Nat.reduceEqDiff, Nat.reduceAdd, Nat.reduceSub, Nat.reduceMul, Nat.reduceLT, Nat.reduceLeDiff, Int.reduceLT, Int.reduceLE, Int.reduceEq, Int.reduceToNat, Int.reduceAdd, Int.reduceNeg, Int.reduceBEq, Int.reduceBNe, Nat.reduceBEq, reduceIte, reduceCtorEq, concat_r15]
        refine loopK_normal (i + 1) (by omega) (by omega) ?_ PH.nil_le
        unfold cat2
        (repeat' (first | exact PF.nil_le | refine PF.set_le ?_ ?_)) <;> first | (simp -implicitDefEqProofs only [go_sem, Nat.reduceEqDiff, Nat.reduceAdd, Nat.reduceSub, Nat.reduceMul, Nat.reduceLT, Nat.reduceLeDiff, Int.reduceLT, Int.reduceLE, Int.reduceEq, Int.reduceToNat, Int.reduceAdd, Int.reduceNeg, Int.reduceBEq, Int.reduceBNe, Nat.reduceBEq, reduceIte, reduceCtorEq, wrap_succ (show i < 9223372036854775807 by omega)]; done) | (simp -implicitDefEqProofs only [go_sem, Nat.reduceEqDiff, Nat.reduceAdd, Nat.reduceSub, Nat.reduceMul, Nat.reduceLT, Nat.reduceLeDiff, Int.reduceLT, Int.reduceLE, Int.reduceEq, Int.reduceToNat, Int.reduceAdd, Int.reduceNeg, Int.reduceBEq, Int.reduceBNe, Nat.reduceBEq, reduceIte, reduceCtorEq, wrap_succ (show i < 9223372036854775807 by omega)]; rfl) | rfl
      · simp -implicitDefEqProofs only [go_sem, Nat.reduceEqDiff, Nat.reduceAdd, Nat.reduceSub, Nat.reduceMul, Nat.reduceLT, Nat.reduceLeDiff, Int.reduceLT, Int.reduceLE, Int.reduceEq, Int.reduceToNat, Int.reduceAdd, Int.reduceNeg, Int.reduceBEq, Int.reduceBNe, Nat.reduceBEq, reduceIte, reduceCtorEq, concat_r17]
        exact retK_keep (.inr rfl) .nil (by first | (simp -implicitDefEqProofs only [go_sem, Nat.reduceEqDiff, Nat.reduceAdd, Nat.reduceSub, Nat.reduceMul, Nat.reduceLT, Nat.reduceLeDiff, Int.reduceLT, Int.reduceLE, Int.reduceEq, Int.reduceToNat, Int.reduceAdd, Int.reduceNeg, Int.reduceBEq, Int.reduceBNe, Nat.reduceBEq, reduceIte, reduceCtorEq]; done) | (simp -implicitDefEqProofs only [go_sem, Nat.reduceEqDiff, Nat.reduceAdd, Nat.reduceSub, Nat.reduceMul, Nat.reduceLT, Nat.reduceLeDiff, Int.reduceLT, Int.reduceLE, Int.reduceEq, Int.reduceToNat, Int.reduceAdd, Int.reduceNeg, Int.reduceBEq, Int.reduceBNe, Nat.reduceBEq, reduceIte, reduceCtorEq]; rfl)) PH.nil_le (.inl ⟨h0, rfl, rfl⟩)
    · have h0 : ws.flatten ≠ [] := by intro e; rw [e] at hn; simp at hn
      rw [PH.over_nil_set]
      simp -implicitDefEqProofs only [go_sem, Nat.reduceEqDiff, Nat.reduceAdd, Nat.reduceSub, Nat.reduceMul, Nat.reduceLT, Nat.reduceLeDiff, Int.reduceLT, Int.reduceLE, Int.reduceEq, Int.reduceToNat, Int.reduceAdd, Int.reduceNeg, Int.reduceBEq, Int.reduceBNe, Nat.reduceBEq, reduceIte, reduceCtorEq, concat_r11]
      refine wp_loop (α := Nat × Nat) (fun a => cat2 ws (.osl a.2 1 0 (ws.take a.1).flatten.length) a.1) (fun a => PH.nil.set a.2 (.rows 1 (irows (ws.take a.1).flatten))) (fun a => a.1 ≤ ws.length) (fun a => ws.length - a.1) (0, o) (by simp) ?_ ?_ ?_
      · unfold cat2
        (repeat' (first | exact PF.nil_le | refine PF.set_le ?_ ?_)) <;> first | (simp -implicitDefEqProofs only [go_sem, Nat.reduceEqDiff, Nat.reduceAdd, Nat.reduceSub, Nat.reduceMul, Nat.reduceLT, Nat.reduceLeDiff, Int.reduceLT, Int.reduceLE, Int.reduceEq, Int.reduceToNat, Int.reduceAdd, Int.reduceNeg, Int.reduceBEq, Int.reduceBNe, Nat.reduceBEq, reduceIte, reduceCtorEq]; done) | (simp -implicitDefEqProofs only [go_sem, Nat.reduceEqDiff, Nat.reduceAdd, Nat.reduceSub, Nat.reduceMul, Nat.reduceLT, Nat.reduceLeDiff, Int.reduceLT, Int.reduceLE, Int.reduceEq, Int.reduceToNat, Int.reduceAdd, Int.reduceNeg, Int.reduceBEq, Int.reduceBNe, Nat.reduceBEq, reduceIte, reduceCtorEq]; rfl) | rfl
      · exact PH.set_le PH.nil_le (by simp -implicitDefEqProofs only [go_sem, Nat.reduceEqDiff, Nat.reduceAdd, Nat.reduceSub, Nat.reduceMul, Nat.reduceLT, Nat.reduceLeDiff, Int.reduceLT, Int.reduceLE, Int.reduceEq, Int.reduceToNat, Int.reduceAdd, Int.reduceNeg, Int.reduceBEq, Int.reduceBNe, Nat.reduceBEq, reduceIte, reduceCtorEq]; rfl)
      rintro ⟨i, q⟩ hi
      simp -implicitDefEqProofs only [go_sem, Nat.reduceEqDiff, Nat.reduceAdd, Nat.reduceSub, Nat.reduceMul, Nat.reduceLT, Nat.reduceLeDiff, Int.reduceLT, Int.reduceLE, Int.reduceEq, Int.reduceToNat, Int.reduceAdd, Int.reduceNeg, Int.reduceBEq, Int.reduceBNe, Nat.reduceBEq, reduceIte, reduceCtorEq, concat_l16, concat_r12, cat2]
      simp only at hi
      refine condP_of (fun h => ?_) (fun h => ?_)
      · have hlt : i < ws.length := by simpa using h
        have hx : (ws.map fun w => [ints w])[i]? = some [ints ws[i]] := by simp [hlt]
        have hf := flat_succ ws hlt
        have hle := flat_le ws (i + 1)
        have hlen : (ws.take (i + 1)).flatten.length = (ws.take i).flatten.length + ws[i].length := by rw [hf, List.length_append]
        have hrows : (irows (ws.take i).flatten).take (ws.take i).flatten.length ++ (ws[i].map fun n => [PV.int .i64 n]) = irows (ws.take (i + 1)).flatten := by
          rw [List.take_of_length_le (by unfold irows; rw [List.length_map]; exact Nat.le_refl _), hf]; unfold irows; rw [List.map_append]
        have fin : ∀ (q' : Nat) (H' : PH), H' q' = some (.rows 1 (irows (ws.take (i + 1)).flatten)) → ∀ F' : PF, F' 2 = some .nils → F' 6 = some (.osl q' 1 0 (ws.take (i + 1)).flatten.length) → F' 25 = some (lists ws) → F' 26 = some (.int .i64 ws.length) → F' 27 = some (.int .i64 ((i + 1 : Nat) : Int)) →
            loopK (fun a : Nat × Nat => cat2 ws (.osl a.2 1 0 (ws.take a.1).flatten.length) a.1) (fun a => PH.nil.set a.2 (.rows 1 (irows (ws.take a.1).flatten))) (fun a => a.1 ≤ ws.length) (fun a => ws.length - a.1) (ws.length - i) (blockK 2 (seqK C (PCode.wp C ((PCode.region concat_r17).seq PCode.ret)) (retK [.tmp 2] (Owns ws.flatten)))) .normal F' H' := by
          intro q' H' e1 F' f2 f6 f25 f26 f27
          refine loopK_normal (i + 1, q') (by simp only; omega) (by simp only; omega) ?_ (PH.set_le PH.nil_le e1)
          unfold cat2
          exact PF.set_le (PF.set_le (PF.set_le (PF.set_le (PF.set_le PF.nil_le f2) f6) f25) f26) f27
        simp -implicitDefEqProofs only [go_sem, Nat.reduceEqDiff, Nat.reduceAdd, Nat.reduceSub, Nat.reduceMul, Nat.reduceLT, Nat.reduceLeDiff, Int.reduceLT, Int.reduceLE, Int.reduceEq, Int.reduceToNat, Int.reduceAdd, Int.reduceNeg, Int.reduceBEq, Int.reduceBNe, Nat.reduceBEq, reduceIte, reduceCtorEq, concat_r13, concat_r14, hx]
        refine wpAppend_own (src := ws[i].map fun n => [PV.int .i64 n]) (rs := irows (ws.take i).flatten) rfl (by unfold roomFor; rw [List.length_map]; simp only [maxLen]; omega) (by simp -implicitDefEqProofs only [go_sem, Nat.reduceEqDiff, Nat.reduceAdd, Nat.reduceSub, Nat.reduceMul, Nat.reduceLT, Nat.reduceLeDiff, Int.reduceLT, Int.reduceLE, Int.reduceEq, Int.reduceToNat, Int.reduceAdd, Int.reduceNeg, Int.reduceBEq, Int.reduceBNe, Nat.reduceBEq, reduceIte, reduceCtorEq]) (by unfold irows; rw [List.length_map]; exact Nat.le_refl _) ?_ ?_
        · rw [hrows, List.length_map, ← hlen]
          simp -implicitDefEqProofs only [go_sem, Nat.reduceEqDiff, Nat.reduceAdd, Nat.reduceSub, Nat.reduceMul, Nat.reduceLT, Nat.reduceLeDiff, Int.reduceLT, Int.reduceLE, Int.reduceEq, Int.reduceToNat, Int.reduceAdd, Int.reduceNeg, Int.reduceBEq, Int.reduceBNe, Nat.reduceBEq, reduceIte, reduceCtorEq, concat_r15, wrap_succ (show i < 9223372036854775807 by omega)]
          exact fin q _ (by simp -implicitDefEqProofs only [go_sem, Nat.reduceEqDiff, Nat.reduceAdd, Nat.reduceSub, Nat.reduceMul, Nat.reduceLT, Nat.reduceLeDiff, Int.reduceLT, Int.reduceLE, Int.reduceEq, Int.reduceToNat, Int.reduceAdd, Int.reduceNeg, Int.reduceBEq, Int.reduceBNe, Nat.reduceBEq, reduceIte, reduceCtorEq]) _ (by simp -implicitDefEqProofs only [go_sem, Nat.reduceEqDiff, Nat.reduceAdd, Nat.reduceSub, Nat.reduceMul, Nat.reduceLT, Nat.reduceLeDiff, Int.reduceLT, Int.reduceLE, Int.reduceEq, Int.reduceToNat, Int.reduceAdd, Int.reduceNeg, Int.reduceBEq, Int.reduceBNe, Nat.reduceBEq, reduceIte, reduceCtorEq]) (by simp -implicitDefEqProofs only [go_sem, Nat.reduceEqDiff, Nat.reduceAdd, Nat.reduceSub, Nat.reduceMul, Nat.reduceLT, Nat.reduceLeDiff, Int.reduceLT, Int.reduceLE, Int.reduceEq, Int.reduceToNat, Int.reduceAdd, Int.reduceNeg, Int.reduceBEq, Int.reduceBNe, Nat.reduceBEq, reduceIte, reduceCtorEq]) (by simp -implicitDefEqProofs only [go_sem, Nat.reduceEqDiff, Nat.reduceAdd, Nat.reduceSub, Nat.reduceMul, Nat.reduceLT, Nat.reduceLeDiff, Int.reduceLT, Int.reduceLE, Int.reduceEq, Int.reduceToNat, Int.reduceAdd, Int.reduceNeg, Int.reduceBEq, Int.reduceBNe, Nat.reduceBEq, reduceIte, reduceCtorEq]) (by simp -implicitDefEqProofs only [go_sem, Nat.reduceEqDiff, Nat.reduceAdd, Nat.reduceSub, Nat.reduceMul, Nat.reduceLT, Nat.reduceLeDiff, Int.reduceLT, Int.reduceLE, Int.reduceEq, Int.reduceToNat, Int.reduceAdd, Int.reduceNeg, Int.reduceBEq, Int.reduceBNe, Nat.reduceBEq, reduceIte, reduceCtorEq]) (by simp -implicitDefEqProofs only [go_sem, Nat.reduceEqDiff, Nat.reduceAdd, Nat.reduceSub, Nat.reduceMul, Nat.reduceLT, Nat.reduceLeDiff, Int.reduceLT, Int.reduceLE, Int.reduceEq, Int.reduceToNat, Int.reduceAdd, Int.reduceNeg, Int.reduceBEq, Int.reduceBNe, Nat.reduceBEq, reduceIte, reduceCtorEq])
        · intro q' hq'
          rw [hrows, List.length_map, ← hlen]
          simp -implicitDefEqProofs only [go_sem, Nat.reduceEqDiff, Nat.reduceAdd, Nat.reduceSub, Nat.reduceMul, Nat.reduceLT, Nat.reduceLeDiff, Int.reduceLT, Int.reduceLE, Int.reduceEq, Int.reduceToNat, Int.reduceAdd, Int.reduceNeg, Int.reduceBEq, Int.reduceBNe, Nat.reduceBEq, reduceIte, reduceCtorEq, concat_r15, wrap_succ (show i < 9223372036854775807 by omega)]
          exact fin q' _ (by simp -implicitDefEqProofs only [go_sem, Nat.reduceEqDiff, Nat.reduceAdd, Nat.reduceSub, Nat.reduceMul, Nat.reduceLT, Nat.reduceLeDiff, Int.reduceLT, Int.reduceLE, Int.reduceEq, Int.reduceToNat, Int.reduceAdd, Int.reduceNeg, Int.reduceBEq, Int.reduceBNe, Nat.reduceBEq, reduceIte, reduceCtorEq]) _ (by simp -implicitDefEqProofs only [go_sem, Nat.reduceEqDiff, Nat.reduceAdd, Nat.reduceSub, Nat.reduceMul, Nat.reduceLT, Nat.reduceLeDiff, Int.reduceLT, Int.reduceLE, Int.reduceEq, Int.reduceToNat, Int.reduceAdd, Int.reduceNeg, Int.reduceBEq, Int.reduceBNe, Nat.reduceBEq, reduceIte, reduceCtorEq]) (by simp -implicitDefEqProofs only [go_sem, Nat.reduceEqDiff, Nat.reduceAdd, Nat.reduceSub, Nat.reduceMul, Nat.reduceLT, Nat.reduceLeDiff, Int.reduceLT, Int.reduceLE, Int.reduceEq, Int.reduceToNat, Int.reduceAdd, Int.reduceNeg, Int.reduceBEq, Int.reduceBNe, Nat.reduceBEq, reduceIte, reduceCtorEq]) (by simp -implicitDefEqProofs only [go_sem, Nat.reduceEqDiff, Nat.reduceAdd, Nat.reduceSub, Nat.reduceMul, Nat.reduceLT, Nat.reduceLeDiff, Int.reduceLT, Int.reduceLE, Int.reduceEq, Int.reduceToNat, Int.reduceAdd, Int.reduceNeg, Int.reduceBEq, Int.reduceBNe, Nat.reduceBEq, reduceIte, reduceCtorEq]) (by simp -implicitDefEqProofs only [go_sem, Nat.reduceEqDiff, Nat.reduceAdd, Nat.reduceSub, Nat.reduceMul, Nat.reduceLT, Nat.reduceLeDiff, Int.reduceLT, Int.reduceLE, Int.reduceEq, Int.reduceToNat, Int.reduceAdd, Int.reduceNeg, Int.reduceBEq, Int.reduceBNe, Nat.reduceBEq, reduceIte, reduceCtorEq]) (by simp -implicitDefEqProofs only [go_sem, Nat.reduceEqDiff, Nat.reduceAdd, Nat.reduceSub, Nat.reduceMul, Nat.reduceLT, Nat.reduceLeDiff, Int.reduceLT, Int.reduceLE, Int.reduceEq, Int.reduceToNat, Int.reduceAdd, Int.reduceNeg, Int.reduceBEq, Int.reduceBNe, Nat.reduceBEq, reduceIte, reduceCtorEq])
      · have he : i = ws.length := by simp at h; omega
        subst he
        simp -implicitDefEqProofs only [go_sem, Nat.reduceEqDiff, Nat.reduceAdd, Nat.reduceSub, Nat.reduceMul, Nat.reduceLT, Nat.reduceLeDiff, Int.reduceLT, Int.reduceLE, Int.reduceEq, Int.reduceToNat, Int.reduceAdd, Int.reduceNeg, Int.reduceBEq, Int.reduceBNe, Nat.reduceBEq, reduceIte, reduceCtorEq, concat_r17]
        refine retK_keep (.inr rfl) (PH.nil.set q (.rows 1 (irows ws.flatten))) (by first | (simp -implicitDefEqProofs only [go_sem, Nat.reduceEqDiff, Nat.reduceAdd, Nat.reduceSub, Nat.reduceMul, Nat.reduceLT, Nat.reduceLeDiff, Int.reduceLT, Int.reduceLE, Int.reduceEq, Int.reduceToNat, Int.reduceAdd, Int.reduceNeg, Int.reduceBEq, Int.reduceBNe, Nat.reduceBEq, reduceIte, reduceCtorEq]; done) | (simp -implicitDefEqProofs only [go_sem, Nat.reduceEqDiff, Nat.reduceAdd, Nat.reduceSub, Nat.reduceMul, Nat.reduceLT, Nat.reduceLeDiff, Int.reduceLT, Int.reduceLE, Int.reduceEq, Int.reduceToNat, Int.reduceAdd, Int.reduceNeg, Int.reduceBEq, Int.reduceBNe, Nat.reduceBEq, reduceIte, reduceCtorEq]; rfl)) (PH.set_le PH.nil_le (by simp -implicitDefEqProofs only [go_sem, Nat.reduceEqDiff, Nat.reduceAdd, Nat.reduceSub, Nat.reduceMul, Nat.reduceLT, Nat.reduceLeDiff, Int.reduceLT, Int.reduceLE, Int.reduceEq, Int.reduceToNat, Int.reduceAdd, Int.reduceNeg, Int.reduceBEq, Int.reduceBNe, Nat.reduceBEq, reduceIte, reduceCtorEq, ht])) (.inr ⟨h0, q, ?_, rfl⟩)
        simp only [packRes, ht]
end Go.PM
