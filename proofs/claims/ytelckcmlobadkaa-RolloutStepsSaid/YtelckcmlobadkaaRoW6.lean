/-
  Contracts of the functions of a rollout: the reference's Updated, whole. No condition.
-/
import Derived.Test.YtelckcmlobadkaaRoW5
set_option linter.unusedSimpArgs false
set_option linter.unusedVariables false
namespace Go.PM
open Go

theorem ins_len (x : Int) : ∀ l : List Int, (RO.ins x l).length ≤ l.length + 1
  | [] => by simp [RO.ins]
  | y :: ys => by
    have := ins_len x ys
    unfold RO.ins
    split
    · simp only [List.length_cons]; omega
    · split <;> simp
theorem insAll_len : ∀ (xs l : List Int), (RO.insAll l xs).length ≤ l.length + xs.length
  | [], l => by simp [RO.insAll]
  | x :: xs, l => by
    have := insAll_len xs (RO.ins x l)
    have := ins_len x l
    unfold RO.insAll at *
    simp only [List.foldl_cons, List.length_cons]
    omega
theorem insAll_succ (L : List Int) (xs : List Int) {k : Nat} (hk : k < xs.length) : RO.insAll L (xs.take (k + 1)) = RO.ins xs[k] (RO.insAll L (xs.take k)) := by
  rw [List.take_succ_eq_append_getElem hk, RO.insAll_append]; rfl

/-- Owned or read-only: behind a freeze, read-only. -/
theorem frz_any {H : PH} {s : Nat} {v : PV} {rows : List (List PV)} (h : Owned H s v rows ∨ Seen s v rows) : ∃ v1, Seen s v1 rows ∧ ∀ F : PF, ∃ F1 H1, SFrz F H F1 H1 ∧ (∀ t, F t = some v → F1 t = some v1) ∧ ∀ i u, F i = some u → Pure u → F1 i = some u := by
  rcases h with h | h
  · exact h.frz
  · exact ⟨v, h, fun F => ⟨F, H, .refl _ _, fun t h => h, fun i u h _ => h⟩⟩

theorem rupd_row {C : Ctx} (ws : List (List Int)) (p w : Int) (L : List Int) (v : PV) (hv : Seen 1 v (irows L)) (i : Nat) (hi : i < ws.length) (h1 : ws.length ≤ 1000000) (h2 : L.length + ws[i].length ≤ 1000000) (K : Kont) (F : PF) (hF : (rF ws p w v i).le F)
    (hK : ∀ v' F' H', Seen 1 v' (irows (RO.insAll L ws[i])) → (rF ws p w v' i).le F' → K .normal F' H') :
    PCode.wp C (.seq (.region rupd_r7) (.block 2 (.loop rupd_l16))) K F .nil := by
  have f0 := hF 0 _ (by unfold rF; simp -implicitDefEqProofs only [go_sem, Nat.reduceEqDiff, Nat.reduceAdd, Nat.reduceSub, Nat.reduceMul, Nat.reduceLT, Nat.reduceLeDiff, Int.reduceLT, Int.reduceLE, Int.reduceEq, Int.reduceToNat, Int.reduceAdd, Int.reduceNeg, Int.reduceBEq, Int.reduceBNe, Nat.reduceBEq, reduceIte, reduceCtorEq]; rfl)
  have f3 := hF 3 _ (by unfold rF; simp -implicitDefEqProofs only [go_sem, Nat.reduceEqDiff, Nat.reduceAdd, Nat.reduceSub, Nat.reduceMul, Nat.reduceLT, Nat.reduceLeDiff, Int.reduceLT, Int.reduceLE, Int.reduceEq, Int.reduceToNat, Int.reduceAdd, Int.reduceNeg, Int.reduceBEq, Int.reduceBNe, Nat.reduceBEq, reduceIte, reduceCtorEq]; rfl)
  have f4 := hF 4 _ (by unfold rF; simp -implicitDefEqProofs only [go_sem, Nat.reduceEqDiff, Nat.reduceAdd, Nat.reduceSub, Nat.reduceMul, Nat.reduceLT, Nat.reduceLeDiff, Int.reduceLT, Int.reduceLE, Int.reduceEq, Int.reduceToNat, Int.reduceAdd, Int.reduceNeg, Int.reduceBEq, Int.reduceBNe, Nat.reduceBEq, reduceIte, reduceCtorEq]; rfl)
  have f5 := hF 5 _ (by unfold rF; simp -implicitDefEqProofs only [go_sem, Nat.reduceEqDiff, Nat.reduceAdd, Nat.reduceSub, Nat.reduceMul, Nat.reduceLT, Nat.reduceLeDiff, Int.reduceLT, Int.reduceLE, Int.reduceEq, Int.reduceToNat, Int.reduceAdd, Int.reduceNeg, Int.reduceBEq, Int.reduceBNe, Nat.reduceBEq, reduceIte, reduceCtorEq]; rfl)
  have f6 := hF 6 _ (by unfold rF; simp -implicitDefEqProofs only [go_sem, Nat.reduceEqDiff, Nat.reduceAdd, Nat.reduceSub, Nat.reduceMul, Nat.reduceLT, Nat.reduceLeDiff, Int.reduceLT, Int.reduceLE, Int.reduceEq, Int.reduceToNat, Int.reduceAdd, Int.reduceNeg, Int.reduceBEq, Int.reduceBNe, Nat.reduceBEq, reduceIte, reduceCtorEq]; rfl)
  have hxi : (ws.map fun w => [ints w])[i]? = some [ints ws[i]] := by simp [hi]
  simp -implicitDefEqProofs only [go_sem, Nat.reduceEqDiff, Nat.reduceAdd, Nat.reduceSub, Nat.reduceMul, Nat.reduceLT, Nat.reduceLeDiff, Int.reduceLT, Int.reduceLE, Int.reduceEq, Int.reduceToNat, Int.reduceAdd, Int.reduceNeg, Int.reduceBEq, Int.reduceBNe, Nat.reduceBEq, reduceIte, reduceCtorEq, rupd_r7]
  refine wp_loop (α := PV × Nat) (fun a => rF7 ws p w a.1 i a.2) (fun _ => .nil) (fun a => a.2 ≤ ws[i].length ∧ Seen 1 a.1 (irows (RO.insAll L (ws[i].take a.2)))) (fun a => ws[i].length - a.2) (v, 0) ⟨by simp, by simpa [RO.insAll] using hv⟩ ?_ PH.nil_le ?_
  · unfold rF7
    (repeat' (first | exact PF.nil_le | refine PF.set_le ?_ ?_)) <;> first | (simp -implicitDefEqProofs only [go_sem, Nat.reduceEqDiff, Nat.reduceAdd, Nat.reduceSub, Nat.reduceMul, Nat.reduceLT, Nat.reduceLeDiff, Int.reduceLT, Int.reduceLE, Int.reduceEq, Int.reduceToNat, Int.reduceAdd, Int.reduceNeg, Int.reduceBEq, Int.reduceBNe, Nat.reduceBEq, reduceIte, reduceCtorEq, f0, f3, f4, f5, f6]; done) | (simp -implicitDefEqProofs only [go_sem, Nat.reduceEqDiff, Nat.reduceAdd, Nat.reduceSub, Nat.reduceMul, Nat.reduceLT, Nat.reduceLeDiff, Int.reduceLT, Int.reduceLE, Int.reduceEq, Int.reduceToNat, Int.reduceAdd, Int.reduceNeg, Int.reduceBEq, Int.reduceBNe, Nat.reduceBEq, reduceIte, reduceCtorEq, f0, f3, f4, f5, f6]; rfl) | rfl
  rintro ⟨v, k⟩ ⟨hk, hv⟩
  simp only at hk hv
  simp -implicitDefEqProofs only [go_sem, Nat.reduceEqDiff, Nat.reduceAdd, Nat.reduceSub, Nat.reduceMul, Nat.reduceLT, Nat.reduceLeDiff, Int.reduceLT, Int.reduceLE, Int.reduceEq, Int.reduceToNat, Int.reduceAdd, Int.reduceNeg, Int.reduceBEq, Int.reduceBNe, Nat.reduceBEq, reduceIte, reduceCtorEq, rupd_l16, rupd_r8, rF7, hxi]
  refine condP_of (fun h => ?_) (fun h => ?_)
  · have hkl : k < ws[i].length := by simpa using h
    have hlen := insAll_len (ws[i].take k) L
    rw [List.length_take] at hlen
    simp -implicitDefEqProofs only [go_sem, Nat.reduceEqDiff, Nat.reduceAdd, Nat.reduceSub, Nat.reduceMul, Nat.reduceLT, Nat.reduceLeDiff, Int.reduceLT, Int.reduceLE, Int.reduceEq, Int.reduceToNat, Int.reduceAdd, Int.reduceNeg, Int.reduceBEq, Int.reduceBNe, Nat.reduceBEq, reduceIte, reduceCtorEq]
    refine rupd_elem ws p w (RO.insAll L (ws[i].take k)) v hv i k hi hkl (by omega) h1 (by omega) _ _ (by unfold rF7; (repeat' (first | exact PF.nil_le | refine PF.set_le ?_ ?_)) <;> first | (simp -implicitDefEqProofs only [go_sem, Nat.reduceEqDiff, Nat.reduceAdd, Nat.reduceSub, Nat.reduceMul, Nat.reduceLT, Nat.reduceLeDiff, Int.reduceLT, Int.reduceLE, Int.reduceEq, Int.reduceToNat, Int.reduceAdd, Int.reduceNeg, Int.reduceBEq, Int.reduceBNe, Nat.reduceBEq, reduceIte, reduceCtorEq]; done) | (simp -implicitDefEqProofs only [go_sem, Nat.reduceEqDiff, Nat.reduceAdd, Nat.reduceSub, Nat.reduceMul, Nat.reduceLT, Nat.reduceLeDiff, Int.reduceLT, Int.reduceLE, Int.reduceEq, Int.reduceToNat, Int.reduceAdd, Int.reduceNeg, Int.reduceBEq, Int.reduceBNe, Nat.reduceBEq, reduceIte, reduceCtorEq]; rfl) | rfl) ?_
    intro v' F' H' ho hF'
    rw [← insAll_succ L ws[i] hkl] at ho
    obtain ⟨v1, hs1, hfz⟩ := frz_any ho
    have g0 := hF' 0 _ (by unfold rF7; simp -implicitDefEqProofs only [go_sem, Nat.reduceEqDiff, Nat.reduceAdd, Nat.reduceSub, Nat.reduceMul, Nat.reduceLT, Nat.reduceLeDiff, Int.reduceLT, Int.reduceLE, Int.reduceEq, Int.reduceToNat, Int.reduceAdd, Int.reduceNeg, Int.reduceBEq, Int.reduceBNe, Nat.reduceBEq, reduceIte, reduceCtorEq]; rfl)
    have g3 := hF' 3 _ (by unfold rF7; simp -implicitDefEqProofs only [go_sem, Nat.reduceEqDiff, Nat.reduceAdd, Nat.reduceSub, Nat.reduceMul, Nat.reduceLT, Nat.reduceLeDiff, Int.reduceLT, Int.reduceLE, Int.reduceEq, Int.reduceToNat, Int.reduceAdd, Int.reduceNeg, Int.reduceBEq, Int.reduceBNe, Nat.reduceBEq, reduceIte, reduceCtorEq]; rfl)
    have g4 := hF' 4 _ (by unfold rF7; simp -implicitDefEqProofs only [go_sem, Nat.reduceEqDiff, Nat.reduceAdd, Nat.reduceSub, Nat.reduceMul, Nat.reduceLT, Nat.reduceLeDiff, Int.reduceLT, Int.reduceLE, Int.reduceEq, Int.reduceToNat, Int.reduceAdd, Int.reduceNeg, Int.reduceBEq, Int.reduceBNe, Nat.reduceBEq, reduceIte, reduceCtorEq]; rfl)
    have g5 := hF' 5 _ (by unfold rF7; simp -implicitDefEqProofs only [go_sem, Nat.reduceEqDiff, Nat.reduceAdd, Nat.reduceSub, Nat.reduceMul, Nat.reduceLT, Nat.reduceLeDiff, Int.reduceLT, Int.reduceLE, Int.reduceEq, Int.reduceToNat, Int.reduceAdd, Int.reduceNeg, Int.reduceBEq, Int.reduceBNe, Nat.reduceBEq, reduceIte, reduceCtorEq]; rfl)
    have g6 := hF' 6 _ (by unfold rF7; simp -implicitDefEqProofs only [go_sem, Nat.reduceEqDiff, Nat.reduceAdd, Nat.reduceSub, Nat.reduceMul, Nat.reduceLT, Nat.reduceLeDiff, Int.reduceLT, Int.reduceLE, Int.reduceEq, Int.reduceToNat, Int.reduceAdd, Int.reduceNeg, Int.reduceBEq, Int.reduceBNe, Nat.reduceBEq, reduceIte, reduceCtorEq]; rfl)
    have g7 := hF' 7 _ (by unfold rF7; simp -implicitDefEqProofs only [go_sem, Nat.reduceEqDiff, Nat.reduceAdd, Nat.reduceSub, Nat.reduceMul, Nat.reduceLT, Nat.reduceLeDiff, Int.reduceLT, Int.reduceLE, Int.reduceEq, Int.reduceToNat, Int.reduceAdd, Int.reduceNeg, Int.reduceBEq, Int.reduceBNe, Nat.reduceBEq, reduceIte, reduceCtorEq]; rfl)
    simp -implicitDefEqProofs only [go_sem, Nat.reduceEqDiff, Nat.reduceAdd, Nat.reduceSub, Nat.reduceMul, Nat.reduceLT, Nat.reduceLeDiff, Int.reduceLT, Int.reduceLE, Int.reduceEq, Int.reduceToNat, Int.reduceAdd, Int.reduceNeg, Int.reduceBEq, Int.reduceBNe, Nat.reduceBEq, reduceIte, reduceCtorEq, rupd_r15, g7, wrap_succ (show k < 9223372036854775807 by omega)]
    generalize hX : (((F'.set 55 (PV.int IntKind.i64 k)).set 56 (PV.int IntKind.i64 ((k + 1 : Nat) : Int))).set 7 (PV.int IntKind.i64 ((k + 1 : Nat) : Int))) = X
    have q : ∀ j u, j ≠ 7 → j ≠ 55 → j ≠ 56 → F' j = some u → X j = some u := by
      intro j u a b c e
      subst hX
      simp -implicitDefEqProofs only [go_sem, Nat.reduceEqDiff, Nat.reduceAdd, Nat.reduceSub, Nat.reduceMul, Nat.reduceLT, Nat.reduceLeDiff, Int.reduceLT, Int.reduceLE, Int.reduceEq, Int.reduceToNat, Int.reduceAdd, Int.reduceNeg, Int.reduceBEq, Int.reduceBNe, Nat.reduceBEq, reduceIte, reduceCtorEq, a, b, c, e]
    obtain ⟨F1, H1, hf, h5, hp⟩ := hfz X
    refine ⟨(v1, k + 1), F1, H1, hf, ⟨by simp only; omega, hs1⟩, by simp only; omega, ?_, PH.nil_le⟩
    show (rF7 ws p w v1 i ((k + 1 : Nat) : Int)).le F1
    unfold rF7
    refine PF.set_le (PF.set_le (PF.set_le (PF.set_le (PF.set_le (PF.set_le PF.nil_le ?_) ?_) ?_) ?_) ?_) ?_
    · exact hp 0 _ (q 0 _ (by decide) (by decide) (by decide) g0) (pure_lists ws)
    · exact hp 3 _ (q 3 _ (by decide) (by decide) (by decide) g3) (pure_rptr _)
    · exact hp 4 _ (q 4 _ (by decide) (by decide) (by decide) g4) pure_nils
    · exact h5 5 (q 5 _ (by decide) (by decide) (by decide) g5)
    · exact hp 6 _ (q 6 _ (by decide) (by decide) (by decide) g6) (pure_int _)
    · exact hp 7 _ (by subst hX; simp -implicitDefEqProofs only [go_sem, Nat.reduceEqDiff, Nat.reduceAdd, Nat.reduceSub, Nat.reduceMul, Nat.reduceLT, Nat.reduceLeDiff, Int.reduceLT, Int.reduceLE, Int.reduceEq, Int.reduceToNat, Int.reduceAdd, Int.reduceNeg, Int.reduceBEq, Int.reduceBNe, Nat.reduceBEq, reduceIte, reduceCtorEq]) (pure_int _)
  · have he : k = ws[i].length := by simp at h; omega
    subst he
    rw [List.take_length] at hv
    simp -implicitDefEqProofs only [go_sem, Nat.reduceEqDiff, Nat.reduceAdd, Nat.reduceSub, Nat.reduceMul, Nat.reduceLT, Nat.reduceLeDiff, Int.reduceLT, Int.reduceLE, Int.reduceEq, Int.reduceToNat, Int.reduceAdd, Int.reduceNeg, Int.reduceBEq, Int.reduceBNe, Nat.reduceBEq, reduceIte, reduceCtorEq]
    refine hK v _ _ hv ?_
    unfold rF
    (repeat' (first | exact PF.nil_le | refine PF.set_le ?_ ?_)) <;> first | (simp -implicitDefEqProofs only [go_sem, Nat.reduceEqDiff, Nat.reduceAdd, Nat.reduceSub, Nat.reduceMul, Nat.reduceLT, Nat.reduceLeDiff, Int.reduceLT, Int.reduceLE, Int.reduceEq, Int.reduceToNat, Int.reduceAdd, Int.reduceNeg, Int.reduceBEq, Int.reduceBNe, Nat.reduceBEq, reduceIte, reduceCtorEq]; done) | (simp -implicitDefEqProofs only [go_sem, Nat.reduceEqDiff, Nat.reduceAdd, Nat.reduceSub, Nat.reduceMul, Nat.reduceLT, Nat.reduceLeDiff, Int.reduceLT, Int.reduceLE, Int.reduceEq, Int.reduceToNat, Int.reduceAdd, Int.reduceNeg, Int.reduceBEq, Int.reduceBNe, Nat.reduceBEq, reduceIte, reduceCtorEq]; rfl) | rfl

theorem updN_facts (n : Nat) (p w : Int) (hw : ¬ w < 0) : (¬ (p = 3 ∨ p = 4) → w < n → (updN n p w : Int) = w) ∧ ((p = 3 ∨ p = 4) → w < n → (updN n p w : Int) = w + 1) ∧ (¬ w < n → updN n p w = n) := by
  unfold updN
  refine ⟨fun a b => ?_, fun a b => ?_, fun a => ?_⟩
  · rw [if_pos b, if_neg a]; omega
  · rw [if_pos b, if_pos a]; omega
  · rw [if_neg a]

theorem rupd_ok {C : Ctx} (ws : List (List Int)) (p w : Int) (h1 : ws.length ≤ 1000000) (h2 : ws.flatten.length ≤ 1000000) :
    rupd_body.wp C (retK rupd.res (Sees (ints (updL ws p w)))) (PF.args [lists ws, .agg [.int .i64 p, .int .i64 w]]) .nil := by
  simp -implicitDefEqProofs only [go_sem, Nat.reduceEqDiff, Nat.reduceAdd, Nat.reduceSub, Nat.reduceMul, Nat.reduceLT, Nat.reduceLeDiff, Int.reduceLT, Int.reduceLE, Int.reduceEq, Int.reduceToNat, Int.reduceAdd, Int.reduceNeg, Int.reduceBEq, Int.reduceBNe, Nat.reduceBEq, reduceIte, reduceCtorEq, rupd_body, rupd_r0, rupd_r1, rupd_r2, rupd]
  by_cases c1 : p < 1
  · simp -implicitDefEqProofs only [go_sem, Nat.reduceEqDiff, Nat.reduceAdd, Nat.reduceSub, Nat.reduceMul, Nat.reduceLT, Nat.reduceLeDiff, Int.reduceLT, Int.reduceLE, Int.reduceEq, Int.reduceToNat, Int.reduceAdd, Int.reduceNeg, Int.reduceBEq, Int.reduceBNe, Nat.reduceBEq, reduceIte, reduceCtorEq, c1, rupd_r3]
    refine retK_keep (.inr rfl) .nil (by first | (simp -implicitDefEqProofs only [go_sem, Nat.reduceEqDiff, Nat.reduceAdd, Nat.reduceSub, Nat.reduceMul, Nat.reduceLT, Nat.reduceLeDiff, Int.reduceLT, Int.reduceLE, Int.reduceEq, Int.reduceToNat, Int.reduceAdd, Int.reduceNeg, Int.reduceBEq, Int.reduceBNe, Nat.reduceBEq, reduceIte, reduceCtorEq]; done) | (simp -implicitDefEqProofs only [go_sem, Nat.reduceEqDiff, Nat.reduceAdd, Nat.reduceSub, Nat.reduceMul, Nat.reduceLT, Nat.reduceLeDiff, Int.reduceLT, Int.reduceLE, Int.reduceEq, Int.reduceToNat, Int.reduceAdd, Int.reduceNeg, Int.reduceBEq, Int.reduceBNe, Nat.reduceBEq, reduceIte, reduceCtorEq]; rfl)) PH.nil_le ⟨?_, rfl⟩
    simp only [updL, c1, true_or, if_true]; exact .nil 1
  simp -implicitDefEqProofs only [go_sem, Nat.reduceEqDiff, Nat.reduceAdd, Nat.reduceSub, Nat.reduceMul, Nat.reduceLT, Nat.reduceLeDiff, Int.reduceLT, Int.reduceLE, Int.reduceEq, Int.reduceToNat, Int.reduceAdd, Int.reduceNeg, Int.reduceBEq, Int.reduceBNe, Nat.reduceBEq, reduceIte, reduceCtorEq, c1]
  by_cases c2 : p > 5
  · simp -implicitDefEqProofs only [go_sem, Nat.reduceEqDiff, Nat.reduceAdd, Nat.reduceSub, Nat.reduceMul, Nat.reduceLT, Nat.reduceLeDiff, Int.reduceLT, Int.reduceLE, Int.reduceEq, Int.reduceToNat, Int.reduceAdd, Int.reduceNeg, Int.reduceBEq, Int.reduceBNe, Nat.reduceBEq, reduceIte, reduceCtorEq, c2, rupd_r3]
    refine retK_keep (.inr rfl) .nil (by first | (simp -implicitDefEqProofs only [go_sem, Nat.reduceEqDiff, Nat.reduceAdd, Nat.reduceSub, Nat.reduceMul, Nat.reduceLT, Nat.reduceLeDiff, Int.reduceLT, Int.reduceLE, Int.reduceEq, Int.reduceToNat, Int.reduceAdd, Int.reduceNeg, Int.reduceBEq, Int.reduceBNe, Nat.reduceBEq, reduceIte, reduceCtorEq]; done) | (simp -implicitDefEqProofs only [go_sem, Nat.reduceEqDiff, Nat.reduceAdd, Nat.reduceSub, Nat.reduceMul, Nat.reduceLT, Nat.reduceLeDiff, Int.reduceLT, Int.reduceLE, Int.reduceEq, Int.reduceToNat, Int.reduceAdd, Int.reduceNeg, Int.reduceBEq, Int.reduceBNe, Nat.reduceBEq, reduceIte, reduceCtorEq]; rfl)) PH.nil_le ⟨?_, rfl⟩
    simp only [updL, c2, true_or, or_true, if_true]; exact .nil 1
  simp -implicitDefEqProofs only [go_sem, Nat.reduceEqDiff, Nat.reduceAdd, Nat.reduceSub, Nat.reduceMul, Nat.reduceLT, Nat.reduceLeDiff, Int.reduceLT, Int.reduceLE, Int.reduceEq, Int.reduceToNat, Int.reduceAdd, Int.reduceNeg, Int.reduceBEq, Int.reduceBNe, Nat.reduceBEq, reduceIte, reduceCtorEq, c2]
  by_cases c3 : w < 0
  · simp -implicitDefEqProofs only [go_sem, Nat.reduceEqDiff, Nat.reduceAdd, Nat.reduceSub, Nat.reduceMul, Nat.reduceLT, Nat.reduceLeDiff, Int.reduceLT, Int.reduceLE, Int.reduceEq, Int.reduceToNat, Int.reduceAdd, Int.reduceNeg, Int.reduceBEq, Int.reduceBNe, Nat.reduceBEq, reduceIte, reduceCtorEq, c3, rupd_r3]
    refine retK_keep (.inr rfl) .nil (by first | (simp -implicitDefEqProofs only [go_sem, Nat.reduceEqDiff, Nat.reduceAdd, Nat.reduceSub, Nat.reduceMul, Nat.reduceLT, Nat.reduceLeDiff, Int.reduceLT, Int.reduceLE, Int.reduceEq, Int.reduceToNat, Int.reduceAdd, Int.reduceNeg, Int.reduceBEq, Int.reduceBNe, Nat.reduceBEq, reduceIte, reduceCtorEq]; done) | (simp -implicitDefEqProofs only [go_sem, Nat.reduceEqDiff, Nat.reduceAdd, Nat.reduceSub, Nat.reduceMul, Nat.reduceLT, Nat.reduceLeDiff, Int.reduceLT, Int.reduceLE, Int.reduceEq, Int.reduceToNat, Int.reduceAdd, Int.reduceNeg, Int.reduceBEq, Int.reduceBNe, Nat.reduceBEq, reduceIte, reduceCtorEq]; rfl)) PH.nil_le ⟨?_, rfl⟩
    simp only [updL, c3, or_true, if_true]; exact .nil 1
  simp -implicitDefEqProofs only [go_sem, Nat.reduceEqDiff, Nat.reduceAdd, Nat.reduceSub, Nat.reduceMul, Nat.reduceLT, Nat.reduceLeDiff, Int.reduceLT, Int.reduceLE, Int.reduceEq, Int.reduceToNat, Int.reduceAdd, Int.reduceNeg, Int.reduceBEq, Int.reduceBNe, Nat.reduceBEq, reduceIte, reduceCtorEq, c3, rupd_r4]
  have hu : updL ws p w = RO.insAll [] (ws.take (updN ws.length p w)).flatten := by
    simp only [updL, c1, c2, c3, or_self, if_false]
  rw [hu]
  obtain ⟨n1, n2, n3⟩ := updN_facts ws.length p w c3
  generalize updN ws.length p w = N at n1 n2 n3
  refine wp_loop (α := PV × Nat) (fun a => rF ws p w a.1 a.2) (fun _ => .nil) (fun a => a.2 ≤ N ∧ a.2 ≤ ws.length ∧ Seen 1 a.1 (irows (RO.insAll [] (ws.take a.2).flatten))) (fun a => ws.length - a.2) (.nils, 0) ⟨by simp, by simp, .inl ⟨by simp [RO.insAll, irows], rfl⟩⟩ ?_ PH.nil_le ?_
  · unfold rF
    (repeat' (first | exact PF.nil_le | refine PF.set_le ?_ ?_)) <;> first | (simp -implicitDefEqProofs only [go_sem, Nat.reduceEqDiff, Nat.reduceAdd, Nat.reduceSub, Nat.reduceMul, Nat.reduceLT, Nat.reduceLeDiff, Int.reduceLT, Int.reduceLE, Int.reduceEq, Int.reduceToNat, Int.reduceAdd, Int.reduceNeg, Int.reduceBEq, Int.reduceBNe, Nat.reduceBEq, reduceIte, reduceCtorEq]; done) | (simp -implicitDefEqProofs only [go_sem, Nat.reduceEqDiff, Nat.reduceAdd, Nat.reduceSub, Nat.reduceMul, Nat.reduceLT, Nat.reduceLeDiff, Int.reduceLT, Int.reduceLE, Int.reduceEq, Int.reduceToNat, Int.reduceAdd, Int.reduceNeg, Int.reduceBEq, Int.reduceBNe, Nat.reduceBEq, reduceIte, reduceCtorEq]; rfl) | rfl
  rintro ⟨v, i⟩ ⟨hN, hi, hv⟩
  simp only at hN hi hv
  have leave : i = N → ∀ F' : PF, F' 5 = some v → PCode.wp C (.seq (.region rupd_r19) .ret) (retK [.tmp 4] (Sees (ints (RO.insAll [] (ws.take N).flatten)))) F' .nil := by
    intro e F' g5
    subst e
    simp -implicitDefEqProofs only [go_sem, Nat.reduceEqDiff, Nat.reduceAdd, Nat.reduceSub, Nat.reduceMul, Nat.reduceLT, Nat.reduceLeDiff, Int.reduceLT, Int.reduceLE, Int.reduceEq, Int.reduceToNat, Int.reduceAdd, Int.reduceNeg, Int.reduceBEq, Int.reduceBNe, Nat.reduceBEq, reduceIte, reduceCtorEq, rupd_r19, g5]
    exact retK_seen (.inr rfl) hv (by simp -implicitDefEqProofs only [go_sem, Nat.reduceEqDiff, Nat.reduceAdd, Nat.reduceSub, Nat.reduceMul, Nat.reduceLT, Nat.reduceLeDiff, Int.reduceLT, Int.reduceLE, Int.reduceEq, Int.reduceToNat, Int.reduceAdd, Int.reduceNeg, Int.reduceBEq, Int.reduceBNe, Nat.reduceBEq, reduceIte, reduceCtorEq])
  by_cases b1 : (i : Int) < ws.length
  · by_cases b2 : (i : Int) ≤ w
    · have hlt : i < ws.length := by omega
      have go : ¬ ((i : Int) = w ∧ p ≠ 3 ∧ p ≠ 4) → ∀ F' : PF, (rF ws p w v i).le F' → PCode.wp C (.seq (.region rupd_r7) (.block 2 (.loop rupd_l16))) (seqK C (PCode.wp C (.region rupd_r17)) (loopK (fun a : PV × Nat => rF ws p w a.1 a.2) (fun _ => .nil) (fun a => a.2 ≤ N ∧ a.2 ≤ ws.length ∧ Seen 1 a.1 (irows (RO.insAll [] (ws.take a.2).flatten))) (fun a => ws.length - a.2) (ws.length - i) (blockK 0 (seqK C (PCode.wp C (.seq (.region rupd_r19) .ret)) (retK [.tmp 4] (Sees (ints (RO.insAll [] (ws.take N).flatten)))))))) F' .nil := by
        intro hb F' hF
        have hle := flat_le ws (i + 1)
        have hf := flat_succ ws hlt
        have hlen : (ws.take (i + 1)).flatten.length = (ws.take i).flatten.length + ws[i].length := by rw [hf, List.length_append]
        have hl := insAll_len (ws.take i).flatten []
        rw [List.length_nil] at hl
        have g0 := hF 0 _ (by unfold rF; simp -implicitDefEqProofs only [go_sem, Nat.reduceEqDiff, Nat.reduceAdd, Nat.reduceSub, Nat.reduceMul, Nat.reduceLT, Nat.reduceLeDiff, Int.reduceLT, Int.reduceLE, Int.reduceEq, Int.reduceToNat, Int.reduceAdd, Int.reduceNeg, Int.reduceBEq, Int.reduceBNe, Nat.reduceBEq, reduceIte, reduceCtorEq]; rfl)
        refine rupd_row ws p w _ v hv i hlt h1 (by omega) _ F' hF ?_
        intro v' F'' H' hs hF''
        rw [← RO.insAll_append, ← hf] at hs
        have q0 := hF'' 0 _ (by unfold rF; simp -implicitDefEqProofs only [go_sem, Nat.reduceEqDiff, Nat.reduceAdd, Nat.reduceSub, Nat.reduceMul, Nat.reduceLT, Nat.reduceLeDiff, Int.reduceLT, Int.reduceLE, Int.reduceEq, Int.reduceToNat, Int.reduceAdd, Int.reduceNeg, Int.reduceBEq, Int.reduceBNe, Nat.reduceBEq, reduceIte, reduceCtorEq]; rfl)
        have q3 := hF'' 3 _ (by unfold rF; simp -implicitDefEqProofs only [go_sem, Nat.reduceEqDiff, Nat.reduceAdd, Nat.reduceSub, Nat.reduceMul, Nat.reduceLT, Nat.reduceLeDiff, Int.reduceLT, Int.reduceLE, Int.reduceEq, Int.reduceToNat, Int.reduceAdd, Int.reduceNeg, Int.reduceBEq, Int.reduceBNe, Nat.reduceBEq, reduceIte, reduceCtorEq]; rfl)
        have q4 := hF'' 4 _ (by unfold rF; simp -implicitDefEqProofs only [go_sem, Nat.reduceEqDiff, Nat.reduceAdd, Nat.reduceSub, Nat.reduceMul, Nat.reduceLT, Nat.reduceLeDiff, Int.reduceLT, Int.reduceLE, Int.reduceEq, Int.reduceToNat, Int.reduceAdd, Int.reduceNeg, Int.reduceBEq, Int.reduceBNe, Nat.reduceBEq, reduceIte, reduceCtorEq]; rfl)
        have q5 := hF'' 5 _ (by unfold rF; simp -implicitDefEqProofs only [go_sem, Nat.reduceEqDiff, Nat.reduceAdd, Nat.reduceSub, Nat.reduceMul, Nat.reduceLT, Nat.reduceLeDiff, Int.reduceLT, Int.reduceLE, Int.reduceEq, Int.reduceToNat, Int.reduceAdd, Int.reduceNeg, Int.reduceBEq, Int.reduceBNe, Nat.reduceBEq, reduceIte, reduceCtorEq]; rfl)
        have q6 := hF'' 6 _ (by unfold rF; simp -implicitDefEqProofs only [go_sem, Nat.reduceEqDiff, Nat.reduceAdd, Nat.reduceSub, Nat.reduceMul, Nat.reduceLT, Nat.reduceLeDiff, Int.reduceLT, Int.reduceLE, Int.reduceEq, Int.reduceToNat, Int.reduceAdd, Int.reduceNeg, Int.reduceBEq, Int.reduceBNe, Nat.reduceBEq, reduceIte, reduceCtorEq]; rfl)
        simp -implicitDefEqProofs only [go_sem, Nat.reduceEqDiff, Nat.reduceAdd, Nat.reduceSub, Nat.reduceMul, Nat.reduceLT, Nat.reduceLeDiff, Int.reduceLT, Int.reduceLE, Int.reduceEq, Int.reduceToNat, Int.reduceAdd, Int.reduceNeg, Int.reduceBEq, Int.reduceBNe, Nat.reduceBEq, reduceIte, reduceCtorEq, rupd_r17, q6, wrap_succ (show i < 9223372036854775807 by omega)]
        refine loopK_normal (v', i + 1) ⟨?_, by simp only; omega, hs⟩ (by simp only; omega) ?_ PH.nil_le
        · simp only
          by_cases hw : w < ws.length
          · by_cases h34 : p = 3 ∨ p = 4
            · have := n2 h34 hw; omega
            · have := n1 h34 hw
              have : (i : Int) ≠ w := fun e => hb ⟨e, fun h => h34 (.inl h), fun h => h34 (.inr h)⟩
              omega
          · have := n3 hw; omega
        · show (rF ws p w v' ((i + 1 : Nat) : Int)).le _
          unfold rF
          refine PF.set_le (PF.set_le (PF.set_le (PF.set_le (PF.set_le PF.nil_le ?_) ?_) ?_) ?_) ?_ <;> simp -implicitDefEqProofs only [go_sem, Nat.reduceEqDiff, Nat.reduceAdd, Nat.reduceSub, Nat.reduceMul, Nat.reduceLT, Nat.reduceLeDiff, Int.reduceLT, Int.reduceLE, Int.reduceEq, Int.reduceToNat, Int.reduceAdd, Int.reduceNeg, Int.reduceBEq, Int.reduceBNe, Nat.reduceBEq, reduceIte, reduceCtorEq, q0, q3, q4, q5]
      simp -implicitDefEqProofs only [go_sem, Nat.reduceEqDiff, Nat.reduceAdd, Nat.reduceSub, Nat.reduceMul, Nat.reduceLT, Nat.reduceLeDiff, Int.reduceLT, Int.reduceLE, Int.reduceEq, Int.reduceToNat, Int.reduceAdd, Int.reduceNeg, Int.reduceBEq, Int.reduceBNe, Nat.reduceBEq, reduceIte, reduceCtorEq, rupd_l18, rupd_r5, rF, b1, b2]
      by_cases b3 : (i : Int) = w
      · simp -implicitDefEqProofs only [go_sem, Nat.reduceEqDiff, Nat.reduceAdd, Nat.reduceSub, Nat.reduceMul, Nat.reduceLT, Nat.reduceLeDiff, Int.reduceLT, Int.reduceLE, Int.reduceEq, Int.reduceToNat, Int.reduceAdd, Int.reduceNeg, Int.reduceBEq, Int.reduceBNe, Nat.reduceBEq, reduceIte, reduceCtorEq, rupd_r6, int_beq_true b3]
        by_cases b4 : p = 3
        · subst b4
          simp -implicitDefEqProofs only [go_sem, Nat.reduceEqDiff, Nat.reduceAdd, Nat.reduceSub, Nat.reduceMul, Nat.reduceLT, Nat.reduceLeDiff, Int.reduceLT, Int.reduceLE, Int.reduceEq, Int.reduceToNat, Int.reduceAdd, Int.reduceNeg, Int.reduceBEq, Int.reduceBNe, Nat.reduceBEq, reduceIte, reduceCtorEq]
          refine go (by simp) _ ?_
          unfold rF
          (repeat' (first | exact PF.nil_le | refine PF.set_le ?_ ?_)) <;> first | (simp -implicitDefEqProofs only [go_sem, Nat.reduceEqDiff, Nat.reduceAdd, Nat.reduceSub, Nat.reduceMul, Nat.reduceLT, Nat.reduceLeDiff, Int.reduceLT, Int.reduceLE, Int.reduceEq, Int.reduceToNat, Int.reduceAdd, Int.reduceNeg, Int.reduceBEq, Int.reduceBNe, Nat.reduceBEq, reduceIte, reduceCtorEq]; done) | (simp -implicitDefEqProofs only [go_sem, Nat.reduceEqDiff, Nat.reduceAdd, Nat.reduceSub, Nat.reduceMul, Nat.reduceLT, Nat.reduceLeDiff, Int.reduceLT, Int.reduceLE, Int.reduceEq, Int.reduceToNat, Int.reduceAdd, Int.reduceNeg, Int.reduceBEq, Int.reduceBNe, Nat.reduceBEq, reduceIte, reduceCtorEq]; rfl) | rfl
        · simp -implicitDefEqProofs only [go_sem, Nat.reduceEqDiff, Nat.reduceAdd, Nat.reduceSub, Nat.reduceMul, Nat.reduceLT, Nat.reduceLeDiff, Int.reduceLT, Int.reduceLE, Int.reduceEq, Int.reduceToNat, Int.reduceAdd, Int.reduceNeg, Int.reduceBEq, Int.reduceBNe, Nat.reduceBEq, reduceIte, reduceCtorEq, int_bne_true b4]
          by_cases b5 : p = 4
          · subst b5
            simp -implicitDefEqProofs only [go_sem, Nat.reduceEqDiff, Nat.reduceAdd, Nat.reduceSub, Nat.reduceMul, Nat.reduceLT, Nat.reduceLeDiff, Int.reduceLT, Int.reduceLE, Int.reduceEq, Int.reduceToNat, Int.reduceAdd, Int.reduceNeg, Int.reduceBEq, Int.reduceBNe, Nat.reduceBEq, reduceIte, reduceCtorEq]
            refine go (by simp) _ ?_
            unfold rF
            (repeat' (first | exact PF.nil_le | refine PF.set_le ?_ ?_)) <;> first | (simp -implicitDefEqProofs only [go_sem, Nat.reduceEqDiff, Nat.reduceAdd, Nat.reduceSub, Nat.reduceMul, Nat.reduceLT, Nat.reduceLeDiff, Int.reduceLT, Int.reduceLE, Int.reduceEq, Int.reduceToNat, Int.reduceAdd, Int.reduceNeg, Int.reduceBEq, Int.reduceBNe, Nat.reduceBEq, reduceIte, reduceCtorEq]; done) | (simp -implicitDefEqProofs only [go_sem, Nat.reduceEqDiff, Nat.reduceAdd, Nat.reduceSub, Nat.reduceMul, Nat.reduceLT, Nat.reduceLeDiff, Int.reduceLT, Int.reduceLE, Int.reduceEq, Int.reduceToNat, Int.reduceAdd, Int.reduceNeg, Int.reduceBEq, Int.reduceBNe, Nat.reduceBEq, reduceIte, reduceCtorEq]; rfl) | rfl
          · simp -implicitDefEqProofs only [go_sem, Nat.reduceEqDiff, Nat.reduceAdd, Nat.reduceSub, Nat.reduceMul, Nat.reduceLT, Nat.reduceLeDiff, Int.reduceLT, Int.reduceLE, Int.reduceEq, Int.reduceToNat, Int.reduceAdd, Int.reduceNeg, Int.reduceBEq, Int.reduceBNe, Nat.reduceBEq, reduceIte, reduceCtorEq, int_bne_true b5]
            have e : i = N := by
              have := n1 (by simp [b4, b5]) (by omega); omega
            have := leave e
            simp -implicitDefEqProofs only [go_sem, Nat.reduceEqDiff, Nat.reduceAdd, Nat.reduceSub, Nat.reduceMul, Nat.reduceLT, Nat.reduceLeDiff, Int.reduceLT, Int.reduceLE, Int.reduceEq, Int.reduceToNat, Int.reduceAdd, Int.reduceNeg, Int.reduceBEq, Int.reduceBNe, Nat.reduceBEq, reduceIte, reduceCtorEq] at this
            refine this _ (by simp -implicitDefEqProofs only [go_sem, Nat.reduceEqDiff, Nat.reduceAdd, Nat.reduceSub, Nat.reduceMul, Nat.reduceLT, Nat.reduceLeDiff, Int.reduceLT, Int.reduceLE, Int.reduceEq, Int.reduceToNat, Int.reduceAdd, Int.reduceNeg, Int.reduceBEq, Int.reduceBNe, Nat.reduceBEq, reduceIte, reduceCtorEq])
      · simp -implicitDefEqProofs only [go_sem, Nat.reduceEqDiff, Nat.reduceAdd, Nat.reduceSub, Nat.reduceMul, Nat.reduceLT, Nat.reduceLeDiff, Int.reduceLT, Int.reduceLE, Int.reduceEq, Int.reduceToNat, Int.reduceAdd, Int.reduceNeg, Int.reduceBEq, Int.reduceBNe, Nat.reduceBEq, reduceIte, reduceCtorEq, rupd_r6, int_beq_false b3]
        refine go (fun h => b3 h.1) _ ?_
        unfold rF
        (repeat' (first | exact PF.nil_le | refine PF.set_le ?_ ?_)) <;> first | (simp -implicitDefEqProofs only [go_sem, Nat.reduceEqDiff, Nat.reduceAdd, Nat.reduceSub, Nat.reduceMul, Nat.reduceLT, Nat.reduceLeDiff, Int.reduceLT, Int.reduceLE, Int.reduceEq, Int.reduceToNat, Int.reduceAdd, Int.reduceNeg, Int.reduceBEq, Int.reduceBNe, Nat.reduceBEq, reduceIte, reduceCtorEq]; done) | (simp -implicitDefEqProofs only [go_sem, Nat.reduceEqDiff, Nat.reduceAdd, Nat.reduceSub, Nat.reduceMul, Nat.reduceLT, Nat.reduceLeDiff, Int.reduceLT, Int.reduceLE, Int.reduceEq, Int.reduceToNat, Int.reduceAdd, Int.reduceNeg, Int.reduceBEq, Int.reduceBNe, Nat.reduceBEq, reduceIte, reduceCtorEq]; rfl) | rfl
    · have e : i = N := by
        have hw : w < ws.length := by omega
        by_cases h34 : p = 3 ∨ p = 4
        · have := n2 h34 hw; omega
        · have := n1 h34 hw; omega
      simp -implicitDefEqProofs only [go_sem, Nat.reduceEqDiff, Nat.reduceAdd, Nat.reduceSub, Nat.reduceMul, Nat.reduceLT, Nat.reduceLeDiff, Int.reduceLT, Int.reduceLE, Int.reduceEq, Int.reduceToNat, Int.reduceAdd, Int.reduceNeg, Int.reduceBEq, Int.reduceBNe, Nat.reduceBEq, reduceIte, reduceCtorEq, rupd_l18, rupd_r5, rF, b1, b2]
      have := leave e
      simp -implicitDefEqProofs only [go_sem, Nat.reduceEqDiff, Nat.reduceAdd, Nat.reduceSub, Nat.reduceMul, Nat.reduceLT, Nat.reduceLeDiff, Int.reduceLT, Int.reduceLE, Int.reduceEq, Int.reduceToNat, Int.reduceAdd, Int.reduceNeg, Int.reduceBEq, Int.reduceBNe, Nat.reduceBEq, reduceIte, reduceCtorEq] at this
      refine this _ (by simp -implicitDefEqProofs only [go_sem, Nat.reduceEqDiff, Nat.reduceAdd, Nat.reduceSub, Nat.reduceMul, Nat.reduceLT, Nat.reduceLeDiff, Int.reduceLT, Int.reduceLE, Int.reduceEq, Int.reduceToNat, Int.reduceAdd, Int.reduceNeg, Int.reduceBEq, Int.reduceBNe, Nat.reduceBEq, reduceIte, reduceCtorEq])
  · have e : i = N := by
      by_cases hw : w < ws.length
      · by_cases h34 : p = 3 ∨ p = 4
        · have := n2 h34 hw; omega
        · have := n1 h34 hw; omega
      · have := n3 hw; omega
    simp -implicitDefEqProofs only [go_sem, Nat.reduceEqDiff, Nat.reduceAdd, Nat.reduceSub, Nat.reduceMul, Nat.reduceLT, Nat.reduceLeDiff, Int.reduceLT, Int.reduceLE, Int.reduceEq, Int.reduceToNat, Int.reduceAdd, Int.reduceNeg, Int.reduceBEq, Int.reduceBNe, Nat.reduceBEq, reduceIte, reduceCtorEq, rupd_l18, rupd_r5, rF, b1]
    have := leave e
    simp -implicitDefEqProofs only [go_sem, Nat.reduceEqDiff, Nat.reduceAdd, Nat.reduceSub, Nat.reduceMul, Nat.reduceLT, Nat.reduceLeDiff, Int.reduceLT, Int.reduceLE, Int.reduceEq, Int.reduceToNat, Int.reduceAdd, Int.reduceNeg, Int.reduceBEq, Int.reduceBNe, Nat.reduceBEq, reduceIte, reduceCtorEq] at this
    refine this _ (by simp -implicitDefEqProofs only [go_sem, Nat.reduceEqDiff, Nat.reduceAdd, Nat.reduceSub, Nat.reduceMul, Nat.reduceLT, Nat.reduceLeDiff, Int.reduceLT, Int.reduceLE, Int.reduceEq, Int.reduceToNat, Int.reduceAdd, Int.reduceNeg, Int.reduceBEq, Int.reduceBNe, Nat.reduceBEq, reduceIte, reduceCtorEq])
end Go.PM
