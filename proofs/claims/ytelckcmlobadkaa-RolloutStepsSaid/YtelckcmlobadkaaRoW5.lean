/-
  Contracts of the functions of a rollout: the reference's Updated. No condition.
-/
import Derived.Test.YtelckcmlobadkaaRoW4
import Derived.Test.YtelckcmlobadkaaPm31
set_option linter.unusedSimpArgs false
set_option linter.unusedVariables false
namespace Go.PM
open Go

def rF (ws : List (List Int)) (p w : Int) (v : PV) (i : Int) : PF := (((((PF.nil.set 0 (lists ws)).set 3 (.rptr [.int .i64 p, .int .i64 w])).set 4 (.nils)).set 5 (v)).set 6 (.int .i64 i))
def rF7 (ws : List (List Int)) (p w : Int) (v : PV) (i k : Int) : PF := ((((((PF.nil.set 0 (lists ws)).set 3 (.rptr [.int .i64 p, .int .i64 w])).set 4 (.nils)).set 5 (v)).set 6 (.int .i64 i)).set 7 (.int .i64 k))
def rF8 (ws : List (List Int)) (p w : Int) (v : PV) (i k a : Int) : PF := (((((((PF.nil.set 0 (lists ws)).set 3 (.rptr [.int .i64 p, .int .i64 w])).set 4 (.nils)).set 5 (v)).set 6 (.int .i64 i)).set 7 (.int .i64 k)).set 8 (.int .i64 a))

theorem pure_lists (ws : List (List Int)) : Pure (lists ws) := fun _ _ _ => rfl
theorem pure_int (n : Int) : Pure (.int .i64 n) := fun _ _ _ => rfl
theorem pure_rptr (cs : List PV) : Pure (.rptr cs) := fun _ _ _ => rfl
theorem pure_nils : Pure .nils := fun _ _ _ => rfl

/-- One element is put in. -/
theorem rupd_elem {C : Ctx} (ws : List (List Int)) (p w : Int) (L : List Int) (v : PV) (hv : Seen 1 v (irows L)) (i k : Nat) (hi : i < ws.length) (hk : k < ws[i].length) (hL : L.length ≤ 1000000) (h1 : ws.length ≤ 1000000) (h2 : ws[i].length ≤ 1000000) (K : Kont) (F : PF) (hF : (rF7 ws p w v i k).le F)
    (hK : ∀ v' F' H', Owned H' 1 v' (irows (RO.ins ws[i][k] L)) ∨ (Seen 1 v' (irows (RO.ins ws[i][k] L))) → (rF7 ws p w v' i k).le F' → K .normal F' H') :
    PCode.wp C (.block 3 (.seq (.region rupd_r9) (.seq (.block 4 (.loop rupd_l12)) (.seq (.seq (.draw rupd_r13) (.cond (.tmp 94) (.exit 3) .skip)) (.draw rupd_r14))))) K F .nil := by
  have f0 := hF 0 _ (by unfold rF7; simp -implicitDefEqProofs only [go_sem, Nat.reduceEqDiff, Nat.reduceAdd, Nat.reduceSub, Nat.reduceMul, Nat.reduceLT, Nat.reduceLeDiff, Int.reduceLT, Int.reduceLE, Int.reduceEq, Int.reduceToNat, Int.reduceAdd, Int.reduceNeg, Int.reduceBEq, Int.reduceBNe, Nat.reduceBEq, reduceIte, reduceCtorEq]; rfl)
  have f3 := hF 3 _ (by unfold rF7; simp -implicitDefEqProofs only [go_sem, Nat.reduceEqDiff, Nat.reduceAdd, Nat.reduceSub, Nat.reduceMul, Nat.reduceLT, Nat.reduceLeDiff, Int.reduceLT, Int.reduceLE, Int.reduceEq, Int.reduceToNat, Int.reduceAdd, Int.reduceNeg, Int.reduceBEq, Int.reduceBNe, Nat.reduceBEq, reduceIte, reduceCtorEq]; rfl)
  have f4 := hF 4 _ (by unfold rF7; simp -implicitDefEqProofs only [go_sem, Nat.reduceEqDiff, Nat.reduceAdd, Nat.reduceSub, Nat.reduceMul, Nat.reduceLT, Nat.reduceLeDiff, Int.reduceLT, Int.reduceLE, Int.reduceEq, Int.reduceToNat, Int.reduceAdd, Int.reduceNeg, Int.reduceBEq, Int.reduceBNe, Nat.reduceBEq, reduceIte, reduceCtorEq]; rfl)
  have f5 := hF 5 _ (by unfold rF7; simp -implicitDefEqProofs only [go_sem, Nat.reduceEqDiff, Nat.reduceAdd, Nat.reduceSub, Nat.reduceMul, Nat.reduceLT, Nat.reduceLeDiff, Int.reduceLT, Int.reduceLE, Int.reduceEq, Int.reduceToNat, Int.reduceAdd, Int.reduceNeg, Int.reduceBEq, Int.reduceBNe, Nat.reduceBEq, reduceIte, reduceCtorEq]; rfl)
  have f6 := hF 6 _ (by unfold rF7; simp -implicitDefEqProofs only [go_sem, Nat.reduceEqDiff, Nat.reduceAdd, Nat.reduceSub, Nat.reduceMul, Nat.reduceLT, Nat.reduceLeDiff, Int.reduceLT, Int.reduceLE, Int.reduceEq, Int.reduceToNat, Int.reduceAdd, Int.reduceNeg, Int.reduceBEq, Int.reduceBNe, Nat.reduceBEq, reduceIte, reduceCtorEq]; rfl)
  have f7 := hF 7 _ (by unfold rF7; simp -implicitDefEqProofs only [go_sem, Nat.reduceEqDiff, Nat.reduceAdd, Nat.reduceSub, Nat.reduceMul, Nat.reduceLT, Nat.reduceLeDiff, Int.reduceLT, Int.reduceLE, Int.reduceEq, Int.reduceToNat, Int.reduceAdd, Int.reduceNeg, Int.reduceBEq, Int.reduceBNe, Nat.reduceBEq, reduceIte, reduceCtorEq]; rfl)
  have hxi : (ws.map fun w => [ints w])[i]? = some [ints ws[i]] := by simp [hi]
  have hxk : (ws[i].map fun n => [PV.int .i64 n])[k]? = some [.int .i64 ws[i][k]] := by simp [hk]
  generalize hx : ws[i][k] = x at *
  simp -implicitDefEqProofs only [go_sem, Nat.reduceEqDiff, Nat.reduceAdd, Nat.reduceSub, Nat.reduceMul, Nat.reduceLT, Nat.reduceLeDiff, Int.reduceLT, Int.reduceLE, Int.reduceEq, Int.reduceToNat, Int.reduceAdd, Int.reduceNeg, Int.reduceBEq, Int.reduceBNe, Nat.reduceBEq, reduceIte, reduceCtorEq, rupd_r9]
  refine wp_loop (α := Nat) (fun a => rF8 ws p w v i k a) (fun _ => .nil) (fun a => a ≤ L.length ∧ ∀ j y, j < a → L[j]? = some y → y < x) (fun a => L.length - a) 0 ⟨by omega, fun j y h => by omega⟩ ?_ PH.nil_le ?_
  · unfold rF8
    (repeat' (first | exact PF.nil_le | refine PF.set_le ?_ ?_)) <;> first | (simp -implicitDefEqProofs only [go_sem, Nat.reduceEqDiff, Nat.reduceAdd, Nat.reduceSub, Nat.reduceMul, Nat.reduceLT, Nat.reduceLeDiff, Int.reduceLT, Int.reduceLE, Int.reduceEq, Int.reduceToNat, Int.reduceAdd, Int.reduceNeg, Int.reduceBEq, Int.reduceBNe, Nat.reduceBEq, reduceIte, reduceCtorEq, f0, f3, f4, f5, f6, f7]; done) | (simp -implicitDefEqProofs only [go_sem, Nat.reduceEqDiff, Nat.reduceAdd, Nat.reduceSub, Nat.reduceMul, Nat.reduceLT, Nat.reduceLeDiff, Int.reduceLT, Int.reduceLE, Int.reduceEq, Int.reduceToNat, Int.reduceAdd, Int.reduceNeg, Int.reduceBEq, Int.reduceBNe, Nat.reduceBEq, reduceIte, reduceCtorEq, f0, f3, f4, f5, f6, f7]; rfl) | rfl
  rintro a ⟨ha, hlt⟩
  rcases hv with ⟨h0, rfl⟩ | rfl
  · have hL0 : L = [] := by simpa [irows] using h0
    subst hL0
    have ha0 : a = 0 := by simpa using ha
    have hneg : ¬ (a : Int) < 0 := by omega
    simp -implicitDefEqProofs only [go_sem, Nat.reduceEqDiff, Nat.reduceAdd, Nat.reduceSub, Nat.reduceMul, Nat.reduceLT, Nat.reduceLeDiff, Int.reduceLT, Int.reduceLE, Int.reduceEq, Int.reduceToNat, Int.reduceAdd, Int.reduceNeg, Int.reduceBEq, Int.reduceBNe, Nat.reduceBEq, reduceIte, reduceCtorEq, rupd_l12, rF8]
    refine wp_draw .nil noCalls PH.nil_le ?_
    simp -implicitDefEqProofs only [go_sem, Nat.reduceEqDiff, Nat.reduceAdd, Nat.reduceSub, Nat.reduceMul, Nat.reduceLT, Nat.reduceLeDiff, Int.reduceLT, Int.reduceLE, Int.reduceEq, Int.reduceToNat, Int.reduceAdd, Int.reduceNeg, Int.reduceBEq, Int.reduceBNe, Nat.reduceBEq, reduceIte, reduceCtorEq, rupd_r10, hneg]
    refine wp_draw .nil noCalls PH.nil_le ?_
    simp -implicitDefEqProofs only [go_sem, Nat.reduceEqDiff, Nat.reduceAdd, Nat.reduceSub, Nat.reduceMul, Nat.reduceLT, Nat.reduceLeDiff, Int.reduceLT, Int.reduceLE, Int.reduceEq, Int.reduceToNat, Int.reduceAdd, Int.reduceNeg, Int.reduceBEq, Int.reduceBNe, Nat.reduceBEq, reduceIte, reduceCtorEq, rupd_r13, hneg]
    refine wp_draw .nil noCalls PH.nil_le ?_
    have hz : (a : Int) = 0 := by omega
    simp -implicitDefEqProofs only [go_sem, Nat.reduceEqDiff, Nat.reduceAdd, Nat.reduceSub, Nat.reduceMul, Nat.reduceLT, Nat.reduceLeDiff, Int.reduceLT, Int.reduceLE, Int.reduceEq, Int.reduceToNat, Int.reduceAdd, Int.reduceNeg, Int.reduceBEq, Int.reduceBNe, Nat.reduceBEq, reduceIte, reduceCtorEq, rupd_r14, hz]
    refine append_owned (rows := []) .nil rfl (by unfold roomFor; simp [maxLen]) fun v1 H1 o1 e1 => ⟨PH.nil_le, ?_⟩
    simp -implicitDefEqProofs only [go_sem, Nat.reduceEqDiff, Nat.reduceAdd, Nat.reduceSub, Nat.reduceMul, Nat.reduceLT, Nat.reduceLeDiff, Int.reduceLT, Int.reduceLE, Int.reduceEq, Int.reduceToNat, Int.reduceAdd, Int.reduceNeg, Int.reduceBEq, Int.reduceBNe, Nat.reduceBEq, reduceIte, reduceCtorEq, hxi, hxk]
    refine append_owned (src := [[.int .i64 x]]) o1 rfl (by unfold roomFor; simp [maxLen]) fun v2 H2 o2 e2 => ⟨PH.nil_le, ?_⟩
    refine append_owned (src := []) o2 rfl (by unfold roomFor; simp [maxLen]) fun v3 H3 o3 e3 => ⟨PH.nil_le, ?_⟩
    refine hK v3 _ H3 (.inl (by simpa [RO.ins, irows] using o3)) ?_
    unfold rF7
    (repeat' (first | exact PF.nil_le | refine PF.set_le ?_ ?_)) <;> first | (simp -implicitDefEqProofs only [go_sem, Nat.reduceEqDiff, Nat.reduceAdd, Nat.reduceSub, Nat.reduceMul, Nat.reduceLT, Nat.reduceLeDiff, Int.reduceLT, Int.reduceLE, Int.reduceEq, Int.reduceToNat, Int.reduceAdd, Int.reduceNeg, Int.reduceBEq, Int.reduceBNe, Nat.reduceBEq, reduceIte, reduceCtorEq]; done) | (simp -implicitDefEqProofs only [go_sem, Nat.reduceEqDiff, Nat.reduceAdd, Nat.reduceSub, Nat.reduceMul, Nat.reduceLT, Nat.reduceLeDiff, Int.reduceLT, Int.reduceLE, Int.reduceEq, Int.reduceToNat, Int.reduceAdd, Int.reduceNeg, Int.reduceBEq, Int.reduceBNe, Nat.reduceBEq, reduceIte, reduceCtorEq]; rfl) | rfl
  · have hrl : (irows L).length = L.length := irows_len L
    simp -implicitDefEqProofs only [go_sem, Nat.reduceEqDiff, Nat.reduceAdd, Nat.reduceSub, Nat.reduceMul, Nat.reduceLT, Nat.reduceLeDiff, Int.reduceLT, Int.reduceLE, Int.reduceEq, Int.reduceToNat, Int.reduceAdd, Int.reduceNeg, Int.reduceBEq, Int.reduceBNe, Nat.reduceBEq, reduceIte, reduceCtorEq, rupd_l12, rF8]
    refine wp_draw .nil noCalls PH.nil_le ?_
    have exits : ∀ F' : PF, (rF8 ws p w (.sl 1 (irows L)) i k a).le F' → (∀ y, L[a]? = some y → ¬ y < x) →
        PCode.wp C (.seq (.seq (.draw rupd_r13) (.cond (.tmp 94) (.exit 3) .skip)) (.draw rupd_r14)) (blockK 3 K) F' .nil := by
      intro F' hF hno
      have g0 := hF 0 _ (by unfold rF8; simp -implicitDefEqProofs only [go_sem, Nat.reduceEqDiff, Nat.reduceAdd, Nat.reduceSub, Nat.reduceMul, Nat.reduceLT, Nat.reduceLeDiff, Int.reduceLT, Int.reduceLE, Int.reduceEq, Int.reduceToNat, Int.reduceAdd, Int.reduceNeg, Int.reduceBEq, Int.reduceBNe, Nat.reduceBEq, reduceIte, reduceCtorEq]; rfl)
      have g3 := hF 3 _ (by unfold rF8; simp -implicitDefEqProofs only [go_sem, Nat.reduceEqDiff, Nat.reduceAdd, Nat.reduceSub, Nat.reduceMul, Nat.reduceLT, Nat.reduceLeDiff, Int.reduceLT, Int.reduceLE, Int.reduceEq, Int.reduceToNat, Int.reduceAdd, Int.reduceNeg, Int.reduceBEq, Int.reduceBNe, Nat.reduceBEq, reduceIte, reduceCtorEq]; rfl)
      have g4 := hF 4 _ (by unfold rF8; simp -implicitDefEqProofs only [go_sem, Nat.reduceEqDiff, Nat.reduceAdd, Nat.reduceSub, Nat.reduceMul, Nat.reduceLT, Nat.reduceLeDiff, Int.reduceLT, Int.reduceLE, Int.reduceEq, Int.reduceToNat, Int.reduceAdd, Int.reduceNeg, Int.reduceBEq, Int.reduceBNe, Nat.reduceBEq, reduceIte, reduceCtorEq]; rfl)
      have g5 := hF 5 _ (by unfold rF8; simp -implicitDefEqProofs only [go_sem, Nat.reduceEqDiff, Nat.reduceAdd, Nat.reduceSub, Nat.reduceMul, Nat.reduceLT, Nat.reduceLeDiff, Int.reduceLT, Int.reduceLE, Int.reduceEq, Int.reduceToNat, Int.reduceAdd, Int.reduceNeg, Int.reduceBEq, Int.reduceBNe, Nat.reduceBEq, reduceIte, reduceCtorEq]; rfl)
      have g6 := hF 6 _ (by unfold rF8; simp -implicitDefEqProofs only [go_sem, Nat.reduceEqDiff, Nat.reduceAdd, Nat.reduceSub, Nat.reduceMul, Nat.reduceLT, Nat.reduceLeDiff, Int.reduceLT, Int.reduceLE, Int.reduceEq, Int.reduceToNat, Int.reduceAdd, Int.reduceNeg, Int.reduceBEq, Int.reduceBNe, Nat.reduceBEq, reduceIte, reduceCtorEq]; rfl)
      have g7 := hF 7 _ (by unfold rF8; simp -implicitDefEqProofs only [go_sem, Nat.reduceEqDiff, Nat.reduceAdd, Nat.reduceSub, Nat.reduceMul, Nat.reduceLT, Nat.reduceLeDiff, Int.reduceLT, Int.reduceLE, Int.reduceEq, Int.reduceToNat, Int.reduceAdd, Int.reduceNeg, Int.reduceBEq, Int.reduceBNe, Nat.reduceBEq, reduceIte, reduceCtorEq]; rfl)
      have g8 := hF 8 _ (by unfold rF8; simp -implicitDefEqProofs only [go_sem, Nat.reduceEqDiff, Nat.reduceAdd, Nat.reduceSub, Nat.reduceMul, Nat.reduceLT, Nat.reduceLeDiff, Int.reduceLT, Int.reduceLE, Int.reduceEq, Int.reduceToNat, Int.reduceAdd, Int.reduceNeg, Int.reduceBEq, Int.reduceBNe, Nat.reduceBEq, reduceIte, reduceCtorEq]; rfl)
      have key := RO.ins_at x L a ha hlt hno
      simp -implicitDefEqProofs only [go_sem, Nat.reduceEqDiff, Nat.reduceAdd, Nat.reduceSub, Nat.reduceMul, Nat.reduceLT, Nat.reduceLeDiff, Int.reduceLT, Int.reduceLE, Int.reduceEq, Int.reduceToNat, Int.reduceAdd, Int.reduceNeg, Int.reduceBEq, Int.reduceBNe, Nat.reduceBEq, reduceIte, reduceCtorEq]
      refine wp_draw .nil noCalls PH.nil_le ?_
      have puts : L[a]? ≠ some x → ∀ F2 : PF, F2 0 = some (lists ws) → F2 3 = some (.rptr [.int .i64 p, .int .i64 w]) → F2 4 = some .nils → F2 5 = some (.sl 1 (irows L)) → F2 6 = some (.int .i64 i) → F2 7 = some (.int .i64 k) → F2 8 = some (.int .i64 a) →
          PCode.wp C (.draw rupd_r14) (blockK 3 K) F2 .nil := by
        intro hne F2 q0 q3 q4 q5 q6 q7 q8
        rw [if_neg hne] at key
        refine wp_draw .nil noCalls PH.nil_le ?_
        have hal : (a : Int) ≤ (irows L).length := by omega
        simp -implicitDefEqProofs only [go_sem, Nat.reduceEqDiff, Nat.reduceAdd, Nat.reduceSub, Nat.reduceMul, Nat.reduceLT, Nat.reduceLeDiff, Int.reduceLT, Int.reduceLE, Int.reduceEq, Int.reduceToNat, Int.reduceAdd, Int.reduceNeg, Int.reduceBEq, Int.reduceBNe, Nat.reduceBEq, reduceIte, reduceCtorEq, rupd_r14, q5, q8, hal]
        refine append_owned (rows := []) (src := (irows L).take a) .nil (by simp -implicitDefEqProofs only [go_sem, Nat.reduceEqDiff, Nat.reduceAdd, Nat.reduceSub, Nat.reduceMul, Nat.reduceLT, Nat.reduceLeDiff, Int.reduceLT, Int.reduceLE, Int.reduceEq, Int.reduceToNat, Int.reduceAdd, Int.reduceNeg, Int.reduceBEq, Int.reduceBNe, Nat.reduceBEq, reduceIte, reduceCtorEq, List.drop_zero]) (by unfold roomFor; simp only [List.length_nil, List.length_take, hrl, maxLen]; omega) fun v1 H1 o1 e1 => ⟨PH.nil_le, ?_⟩
        simp -implicitDefEqProofs only [go_sem, Nat.reduceEqDiff, Nat.reduceAdd, Nat.reduceSub, Nat.reduceMul, Nat.reduceLT, Nat.reduceLeDiff, Int.reduceLT, Int.reduceLE, Int.reduceEq, Int.reduceToNat, Int.reduceAdd, Int.reduceNeg, Int.reduceBEq, Int.reduceBNe, Nat.reduceBEq, reduceIte, reduceCtorEq, hxi, hxk, q0, q6, q7]
        refine append_owned (src := [[.int .i64 x]]) o1 rfl (by unfold roomFor; simp only [List.nil_append, List.length_singleton, List.length_take, hrl, maxLen]; omega) fun v2 H2 o2 e2 => ⟨PH.nil_le, ?_⟩
        simp -implicitDefEqProofs only [go_sem, Nat.reduceEqDiff, Nat.reduceAdd, Nat.reduceSub, Nat.reduceMul, Nat.reduceLT, Nat.reduceLeDiff, Int.reduceLT, Int.reduceLE, Int.reduceEq, Int.reduceToNat, Int.reduceAdd, Int.reduceNeg, Int.reduceBEq, Int.reduceBNe, Nat.reduceBEq, reduceIte, reduceCtorEq, q5, q8, hal]
        refine append_owned (src := (irows L).drop a) o2 (by simp -implicitDefEqProofs only [go_sem, Nat.reduceEqDiff, Nat.reduceAdd, Nat.reduceSub, Nat.reduceMul, Nat.reduceLT, Nat.reduceLeDiff, Int.reduceLT, Int.reduceLE, Int.reduceEq, Int.reduceToNat, Int.reduceAdd, Int.reduceNeg, Int.reduceBEq, Int.reduceBNe, Nat.reduceBEq, reduceIte, reduceCtorEq, List.take_length]) (by unfold roomFor; simp only [List.nil_append, List.length_append, List.length_singleton, List.length_take, List.length_drop, hrl, maxLen]; omega) fun v3 H3 o3 e3 => ⟨PH.nil_le, ?_⟩
        refine hK v3 _ H3 (.inl ?_) ?_
        · have : irows (RO.ins x L) = [] ++ (irows L).take a ++ [[.int .i64 x]] ++ (irows L).drop a := by
            rw [key]; simp [irows]
          rw [this]; exact o3
        · unfold rF7
          refine PF.set_le (PF.set_le (PF.set_le (PF.set_le (PF.set_le (PF.set_le PF.nil_le ?_) ?_) ?_) ?_) ?_) ?_ <;> simp -implicitDefEqProofs only [go_sem, Nat.reduceEqDiff, Nat.reduceAdd, Nat.reduceSub, Nat.reduceMul, Nat.reduceLT, Nat.reduceLeDiff, Int.reduceLT, Int.reduceLE, Int.reduceEq, Int.reduceToNat, Int.reduceAdd, Int.reduceNeg, Int.reduceBEq, Int.reduceBNe, Nat.reduceBEq, reduceIte, reduceCtorEq, q0, q3, q4, q6, q7]
      by_cases hal : a < L.length
      · have hla : (a : Int) < (irows L).length := by omega
        have hy : (irows L)[a]? = some [.int .i64 L[a]] := by simp [irows, hal]
        simp -implicitDefEqProofs only [go_sem, Nat.reduceEqDiff, Nat.reduceAdd, Nat.reduceSub, Nat.reduceMul, Nat.reduceLT, Nat.reduceLeDiff, Int.reduceLT, Int.reduceLE, Int.reduceEq, Int.reduceToNat, Int.reduceAdd, Int.reduceNeg, Int.reduceBEq, Int.reduceBNe, Nat.reduceBEq, reduceIte, reduceCtorEq, rupd_r13, g8, g5, hla, hy, hxi, hxk, g0, g6, g7]
        by_cases he : L[a] = x
        · have hs : L[a]? = some x := by rw [List.getElem?_eq_getElem hal, he]
          rw [if_pos hs] at key
          simp -implicitDefEqProofs only [go_sem, Nat.reduceEqDiff, Nat.reduceAdd, Nat.reduceSub, Nat.reduceMul, Nat.reduceLT, Nat.reduceLeDiff, Int.reduceLT, Int.reduceLE, Int.reduceEq, Int.reduceToNat, Int.reduceAdd, Int.reduceNeg, Int.reduceBEq, Int.reduceBNe, Nat.reduceBEq, reduceIte, reduceCtorEq, int_beq_true he]
          refine hK (.sl 1 (irows L)) _ _ (.inr (.inr (by rw [key]))) ?_
          unfold rF7
          refine PF.set_le (PF.set_le (PF.set_le (PF.set_le (PF.set_le (PF.set_le PF.nil_le ?_) ?_) ?_) ?_) ?_) ?_ <;> simp -implicitDefEqProofs only [go_sem, Nat.reduceEqDiff, Nat.reduceAdd, Nat.reduceSub, Nat.reduceMul, Nat.reduceLT, Nat.reduceLeDiff, Int.reduceLT, Int.reduceLE, Int.reduceEq, Int.reduceToNat, Int.reduceAdd, Int.reduceNeg, Int.reduceBEq, Int.reduceBNe, Nat.reduceBEq, reduceIte, reduceCtorEq, g0, g3, g4, g5, g6, g7]
        · simp -implicitDefEqProofs only [go_sem, Nat.reduceEqDiff, Nat.reduceAdd, Nat.reduceSub, Nat.reduceMul, Nat.reduceLT, Nat.reduceLeDiff, Int.reduceLT, Int.reduceLE, Int.reduceEq, Int.reduceToNat, Int.reduceAdd, Int.reduceNeg, Int.reduceBEq, Int.reduceBNe, Nat.reduceBEq, reduceIte, reduceCtorEq, int_beq_false he]
          refine puts (by rw [List.getElem?_eq_getElem hal]; simpa using he) _ ?_ ?_ ?_ ?_ ?_ ?_ ?_ <;> simp -implicitDefEqProofs only [go_sem, Nat.reduceEqDiff, Nat.reduceAdd, Nat.reduceSub, Nat.reduceMul, Nat.reduceLT, Nat.reduceLeDiff, Int.reduceLT, Int.reduceLE, Int.reduceEq, Int.reduceToNat, Int.reduceAdd, Int.reduceNeg, Int.reduceBEq, Int.reduceBNe, Nat.reduceBEq, reduceIte, reduceCtorEq, g0, g3, g4, g5, g6, g7, g8]
      · have hla : ¬ (a : Int) < (irows L).length := by omega
        simp -implicitDefEqProofs only [go_sem, Nat.reduceEqDiff, Nat.reduceAdd, Nat.reduceSub, Nat.reduceMul, Nat.reduceLT, Nat.reduceLeDiff, Int.reduceLT, Int.reduceLE, Int.reduceEq, Int.reduceToNat, Int.reduceAdd, Int.reduceNeg, Int.reduceBEq, Int.reduceBNe, Nat.reduceBEq, reduceIte, reduceCtorEq, rupd_r13, g8, g5, hla]
        refine puts (by rw [List.getElem?_eq_none (by omega)]; simp) _ ?_ ?_ ?_ ?_ ?_ ?_ ?_ <;> simp -implicitDefEqProofs only [go_sem, Nat.reduceEqDiff, Nat.reduceAdd, Nat.reduceSub, Nat.reduceMul, Nat.reduceLT, Nat.reduceLeDiff, Int.reduceLT, Int.reduceLE, Int.reduceEq, Int.reduceToNat, Int.reduceAdd, Int.reduceNeg, Int.reduceBEq, Int.reduceBNe, Nat.reduceBEq, reduceIte, reduceCtorEq, g0, g3, g4, g5, g6, g7, g8]
    by_cases hal : a < L.length
    · have hla : (a : Int) < (irows L).length := by omega
      have hy : (irows L)[a]? = some [.int .i64 L[a]] := by simp [irows, hal]
      simp -implicitDefEqProofs only [go_sem, Nat.reduceEqDiff, Nat.reduceAdd, Nat.reduceSub, Nat.reduceMul, Nat.reduceLT, Nat.reduceLeDiff, Int.reduceLT, Int.reduceLE, Int.reduceEq, Int.reduceToNat, Int.reduceAdd, Int.reduceNeg, Int.reduceBEq, Int.reduceBNe, Nat.reduceBEq, reduceIte, reduceCtorEq, rupd_r10, hla, hy, hxi, hxk]
      by_cases he : L[a] < x
      · simp -implicitDefEqProofs only [go_sem, Nat.reduceEqDiff, Nat.reduceAdd, Nat.reduceSub, Nat.reduceMul, Nat.reduceLT, Nat.reduceLeDiff, Int.reduceLT, Int.reduceLE, Int.reduceEq, Int.reduceToNat, Int.reduceAdd, Int.reduceNeg, Int.reduceBEq, Int.reduceBNe, Nat.reduceBEq, reduceIte, reduceCtorEq, he, rupd_r11, wrap_succ (show a < 9223372036854775807 by omega)]
        refine loopK_normal (a + 1) ⟨by omega, fun j y hj hy' => ?_⟩ (by omega) ?_ PH.nil_le
        · rcases Nat.lt_or_ge j a with h | h
          · exact hlt j y h hy'
          · have : j = a := by omega
            subst this
            rw [List.getElem?_eq_getElem hal] at hy'
            cases hy'; exact he
        · (repeat' (first | exact PF.nil_le | refine PF.set_le ?_ ?_)) <;> first | (simp -implicitDefEqProofs only [go_sem, Nat.reduceEqDiff, Nat.reduceAdd, Nat.reduceSub, Nat.reduceMul, Nat.reduceLT, Nat.reduceLeDiff, Int.reduceLT, Int.reduceLE, Int.reduceEq, Int.reduceToNat, Int.reduceAdd, Int.reduceNeg, Int.reduceBEq, Int.reduceBNe, Nat.reduceBEq, reduceIte, reduceCtorEq]; done) | (simp -implicitDefEqProofs only [go_sem, Nat.reduceEqDiff, Nat.reduceAdd, Nat.reduceSub, Nat.reduceMul, Nat.reduceLT, Nat.reduceLeDiff, Int.reduceLT, Int.reduceLE, Int.reduceEq, Int.reduceToNat, Int.reduceAdd, Int.reduceNeg, Int.reduceBEq, Int.reduceBNe, Nat.reduceBEq, reduceIte, reduceCtorEq]; rfl) | rfl
      · simp -implicitDefEqProofs only [go_sem, Nat.reduceEqDiff, Nat.reduceAdd, Nat.reduceSub, Nat.reduceMul, Nat.reduceLT, Nat.reduceLeDiff, Int.reduceLT, Int.reduceLE, Int.reduceEq, Int.reduceToNat, Int.reduceAdd, Int.reduceNeg, Int.reduceBEq, Int.reduceBNe, Nat.reduceBEq, reduceIte, reduceCtorEq, he]
        refine exits _ ?_ (fun y hy => by rw [List.getElem?_eq_getElem hal] at hy; cases hy; exact he)
        unfold rF8
        (repeat' (first | exact PF.nil_le | refine PF.set_le ?_ ?_)) <;> first | (simp -implicitDefEqProofs only [go_sem, Nat.reduceEqDiff, Nat.reduceAdd, Nat.reduceSub, Nat.reduceMul, Nat.reduceLT, Nat.reduceLeDiff, Int.reduceLT, Int.reduceLE, Int.reduceEq, Int.reduceToNat, Int.reduceAdd, Int.reduceNeg, Int.reduceBEq, Int.reduceBNe, Nat.reduceBEq, reduceIte, reduceCtorEq]; done) | (simp -implicitDefEqProofs only [go_sem, Nat.reduceEqDiff, Nat.reduceAdd, Nat.reduceSub, Nat.reduceMul, Nat.reduceLT, Nat.reduceLeDiff, Int.reduceLT, Int.reduceLE, Int.reduceEq, Int.reduceToNat, Int.reduceAdd, Int.reduceNeg, Int.reduceBEq, Int.reduceBNe, Nat.reduceBEq, reduceIte, reduceCtorEq]; rfl) | rfl
    · have hla : ¬ (a : Int) < (irows L).length := by omega
      simp -implicitDefEqProofs only [go_sem, Nat.reduceEqDiff, Nat.reduceAdd, Nat.reduceSub, Nat.reduceMul, Nat.reduceLT, Nat.reduceLeDiff, Int.reduceLT, Int.reduceLE, Int.reduceEq, Int.reduceToNat, Int.reduceAdd, Int.reduceNeg, Int.reduceBEq, Int.reduceBNe, Nat.reduceBEq, reduceIte, reduceCtorEq, rupd_r10, hla]
      refine exits _ ?_ (fun y hy => by rw [List.getElem?_eq_none (by omega)] at hy; cases hy)
      unfold rF8
      (repeat' (first | exact PF.nil_le | refine PF.set_le ?_ ?_)) <;> first | (simp -implicitDefEqProofs only [go_sem, Nat.reduceEqDiff, Nat.reduceAdd, Nat.reduceSub, Nat.reduceMul, Nat.reduceLT, Nat.reduceLeDiff, Int.reduceLT, Int.reduceLE, Int.reduceEq, Int.reduceToNat, Int.reduceAdd, Int.reduceNeg, Int.reduceBEq, Int.reduceBNe, Nat.reduceBEq, reduceIte, reduceCtorEq]; done) | (simp -implicitDefEqProofs only [go_sem, Nat.reduceEqDiff, Nat.reduceAdd, Nat.reduceSub, Nat.reduceMul, Nat.reduceLT, Nat.reduceLeDiff, Int.reduceLT, Int.reduceLE, Int.reduceEq, Int.reduceToNat, Int.reduceAdd, Int.reduceNeg, Int.reduceBEq, Int.reduceBNe, Nat.reduceBEq, reduceIte, reduceCtorEq]; rfl) | rfl
end Go.PM
