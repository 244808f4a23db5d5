/-
  Contracts of the functions of a rollout: the law. No condition.
-/
import Derived.Test.YtelckcmlobadkaaRoW7
set_option linter.unusedSimpArgs false
set_option linter.unusedVariables false
namespace Go.PM
open Go

def lawF (ws : List (List Int)) (n p w e : Int) (i : Int) : PF := (((((((PF.nil.set 0 (.int .i64 n)).set 1 (.agg [.int .i64 p, .int .i64 w])).set 2 (.int .i64 e)).set 3 (lists ws)).set 5 (.rptr [.int .i64 p, .int .i64 w])).set 8 (.bool false)).set 9 (.int .i64 i))

theorem flat_bound : ∀ (ws : List (List Int)), (∀ w ∈ ws, w.length ≤ 20) → ws.flatten.length ≤ 20 * ws.length
  | [], _ => by simp
  | w :: ws, h => by
    have h1 := h w (by simp)
    have h2 := flat_bound ws (fun x hx => h x (by simp [hx]))
    simp only [List.flatten_cons, List.length_append, List.length_cons]
    omega
theorem flat_updL (ws : List (List Int)) (p w : Int) (h : ws.flatten.length ≤ 1000) : (updL ws p w).length ≤ 1000 := by
  unfold updL
  split
  · simp
  · have := insAll_len (ws.take (updN ws.length p w)).flatten []
    have := flat_le ws (updN ws.length p w)
    simp only [List.length_nil] at *
    omega

theorem ink5 : InK .i64 5 := ⟨by decide, by decide⟩
theorem ink4 : InK .i64 4 := ⟨by decide, by decide⟩

theorem law_ok {C : Ctx} (L : RoLib C) (hawake : ECalls C 26 [] .nil (Gives (.bool true))) (ws : List (List Int)) (n p w e : Int) :
    law_body.wp C (retK law.res (Gives (.bool true))) (PF.args [.int .i64 n, .agg [.int .i64 p, .int .i64 w], .int .i64 e, lists ws]) .nil := by
  simp -implicitDefEqProofs only [go_sem, Nat.reduceEqDiff, Nat.reduceAdd, Nat.reduceSub, Nat.reduceMul, Nat.reduceLT, Nat.reduceLeDiff, Int.reduceLT, Int.reduceLE, Int.reduceEq, Int.reduceToNat, Int.reduceAdd, Int.reduceNeg, Int.reduceBEq, Int.reduceBNe, Nat.reduceBEq, reduceIte, reduceCtorEq, law_body, law_r0, law_r1, law]
  refine condP_of (fun h => ?_) (fun h => ?_)
  · simp -implicitDefEqProofs only [go_sem, Nat.reduceEqDiff, Nat.reduceAdd, Nat.reduceSub, Nat.reduceMul, Nat.reduceLT, Nat.reduceLeDiff, Int.reduceLT, Int.reduceLE, Int.reduceEq, Int.reduceToNat, Int.reduceAdd, Int.reduceNeg, Int.reduceBEq, Int.reduceBNe, Nat.reduceBEq, reduceIte, reduceCtorEq, law_r2]
    refine wpCall_pure0 hawake (by first | (simp -implicitDefEqProofs only [go_sem, Nat.reduceEqDiff, Nat.reduceAdd, Nat.reduceSub, Nat.reduceMul, Nat.reduceLT, Nat.reduceLeDiff, Int.reduceLT, Int.reduceLE, Int.reduceEq, Int.reduceToNat, Int.reduceAdd, Int.reduceNeg, Int.reduceBEq, Int.reduceBNe, Nat.reduceBEq, reduceIte, reduceCtorEq]; done) | (simp -implicitDefEqProofs only [go_sem, Nat.reduceEqDiff, Nat.reduceAdd, Nat.reduceSub, Nat.reduceMul, Nat.reduceLT, Nat.reduceLeDiff, Int.reduceLT, Int.reduceLE, Int.reduceEq, Int.reduceToNat, Int.reduceAdd, Int.reduceNeg, Int.reduceBEq, Int.reduceBNe, Nat.reduceBEq, reduceIte, reduceCtorEq]; rfl)) ?_
    simp -implicitDefEqProofs only [go_sem, Nat.reduceEqDiff, Nat.reduceAdd, Nat.reduceSub, Nat.reduceMul, Nat.reduceLT, Nat.reduceLeDiff, Int.reduceLT, Int.reduceLE, Int.reduceEq, Int.reduceToNat, Int.reduceAdd, Int.reduceNeg, Int.reduceBEq, Int.reduceBNe, Nat.reduceBEq, reduceIte, reduceCtorEq]
    refine retK_pure (.inr rfl) (by first | (simp -implicitDefEqProofs only [go_sem, Nat.reduceEqDiff, Nat.reduceAdd, Nat.reduceSub, Nat.reduceMul, Nat.reduceLT, Nat.reduceLeDiff, Int.reduceLT, Int.reduceLE, Int.reduceEq, Int.reduceToNat, Int.reduceAdd, Int.reduceNeg, Int.reduceBEq, Int.reduceBNe, Nat.reduceBEq, reduceIte, reduceCtorEq]; done) | (simp -implicitDefEqProofs only [go_sem, Nat.reduceEqDiff, Nat.reduceAdd, Nat.reduceSub, Nat.reduceMul, Nat.reduceLT, Nat.reduceLeDiff, Int.reduceLT, Int.reduceLE, Int.reduceEq, Int.reduceToNat, Int.reduceAdd, Int.reduceNeg, Int.reduceBEq, Int.reduceBNe, Nat.reduceBEq, reduceIte, reduceCtorEq]; rfl)) ?_
    rfl
  have hl20 : ws.length ≤ 20 := by simp at h; omega
  simp -implicitDefEqProofs only [go_sem, Nat.reduceEqDiff, Nat.reduceAdd, Nat.reduceSub, Nat.reduceMul, Nat.reduceLT, Nat.reduceLeDiff, Int.reduceLT, Int.reduceLE, Int.reduceEq, Int.reduceToNat, Int.reduceAdd, Int.reduceNeg, Int.reduceBEq, Int.reduceBNe, Nat.reduceBEq, reduceIte, reduceCtorEq, law_r3]
  refine wp_loop (α := Nat) (fun i => lawF ws n p w e i) (fun _ => .nil) (fun i => i ≤ ws.length ∧ ∀ j x, j < i → ws[j]? = some x → x.length ≤ 20) (fun i => ws.length - i) 0 ⟨by omega, fun j x hj => by omega⟩ ?_ PH.nil_le ?_
  · unfold lawF
    (repeat' (first | exact PF.nil_le | refine PF.set_le ?_ ?_)) <;> first | (simp -implicitDefEqProofs only [go_sem, Nat.reduceEqDiff, Nat.reduceAdd, Nat.reduceSub, Nat.reduceMul, Nat.reduceLT, Nat.reduceLeDiff, Int.reduceLT, Int.reduceLE, Int.reduceEq, Int.reduceToNat, Int.reduceAdd, Int.reduceNeg, Int.reduceBEq, Int.reduceBNe, Nat.reduceBEq, reduceIte, reduceCtorEq]; done) | (simp -implicitDefEqProofs only [go_sem, Nat.reduceEqDiff, Nat.reduceAdd, Nat.reduceSub, Nat.reduceMul, Nat.reduceLT, Nat.reduceLeDiff, Int.reduceLT, Int.reduceLE, Int.reduceEq, Int.reduceToNat, Int.reduceAdd, Int.reduceNeg, Int.reduceBEq, Int.reduceBNe, Nat.reduceBEq, reduceIte, reduceCtorEq]; rfl) | rfl
  rintro i ⟨hi, hall⟩
  simp -implicitDefEqProofs only [go_sem, Nat.reduceEqDiff, Nat.reduceAdd, Nat.reduceSub, Nat.reduceMul, Nat.reduceLT, Nat.reduceLeDiff, Int.reduceLT, Int.reduceLE, Int.reduceEq, Int.reduceToNat, Int.reduceAdd, Int.reduceNeg, Int.reduceBEq, Int.reduceBNe, Nat.reduceBEq, reduceIte, reduceCtorEq, law_l8, law_r4, lawF]
  refine condP_of (fun h2 => ?_) (fun h2 => ?_)
  · have hlt : i < ws.length := by simpa using h2
    have hxi : (ws.map fun w => [ints w])[i]? = some [ints ws[i]] := by simp [hlt]
    simp -implicitDefEqProofs only [go_sem, Nat.reduceEqDiff, Nat.reduceAdd, Nat.reduceSub, Nat.reduceMul, Nat.reduceLT, Nat.reduceLeDiff, Int.reduceLT, Int.reduceLE, Int.reduceEq, Int.reduceToNat, Int.reduceAdd, Int.reduceNeg, Int.reduceBEq, Int.reduceBNe, Nat.reduceBEq, reduceIte, reduceCtorEq, law_r5, hxi]
    refine condP_of (fun h3 => ?_) (fun h3 => ?_)
    · simp -implicitDefEqProofs only [go_sem, Nat.reduceEqDiff, Nat.reduceAdd, Nat.reduceSub, Nat.reduceMul, Nat.reduceLT, Nat.reduceLeDiff, Int.reduceLT, Int.reduceLE, Int.reduceEq, Int.reduceToNat, Int.reduceAdd, Int.reduceNeg, Int.reduceBEq, Int.reduceBNe, Nat.reduceBEq, reduceIte, reduceCtorEq, law_r6]
      refine wpCall_pure0 hawake (by first | (simp -implicitDefEqProofs only [go_sem, Nat.reduceEqDiff, Nat.reduceAdd, Nat.reduceSub, Nat.reduceMul, Nat.reduceLT, Nat.reduceLeDiff, Int.reduceLT, Int.reduceLE, Int.reduceEq, Int.reduceToNat, Int.reduceAdd, Int.reduceNeg, Int.reduceBEq, Int.reduceBNe, Nat.reduceBEq, reduceIte, reduceCtorEq]; done) | (simp -implicitDefEqProofs only [go_sem, Nat.reduceEqDiff, Nat.reduceAdd, Nat.reduceSub, Nat.reduceMul, Nat.reduceLT, Nat.reduceLeDiff, Int.reduceLT, Int.reduceLE, Int.reduceEq, Int.reduceToNat, Int.reduceAdd, Int.reduceNeg, Int.reduceBEq, Int.reduceBNe, Nat.reduceBEq, reduceIte, reduceCtorEq]; rfl)) ?_
      simp -implicitDefEqProofs only [go_sem, Nat.reduceEqDiff, Nat.reduceAdd, Nat.reduceSub, Nat.reduceMul, Nat.reduceLT, Nat.reduceLeDiff, Int.reduceLT, Int.reduceLE, Int.reduceEq, Int.reduceToNat, Int.reduceAdd, Int.reduceNeg, Int.reduceBEq, Int.reduceBNe, Nat.reduceBEq, reduceIte, reduceCtorEq]
      refine retK_pure (.inr rfl) (by first | (simp -implicitDefEqProofs only [go_sem, Nat.reduceEqDiff, Nat.reduceAdd, Nat.reduceSub, Nat.reduceMul, Nat.reduceLT, Nat.reduceLeDiff, Int.reduceLT, Int.reduceLE, Int.reduceEq, Int.reduceToNat, Int.reduceAdd, Int.reduceNeg, Int.reduceBEq, Int.reduceBNe, Nat.reduceBEq, reduceIte, reduceCtorEq]; done) | (simp -implicitDefEqProofs only [go_sem, Nat.reduceEqDiff, Nat.reduceAdd, Nat.reduceSub, Nat.reduceMul, Nat.reduceLT, Nat.reduceLeDiff, Int.reduceLT, Int.reduceLE, Int.reduceEq, Int.reduceToNat, Int.reduceAdd, Int.reduceNeg, Int.reduceBEq, Int.reduceBNe, Nat.reduceBEq, reduceIte, reduceCtorEq]; rfl)) ?_
      rfl
    · simp -implicitDefEqProofs only [go_sem, Nat.reduceEqDiff, Nat.reduceAdd, Nat.reduceSub, Nat.reduceMul, Nat.reduceLT, Nat.reduceLeDiff, Int.reduceLT, Int.reduceLE, Int.reduceEq, Int.reduceToNat, Int.reduceAdd, Int.reduceNeg, Int.reduceBEq, Int.reduceBNe, Nat.reduceBEq, reduceIte, reduceCtorEq, law_r7, wrap_succ (show i < 9223372036854775807 by omega)]
      refine loopK_normal (i + 1) ⟨by omega, fun j x hj hx => ?_⟩ (by omega) ?_ PH.nil_le
      · rcases Nat.lt_or_ge j i with h | h
        · exact hall j x h hx
        · have : j = i := by omega
          subst this
          rw [List.getElem?_eq_getElem hlt] at hx
          cases hx
          simp at h3; omega
      · (repeat' (first | exact PF.nil_le | refine PF.set_le ?_ ?_)) <;> first | (simp -implicitDefEqProofs only [go_sem, Nat.reduceEqDiff, Nat.reduceAdd, Nat.reduceSub, Nat.reduceMul, Nat.reduceLT, Nat.reduceLeDiff, Int.reduceLT, Int.reduceLE, Int.reduceEq, Int.reduceToNat, Int.reduceAdd, Int.reduceNeg, Int.reduceBEq, Int.reduceBNe, Nat.reduceBEq, reduceIte, reduceCtorEq]; done) | (simp -implicitDefEqProofs only [go_sem, Nat.reduceEqDiff, Nat.reduceAdd, Nat.reduceSub, Nat.reduceMul, Nat.reduceLT, Nat.reduceLeDiff, Int.reduceLT, Int.reduceLE, Int.reduceEq, Int.reduceToNat, Int.reduceAdd, Int.reduceNeg, Int.reduceBEq, Int.reduceBNe, Nat.reduceBEq, reduceIte, reduceCtorEq]; rfl) | rfl
  have he : i = ws.length := by simp at h2; omega
  subst he
  have hall' : ∀ x ∈ ws, x.length ≤ 20 := fun x hx => by
    obtain ⟨j, hj, rfl⟩ := List.getElem_of_mem hx
    exact hall j _ hj (List.getElem?_eq_getElem hj)
  have hfl := flat_bound ws hall'
  simp -implicitDefEqProofs only [go_sem, Nat.reduceEqDiff, Nat.reduceAdd, Nat.reduceSub, Nat.reduceMul, Nat.reduceLT, Nat.reduceLeDiff, Int.reduceLT, Int.reduceLE, Int.reduceEq, Int.reduceToNat, Int.reduceAdd, Int.reduceNeg, Int.reduceBEq, Int.reduceBNe, Nat.reduceBEq, reduceIte, reduceCtorEq, law_r9]
  refine wpCall_pure0 (L.within n 5 ink5) (by first | (simp -implicitDefEqProofs only [go_sem, Nat.reduceEqDiff, Nat.reduceAdd, Nat.reduceSub, Nat.reduceMul, Nat.reduceLT, Nat.reduceLeDiff, Int.reduceLT, Int.reduceLE, Int.reduceEq, Int.reduceToNat, Int.reduceAdd, Int.reduceNeg, Int.reduceBEq, Int.reduceBNe, Nat.reduceBEq, reduceIte, reduceCtorEq]; done) | (simp -implicitDefEqProofs only [go_sem, Nat.reduceEqDiff, Nat.reduceAdd, Nat.reduceSub, Nat.reduceMul, Nat.reduceLT, Nat.reduceLeDiff, Int.reduceLT, Int.reduceLE, Int.reduceEq, Int.reduceToNat, Int.reduceAdd, Int.reduceNeg, Int.reduceBEq, Int.reduceBNe, Nat.reduceBEq, reduceIte, reduceCtorEq]; rfl)) ?_
  simp -implicitDefEqProofs only [go_sem, Nat.reduceEqDiff, Nat.reduceAdd, Nat.reduceSub, Nat.reduceMul, Nat.reduceLT, Nat.reduceLeDiff, Int.reduceLT, Int.reduceLE, Int.reduceEq, Int.reduceToNat, Int.reduceAdd, Int.reduceNeg, Int.reduceBEq, Int.reduceBNe, Nat.reduceBEq, reduceIte, reduceCtorEq]
  refine wp_draw .nil roS PH.nil_le ?_
  simp -implicitDefEqProofs only [go_sem, Nat.reduceEqDiff, Nat.reduceAdd, Nat.reduceSub, Nat.reduceMul, Nat.reduceLT, Nat.reduceLeDiff, Int.reduceLT, Int.reduceLE, Int.reduceEq, Int.reduceToNat, Int.reduceAdd, Int.reduceNeg, Int.reduceBEq, Int.reduceBNe, Nat.reduceBEq, reduceIte, reduceCtorEq, law_r10]
  refine dOp_pure rfl (L.within p 5 ink5) (by first | (simp -implicitDefEqProofs only [go_sem, Nat.reduceEqDiff, Nat.reduceAdd, Nat.reduceSub, Nat.reduceMul, Nat.reduceLT, Nat.reduceLeDiff, Int.reduceLT, Int.reduceLE, Int.reduceEq, Int.reduceToNat, Int.reduceAdd, Int.reduceNeg, Int.reduceBEq, Int.reduceBNe, Nat.reduceBEq, reduceIte, reduceCtorEq]; done) | (simp -implicitDefEqProofs only [go_sem, Nat.reduceEqDiff, Nat.reduceAdd, Nat.reduceSub, Nat.reduceMul, Nat.reduceLT, Nat.reduceLeDiff, Int.reduceLT, Int.reduceLE, Int.reduceEq, Int.reduceToNat, Int.reduceAdd, Int.reduceNeg, Int.reduceBEq, Int.reduceBNe, Nat.reduceBEq, reduceIte, reduceCtorEq]; rfl)) PH.nil_le ?_
  simp -implicitDefEqProofs only [go_sem, Nat.reduceEqDiff, Nat.reduceAdd, Nat.reduceSub, Nat.reduceMul, Nat.reduceLT, Nat.reduceLeDiff, Int.reduceLT, Int.reduceLE, Int.reduceEq, Int.reduceToNat, Int.reduceAdd, Int.reduceNeg, Int.reduceBEq, Int.reduceBNe, Nat.reduceBEq, reduceIte, reduceCtorEq]
  refine dOp_pure rfl (L.within w 5 ink5) (by first | (simp -implicitDefEqProofs only [go_sem, Nat.reduceEqDiff, Nat.reduceAdd, Nat.reduceSub, Nat.reduceMul, Nat.reduceLT, Nat.reduceLeDiff, Int.reduceLT, Int.reduceLE, Int.reduceEq, Int.reduceToNat, Int.reduceAdd, Int.reduceNeg, Int.reduceBEq, Int.reduceBNe, Nat.reduceBEq, reduceIte, reduceCtorEq]; done) | (simp -implicitDefEqProofs only [go_sem, Nat.reduceEqDiff, Nat.reduceAdd, Nat.reduceSub, Nat.reduceMul, Nat.reduceLT, Nat.reduceLeDiff, Int.reduceLT, Int.reduceLE, Int.reduceEq, Int.reduceToNat, Int.reduceAdd, Int.reduceNeg, Int.reduceBEq, Int.reduceBNe, Nat.reduceBEq, reduceIte, reduceCtorEq]; rfl)) PH.nil_le ?_
  simp -implicitDefEqProofs only [go_sem, Nat.reduceEqDiff, Nat.reduceAdd, Nat.reduceSub, Nat.reduceMul, Nat.reduceLT, Nat.reduceLeDiff, Int.reduceLT, Int.reduceLE, Int.reduceEq, Int.reduceToNat, Int.reduceAdd, Int.reduceNeg, Int.reduceBEq, Int.reduceBNe, Nat.reduceBEq, reduceIte, reduceCtorEq]
  refine wpNew_some fun o11 k11 => ?_
  simp -implicitDefEqProofs only [go_sem, Nat.reduceEqDiff, Nat.reduceAdd, Nat.reduceSub, Nat.reduceMul, Nat.reduceLT, Nat.reduceLeDiff, Int.reduceLT, Int.reduceLE, Int.reduceEq, Int.reduceToNat, Int.reduceAdd, Int.reduceNeg, Int.reduceBEq, Int.reduceBNe, Nat.reduceBEq, reduceIte, reduceCtorEq]
  refine ⟨PH.nil_le, ?_⟩
  generalize IntKind.i64.wrap (1 + wi p 5) = p5
  generalize wi w 5 = w5
  generalize wi n 5 = m5
  simp -implicitDefEqProofs only [go_sem, Nat.reduceEqDiff, Nat.reduceAdd, Nat.reduceSub, Nat.reduceMul, Nat.reduceLT, Nat.reduceLeDiff, Int.reduceLT, Int.reduceLE, Int.reduceEq, Int.reduceToNat, Int.reduceAdd, Int.reduceNeg, Int.reduceBEq, Int.reduceBNe, Nat.reduceBEq, reduceIte, reduceCtorEq, law_r11]
  have s1 := L.step n p w e
  have s2 := L.rstep n p w e
  rcases ha : stepF n p w e with ⟨⟨a1, a2⟩, a3⟩
  rw [ha] at s1 s2
  simp only [stepV, stV] at s1 s2
  refine wpCall_pure0 s1 (by first | (simp -implicitDefEqProofs only [go_sem, Nat.reduceEqDiff, Nat.reduceAdd, Nat.reduceSub, Nat.reduceMul, Nat.reduceLT, Nat.reduceLeDiff, Int.reduceLT, Int.reduceLE, Int.reduceEq, Int.reduceToNat, Int.reduceAdd, Int.reduceNeg, Int.reduceBEq, Int.reduceBNe, Nat.reduceBEq, reduceIte, reduceCtorEq]; done) | (simp -implicitDefEqProofs only [go_sem, Nat.reduceEqDiff, Nat.reduceAdd, Nat.reduceSub, Nat.reduceMul, Nat.reduceLT, Nat.reduceLeDiff, Int.reduceLT, Int.reduceLE, Int.reduceEq, Int.reduceToNat, Int.reduceAdd, Int.reduceNeg, Int.reduceBEq, Int.reduceBNe, Nat.reduceBEq, reduceIte, reduceCtorEq]; rfl)) ?_
  simp -implicitDefEqProofs only [go_sem, Nat.reduceEqDiff, Nat.reduceAdd, Nat.reduceSub, Nat.reduceMul, Nat.reduceLT, Nat.reduceLeDiff, Int.reduceLT, Int.reduceLE, Int.reduceEq, Int.reduceToNat, Int.reduceAdd, Int.reduceNeg, Int.reduceBEq, Int.reduceBNe, Nat.reduceBEq, reduceIte, reduceCtorEq]
  refine wpNew_some fun o12 k12 => ?_
  have n1 : ¬ o12 = o11 := (hset_none.1 k12).1
  have n1' : ¬ o11 = o12 := fun h => n1 h.symm
  simp -implicitDefEqProofs only [go_sem, Nat.reduceEqDiff, Nat.reduceAdd, Nat.reduceSub, Nat.reduceMul, Nat.reduceLT, Nat.reduceLeDiff, Int.reduceLT, Int.reduceLE, Int.reduceEq, Int.reduceToNat, Int.reduceAdd, Int.reduceNeg, Int.reduceBEq, Int.reduceBNe, Nat.reduceBEq, reduceIte, reduceCtorEq, law_r12, n1, n1']
  refine wpCall_pure0 s2 (by first | (simp -implicitDefEqProofs only [go_sem, Nat.reduceEqDiff, Nat.reduceAdd, Nat.reduceSub, Nat.reduceMul, Nat.reduceLT, Nat.reduceLeDiff, Int.reduceLT, Int.reduceLE, Int.reduceEq, Int.reduceToNat, Int.reduceAdd, Int.reduceNeg, Int.reduceBEq, Int.reduceBNe, Nat.reduceBEq, reduceIte, reduceCtorEq]; done) | (simp -implicitDefEqProofs only [go_sem, Nat.reduceEqDiff, Nat.reduceAdd, Nat.reduceSub, Nat.reduceMul, Nat.reduceLT, Nat.reduceLeDiff, Int.reduceLT, Int.reduceLE, Int.reduceEq, Int.reduceToNat, Int.reduceAdd, Int.reduceNeg, Int.reduceBEq, Int.reduceBNe, Nat.reduceBEq, reduceIte, reduceCtorEq]; rfl)) ?_
  simp -implicitDefEqProofs only [go_sem, Nat.reduceEqDiff, Nat.reduceAdd, Nat.reduceSub, Nat.reduceMul, Nat.reduceLT, Nat.reduceLeDiff, Int.reduceLT, Int.reduceLE, Int.reduceEq, Int.reduceToNat, Int.reduceAdd, Int.reduceNeg, Int.reduceBEq, Int.reduceBNe, Nat.reduceBEq, reduceIte, reduceCtorEq]
  refine wpNew_some fun o14 k14 => ?_
  have n2 : ¬ o14 = o12 := (hset_none.1 k14).1
  have n3 : ¬ o14 = o11 := (hset_none.1 (hset_none.1 k14).2).1
  have n2' : ¬ o12 = o14 := fun h => n2 h.symm
  have n3' : ¬ o11 = o14 := fun h => n3 h.symm
  simp -implicitDefEqProofs only [go_sem, Nat.reduceEqDiff, Nat.reduceAdd, Nat.reduceSub, Nat.reduceMul, Nat.reduceLT, Nat.reduceLeDiff, Int.reduceLT, Int.reduceLE, Int.reduceEq, Int.reduceToNat, Int.reduceAdd, Int.reduceNeg, Int.reduceBEq, Int.reduceBNe, Nat.reduceBEq, reduceIte, reduceCtorEq, n1, n1', n2, n2', n3, n3']
  refine wp_draw _ roS PH.le_refl ?_
  simp -implicitDefEqProofs only [go_sem, Nat.reduceEqDiff, Nat.reduceAdd, Nat.reduceSub, Nat.reduceMul, Nat.reduceLT, Nat.reduceLeDiff, Int.reduceLT, Int.reduceLE, Int.reduceEq, Int.reduceToNat, Int.reduceAdd, Int.reduceNeg, Int.reduceBEq, Int.reduceBNe, Nat.reduceBEq, reduceIte, reduceCtorEq, law_r13, n1, n1', n2, n2', n3, n3']
  refine dOp_pure rfl (L.within e 4 ink4) (by first | (simp -implicitDefEqProofs only [go_sem, Nat.reduceEqDiff, Nat.reduceAdd, Nat.reduceSub, Nat.reduceMul, Nat.reduceLT, Nat.reduceLeDiff, Int.reduceLT, Int.reduceLE, Int.reduceEq, Int.reduceToNat, Int.reduceAdd, Int.reduceNeg, Int.reduceBEq, Int.reduceBNe, Nat.reduceBEq, reduceIte, reduceCtorEq]; done) | (simp -implicitDefEqProofs only [go_sem, Nat.reduceEqDiff, Nat.reduceAdd, Nat.reduceSub, Nat.reduceMul, Nat.reduceLT, Nat.reduceLeDiff, Int.reduceLT, Int.reduceLE, Int.reduceEq, Int.reduceToNat, Int.reduceAdd, Int.reduceNeg, Int.reduceBEq, Int.reduceBNe, Nat.reduceBEq, reduceIte, reduceCtorEq]; rfl)) PH.le_refl ?_
  simp -implicitDefEqProofs only [go_sem, Nat.reduceEqDiff, Nat.reduceAdd, Nat.reduceSub, Nat.reduceMul, Nat.reduceLT, Nat.reduceLeDiff, Int.reduceLT, Int.reduceLE, Int.reduceEq, Int.reduceToNat, Int.reduceAdd, Int.reduceNeg, Int.reduceBEq, Int.reduceBNe, Nat.reduceBEq, reduceIte, reduceCtorEq]
  generalize he4 : IntKind.i64.wrap (1 + wi e 4) = e4
  have t1 := L.step m5 p5 w5 e4
  have t2 := L.rstep m5 p5 w5 e4
  have u1 : roS 145 [.int .i64 m5, .agg [.int .i64 p5, .int .i64 w5], .int .i64 e4] = some ([], fun _ => Gives (stepV (stepF m5 p5 w5 e4))) := rfl
  have u2 : roS 92 [.int .i64 m5, .agg [.int .i64 p5, .int .i64 w5], .int .i64 e4] = some ([], fun _ => Gives (stepV (stepF m5 p5 w5 e4))) := rfl
  rcases hb : stepF m5 p5 w5 e4 with ⟨⟨b1, b2⟩, b3⟩
  rw [hb] at t1 t2 u1 u2
  simp only [stepV, stV] at t1 t2 u1 u2
  refine dOp_pure u1 t1 (by first | (simp -implicitDefEqProofs only [go_sem, Nat.reduceEqDiff, Nat.reduceAdd, Nat.reduceSub, Nat.reduceMul, Nat.reduceLT, Nat.reduceLeDiff, Int.reduceLT, Int.reduceLE, Int.reduceEq, Int.reduceToNat, Int.reduceAdd, Int.reduceNeg, Int.reduceBEq, Int.reduceBNe, Nat.reduceBEq, reduceIte, reduceCtorEq]; done) | (simp -implicitDefEqProofs only [go_sem, Nat.reduceEqDiff, Nat.reduceAdd, Nat.reduceSub, Nat.reduceMul, Nat.reduceLT, Nat.reduceLeDiff, Int.reduceLT, Int.reduceLE, Int.reduceEq, Int.reduceToNat, Int.reduceAdd, Int.reduceNeg, Int.reduceBEq, Int.reduceBNe, Nat.reduceBEq, reduceIte, reduceCtorEq]; rfl)) PH.le_refl ?_
  simp -implicitDefEqProofs only [go_sem, Nat.reduceEqDiff, Nat.reduceAdd, Nat.reduceSub, Nat.reduceMul, Nat.reduceLT, Nat.reduceLeDiff, Int.reduceLT, Int.reduceLE, Int.reduceEq, Int.reduceToNat, Int.reduceAdd, Int.reduceNeg, Int.reduceBEq, Int.reduceBNe, Nat.reduceBEq, reduceIte, reduceCtorEq]
  refine wpNew_some fun o16 k16 => ?_
  have n4 : ¬ o16 = o14 := (hset_none.1 k16).1
  have n5 : ¬ o16 = o12 := (hset_none.1 (hset_none.1 k16).2).1
  have n6 : ¬ o16 = o11 := (hset_none.1 (hset_none.1 (hset_none.1 k16).2).2).1
  have n4' : ¬ o14 = o16 := fun h => n4 h.symm
  have n5' : ¬ o12 = o16 := fun h => n5 h.symm
  have n6' : ¬ o11 = o16 := fun h => n6 h.symm
  simp -implicitDefEqProofs only [go_sem, Nat.reduceEqDiff, Nat.reduceAdd, Nat.reduceSub, Nat.reduceMul, Nat.reduceLT, Nat.reduceLeDiff, Int.reduceLT, Int.reduceLE, Int.reduceEq, Int.reduceToNat, Int.reduceAdd, Int.reduceNeg, Int.reduceBEq, Int.reduceBNe, Nat.reduceBEq, reduceIte, reduceCtorEq]
  refine ⟨PH.le_set _ k16, ?_⟩
  refine wp_draw _ roS PH.le_refl ?_
  simp -implicitDefEqProofs only [go_sem, Nat.reduceEqDiff, Nat.reduceAdd, Nat.reduceSub, Nat.reduceMul, Nat.reduceLT, Nat.reduceLeDiff, Int.reduceLT, Int.reduceLE, Int.reduceEq, Int.reduceToNat, Int.reduceAdd, Int.reduceNeg, Int.reduceBEq, Int.reduceBNe, Nat.reduceBEq, reduceIte, reduceCtorEq, law_r14, n1, n1', n2, n2', n3, n3', n4, n4', n5, n5', n6, n6']
  refine dOp_pure rfl (L.within e 4 ink4) (by first | (simp -implicitDefEqProofs only [go_sem, Nat.reduceEqDiff, Nat.reduceAdd, Nat.reduceSub, Nat.reduceMul, Nat.reduceLT, Nat.reduceLeDiff, Int.reduceLT, Int.reduceLE, Int.reduceEq, Int.reduceToNat, Int.reduceAdd, Int.reduceNeg, Int.reduceBEq, Int.reduceBNe, Nat.reduceBEq, reduceIte, reduceCtorEq]; done) | (simp -implicitDefEqProofs only [go_sem, Nat.reduceEqDiff, Nat.reduceAdd, Nat.reduceSub, Nat.reduceMul, Nat.reduceLT, Nat.reduceLeDiff, Int.reduceLT, Int.reduceLE, Int.reduceEq, Int.reduceToNat, Int.reduceAdd, Int.reduceNeg, Int.reduceBEq, Int.reduceBNe, Nat.reduceBEq, reduceIte, reduceCtorEq]; rfl)) PH.le_refl ?_
  simp -implicitDefEqProofs only [go_sem, Nat.reduceEqDiff, Nat.reduceAdd, Nat.reduceSub, Nat.reduceMul, Nat.reduceLT, Nat.reduceLeDiff, Int.reduceLT, Int.reduceLE, Int.reduceEq, Int.reduceToNat, Int.reduceAdd, Int.reduceNeg, Int.reduceBEq, Int.reduceBNe, Nat.reduceBEq, reduceIte, reduceCtorEq, he4, n1, n1', n2, n2', n3, n3', n4, n4', n5, n5', n6, n6']
  refine dOp_pure u2 t2 (by first | (simp -implicitDefEqProofs only [go_sem, Nat.reduceEqDiff, Nat.reduceAdd, Nat.reduceSub, Nat.reduceMul, Nat.reduceLT, Nat.reduceLeDiff, Int.reduceLT, Int.reduceLE, Int.reduceEq, Int.reduceToNat, Int.reduceAdd, Int.reduceNeg, Int.reduceBEq, Int.reduceBNe, Nat.reduceBEq, reduceIte, reduceCtorEq]; done) | (simp -implicitDefEqProofs only [go_sem, Nat.reduceEqDiff, Nat.reduceAdd, Nat.reduceSub, Nat.reduceMul, Nat.reduceLT, Nat.reduceLeDiff, Int.reduceLT, Int.reduceLE, Int.reduceEq, Int.reduceToNat, Int.reduceAdd, Int.reduceNeg, Int.reduceBEq, Int.reduceBNe, Nat.reduceBEq, reduceIte, reduceCtorEq]; rfl)) PH.le_refl ?_
  simp -implicitDefEqProofs only [go_sem, Nat.reduceEqDiff, Nat.reduceAdd, Nat.reduceSub, Nat.reduceMul, Nat.reduceLT, Nat.reduceLeDiff, Int.reduceLT, Int.reduceLE, Int.reduceEq, Int.reduceToNat, Int.reduceAdd, Int.reduceNeg, Int.reduceBEq, Int.reduceBNe, Nat.reduceBEq, reduceIte, reduceCtorEq]
  refine wpNew_some fun o18 k18 => ?_
  have n7 : ¬ o18 = o16 := (hset_none.1 k18).1
  have n8 : ¬ o18 = o14 := (hset_none.1 (hset_none.1 k18).2).1
  have n9 : ¬ o18 = o12 := (hset_none.1 (hset_none.1 (hset_none.1 k18).2).2).1
  have n10 : ¬ o18 = o11 := (hset_none.1 (hset_none.1 (hset_none.1 (hset_none.1 k18).2).2).2).1
  have n7' : ¬ o16 = o18 := fun h => n7 h.symm
  have n8' : ¬ o14 = o18 := fun h => n8 h.symm
  have n9' : ¬ o12 = o18 := fun h => n9 h.symm
  have n10' : ¬ o11 = o18 := fun h => n10 h.symm
  simp -implicitDefEqProofs only [go_sem, Nat.reduceEqDiff, Nat.reduceAdd, Nat.reduceSub, Nat.reduceMul, Nat.reduceLT, Nat.reduceLeDiff, Int.reduceLT, Int.reduceLE, Int.reduceEq, Int.reduceToNat, Int.reduceAdd, Int.reduceNeg, Int.reduceBEq, Int.reduceBNe, Nat.reduceBEq, reduceIte, reduceCtorEq]
  refine ⟨PH.le_set _ k18, ?_⟩
  refine wp_draw _ roS PH.le_refl ?_
  simp -implicitDefEqProofs only [go_sem, Nat.reduceEqDiff, Nat.reduceAdd, Nat.reduceSub, Nat.reduceMul, Nat.reduceLT, Nat.reduceLeDiff, Int.reduceLT, Int.reduceLE, Int.reduceEq, Int.reduceToNat, Int.reduceAdd, Int.reduceNeg, Int.reduceBEq, Int.reduceBNe, Nat.reduceBEq, reduceIte, reduceCtorEq, law_r15]
  refine dOp_pure rfl hawake (by first | (simp -implicitDefEqProofs only [go_sem, Nat.reduceEqDiff, Nat.reduceAdd, Nat.reduceSub, Nat.reduceMul, Nat.reduceLT, Nat.reduceLeDiff, Int.reduceLT, Int.reduceLE, Int.reduceEq, Int.reduceToNat, Int.reduceAdd, Int.reduceNeg, Int.reduceBEq, Int.reduceBNe, Nat.reduceBEq, reduceIte, reduceCtorEq]; done) | (simp -implicitDefEqProofs only [go_sem, Nat.reduceEqDiff, Nat.reduceAdd, Nat.reduceSub, Nat.reduceMul, Nat.reduceLT, Nat.reduceLeDiff, Int.reduceLT, Int.reduceLE, Int.reduceEq, Int.reduceToNat, Int.reduceAdd, Int.reduceNeg, Int.reduceBEq, Int.reduceBNe, Nat.reduceBEq, reduceIte, reduceCtorEq]; rfl)) PH.le_refl ?_
  simp -implicitDefEqProofs only [go_sem, Nat.reduceEqDiff, Nat.reduceAdd, Nat.reduceSub, Nat.reduceMul, Nat.reduceLT, Nat.reduceLeDiff, Int.reduceLT, Int.reduceLE, Int.reduceEq, Int.reduceToNat, Int.reduceAdd, Int.reduceNeg, Int.reduceBEq, Int.reduceBNe, Nat.reduceBEq, reduceIte, reduceCtorEq, n1, n1', n2, n2', n3, n3', n4, n4', n5, n5', n6, n6', n7, n7', n8, n8', n9, n9', n10, n10', int_beq_true]
  have hf400 : ws.flatten.length ≤ 1000000 := by omega
  refine dOp_pure (roS_upd ws p w) (L.upd ws p w (by omega) hf400) (by first | (simp -implicitDefEqProofs only [go_sem, Nat.reduceEqDiff, Nat.reduceAdd, Nat.reduceSub, Nat.reduceMul, Nat.reduceLT, Nat.reduceLeDiff, Int.reduceLT, Int.reduceLE, Int.reduceEq, Int.reduceToNat, Int.reduceAdd, Int.reduceNeg, Int.reduceBEq, Int.reduceBNe, Nat.reduceBEq, reduceIte, reduceCtorEq]; done) | (simp -implicitDefEqProofs only [go_sem, Nat.reduceEqDiff, Nat.reduceAdd, Nat.reduceSub, Nat.reduceMul, Nat.reduceLT, Nat.reduceLeDiff, Int.reduceLT, Int.reduceLE, Int.reduceEq, Int.reduceToNat, Int.reduceAdd, Int.reduceNeg, Int.reduceBEq, Int.reduceBNe, Nat.reduceBEq, reduceIte, reduceCtorEq]; rfl)) PH.le_refl ?_
  simp -implicitDefEqProofs only [go_sem, Nat.reduceEqDiff, Nat.reduceAdd, Nat.reduceSub, Nat.reduceMul, Nat.reduceLT, Nat.reduceLeDiff, Int.reduceLT, Int.reduceLE, Int.reduceEq, Int.reduceToNat, Int.reduceAdd, Int.reduceNeg, Int.reduceBEq, Int.reduceBNe, Nat.reduceBEq, reduceIte, reduceCtorEq, n1, n1', n2, n2', n3, n3', n4, n4', n5, n5', n6, n6', n7, n7', n8, n8', n9, n9', n10, n10']
  refine dOp_pure (roS_rupd ws p w) (L.rupd ws p w (by omega) hf400) (by first | (simp -implicitDefEqProofs only [go_sem, Nat.reduceEqDiff, Nat.reduceAdd, Nat.reduceSub, Nat.reduceMul, Nat.reduceLT, Nat.reduceLeDiff, Int.reduceLT, Int.reduceLE, Int.reduceEq, Int.reduceToNat, Int.reduceAdd, Int.reduceNeg, Int.reduceBEq, Int.reduceBNe, Nat.reduceBEq, reduceIte, reduceCtorEq]; done) | (simp -implicitDefEqProofs only [go_sem, Nat.reduceEqDiff, Nat.reduceAdd, Nat.reduceSub, Nat.reduceMul, Nat.reduceLT, Nat.reduceLeDiff, Int.reduceLT, Int.reduceLE, Int.reduceEq, Int.reduceToNat, Int.reduceAdd, Int.reduceNeg, Int.reduceBEq, Int.reduceBNe, Nat.reduceBEq, reduceIte, reduceCtorEq]; rfl)) PH.le_refl ?_
  simp -implicitDefEqProofs only [go_sem, Nat.reduceEqDiff, Nat.reduceAdd, Nat.reduceSub, Nat.reduceMul, Nat.reduceLT, Nat.reduceLeDiff, Int.reduceLT, Int.reduceLE, Int.reduceEq, Int.reduceToNat, Int.reduceAdd, Int.reduceNeg, Int.reduceBEq, Int.reduceBNe, Nat.reduceBEq, reduceIte, reduceCtorEq]
  have hu1 := flat_updL ws p w (by omega)
  have hu2 := flat_updL ws p5 w5 (by omega)
  refine dOp_pure (roS_same (updL ws p w) (updL ws p w)) (L.same _ _ (by omega)) (by first | (simp -implicitDefEqProofs only [go_sem, Nat.reduceEqDiff, Nat.reduceAdd, Nat.reduceSub, Nat.reduceMul, Nat.reduceLT, Nat.reduceLeDiff, Int.reduceLT, Int.reduceLE, Int.reduceEq, Int.reduceToNat, Int.reduceAdd, Int.reduceNeg, Int.reduceBEq, Int.reduceBNe, Nat.reduceBEq, reduceIte, reduceCtorEq]; done) | (simp -implicitDefEqProofs only [go_sem, Nat.reduceEqDiff, Nat.reduceAdd, Nat.reduceSub, Nat.reduceMul, Nat.reduceLT, Nat.reduceLeDiff, Int.reduceLT, Int.reduceLE, Int.reduceEq, Int.reduceToNat, Int.reduceAdd, Int.reduceNeg, Int.reduceBEq, Int.reduceBNe, Nat.reduceBEq, reduceIte, reduceCtorEq]; rfl)) PH.le_refl ?_
  simp -implicitDefEqProofs only [go_sem, Nat.reduceEqDiff, Nat.reduceAdd, Nat.reduceSub, Nat.reduceMul, Nat.reduceLT, Nat.reduceLeDiff, Int.reduceLT, Int.reduceLE, Int.reduceEq, Int.reduceToNat, Int.reduceAdd, Int.reduceNeg, Int.reduceBEq, Int.reduceBNe, Nat.reduceBEq, reduceIte, reduceCtorEq, show (updL ws p w == updL ws p w) = true by simp, n1, n1', n2, n2', n3, n3', n4, n4', n5, n5', n6, n6', n7, n7', n8, n8', n9, n9', n10, n10']
  refine dOp_pure (roS_upd ws p5 w5) (L.upd ws p5 w5 (by omega) hf400) (by first | (simp -implicitDefEqProofs only [go_sem, Nat.reduceEqDiff, Nat.reduceAdd, Nat.reduceSub, Nat.reduceMul, Nat.reduceLT, Nat.reduceLeDiff, Int.reduceLT, Int.reduceLE, Int.reduceEq, Int.reduceToNat, Int.reduceAdd, Int.reduceNeg, Int.reduceBEq, Int.reduceBNe, Nat.reduceBEq, reduceIte, reduceCtorEq]; done) | (simp -implicitDefEqProofs only [go_sem, Nat.reduceEqDiff, Nat.reduceAdd, Nat.reduceSub, Nat.reduceMul, Nat.reduceLT, Nat.reduceLeDiff, Int.reduceLT, Int.reduceLE, Int.reduceEq, Int.reduceToNat, Int.reduceAdd, Int.reduceNeg, Int.reduceBEq, Int.reduceBNe, Nat.reduceBEq, reduceIte, reduceCtorEq]; rfl)) PH.le_refl ?_
  simp -implicitDefEqProofs only [go_sem, Nat.reduceEqDiff, Nat.reduceAdd, Nat.reduceSub, Nat.reduceMul, Nat.reduceLT, Nat.reduceLeDiff, Int.reduceLT, Int.reduceLE, Int.reduceEq, Int.reduceToNat, Int.reduceAdd, Int.reduceNeg, Int.reduceBEq, Int.reduceBNe, Nat.reduceBEq, reduceIte, reduceCtorEq, n1, n1', n2, n2', n3, n3', n4, n4', n5, n5', n6, n6', n7, n7', n8, n8', n9, n9', n10, n10']
  refine dOp_pure (roS_rupd ws p5 w5) (L.rupd ws p5 w5 (by omega) hf400) (by first | (simp -implicitDefEqProofs only [go_sem, Nat.reduceEqDiff, Nat.reduceAdd, Nat.reduceSub, Nat.reduceMul, Nat.reduceLT, Nat.reduceLeDiff, Int.reduceLT, Int.reduceLE, Int.reduceEq, Int.reduceToNat, Int.reduceAdd, Int.reduceNeg, Int.reduceBEq, Int.reduceBNe, Nat.reduceBEq, reduceIte, reduceCtorEq]; done) | (simp -implicitDefEqProofs only [go_sem, Nat.reduceEqDiff, Nat.reduceAdd, Nat.reduceSub, Nat.reduceMul, Nat.reduceLT, Nat.reduceLeDiff, Int.reduceLT, Int.reduceLE, Int.reduceEq, Int.reduceToNat, Int.reduceAdd, Int.reduceNeg, Int.reduceBEq, Int.reduceBNe, Nat.reduceBEq, reduceIte, reduceCtorEq]; rfl)) PH.le_refl ?_
  simp -implicitDefEqProofs only [go_sem, Nat.reduceEqDiff, Nat.reduceAdd, Nat.reduceSub, Nat.reduceMul, Nat.reduceLT, Nat.reduceLeDiff, Int.reduceLT, Int.reduceLE, Int.reduceEq, Int.reduceToNat, Int.reduceAdd, Int.reduceNeg, Int.reduceBEq, Int.reduceBNe, Nat.reduceBEq, reduceIte, reduceCtorEq]
  refine dOp_pure (roS_same (updL ws p5 w5) (updL ws p5 w5)) (L.same _ _ (by omega)) (by first | (simp -implicitDefEqProofs only [go_sem, Nat.reduceEqDiff, Nat.reduceAdd, Nat.reduceSub, Nat.reduceMul, Nat.reduceLT, Nat.reduceLeDiff, Int.reduceLT, Int.reduceLE, Int.reduceEq, Int.reduceToNat, Int.reduceAdd, Int.reduceNeg, Int.reduceBEq, Int.reduceBNe, Nat.reduceBEq, reduceIte, reduceCtorEq]; done) | (simp -implicitDefEqProofs only [go_sem, Nat.reduceEqDiff, Nat.reduceAdd, Nat.reduceSub, Nat.reduceMul, Nat.reduceLT, Nat.reduceLeDiff, Int.reduceLT, Int.reduceLE, Int.reduceEq, Int.reduceToNat, Int.reduceAdd, Int.reduceNeg, Int.reduceBEq, Int.reduceBNe, Nat.reduceBEq, reduceIte, reduceCtorEq]; rfl)) PH.le_refl ?_
  simp -implicitDefEqProofs only [go_sem, Nat.reduceEqDiff, Nat.reduceAdd, Nat.reduceSub, Nat.reduceMul, Nat.reduceLT, Nat.reduceLeDiff, Int.reduceLT, Int.reduceLE, Int.reduceEq, Int.reduceToNat, Int.reduceAdd, Int.reduceNeg, Int.reduceBEq, Int.reduceBNe, Nat.reduceBEq, reduceIte, reduceCtorEq, show (updL ws p5 w5 == updL ws p5 w5) = true by simp]
  refine retK_pure (.inr rfl) (by first | (simp -implicitDefEqProofs only [go_sem, Nat.reduceEqDiff, Nat.reduceAdd, Nat.reduceSub, Nat.reduceMul, Nat.reduceLT, Nat.reduceLeDiff, Int.reduceLT, Int.reduceLE, Int.reduceEq, Int.reduceToNat, Int.reduceAdd, Int.reduceNeg, Int.reduceBEq, Int.reduceBNe, Nat.reduceBEq, reduceIte, reduceCtorEq]; done) | (simp -implicitDefEqProofs only [go_sem, Nat.reduceEqDiff, Nat.reduceAdd, Nat.reduceSub, Nat.reduceMul, Nat.reduceLT, Nat.reduceLeDiff, Int.reduceLT, Int.reduceLE, Int.reduceEq, Int.reduceToNat, Int.reduceAdd, Int.reduceNeg, Int.reduceBEq, Int.reduceBNe, Nat.reduceBEq, reduceIte, reduceCtorEq]; rfl)) ?_
  rfl
end Go.PM
