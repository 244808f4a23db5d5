/-
  Contracts of the functions of a rollout: the law's own functions. No condition.
-/
import Derived.Test.YtelckcmlobadkaaRoW6
import Derived.Test.YtelckcmlobadkaaRoW2
set_option linter.unusedSimpArgs false
set_option linter.unusedVariables false
namespace Go.PM
open Go

/-- The functions that a rollout's law calls. -/
structure RoLib (C : Ctx) : Prop where
  within : ∀ x n : Int, InK .i64 n → ECalls C 24 [.int .i64 x, .int .i64 n] .nil (Gives (.int .i64 (wi x n)))
  begin : ∀ n : Int, ECalls C 144 [.int .i64 n] .nil (Gives (beginF n))
  step : ∀ n p w e : Int, ECalls C 145 [.int .i64 n, .agg [.int .i64 p, .int .i64 w], .int .i64 e] .nil (Gives (stepV (stepF n p w e)))
  rstep : ∀ n p w e : Int, ECalls C 92 [.int .i64 n, .agg [.int .i64 p, .int .i64 w], .int .i64 e] .nil (Gives (stepV (stepF n p w e)))
  same : ∀ xs ys : List Int, xs.length ≤ 9223372036854775806 → ECalls C 91 [ints xs, ints ys] .nil (Gives (.bool (xs == ys)))
  upd : ∀ (ws : List (List Int)) (p w : Int), ws.length ≤ 1000000 → ws.flatten.length ≤ 1000000 → ECalls C 146 [lists ws, .agg [.int .i64 p, .int .i64 w]] .nil (Gives (ints (updL ws p w)))
  rupd : ∀ (ws : List (List Int)) (p w : Int), ws.length ≤ 1000000 → ws.flatten.length ≤ 1000000 → ECalls C 93 [lists ws, .agg [.int .i64 p, .int .i64 w]] .nil (Gives (ints (updL ws p w)))

theorem awake_ok {C : Ctx} (L : RoLib C) : awake_body.wp C (retK awake.res (Gives (.bool true))) (PF.args []) .nil := by
  simp -implicitDefEqProofs only [go_sem, Nat.reduceEqDiff, Nat.reduceAdd, Nat.reduceSub, Nat.reduceMul, Nat.reduceLT, Nat.reduceLeDiff, Int.reduceLT, Int.reduceLE, Int.reduceEq, Int.reduceToNat, Int.reduceAdd, Int.reduceNeg, Int.reduceBEq, Int.reduceBNe, Nat.reduceBEq, reduceIte, reduceCtorEq, awake_body, awake_r0, awake_r1, awake]
  refine wpCall_pure0 (L.begin 1) (by first | (simp -implicitDefEqProofs only [go_sem, Nat.reduceEqDiff, Nat.reduceAdd, Nat.reduceSub, Nat.reduceMul, Nat.reduceLT, Nat.reduceLeDiff, Int.reduceLT, Int.reduceLE, Int.reduceEq, Int.reduceToNat, Int.reduceAdd, Int.reduceNeg, Int.reduceBEq, Int.reduceBNe, Nat.reduceBEq, reduceIte, reduceCtorEq]; done) | (simp -implicitDefEqProofs only [go_sem, Nat.reduceEqDiff, Nat.reduceAdd, Nat.reduceSub, Nat.reduceMul, Nat.reduceLT, Nat.reduceLeDiff, Int.reduceLT, Int.reduceLE, Int.reduceEq, Int.reduceToNat, Int.reduceAdd, Int.reduceNeg, Int.reduceBEq, Int.reduceBNe, Nat.reduceBEq, reduceIte, reduceCtorEq]; rfl)) ?_
  simp -implicitDefEqProofs only [go_sem, Nat.reduceEqDiff, Nat.reduceAdd, Nat.reduceSub, Nat.reduceMul, Nat.reduceLT, Nat.reduceLeDiff, Int.reduceLT, Int.reduceLE, Int.reduceEq, Int.reduceToNat, Int.reduceAdd, Int.reduceNeg, Int.reduceBEq, Int.reduceBNe, Nat.reduceBEq, reduceIte, reduceCtorEq, beginF]
  refine wpNew_some fun o1 k1 => ?_
  simp -implicitDefEqProofs only [go_sem, Nat.reduceEqDiff, Nat.reduceAdd, Nat.reduceSub, Nat.reduceMul, Nat.reduceLT, Nat.reduceLeDiff, Int.reduceLT, Int.reduceLE, Int.reduceEq, Int.reduceToNat, Int.reduceAdd, Int.reduceNeg, Int.reduceBEq, Int.reduceBNe, Nat.reduceBEq, reduceIte, reduceCtorEq, awake_r2]
  refine wpCall_pure0 (L.step 1 1 0 1) (by first | (simp -implicitDefEqProofs only [go_sem, Nat.reduceEqDiff, Nat.reduceAdd, Nat.reduceSub, Nat.reduceMul, Nat.reduceLT, Nat.reduceLeDiff, Int.reduceLT, Int.reduceLE, Int.reduceEq, Int.reduceToNat, Int.reduceAdd, Int.reduceNeg, Int.reduceBEq, Int.reduceBNe, Nat.reduceBEq, reduceIte, reduceCtorEq]; done) | (simp -implicitDefEqProofs only [go_sem, Nat.reduceEqDiff, Nat.reduceAdd, Nat.reduceSub, Nat.reduceMul, Nat.reduceLT, Nat.reduceLeDiff, Int.reduceLT, Int.reduceLE, Int.reduceEq, Int.reduceToNat, Int.reduceAdd, Int.reduceNeg, Int.reduceBEq, Int.reduceBNe, Nat.reduceBEq, reduceIte, reduceCtorEq]; rfl)) ?_
  rw [show stepF 1 1 0 1 = ((2, 0), 0) by decide]
  simp -implicitDefEqProofs only [go_sem, Nat.reduceEqDiff, Nat.reduceAdd, Nat.reduceSub, Nat.reduceMul, Nat.reduceLT, Nat.reduceLeDiff, Int.reduceLT, Int.reduceLE, Int.reduceEq, Int.reduceToNat, Int.reduceAdd, Int.reduceNeg, Int.reduceBEq, Int.reduceBNe, Nat.reduceBEq, reduceIte, reduceCtorEq, stepV, stV]
  refine wpNew_some fun o2 k2 => ?_
  have n21 : ¬ o2 = o1 := (hset_none.1 k2).1
  have n12 : ¬ o1 = o2 := fun h => n21 h.symm
  simp -implicitDefEqProofs only [go_sem, Nat.reduceEqDiff, Nat.reduceAdd, Nat.reduceSub, Nat.reduceMul, Nat.reduceLT, Nat.reduceLeDiff, Int.reduceLT, Int.reduceLE, Int.reduceEq, Int.reduceToNat, Int.reduceAdd, Int.reduceNeg, Int.reduceBEq, Int.reduceBNe, Nat.reduceBEq, reduceIte, reduceCtorEq, awake_r3, n21, n12]
  refine wpCall_pure0 (L.step 1 2 0 2) (by first | (simp -implicitDefEqProofs only [go_sem, Nat.reduceEqDiff, Nat.reduceAdd, Nat.reduceSub, Nat.reduceMul, Nat.reduceLT, Nat.reduceLeDiff, Int.reduceLT, Int.reduceLE, Int.reduceEq, Int.reduceToNat, Int.reduceAdd, Int.reduceNeg, Int.reduceBEq, Int.reduceBNe, Nat.reduceBEq, reduceIte, reduceCtorEq]; done) | (simp -implicitDefEqProofs only [go_sem, Nat.reduceEqDiff, Nat.reduceAdd, Nat.reduceSub, Nat.reduceMul, Nat.reduceLT, Nat.reduceLeDiff, Int.reduceLT, Int.reduceLE, Int.reduceEq, Int.reduceToNat, Int.reduceAdd, Int.reduceNeg, Int.reduceBEq, Int.reduceBNe, Nat.reduceBEq, reduceIte, reduceCtorEq]; rfl)) ?_
  rw [show stepF 1 2 0 2 = ((3, 0), 0) by decide]
  simp -implicitDefEqProofs only [go_sem, Nat.reduceEqDiff, Nat.reduceAdd, Nat.reduceSub, Nat.reduceMul, Nat.reduceLT, Nat.reduceLeDiff, Int.reduceLT, Int.reduceLE, Int.reduceEq, Int.reduceToNat, Int.reduceAdd, Int.reduceNeg, Int.reduceBEq, Int.reduceBNe, Nat.reduceBEq, reduceIte, reduceCtorEq, stepV, stV, n21, n12]
  refine wpNew_some fun o4 k4 => ?_
  have n42 : ¬ o4 = o2 := (hset_none.1 k4).1
  have n41 : ¬ o4 = o1 := (hset_none.1 (hset_none.1 k4).2).1
  have n24 : ¬ o2 = o4 := fun h => n42 h.symm
  have n14 : ¬ o1 = o4 := fun h => n41 h.symm
  simp -implicitDefEqProofs only [go_sem, Nat.reduceEqDiff, Nat.reduceAdd, Nat.reduceSub, Nat.reduceMul, Nat.reduceLT, Nat.reduceLeDiff, Int.reduceLT, Int.reduceLE, Int.reduceEq, Int.reduceToNat, Int.reduceAdd, Int.reduceNeg, Int.reduceBEq, Int.reduceBNe, Nat.reduceBEq, reduceIte, reduceCtorEq, awake_r4, n21, n12, n42, n41, n24, n14]
  refine wpCall_pure0 (L.step 1 3 0 3) (by first | (simp -implicitDefEqProofs only [go_sem, Nat.reduceEqDiff, Nat.reduceAdd, Nat.reduceSub, Nat.reduceMul, Nat.reduceLT, Nat.reduceLeDiff, Int.reduceLT, Int.reduceLE, Int.reduceEq, Int.reduceToNat, Int.reduceAdd, Int.reduceNeg, Int.reduceBEq, Int.reduceBNe, Nat.reduceBEq, reduceIte, reduceCtorEq]; done) | (simp -implicitDefEqProofs only [go_sem, Nat.reduceEqDiff, Nat.reduceAdd, Nat.reduceSub, Nat.reduceMul, Nat.reduceLT, Nat.reduceLeDiff, Int.reduceLT, Int.reduceLE, Int.reduceEq, Int.reduceToNat, Int.reduceAdd, Int.reduceNeg, Int.reduceBEq, Int.reduceBNe, Nat.reduceBEq, reduceIte, reduceCtorEq]; rfl)) ?_
  rw [show stepF 1 3 0 3 = ((4, 0), 0) by decide]
  simp -implicitDefEqProofs only [go_sem, Nat.reduceEqDiff, Nat.reduceAdd, Nat.reduceSub, Nat.reduceMul, Nat.reduceLT, Nat.reduceLeDiff, Int.reduceLT, Int.reduceLE, Int.reduceEq, Int.reduceToNat, Int.reduceAdd, Int.reduceNeg, Int.reduceBEq, Int.reduceBNe, Nat.reduceBEq, reduceIte, reduceCtorEq, stepV, stV, n21, n12, n42, n41, n24, n14]
  refine wpNew_some fun o6 k6 => ?_
  have n64 : ¬ o6 = o4 := (hset_none.1 k6).1
  have n62 : ¬ o6 = o2 := (hset_none.1 (hset_none.1 k6).2).1
  have n61 : ¬ o6 = o1 := (hset_none.1 (hset_none.1 (hset_none.1 k6).2).2).1
  have n46 : ¬ o4 = o6 := fun h => n64 h.symm
  have n26 : ¬ o2 = o6 := fun h => n62 h.symm
  have n16 : ¬ o1 = o6 := fun h => n61 h.symm
  simp -implicitDefEqProofs only [go_sem, Nat.reduceEqDiff, Nat.reduceAdd, Nat.reduceSub, Nat.reduceMul, Nat.reduceLT, Nat.reduceLeDiff, Int.reduceLT, Int.reduceLE, Int.reduceEq, Int.reduceToNat, Int.reduceAdd, Int.reduceNeg, Int.reduceBEq, Int.reduceBNe, Nat.reduceBEq, reduceIte, reduceCtorEq, awake_r5, n21, n12, n42, n41, n24, n14, n64, n62, n61, n46, n26, n16]
  refine wpCall_pure0 (L.step 1 4 0 1) (by first | (simp -implicitDefEqProofs only [go_sem, Nat.reduceEqDiff, Nat.reduceAdd, Nat.reduceSub, Nat.reduceMul, Nat.reduceLT, Nat.reduceLeDiff, Int.reduceLT, Int.reduceLE, Int.reduceEq, Int.reduceToNat, Int.reduceAdd, Int.reduceNeg, Int.reduceBEq, Int.reduceBNe, Nat.reduceBEq, reduceIte, reduceCtorEq]; done) | (simp -implicitDefEqProofs only [go_sem, Nat.reduceEqDiff, Nat.reduceAdd, Nat.reduceSub, Nat.reduceMul, Nat.reduceLT, Nat.reduceLeDiff, Int.reduceLT, Int.reduceLE, Int.reduceEq, Int.reduceToNat, Int.reduceAdd, Int.reduceNeg, Int.reduceBEq, Int.reduceBNe, Nat.reduceBEq, reduceIte, reduceCtorEq]; rfl)) ?_
  rw [show stepF 1 4 0 1 = ((0, 0), 110) by decide]
  simp -implicitDefEqProofs only [go_sem, Nat.reduceEqDiff, Nat.reduceAdd, Nat.reduceSub, Nat.reduceMul, Nat.reduceLT, Nat.reduceLeDiff, Int.reduceLT, Int.reduceLE, Int.reduceEq, Int.reduceToNat, Int.reduceAdd, Int.reduceNeg, Int.reduceBEq, Int.reduceBNe, Nat.reduceBEq, reduceIte, reduceCtorEq, stepV, stV]
  refine wpNew_some fun o8 k8 => ?_
  have n86 : ¬ o8 = o6 := (hset_none.1 k8).1
  have n81 : ¬ o8 = o1 := (hset_none.1 (hset_none.1 (hset_none.1 (hset_none.1 k8).2).2).2).1
  have n68 : ¬ o6 = o8 := fun h => n86 h.symm
  have n18 : ¬ o1 = o8 := fun h => n81 h.symm
  simp -implicitDefEqProofs only [go_sem, Nat.reduceEqDiff, Nat.reduceAdd, Nat.reduceSub, Nat.reduceMul, Nat.reduceLT, Nat.reduceLeDiff, Int.reduceLT, Int.reduceLE, Int.reduceEq, Int.reduceToNat, Int.reduceAdd, Int.reduceNeg, Int.reduceBEq, Int.reduceBNe, Nat.reduceBEq, reduceIte, reduceCtorEq, awake_r6, n21, n12, n42, n41, n24, n14, n64, n62, n61, n46, n26, n16, n86, n81, n68, n18]
  refine wpCall_pure0 (L.upd [[2, 1]] 4 0 (by decide) (by decide)) (by first | (simp -implicitDefEqProofs only [go_sem, Nat.reduceEqDiff, Nat.reduceAdd, Nat.reduceSub, Nat.reduceMul, Nat.reduceLT, Nat.reduceLeDiff, Int.reduceLT, Int.reduceLE, Int.reduceEq, Int.reduceToNat, Int.reduceAdd, Int.reduceNeg, Int.reduceBEq, Int.reduceBNe, Nat.reduceBEq, reduceIte, reduceCtorEq]; done) | (simp -implicitDefEqProofs only [go_sem, Nat.reduceEqDiff, Nat.reduceAdd, Nat.reduceSub, Nat.reduceMul, Nat.reduceLT, Nat.reduceLeDiff, Int.reduceLT, Int.reduceLE, Int.reduceEq, Int.reduceToNat, Int.reduceAdd, Int.reduceNeg, Int.reduceBEq, Int.reduceBNe, Nat.reduceBEq, reduceIte, reduceCtorEq]; rfl)) ?_
  rw [show updL [[2, 1]] 4 0 = [1, 2] by decide]
  simp -implicitDefEqProofs only [go_sem, Nat.reduceEqDiff, Nat.reduceAdd, Nat.reduceSub, Nat.reduceMul, Nat.reduceLT, Nat.reduceLeDiff, Int.reduceLT, Int.reduceLE, Int.reduceEq, Int.reduceToNat, Int.reduceAdd, Int.reduceNeg, Int.reduceBEq, Int.reduceBNe, Nat.reduceBEq, reduceIte, reduceCtorEq]
  refine wpCall_pure0 (L.same [1, 2] [1, 2] (by decide)) (by first | (simp -implicitDefEqProofs only [go_sem, Nat.reduceEqDiff, Nat.reduceAdd, Nat.reduceSub, Nat.reduceMul, Nat.reduceLT, Nat.reduceLeDiff, Int.reduceLT, Int.reduceLE, Int.reduceEq, Int.reduceToNat, Int.reduceAdd, Int.reduceNeg, Int.reduceBEq, Int.reduceBNe, Nat.reduceBEq, reduceIte, reduceCtorEq]; done) | (simp -implicitDefEqProofs only [go_sem, Nat.reduceEqDiff, Nat.reduceAdd, Nat.reduceSub, Nat.reduceMul, Nat.reduceLT, Nat.reduceLeDiff, Int.reduceLT, Int.reduceLE, Int.reduceEq, Int.reduceToNat, Int.reduceAdd, Int.reduceNeg, Int.reduceBEq, Int.reduceBNe, Nat.reduceBEq, reduceIte, reduceCtorEq]; rfl)) ?_
  simp -implicitDefEqProofs only [go_sem, Nat.reduceEqDiff, Nat.reduceAdd, Nat.reduceSub, Nat.reduceMul, Nat.reduceLT, Nat.reduceLeDiff, Int.reduceLT, Int.reduceLE, Int.reduceEq, Int.reduceToNat, Int.reduceAdd, Int.reduceNeg, Int.reduceBEq, Int.reduceBNe, Nat.reduceBEq, reduceIte, reduceCtorEq, show (([1, 2] : List Int) == [1, 2]) = true from rfl]
  refine wpCall_pure0 (L.begin 0) (by first | (simp -implicitDefEqProofs only [go_sem, Nat.reduceEqDiff, Nat.reduceAdd, Nat.reduceSub, Nat.reduceMul, Nat.reduceLT, Nat.reduceLeDiff, Int.reduceLT, Int.reduceLE, Int.reduceEq, Int.reduceToNat, Int.reduceAdd, Int.reduceNeg, Int.reduceBEq, Int.reduceBNe, Nat.reduceBEq, reduceIte, reduceCtorEq]; done) | (simp -implicitDefEqProofs only [go_sem, Nat.reduceEqDiff, Nat.reduceAdd, Nat.reduceSub, Nat.reduceMul, Nat.reduceLT, Nat.reduceLeDiff, Int.reduceLT, Int.reduceLE, Int.reduceEq, Int.reduceToNat, Int.reduceAdd, Int.reduceNeg, Int.reduceBEq, Int.reduceBNe, Nat.reduceBEq, reduceIte, reduceCtorEq]; rfl)) ?_
  simp -implicitDefEqProofs only [go_sem, Nat.reduceEqDiff, Nat.reduceAdd, Nat.reduceSub, Nat.reduceMul, Nat.reduceLT, Nat.reduceLeDiff, Int.reduceLT, Int.reduceLE, Int.reduceEq, Int.reduceToNat, Int.reduceAdd, Int.reduceNeg, Int.reduceBEq, Int.reduceBNe, Nat.reduceBEq, reduceIte, reduceCtorEq, beginF]
  refine retK_pure (.inr rfl) (by first | (simp -implicitDefEqProofs only [go_sem, Nat.reduceEqDiff, Nat.reduceAdd, Nat.reduceSub, Nat.reduceMul, Nat.reduceLT, Nat.reduceLeDiff, Int.reduceLT, Int.reduceLE, Int.reduceEq, Int.reduceToNat, Int.reduceAdd, Int.reduceNeg, Int.reduceBEq, Int.reduceBNe, Nat.reduceBEq, reduceIte, reduceCtorEq]; done) | (simp -implicitDefEqProofs only [go_sem, Nat.reduceEqDiff, Nat.reduceAdd, Nat.reduceSub, Nat.reduceMul, Nat.reduceLT, Nat.reduceLeDiff, Int.reduceLT, Int.reduceLE, Int.reduceEq, Int.reduceToNat, Int.reduceAdd, Int.reduceNeg, Int.reduceBEq, Int.reduceBNe, Nat.reduceBEq, reduceIte, reduceCtorEq]; rfl)) ?_
  rfl

def decI : PV → List Int
  | .sl _ rows => rows.map fun r => match r with | [.int _ n] => n | _ => 0
  | _ => []
def decLL : PV → List (List Int)
  | .sl _ rows => rows.map fun r => decI (r.headD .junk)
  | _ => []
theorem decI_ints (xs : List Int) : decI (ints xs) = xs := by
  simp [decI, List.map_map, Function.comp_def]
theorem decLL_lists (ws : List (List Int)) : decLL (lists ws) = ws := by
  simp only [decLL, List.map_map, Function.comp_def, List.headD_cons, decI_ints, List.map_id']

/-- What the law's calls yield. -/
def roS : Spec := fun name vs => match name, vs with
  | 24, [.int .i64 x, .int .i64 n] => some ([], fun _ => Gives (.int .i64 (wi x n)))
  | 26, [] => some ([], fun _ => Gives (.bool true))
  | 145, [.int .i64 n, .agg [.int .i64 p, .int .i64 w], .int .i64 e] => some ([], fun _ => Gives (stepV (stepF n p w e)))
  | 92, [.int .i64 n, .agg [.int .i64 p, .int .i64 w], .int .i64 e] => some ([], fun _ => Gives (stepV (stepF n p w e)))
  | 146, [a, .agg [.int .i64 p, .int .i64 w]] => some ([], fun _ => Gives (ints (updL (decLL a) p w)))
  | 93, [a, .agg [.int .i64 p, .int .i64 w]] => some ([], fun _ => Gives (ints (updL (decLL a) p w)))
  | 91, [a, b] => some ([], fun _ => Gives (.bool (decI a == decI b)))
  | _, _ => none
theorem roS_upd (ws : List (List Int)) (p w : Int) : roS 146 [lists ws, .agg [.int .i64 p, .int .i64 w]] = some ([], fun _ => Gives (ints (updL ws p w))) := by
  show some _ = _; rw [decLL_lists]
theorem roS_rupd (ws : List (List Int)) (p w : Int) : roS 93 [lists ws, .agg [.int .i64 p, .int .i64 w]] = some ([], fun _ => Gives (ints (updL ws p w))) := by
  show some _ = _; rw [decLL_lists]
theorem roS_same (xs ys : List Int) : roS 91 [ints xs, ints ys] = some ([], fun _ => Gives (.bool (xs == ys))) := by
  show some _ = _; rw [decI_ints, decI_ints]
end Go.PM
