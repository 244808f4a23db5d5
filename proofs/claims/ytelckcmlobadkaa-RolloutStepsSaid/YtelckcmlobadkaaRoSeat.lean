/-
  The law 'RolloutSteps' of the given program returns true at every input, and its arguments read as they did. No condition.
-/
import Derived.Test.YtelckcmlobadkaaRows
import Derived.Test.YtelckcmlobadkaaRoShelf
import Derived.Test.YtelckcmlobadkaaRoW8
import Derived.ProofKit
import Derived.WalkKit
set_option linter.unusedSimpArgs false
set_option linter.unusedVariables false
namespace Go.Proofs.Ytelckcmlobadkaa
open Go Go.PM Go.RowKit Go.ChangeShapes Go.WideShapes

theorem Try.own : ownKnob Try.prog.godebug = none := by kernel_rfl
theorem Try.laidOut : laidOutB Try.prog = true := by kernel_rfl

def tab : List (Nat × Nat) := [(25, 3), (26, 4), (24, 5), (145, 6), (92, 7), (91, 8), (146, 9), (93, 10), (144, 11), (178, 12), (180, 13), (177, 14), (179, 15)]
def num (n : Nat) : FuncId := (tab.lookup n).getD 0
def nameOf (f : FuncId) : Option Nat := (tab.find? fun x => x.2 == f).map (·.1)
noncomputable def C : Ctx := ⟨Try.prog, num⟩
noncomputable def T (ro : List Nat) : Tbl := { P := Try.prog, num := num, name := nameOf, ro := ro }

theorem c5 : (T within_ro).func Try.f5 = some within := by kernel_rfl
theorem c6 : (T step_ro).func Try.f6 = some PM.step := by kernel_rfl
theorem c7 : (T rstep_ro).func Try.f7 = some rstep := by kernel_rfl
theorem c8 : (T same_ro).func Try.f8 = some same := by kernel_rfl
theorem c9 : (T upd8_ro).func Try.f9 = some upd8 := by kernel_rfl
theorem c10 : (T rupd_ro).func Try.f10 = some rupd := by kernel_rfl
theorem c11 : (T begin_ro).func Try.f11 = some PM.begin := by kernel_rfl
theorem c12 : (T concat_ro).func Try.f12 = some concat := by kernel_rfl
theorem c4 : (T awake_ro).func Try.f4 = some awake := by kernel_rfl
theorem c3 : (T law_ro).func Try.f3 = some law := by kernel_rfl

theorem t3_bytes : Try.t3.bytes = 8 := by kernel_rfl
theorem nextslicecap_0 {n : Nat} (h : 0 < n) : Builtin.nextslicecap n 0 = n := by
  unfold Builtin.nextslicecap
  rw [if_pos (by omega)]
theorem grow_walk (n : Int) (h0 : 0 ≤ n) (h1 : n ≤ 1000000) (w : World) : Calls Try.prog 15 #[.slice none 0 0, .int .i64 n] w fun e w' =>
    (n = 0 ∧ e = .returned (.slice none 0 0) ∧ w' = w) ∨ (0 < n ∧ ∃ cap cs, e = .returned (.slice (some ⟨w.heap.size, 0, none⟩) 0 cap) ∧ w' = (w.alloc (.cells cs 3)).drew ∧ cs.size = cap ∧ cap ≤ maxLen) := by
  go_enter Try.func15, Try.ntmps15
  go_wp2
  all_goals (try (exfalso; simp only [t3_bytes] at *; omega))
  · exfalso
    rw [nextslicecap_0 (by omega)] at *
    simp only [t3_bytes] at *
    omega
  · go_ret
    have hge := grownCap_ge w n.toNat 0 3
    have hle := grownCap_le_maxLen w n.toNat 0 3 (by simp only [maxLen]; omega)
    unfold grownCap at hge hle
    refine .inr ⟨_, rfl, _, rfl, ?_, hle⟩
    simp only [Array.size_append, size_zeroCells]
    simp
    omega
  · go_ret
    exact .inl ⟨by omega, rfl, rfl⟩

theorem grow_calls (n : Int) (h0 : 0 ≤ n) (h1 : n ≤ 1000000) : ECalls C 179 [.nils, .int .i64 n] .nil (growR n) := by
  refine ⟨⟨Try.f15, Try.func15, by kernel_rfl, by kernel_rfl⟩, fun E w vs hN hW hvs => ?_⟩
  obtain ⟨vl⟩ := vs
  cases hvs with
  | cons e1 e2 =>
  cases e2 with
  | cons e3 e4 =>
  cases e4
  cases e1
  cases e3
  refine (grow_walk n h0 h1 w).mono fun e w' he => ?_
  rcases he with ⟨rfl, rfl, rfl⟩ | ⟨hn, cap, cs, rfl, rfl, hs, hc⟩
  · exact ⟨_, .nils, E, .nil, rfl, hW, .nils, .refl _ _ _, .inl ⟨rfl, rfl, rfl⟩⟩
  · have hR : RRep E 1 [] cs := ⟨by simp, by simp, fun i j pv h => by simp [at2] at h⟩
    obtain ⟨k1, k2⟩ := hW.addObj 3 hR
    refine ⟨_, .osl w.heap.size 1 0 0, _, _, rfl, k1.drew, ?_, k2.bigger rfl rfl rfl (Nat.le_refl _) (fun _ _ => rfl), .inr ⟨hn, _, rfl, rfl⟩⟩
    exact .osl rfl rfl (.inr rfl) (by omega) hc (own_sz _ _ _) (by omega)

theorem concat_calls (ws : List (List Int)) (h1 : ws.length ≤ 1000000) (h2 : ws.flatten.length ≤ 1000000) : ECalls C 178 [lists ws] .nil (Owns ws.flatten) :=
  ecalls_of rfl rfl Try.func12 (by kernel_rfl) c12 (Nat.le_of_ble_eq_true rfl) (concat_ok ws h1 h2 grow_calls)

theorem sortLib : SortLib C := {
  concat := concat_calls
  sort := fun o xs hx hl => sort_calls Try.laysSort (by kernel_rfl) ⟨_, Try.func13, by kernel_rfl, by kernel_rfl⟩ o xs hx hl
  sort0 := sort_calls0 Try.laysSort (by kernel_rfl) ⟨_, Try.func13, by kernel_rfl, by kernel_rfl⟩ _ _ (.inl rfl)
  compact := fun o xs hx hl => compact_calls Try.laysCompact (by kernel_rfl) ⟨_, Try.func14, by kernel_rfl, by kernel_rfl⟩ o xs hx hl
  compact0 := compact_calls0 Try.laysCompact (by kernel_rfl) ⟨_, Try.func14, by kernel_rfl, by kernel_rfl⟩ _ _ (.inl rfl) }

theorem roLib : RoLib C := {
  within := fun x n hn => ecalls_of rfl rfl Try.func5 (by kernel_rfl) c5 (Nat.le_of_ble_eq_true rfl) (within_ok x n hn)
  begin := fun n => ecalls_of rfl rfl Try.func11 (by kernel_rfl) c11 (Nat.le_of_ble_eq_true rfl) (begin_ok n)
  step := fun n p w e => ecalls_of rfl rfl Try.func6 (by kernel_rfl) c6 (Nat.le_of_ble_eq_true rfl) (step_ok n p w e)
  rstep := fun n p w e => ecalls_of rfl rfl Try.func7 (by kernel_rfl) c7 (Nat.le_of_ble_eq_true rfl) (rstep_ok n p w e)
  same := fun xs ys h => ecalls_of rfl rfl Try.func8 (by kernel_rfl) c8 (Nat.le_of_ble_eq_true rfl) (same_ok xs ys h)
  upd := fun ws p w h1 h2 => (ecalls_of rfl rfl Try.func9 (by kernel_rfl) c9 (Nat.le_of_ble_eq_true rfl) (upd8_ok sortLib ws h1 h2 p w)).sees
  rupd := fun ws p w h1 h2 => (ecalls_of rfl rfl Try.func10 (by kernel_rfl) c10 (Nat.le_of_ble_eq_true rfl) (rupd_ok ws p w h1 h2)).sees }

theorem awake_calls : ECalls C 26 [] .nil (Gives (.bool true)) := ecalls_of rfl rfl Try.func4 (by kernel_rfl) c4 (Nat.le_of_ble_eq_true rfl) (awake_ok roLib)
theorem law_calls' (ws : List (List Int)) (n p w e : Int) : ECalls C 25 [.int .i64 n, .agg [.int .i64 p, .int .i64 w], .int .i64 e, lists ws] .nil (Gives (.bool true)) :=
  ecalls_of rfl rfl Try.func3 (by kernel_rfl) c3 (Nat.le_of_ble_eq_true rfl) (law_ok roLib awake_calls ws n p w e)

def argKinds : List AT := [.one (.int .i64), .struct [.int .i64, .int .i64], .one (.int .i64), .one (.sl [.sl [.int .i64]])]
theorem args_eq : argTys Try.prog 8 Try.f3.params.toList = some argKinds := by kernel_rfl

theorem law_any (pvs : List PV) (h : AT.TyL argKinds pvs) : ECalls C 25 pvs .nil (Gives (.bool true)) := by
  match pvs, h with
  | [a, b, c, d], h =>
    obtain ⟨h1, h2, h3, h4, -⟩ := h
    cases h1 with | one h1 =>
    cases h2 with | struct hl h2 =>
    cases h3 with | one h3 =>
    cases h4 with | one h4 =>
    obtain ⟨n, rfl, -⟩ := Ty.int_inv h1
    obtain ⟨e, rfl, -⟩ := Ty.int_inv h3
    rename_i ps
    match ps, hl with
    | [x, y], _ =>
      obtain ⟨p, rfl, -⟩ := Ty.int_inv (h2 0 _ _ rfl rfl)
      obtain ⟨w, rfl, -⟩ := Ty.int_inv (h2 1 _ _ rfl rfl)
      obtain ⟨vs, rfl, -, hv⟩ := Ty.sl1_inv h4
      have key : ∃ ws : List (List Int), vs = ws.map ints := by
        clear h4
        induction vs with
        | nil => exact ⟨[], rfl⟩
        | cons v vs ih =>
          obtain ⟨ws, hw⟩ := ih (fun u hu => hv u (by simp [hu]))
          obtain ⟨xs, hx, -, -⟩ := Ty.ints_inv (hv v (by simp))
          exact ⟨xs :: ws, by rw [hx, hw]; rfl⟩
      obtain ⟨ws, rfl⟩ := key
      rw [List.map_map]
      exact law_calls' ws n p w e

set_option maxRecDepth 100000 in
theorem rolloutSteps_lifted (os : Os) (started : os.Started) (H : Type) (enc : TypeId × Value → H) :
    ReturnsInHanded {} Try.checked os 3 .any (Rows.rolloutStepsSpec.pre6 enc Try.prog Try.f3 Rows.rolloutStepsRow.domain false) (Rows.rolloutStepsSpec.post enc Try.prog Try.f3 false true false false) := by
  refine returnsInHanded_of_change (C := Try.checked) Try.own started (by kernel_rfl) Try.func3
    (ChangeSpec.witness6 (enc := enc) (C := Try.checked) false ⟨#[], #[.int .i64 0, .agg #[.int .i64 0, .int .i64 0], .int .i64 0, .slice none 0 0], []⟩ 8 (by kernel_rfl) (by kernel_rfl) (by kernel_rfl) (by kernel_rfl)) ?_
  intro W base args ds gs before hval hW _ _
  exact calls_of_law (P := Try.prog) (num := num) (name := 25) (n := 8) (ats := argKinds) (bt := 4) Try.laidOut (by kernel_rfl) (by kernel_rfl) (by kernel_rfl) rfl
    (fun ds hd => by
      match ds, hd with
      | [d1, d2, d3, d4], _ => exact ⟨rfl, rfl, rfl⟩)
    (by kernel_rfl) args_eq law_any hval hW

theorem rolloutSteps_holds : Rows.RolloutStepsSaid :=
  OpenClaim.holds_of_wide 3 Try.f3 rfl rfl rfl rfl rfl rfl rfl ⟨rfl, rfl, rfl, rfl, rfl⟩ rfl rfl rfl rfl rfl (by kernel_rfl) Try.func3 (by kernel_rfl)
    (of_decide_eq_true (by kernel_rfl)) (by unfold Func.isWrapper; first | (rw [if_pos (by decide +kernel)]; kernel_rfl) | (rw [if_neg (by decide +kernel)]; exact ⟨rfl, rfl⟩))
    (fun os started H enc _ => rolloutSteps_lifted os started H enc)
#print axioms rolloutSteps_holds
end Go.Proofs.Ytelckcmlobadkaa
