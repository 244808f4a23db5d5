/-
  PM5: the other operations that leave the objects alone. No condition.
-/
import Derived.Test.YtelckcmlobadkaaPm4
set_option linter.unusedSimpArgs false
set_option linter.unusedVariables false
namespace Go.PM
open Go Go.RowKit

def Yields (P : Program) (E : Env) (H : PH) (w : World) (s : Sem Value) (pv : PV) : Prop :=
  ∃ v w' E', s.run P w = .ok v w' ∧ RepV E' pv v ∧ WRel E' H w' ∧ Ext E H w E' H w'

theorem Yields.same {P : Program} {E : Env} {H : PH} {w : World} {s : Sem Value} {pv : PV} {v : Value} (hW : WRel E H w) (h : s.run P w = .ok v w) (r : RepV E pv v) : Yields P E H w s pv :=
  ⟨v, w, E, h, r, hW, .refl E H w⟩

def Env.add (E : Env) (b : Nat) (cs : Array Value) : Env := ⟨upd E.G b (some cs), upd E.sz b (some cs.size), E.num⟩

section
variable {T : Tbl} {n : Nat} {E : Env} {F : PF} {H : PH} {a : Act} {w : World}

theorem WRel.g_lt (hW : WRel E H w) {b : Nat} {cs : Array Value} (h : E.G b = some cs) : b < w.heap.size := by
  obtain ⟨-, ty, fr, hh⟩ := hW.g b cs h
  exact (Array.getElem?_eq_some_iff.1 hh).1

theorem WRel.s_lt (hW : WRel E H w) {b n : Nat} (h : E.sz b = some n) : b < w.heap.size := by
  obtain ⟨cur, ty, fr, hh, -⟩ := hW.s b n h
  exact (Array.getElem?_eq_some_iff.1 hh).1

theorem WRel.g_new (hW : WRel E H w) : E.G w.heap.size = none := by
  cases h : E.G w.heap.size with
  | none => rfl
  | some cs => have := hW.g_lt h; omega

theorem WRel.s_new (hW : WRel E H w) : E.sz w.heap.size = none := by
  cases h : E.sz w.heap.size with
  | none => rfl
  | some cs => have := hW.s_lt h; omega

theorem WRel.h_new (hW : WRel E H w) : H w.heap.size = none := by
  cases h : H w.heap.size with
  | none => rfl
  | some x => have := (hW.h _ x h).1; omega

theorem Env.le_add (hW : WRel E H w) (cs : Array Value) : E.le (E.add w.heap.size cs) := by
  refine ⟨fun b ds h => ?_, fun b m h => ?_, rfl⟩
  · have := hW.g_lt h
    simp only [Env.add]
    rw [upd_ne _ _ (by omega)]
    exact h
  · have := hW.s_lt h
    simp only [Env.add]
    rw [upd_ne _ _ (by omega)]
    exact h

/-- A new block that is never written again. -/
theorem WRel.addRo (hW : WRel E H w) (cs : Array Value) (ty : TypeId) : WRel (E.add w.heap.size cs) H (w.alloc (.cells cs ty)) ∧ Ext E H w (E.add w.heap.size cs) H (w.alloc (.cells cs ty)) := by
  have hle := Env.le_add hW cs
  refine ⟨⟨fun b ds h => ?_, fun o x h => ?_, fun o m h => ?_⟩, ⟨hle, rfl, rfl, rfl, by simp, fun b hb _ => Below.heap_alloc w _ b hb, fun o x h => .inl ⟨x, h⟩, fun b ds h => ?_⟩⟩
  · simp only [Env.add, upd] at h
    split at h
    · rename_i e
      cases h
      subst e
      exact ⟨fun x hx => by (rw [hW.h_new] at hx; cases hx), ty, (0, 0), heap_alloc_new w _⟩
    · obtain ⟨h1, ty', fr, h2⟩ := hW.g b ds h
      exact ⟨h1, ty', fr, (Below.heap_alloc w _ b (hW.g_lt h)).trans h2⟩
  · obtain ⟨h1, h2⟩ := hW.h o x h
    exact ⟨by simp; omega, h2.mono hle (Below.heap_alloc w _ o h1)⟩
  · simp only [Env.add, upd] at h
    split at h
    · rename_i e
      cases h
      subst e
      exact ⟨cs, ty, (0, 0), heap_alloc_new w _, rfl⟩
    · obtain ⟨cur, ty', fr, h1, h2⟩ := hW.s o m h
      exact ⟨cur, ty', fr, (Below.heap_alloc w _ o (hW.s_lt h)).trans h1, h2⟩
  · simp only [Env.add, upd] at h
    split at h
    · rename_i e; exact .inr (.inr (by omega))
    · exact .inl h

theorem one_of_rep {pv : PV} {v : Value} (h : RepV E pv v) (h1 : pv.one = true) : v.oneCell' = true := by
  cases h with
  | lit v => cases v <;> first | rfl | (simp [PV.one] at h1)
  | junk v => simp [PV.one] at h1
  | agg vs => simp [PV.one] at h1
  | tup vs => simp [PV.one] at h1
  | _ => rfl

/-- The cells of a value. -/
theorem cells_rep {pv : PV} {v : Value} (h : RepV E pv v) (h1 : pv.cells.all PV.one = true) :
    v.cells.size = pv.cells.length ∧ (∀ u ∈ v.cells.toList, u.oneCell' = true) ∧ ∀ (j : Nat) q u, pv.cells[j]? = some q → v.cells[j]? = some u → RepV E q u := by
  by_cases hag : ∃ cs, pv = .agg cs
  · obtain ⟨cs, rfl⟩ := hag
    cases h with
    | agg vs hl ho hr => exact ⟨hl, ho, hr⟩
  · have hc : pv.cells = [pv] := by
      cases pv <;> first | rfl | (exact absurd ⟨_, rfl⟩ hag)
    rw [hc] at h1 ⊢
    have ho : v.oneCell' = true := one_of_rep h (by simpa using h1)
    have hv : v.cells = #[v] := by
      cases v <;> first | rfl | (simp [Value.oneCell'] at ho)
    rw [hv]
    refine ⟨rfl, by simpa using ho, fun j q u hq hu => ?_⟩
    cases j with
    | zero => simp at hq hu; subst hq; subst hu; exact h
    | succ j => simp at hq

theorem eq1_sound {c : Sc} {p q : PV} {x y : Value} (hx : RepV E p x) (hy : RepV E q y) {b : Bool} (h : PV.eq1 c p q = some b) {t : TypeId} (ht : T.scalar t = some c) (d : Nat) :
    (Op.equalIn (d + 1) t x y).run T.P w = .ok b w := by
  unfold Tbl.scalar at ht
  unfold PV.eq1 at h
  split at h
  · cases hx; cases hy
    split at h
    · rename_i e
      subst e
      cases h
      split at ht <;> cases ht
      rename_i k2 hu
      exact run_equalIn_int w d t _ k2 _ _ hu
    · cases h
  · cases hx; cases hy; cases h
    split at ht <;> cases ht
    rename_i hu
    exact run_equalIn_bool w d t _ _ hu
  · cases hx with
    | str s =>
    cases hy with
    | str s' =>
    cases h
    split at ht <;> cases ht
    rename_i hu
    rw [run_equalIn_string w d t s s' hu, ByteArray.toList_eq, ByteArray.toList_eq]
  · cases h

theorem part_sound {t : TypeId} {c : Sc} (ht : T.scalar t = some c) (cs : Array Value) (k : Nat) (v : Value) (hk : cs[k]? = some v) : (part t cs k).run T.P w = .ok v w := by
  have hag : (isAgg t).run T.P w = .ok false w := by
    unfold Tbl.scalar at ht
    split at ht <;> cases ht <;> (rename_i hu; simp [isAgg, run_underlying hu])
  simp [part, hag, hk]

theorem eqs_sound (d : Nat) (vs us : Array Value) : ∀ (fs : List Field) (ks : List Sc) (k : Nat) (xs ys : List PV) (b : Bool), T.flatFrom k fs = some ks → PV.eqs ks xs ys = some b →
    (∀ (j : Nat) q u, xs[j]? = some q → vs[k + j]? = some u → RepV E q u) → (∀ (j : Nat) q u, ys[j]? = some q → us[k + j]? = some u → RepV E q u) →
    vs.size = k + xs.length → us.size = k + ys.length → (Op.eqFields (d + 1) vs us fs).run T.P w = .ok b w
  | [], ks, k, xs, ys, b, hf, he, hx, hy, hl, hm => by
    simp [Tbl.flatFrom] at hf
    subst hf
    cases xs <;> cases ys <;> simp [PV.eqs] at he
    subst he
    simp [Op.eqFields]
  | f :: fs, ks, k, xs, ys, b, hf, he, hx, hy, hl, hm => by
    simp only [Tbl.flatFrom] at hf
    split at hf
    · rename_i c cs hc hcs
      split at hf
      · rename_i hn
        cases hf
        cases xs with
        | nil => simp [PV.eqs] at he
        | cons x xs =>
        cases ys with
        | nil => simp [PV.eqs] at he
        | cons y ys =>
        simp only [PV.eqs] at he
        simp only [List.length_cons] at hl hm
        have hv : vs[k]? = some vs[k] := Array.getElem?_eq_getElem (by omega)
        have hu : us[k]? = some us[k] := Array.getElem?_eq_getElem (by omega)
        have rx : RepV E x vs[k] := hx 0 x _ rfl (by simp)
        have ry : RepV E y us[k] := hy 0 y _ rfl (by simp)
        simp only [Op.eqFields]
        rw [if_pos hn.1]
        simp only [Sem.run_bind, hn.2, part_sound hc vs k _ hv, part_sound hc us k _ hu, Result.andThen_ok]
        split at he
        · rename_i h1
          rw [eq1_sound rx ry h1 hc d]
          simp only [Result.andThen_ok, Bool.not_true, Bool.false_eq_true, if_false]
          refine eqs_sound d vs us fs cs (k + 1) xs ys b hcs he (fun j q u a c => hx (j + 1) q u (by simpa using a) (by rw [← c]; congr 1; omega)) (fun j q u a c => hy (j + 1) q u (by simpa using a) (by rw [← c]; congr 1; omega)) (by omega) (by omega)
        · rename_i h1
          rw [eq1_sound rx ry h1 hc d]
          simp only [Result.andThen_ok, Bool.not_false, if_true, Sem.run_pure]
          split at he
          · cases he; rfl
          · cases he
        · cases he
      · cases hf
    · cases hf

theorem eqb_sound (neg : Bool) (a b : Bool) {t : TypeId} (ox oy : Operand) (ht : T.P.underlying t = some .bool) :
    (do eqGuard (if neg then .neq else .eql) t ox oy (.bool a) (.bool b); binOp (if neg then .neq else .eql) t (.bool a) (.bool b) : Sem Value).run T.P w = .ok (.bool ((a == b) != neg)) w := by
  cases neg
  · simp [eqGuard, run_eql_bool w t a b ht]
  · simp [eqGuard, run_neq_bool w t a b ht]

theorem eqsv_sound (neg : Bool) {ks : List Sc} {xs ys : List PV} {x y : Value} (hx : RepV E (.agg xs) x) (hy : RepV E (.agg ys) y) {b : Bool} (hb : PV.eqs ks xs ys = some b) {t : TypeId} (ox oy : Operand)
    (ht : T.flat t = some ks) : (do eqGuard (if neg then .neq else .eql) t ox oy x y; binOp (if neg then .neq else .eql) t x y : Sem Value).run T.P w = .ok (.bool (b != neg)) w := by
  cases hx with
  | agg vs hl ho hr =>
  cases hy with
  | agg us hl' ho' hr' =>
  unfold Tbl.flat at ht
  split at ht
  · rename_i fs hu
    split at ht
    · rename_i hg
      have hfo : T.P.fieldsOf t = fs := by simp [Program.fieldsOf, hu]
      have he := eqs_sound (w := w) 9998 vs us fs.toList ks 0 xs ys b ht hb (fun j q u a c => hr j q u a (by simpa using c)) (fun j q u a c => hr' j q u a (by simpa using c)) (by simpa using hl) (by simpa using hl')
      have h1 := run_equalIn_struct w 9999 t vs us (by rw [hfo]; exact hu) hg.1
      rw [hfo, he] at h1
      cases neg
      · simp [run_eqGuard_agg w .eql t ox oy vs us hg.2, run_eql_struct, h1]
      · simp [run_eqGuard_agg w .neq t ox oy vs us hg.2, run_neq_struct, h1]
    · cases ht
  · cases ht

end
end Go.PM
