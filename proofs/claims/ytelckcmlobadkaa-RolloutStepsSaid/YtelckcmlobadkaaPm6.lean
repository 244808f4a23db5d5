/-
  PM6: literals, loads, indexing, slicing. No condition.
-/
import Derived.Test.YtelckcmlobadkaaPm5
import Derived.Deep.MidRow
import Derived.Great.BuildSlice
set_option linter.unusedSimpArgs false
set_option linter.unusedVariables false
namespace Go.PM
open Go Go.RowKit

def CRep (E : Env) (cs : List PV) (vs : Array Value) : Prop :=
  vs.size = cs.length ∧ (∀ v ∈ vs.toList, v.oneCell' = true) ∧ ∀ (j : Nat) pv v, cs[j]? = some pv → vs[j]? = some v → RepV E pv v

def setV (vs : Array Value) (c : Nat) : List Value → Array Value
  | [] => vs
  | u :: us => setV (vs.setIfInBounds c u) (c + 1) us

theorem setV_foldl (off : Nat) : ∀ (us : List Value) (k : Nat) (vs : Array Value), (us.zipIdx k).foldl (fun cs (x : Value × Nat) => cs.setIfInBounds (off + x.2) x.1) vs = setV vs (off + k) us
  | [], _, _ => rfl
  | u :: us, k, vs => by
    simp only [List.zipIdx_cons, List.foldl_cons, setV]
    rw [setV_foldl off us (k + 1)]
    rfl

theorem setV_size : ∀ (us : List Value) (c : Nat) (vs : Array Value), (setV vs c us).size = vs.size
  | [], _, _ => rfl
  | u :: us, c, vs => by simp [setV, setV_size us]

theorem setCells_length : ∀ (ps : List PV) (c : Nat) (r : List PV), (setCells r c ps).length = r.length
  | [], _, _ => rfl
  | p :: ps, c, r => by simp [setCells, setCells_length ps]

theorem CRep.set1 {E : Env} {cs : List PV} {vs : Array Value} (h : CRep E cs vs) {c : Nat} {p : PV} {u : Value} (r : RepV E p u) (h1 : u.oneCell' = true) : CRep E (cs.set c p) (vs.setIfInBounds c u) := by
  obtain ⟨hl, ho, hr⟩ := h
  refine ⟨by simp [hl], fun v hv => ?_, fun j pv v hp hv => ?_⟩
  · simp only [Array.toList_setIfInBounds] at hv
    rcases List.mem_or_eq_of_mem_set hv with hv | rfl
    · exact ho v hv
    · exact h1
  · rw [List.getElem?_set] at hp
    rw [Array.getElem?_setIfInBounds] at hv
    split at hp
    · rename_i e
      subst e
      rw [if_pos rfl] at hv
      split at hp
      · rename_i hc
        rw [if_pos (by omega)] at hv
        cases hp; cases hv
        exact r
      · cases hp
    · rename_i e
      rw [if_neg e] at hv
      exact hr j pv v hp hv

theorem CRep.setCells {E : Env} : ∀ (ps : List PV) (us : List Value) (c : Nat) (cs : List PV) (vs : Array Value), CRep E cs vs → us.length = ps.length → (∀ u ∈ us, u.oneCell' = true) →
    (∀ (j : Nat) p u, ps[j]? = some p → us[j]? = some u → RepV E p u) → CRep E (setCells cs c ps) (setV vs c us)
  | [], [], _, _, _, h, _, _, _ => h
  | p :: ps, u :: us, c, cs, vs, h, hl, ho, hr => by
    simp only [PM.setCells, setV]
    exact CRep.setCells ps us (c + 1) _ _ (h.set1 (hr 0 p u rfl rfl) (ho u (by simp))) (by simpa using hl) (fun x hx => ho x (by simp [hx])) (fun j q x a b => hr (j + 1) q x (by simpa using a) (by simpa using b))
  | [], u :: us, _, _, _, _, hl, _, _ => by simp at hl
  | p :: ps, [], _, _, _, _, hl, _, _ => by simp at hl

theorem ofValues_rep {E : Env} : ∀ {vs : List Value} {ps : List PV}, ofValues vs = some ps → ps.length = vs.length ∧ ∀ (j : Nat) p v, ps[j]? = some p → vs[j]? = some v → RepV E p v
  | [], ps, h => by simp [ofValues] at h; subst h; simp
  | v :: vs, ps, h => by
    simp only [ofValues] at h
    split at h
    · rename_i p qs hp hq
      cases h
      obtain ⟨h1, h2⟩ := ofValues_rep (E := E) hq
      refine ⟨by simp [h1], fun j q u a b => ?_⟩
      cases j with
      | zero => simp at a b; subst a; subst b; exact ofValue_rep hp
      | succ j => exact h2 j q u (by simpa using a) (by simpa using b)
    · cases h

theorem ofValues_one : ∀ {vs : List Value} {ps : List PV}, ofValues vs = some ps → ∀ v ∈ vs, v.oneCell' = true
  | [], _, _, v, hv => by simp at hv
  | u :: vs, ps, h, v, hv => by
    simp only [ofValues] at h
    split at h
    · rename_i p qs hp hq
      rcases List.mem_cons.1 hv with rfl | hv
      · unfold ofValue at hp
        split at hp <;> first | rfl | cases hp
      · exact ofValues_one hq v hv
    · cases h

section
variable {T : Tbl} {n : Nat} {E : Env} {F : PF} {H : PH} {a : Act} {w : World}

theorem zero_rep {t : TypeId} {z : List PV} (h : T.zero t = some z) : ∃ i zv, T.P.info? t = some i ∧ i.zero = some zv ∧ CRep E z zv.cells := by
  unfold Tbl.zero at h
  cases hi : T.P.info? t with
  | none => simp [hi] at h
  | some i =>
    cases hz : i.zero with
    | none => simp [hi, hz] at h
    | some zv =>
      simp only [hi, hz, Option.bind_some] at h
      obtain ⟨h1, h2⟩ := ofValues_rep (E := E) h
      exact ⟨i, zv, rfl, hz, by simpa using h1.symm, ofValues_one h, fun j p v a b => h2 j p v a (by simpa using b)⟩

theorem fill_sound {place : Nat → Option (Nat × Nat)} (hA : ARel n E F a) (hN : E.num = T.num) : ∀ (parts : List (Nat × Operand)) (pl : List (Nat × Nat × POpd)) (cs out : List PV) (vs : Array Value),
    T.partsOf place parts = some pl → fillP cs F pl = some out → CRep E cs vs → ∃ us, Instr.fill place vs (parts.map fun (i, x) => (i, a.eval x)) = some us ∧ CRep E out us
  | [], pl, cs, out, vs, h1, h2, h3 => by
    simp [Tbl.partsOf] at h1; subst h1
    simp [fillP] at h2; subst h2
    exact ⟨vs, rfl, h3⟩
  | (i, x) :: rest, pl, cs, out, vs, h1, h2, h3 => by
    simp only [Tbl.partsOf] at h1
    split at h1
    · rename_i off size p ps hp hx hps
      cases h1
      simp only [fillP] at h2
      split at h2
      · rename_i v hv
        split at h2
        · rename_i hc
          obtain ⟨c1, c2, c3⟩ := cells_rep (opd_sound hx hv hA hN) hc.2.2
          obtain ⟨us, g1, g2⟩ := fill_sound hA hN rest ps _ out _ hps h2 (CRep.setCells v.cells (a.eval x).cells.toList off cs vs h3 (by simpa using c1) c2 (fun j q u hq hu => c3 j q u hq (by simpa using hu)))
          refine ⟨us, ?_, g2⟩
          simp only [List.map_cons, Instr.fill, hp]
          rw [if_neg (by simp; rw [c1, h3.1]; omega)]
          have hz : Array.foldl (fun (cs : Array Value) (x : Value × Nat) => cs.setIfInBounds (off + x.2) x.1) vs (a.eval x).cells.zipIdx = setV vs off (a.eval x).cells.toList := by
            rw [← Array.foldl_toList, Array.toList_zipIdx]
            exact setV_foldl off _ 0 vs
          exact hz ▸ g1
        · cases h2
      · cases h2
    · cases h1

theorem places_sound (fs : Array Field) (places : List (Nat × Nat)) (h : fs.toList.mapM (fun f => (T.P.info? f.type).map fun i => (f.offset, i.size)) = some places) (i : Nat) :
    places[i]? = T.place fs i := by
  have key : ∀ (l : List Field) (ps : List (Nat × Nat)) (i : Nat), l.mapM (fun f => (T.P.info? f.type).map fun i => (f.offset, i.size)) = some ps →
      ps[i]? = match l[i]? with | some f => (T.size f.type).map (f.offset, ·) | none => none := by
    intro l
    induction l with
    | nil => intro ps i h; simp at h; subst h; simp
    | cons f l ih =>
      intro ps i h
      simp only [List.mapM_cons, Option.bind_eq_bind, Option.pure_def, Option.bind_eq_some_iff] at h
      obtain ⟨p, hp, qs, hq, h⟩ := h
      cases h
      cases i with
      | zero =>
        simp only [List.getElem?_cons_zero, Tbl.size]
        rw [← hp]
        cases T.P.info? f.type <;> rfl
      | succ i => simpa using ih qs i hq
  have := key fs.toList places i h
  rw [this, Array.getElem?_toList]
  unfold Tbl.place
  cases fs[i]? <;> rfl

end
end Go.PM
