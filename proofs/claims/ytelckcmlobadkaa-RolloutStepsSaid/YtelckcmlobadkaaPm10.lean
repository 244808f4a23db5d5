/-
  PM10: slice literals. No condition.
-/
import Derived.Test.YtelckcmlobadkaaPm9
set_option linter.unusedSimpArgs false
set_option linter.unusedVariables false
namespace Go.PM
open Go Go.RowKit

theorem flatten_get {s : Nat} : ∀ (rows : List (List PV)) (i j : Nat), (∀ r ∈ rows, r.length = s) → j < s → rows.flatten[i * s + j]? = at2 rows i j
  | [], i, j, _, _ => by simp [at2]
  | r :: rows, i, j, h, hj => by
    have hr : r.length = s := h r (by simp)
    rw [List.flatten_cons]
    cases i with
    | zero =>
      rw [List.getElem?_append_left (by omega)]
      simp [at2]
    | succ i =>
      rw [List.getElem?_append_right (by rw [hr, Nat.succ_mul]; omega)]
      have e : (i + 1) * s + j - r.length = i * s + j := by rw [hr, Nat.succ_mul]; omega
      rw [e, flatten_get rows i j (fun r hr => h r (by simp [hr])) hj]
      simp [at2]

theorem flatten_len {s : Nat} : ∀ (rows : List (List PV)), (∀ r ∈ rows, r.length = s) → rows.flatten.length = rows.length * s
  | [], _ => by simp
  | r :: rows, h => by
    rw [List.flatten_cons, List.length_append, flatten_len rows (fun r hr => h r (by simp [hr])), h r (by simp), List.length_cons, Nat.succ_mul]
    omega

theorem setCells_append_right : ∀ (ps : List PV) (x y : List PV) (c : Nat), setCells (x ++ y) (x.length + c) ps = x ++ setCells y c ps
  | [], x, y, c => rfl
  | p :: ps, x, y, c => by
    simp only [setCells]
    rw [List.set_append_right _ _ (by omega), Nat.add_sub_cancel_left]
    exact setCells_append_right ps x _ (c + 1)

theorem setCells_append_left : ∀ (ps : List PV) (x y : List PV) (c : Nat), c + ps.length ≤ x.length → setCells (x ++ y) c ps = setCells x c ps ++ y
  | [], x, y, c, _ => rfl
  | p :: ps, x, y, c, h => by
    simp only [List.length_cons] at h
    simp only [setCells]
    rw [List.set_append_left _ _ (by omega)]
    exact setCells_append_left ps _ y (c + 1) (by rw [List.length_set]; omega)

theorem setCells_whole : ∀ (ps x : List PV) (z : List PV), x.length = ps.length → setCells (z ++ x) z.length ps = z ++ ps
  | [], x, z, h => by
    have : x = [] := List.eq_nil_of_length_eq_zero (by simpa using h)
    subst this; rfl
  | p :: ps, [], z, h => by simp at h
  | p :: ps, y :: x, z, h => by
    simp only [setCells]
    rw [List.set_append_right _ _ (Nat.le_refl _), Nat.sub_self, List.set_cons_zero]
    have := setCells_whole ps x (z ++ [p]) (by simpa using h)
    simp only [List.length_append, List.length_cons, List.length_nil, List.append_assoc, List.cons_append, List.nil_append] at this
    simpa using this

theorem flatten_set {s : Nat} (ps : List PV) (hps : ps.length = s) : ∀ (rows : List (List PV)) (i : Nat), (∀ r ∈ rows, r.length = s) → i < rows.length → (rows.set i ps).flatten = setCells rows.flatten (i * s) ps
  | [], i, _, h => by simp at h
  | r :: rows, i, h, hi => by
    have hr : r.length = s := h r (by simp)
    cases i with
    | zero =>
      rw [List.set_cons_zero, List.flatten_cons, List.flatten_cons, Nat.zero_mul, setCells_append_left _ _ _ _ (by omega)]
      have := setCells_whole ps r [] (by omega)
      simp only [List.nil_append, List.length_nil] at this
      rw [this]
    | succ i =>
      rw [List.set_cons_succ, List.flatten_cons, List.flatten_cons, flatten_set ps hps rows i (fun r hr => h r (by simp [hr])) (by simpa using hi)]
      have := setCells_append_right ps r rows.flatten (i * s)
      rw [← this, hr, Nat.succ_mul, Nat.add_comm]

section
variable {T : Tbl} {n : Nat} {E : Env} {F : PF} {H : PH} {a : Act} {w : World}

theorem fillRows_sound {s : Nat} (hA : ARel n E F a) (hN : E.num = T.num) : ∀ (parts : List (Nat × Operand)) (pl : List (Nat × POpd)) (rows out : List (List PV)) (vs : Array Value),
    T.elemsOf parts = some pl → fillRows s rows F pl = some out → (∀ r ∈ rows, r.length = s) → CRep E rows.flatten vs →
    ∃ us, Instr.fill (fun i => some (i * s, s)) vs (parts.map fun (i, x) => (i, a.eval x)) = some us ∧ CRep E out.flatten us ∧ (∀ r ∈ out, r.length = s) ∧ out.length = rows.length
  | [], pl, rows, out, vs, h1, h2, h3, h4 => by
    simp [Tbl.elemsOf] at h1; subst h1
    simp [fillRows] at h2; subst h2
    exact ⟨vs, rfl, h4, h3, rfl⟩
  | (i, x) :: rest, pl, rows, out, vs, h1, h2, h3, h4 => by
    simp only [Tbl.elemsOf] at h1
    split at h1
    · rename_i p ps hx hps
      cases h1
      simp only [fillRows] at h2
      split at h2
      · rename_i v hv
        split at h2
        · rename_i hc
          obtain ⟨c1, c2, c3⟩ := cells_rep (opd_sound hx hv hA hN) hc.2.2
          have hfs := flatten_set v.cells hc.1 rows i h3 hc.2.1
          have h4' := CRep.setCells v.cells (a.eval x).cells.toList (i * s) _ vs h4 (by simpa using c1) c2 (fun j q u hq hu => c3 j q u hq (by simpa using hu))
          rw [← hfs] at h4'
          obtain ⟨us, g1, g2, g3, g4⟩ := fillRows_sound hA hN rest ps _ out _ hps h2 (fun r hr => by
            rcases List.mem_or_eq_of_mem_set hr with hr | rfl
            · exact h3 r hr
            · exact hc.1) h4'
          refine ⟨us, ?_, g2, g3, by simpa using g4⟩
          simp only [List.map_cons, Instr.fill]
          have hsz : vs.size = rows.length * s := by rw [h4.1, flatten_len rows h3]
          have hle : i * s + s ≤ rows.length * s := by
            have : (i + 1) * s ≤ rows.length * s := Nat.mul_le_mul_right _ hc.2.1
            rw [Nat.succ_mul] at this
            exact this
          rw [if_neg (by simp; rw [c1, hsz]; omega)]
          have hz : Array.foldl (fun (cs : Array Value) (x : Value × Nat) => cs.setIfInBounds (i * s + x.2) x.1) vs (a.eval x).cells.zipIdx = setV vs (i * s) (a.eval x).cells.toList := by
            rw [← Array.foldl_toList, Array.toList_zipIdx]
            exact setV_foldl (i * s) _ 0 vs
          exact hz ▸ g1
        · cases h2
      · cases h2
    · cases h1

theorem CRep.zeros {z : List PV} {zv : Array Value} {s len : Nat} (h : CRep E z zv) (hs : z.length = s) (h0 : 0 < s) :
    CRep E (List.replicate len z).flatten ((Array.range (len * s)).map (zv[· % zv.size]!)) := by
  have hall : ∀ r ∈ List.replicate len z, r.length = s := fun r hr => by rw [(List.mem_replicate.1 hr).2]; exact hs
  have hzs : zv.size = s := by rw [h.1, hs]
  refine ⟨by rw [flatten_len _ hall]; simp, fun v hv => ?_, fun k pv v hp hv => ?_⟩
  · simp only [Array.toList_map, List.mem_map] at hv
    obtain ⟨k, -, rfl⟩ := hv
    have hk : k % zv.size < zv.size := Nat.mod_lt _ (by omega)
    rw [getElem!_pos zv _ hk]
    exact h.2.1 _ (Array.getElem_mem_toList hk)
  · have hkl : k < len * s := by
      rcases Nat.lt_or_ge k (len * s) with h' | h'
      · exact h'
      · rw [Array.getElem?_eq_none (by simpa using h')] at hv; cases hv
    have hmod : k % s < s := Nat.mod_lt _ h0
    have hdiv : k / s < len := (Nat.div_lt_iff_lt_mul h0).2 hkl
    have hk : k / s * s + k % s = k := by rw [Nat.mul_comm]; exact Nat.div_add_mod k s
    have e := flatten_get (List.replicate len z) (k / s) (k % s) hall hmod
    rw [hk] at e
    rw [e] at hp
    simp only [at2, List.getElem?_replicate, hdiv, if_true, Option.bind_some] at hp
    simp only [Array.getElem?_map, Array.getElem?_range, hkl, if_true, Option.map_some] at hv
    rw [getElem!_pos zv _ (by rw [hzs]; exact hmod)] at hv
    cases hv
    refine h.2.2 (k % s) pv _ (by simpa only [hzs] using hp) ?_
    simp only [hzs]
    exact Array.getElem?_eq_getElem (by rw [hzs]; exact hmod)

theorem bslice_cells {t e : TypeId} {s len : Nat} {z : List PV} {parts : Array (Nat × Operand)} {pl : List (Nat × POpd)} {out : List (List PV)} (ht : T.P.underlying t = some (.slice e)) (hs : T.size e = some s) (hz : T.zero e = some z)
    (hzl : z.length = s) (h0 : 0 < s) (hpl : T.elemsOf parts.toList = some pl) (hle : len * s ≤ 16777216) (ho : fillRows s (List.replicate len z) F pl = some out) (hA : ARel n E F a) (hN : E.num = T.num) :
    ∃ us, (Instr.buildSlice t len (parts.map fun (i, x) => (i, a.eval x))).run T.P w = .ok (.slice (some ⟨w.heap.size, 0, none⟩) len len) (w.alloc (.cells us e)) ∧ CRep E out.flatten us ∧ (∀ r ∈ out, r.length = s) ∧ out.length = len := by
  obtain ⟨i, zv, hi, hiz, hzr⟩ := zero_rep (E := E) hz
  obtain ⟨i', hi', hsz⟩ := size_info hs
  rw [hi] at hi'
  cases hi'
  have hall : ∀ r ∈ List.replicate len z, r.length = s := fun r hr => by rw [(List.mem_replicate.1 hr).2]; exact hzl
  obtain ⟨us, g1, g2, g3, g4⟩ := fillRows_sound hA hN parts.toList pl _ out _ hpl ho hall (hzr.zeros (len := len) hzl h0)
  rw [List.length_replicate] at g4
  refine ⟨us, ?_, g2, g3, g4⟩
  by_cases hl0 : len = 0
  · subst hl0
    have hpe : parts.toList = [] := by
      cases hpp : parts.toList with
      | nil => rfl
      | cons x rest =>
        rw [hpp] at hpl
        obtain ⟨i, y⟩ := x
        simp only [Tbl.elemsOf] at hpl
        split at hpl
        · cases hpl
          simp only [fillRows] at ho
          split at ho
          · split at ho
            · rename_i hc; simp at hc
            · cases ho
          · cases ho
        · cases hpl
    rw [hpe] at g1
    simp only [List.map_nil, Instr.fill, Nat.zero_mul] at g1
    have : us = #[] := by
      have h1 := g2.1
      rw [flatten_len out g3, g4, Nat.zero_mul] at h1
      exact Array.eq_empty_of_size_eq_zero h1
    subst this
    have hpa : parts = #[] := by
      apply Array.ext'
      simpa using hpe
    subst hpa
    have hr0 : Array.range 0 = #[] := by apply Array.ext'; simp
    simp [Instr.buildSlice, run_underlying ht, run_size hs, Instr.fill, newRow, hr0]
  · refine run_buildSlice w t e len _ us i zv ht hi hiz (by rw [hsz]; omega) (by rw [hsz]; exact Nat.ne_of_gt (Nat.mul_pos (by omega) h0)) ?_
    rw [hsz, Array.toList_map]
    exact g1

theorem bsliceRo_sound {t e : TypeId} {s len : Nat} {z : List PV} {parts : Array (Nat × Operand)} {pl : List (Nat × POpd)} {out : List (List PV)} (ht : T.P.underlying t = some (.slice e)) (hs : T.size e = some s) (hz : T.zero e = some z)
    (hzl : z.length = s) (h0 : 0 < s) (hpl : T.elemsOf parts.toList = some pl) (hle : len * s ≤ 16777216) (ho : fillRows s (List.replicate len z) F pl = some out) (hA : ARel n E F a) (hN : E.num = T.num) (hW : WRel E H w) :
    Yields T.P E H w (Instr.buildSlice t len (parts.map fun (i, x) => (i, a.eval x))) (.sl s out) := by
  obtain ⟨us, hrun, hc, hrow, hlen⟩ := bslice_cells (w := w) ht hs hz hzl h0 hpl hle ho hA hN
  obtain ⟨hW', hE⟩ := hW.addRo us e
  refine ⟨_, _, _, hrun, ?_, hW', hE⟩
  rw [← hlen]
  have hj : ∀ i j pv, at2 out i j = some pv → j < s := fun i j pv hp => by
    unfold at2 at hp
    cases hr : out[i]? with
    | none => simp [hr] at hp
    | some r =>
      rw [hr, Option.bind_some] at hp
      have := hrow r (List.mem_of_getElem? hr)
      rcases Nat.lt_or_ge j r.length with h' | h'
      · omega
      · rw [List.getElem?_eq_none h'] at hp; cases hp
  have hcell : ∀ i j pv, at2 out i j = some pv → ∃ h : i * s + j < us.size, RepV E pv us[i * s + j] := fun i j pv hp => by
    have e1 := flatten_get out i j hrow (hj i j pv hp)
    rw [hp] at e1
    have hlt : i * s + j < us.size := by
      rw [hc.1]
      rcases Nat.lt_or_ge (i * s + j) out.flatten.length with h' | h'
      · exact h'
      · rw [List.getElem?_eq_none h'] at e1; cases e1
    exact ⟨hlt, hc.2.2 _ pv _ e1 (Array.getElem?_eq_getElem hlt)⟩
  refine .sl (fun i j => if h : i * s + j < us.size then us[i * s + j] else .int .i64 0) (Nat.le_refl _) ?_ hrow (fun _ => ⟨_, rfl, rfl, fun i j pv hp => ?_⟩) (fun i j => ?_) (fun i j pv hp => ?_)
  · have : out.length * 1 ≤ out.length * s := Nat.mul_le_mul_left _ h0
    simp only [maxLen]
    rw [hlen] at this ⊢
    omega
  · obtain ⟨hlt, -⟩ := hcell i j pv hp
    simp [Env.cell, Env.add, upd, hlt]
  · split
    · rename_i hlt
      exact hc.2.1 _ (Array.getElem_mem_toList hlt)
    · rfl
  · obtain ⟨hlt, hr⟩ := hcell i j pv hp
    rw [dif_pos hlt]
    exact hr.mono hE.env

end
end Go.PM
