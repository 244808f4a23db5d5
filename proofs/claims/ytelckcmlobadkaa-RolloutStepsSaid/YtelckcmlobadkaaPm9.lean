/-
  PM9: slices cut, strings, literals that are never written again; 'peval' is sound. No condition.
-/
import Derived.Test.YtelckcmlobadkaaPm8
import Derived.Lib.Strings
set_option linter.unusedSimpArgs false
set_option linter.unusedVariables false
namespace Go.PM
open Go Go.RowKit

section
variable {T : Tbl} {n : Nat} {E : Env} {F : PF} {H : PH} {a : Act} {w : World}

theorem at2_cut {rows : List (List PV)} {l h i j : Nat} {pv : PV} (e : at2 ((rows.take h).drop l) i j = some pv) : at2 rows (l + i) j = some pv := by
  unfold at2 at *
  rw [List.getElem?_drop, List.getElem?_take] at e
  split at e
  · exact e
  · simp at e

theorem run_slice_form {t e : TypeId} {s l h m len cap : Nat} {a0 : Option Addr} {lo hi mx : Option Value} (ht : T.P.underlying t = some (.slice e)) (hs : T.size e = some s)
    (hb : (Instr.sliceBounds true len cap lo hi mx).run T.P w = .ok (l, h, m) w) :
    (Instr.sliceAt t (.slice a0 len cap) lo hi mx).run T.P w = .ok (.slice (if m = l then a0 else a0.map (·.add (l * s))) (h - l) (m - l)) w := by
  simp [Instr.sliceAt, Instr.slice, run_underlying ht, hb, run_size hs]

theorem slice_sound {t e : TypeId} {s : Nat} {x : Value} {lo hi mx : Option Operand} {pl ph pm : Option POpd} {len : Nat} {l h : Int} {px pv : PV} (ht : T.P.underlying t = some (.slice e)) (hs : T.size e = some s)
    (hl : T.opt lo = some pl) (hh : T.opt hi = some ph) (hm : T.opt mx = some pm) (hx : RepV E px x) (bl : bnd F 0 pl = some l) (bh : bnd F len ph = some h)
    (hlen : (px = .nils ∧ len = 0) ∨ (∃ s0 rows, px = .sl s0 rows ∧ len = rows.length) ∨ (∃ o s0 off, px = .osl o s0 off len))
    (hpv : (pm = none ∧ PV.slice s px l h none = some pv) ∨ (hi ≠ none ∧ ∃ m, bnd F 0 pm = some m ∧ PV.slice s px l h (some m) = some pv)) (hA : ARel n E F a) (hN : E.num = T.num) :
    ∃ v, (Instr.sliceAt t x (lo.map a.eval) (hi.map a.eval) (mx.map a.eval)).run T.P w = .ok v w ∧ RepV E pv v := by
  have hP : ∃ m0, PV.slice s px l h m0 = some pv ∧ (m0 = none → pm = none) ∧ ∀ m, m0 = some m → hi ≠ none ∧ bnd F 0 pm = some m := by
    rcases hpv with ⟨h1, h2⟩ | ⟨h1, m, h2, h3⟩
    · exact ⟨none, h2, fun _ => h1, fun m hm => by cases hm⟩
    · exact ⟨some m, h3, fun h => (by cases h), fun m' hm' => by cases hm'; exact ⟨h1, h2⟩⟩
  obtain ⟨m0, hP, hn, hsm⟩ := hP
  rcases hlen with ⟨rfl, rfl⟩ | ⟨s0, rows, rfl, rfl⟩ | ⟨o, s0, off, rfl⟩
  · simp only [PV.slice] at hP
    split at hP
    · rename_i hc
      cases hP
      obtain ⟨rfl, rfl, hm0⟩ := hc
      cases hx
      obtain ⟨m, hb, hm1, hm2⟩ := sliceBounds_sound (T := T) (E := E) (w := w) (isS := true) (len := 0) (cap := 0) hl hh hm bl bh (Nat.le_refl _) (by omega) (by omega) (by omega)
        (by rcases hm0 with rfl | rfl
            · exact .inl (hn rfl)
            · exact .inr (hsm 0 rfl)) hA hN
      have hmz : m = 0 := by omega
      subst hmz
      refine ⟨_, run_slice_form ht hs hb, ?_⟩
      simp
      exact .nils
    · cases hP
  · simp only [PV.slice] at hP
    split at hP
    · rename_i hc
      cases hP
      obtain ⟨rfl, h0, h1, h2, hm0⟩ := hc
      cases hx with
      | sl u hcap hmax hrow ha ho hrep =>
      rename_i a0 cap
      obtain ⟨m, hb, hm1, hm2⟩ := sliceBounds_sound (T := T) (E := E) (w := w) (isS := true) (len := rows.length) (cap := cap) hl hh hm bl bh hcap h0 h1 h2
        (by rcases hm0 with rfl | rfl
            · exact .inl (hn rfl)
            · exact .inr (hsm h rfl)) hA hN
      refine ⟨_, run_slice_form ht hs hb, ?_⟩
      have hlen : ((rows.take h.toNat).drop l.toNat).length = h.toNat - l.toNat := by
        rw [List.length_drop, List.length_take]; omega
      rw [← hlen]
      refine .sl (fun i j => u (l.toNat + i) j) (by rw [hlen]; omega) (by omega) (fun r hr => hrow r (List.mem_of_mem_take (List.mem_of_mem_drop hr))) (fun hne => ?_) (fun i j => ho _ _) (fun i j pv hp => hrep _ _ pv (at2_cut hp))
      have hpos : 0 < ((rows.take h.toNat).drop l.toNat).length := List.length_pos_iff.2 hne
      rw [hlen] at hpos
      obtain ⟨ad, rfl, hsp, hc⟩ := ha (by intro e; subst e; simp at h2; omega)
      rw [if_neg (by omega)]
      refine ⟨⟨ad.block, ad.off + l.toNat * s0, none⟩, ?_, rfl, fun i j pv hp => ?_⟩
      · rw [Option.map_some, addr_eta hsp, add_plain]
      · have := hc (l.toNat + i) j pv (at2_cut hp)
        show E.cell ad.block (ad.off + l.toNat * s0 + i * s0 + j) = _
        rw [← this]
        congr 1
        rw [Nat.add_mul]; omega
    · cases hP
  · simp only [PV.slice] at hP
    split at hP
    · rename_i hc
      cases hP
      obtain ⟨rfl, h0, h1, h2, hm0⟩ := hc
      cases hx with
      | osl hb0 hsp hoff hlen hmax hnn hroom =>
      rename_i cap N ad
      obtain ⟨m, hb, hm1, hm2⟩ := sliceBounds_sound (T := T) (E := E) (w := w) (isS := true) (len := len) (cap := cap) hl hh hm bl bh hlen h0 h1 h2
        (by rcases hm0 with rfl | rfl
            · exact .inl (hn rfl)
            · exact .inr (hsm h rfl)) hA hN
      refine ⟨_, run_slice_form ht hs hb, ?_⟩
      by_cases hml : m = l.toNat
      · rw [if_pos hml]
        have e1 : h.toNat - l.toNat = 0 := by omega
        have e2 : m - l.toNat = 0 := by omega
        rw [e1, e2]
        refine .osl hb0 hsp (.inl rfl) (Nat.le_refl _) (by simp [maxLen]) hnn ?_
        have : (off + l.toNat) * s0 ≤ off * s0 + cap * s0 := by rw [Nat.add_mul]; exact Nat.add_le_add_left (Nat.mul_le_mul_right _ (by omega)) _
        omega
      · rw [if_neg hml, Option.map_some, addr_eta hsp, add_plain]
        refine .osl hb0 rfl ?_ (by omega) (by omega) hnn ?_
        · rcases hoff with h | h
          · exact .inl (by omega)
          · exact .inr (by simp only [h, Nat.add_mul])
        · have : (off + l.toNat) * s0 + (m - l.toNat) * s0 ≤ off * s0 + cap * s0 := by
            rw [← Nat.add_mul, ← Nat.add_mul]
            exact Nat.mul_le_mul_right _ (by omega)
          omega
    · cases hP

theorem sliceStr_sound {t : TypeId} {x : Value} {lo hi : Option Operand} {pl ph : Option POpd} {str : List UInt8} {l h : Int} (ht : T.P.underlying t = some .string)
    (hl : T.opt lo = some pl) (hh : T.opt hi = some ph) (hx : RepV E (.str str) x) (bl : bnd F 0 pl = some l) (bh : bnd F str.length ph = some h) (h0 : 0 ≤ l) (h1 : l ≤ h) (h2 : h ≤ str.length)
    (hA : ARel n E F a) (hN : E.num = T.num) :
    ∃ v, (Instr.sliceAt t x (lo.map a.eval) (hi.map a.eval) none).run T.P w = .ok v w ∧ RepV E (.str ((str.take h.toNat).drop l.toNat)) v := by
  cases hx with
  | str s =>
  have hsz : s.data.toList.length = s.size := by rw [Array.length_toList]; rfl
  rw [hsz] at bh h2
  obtain ⟨m, hb, hm1, hm2⟩ := sliceBounds_sound (T := T) (E := E) (w := w) (isS := false) (len := s.size) (cap := s.size) (mx := none) (pm := none) hl hh rfl bl bh (Nat.le_refl _) h0 h1 h2 (.inl rfl) hA hN
  simp only [Option.map_none] at hb
  refine ⟨.string (s.extract l.toNat h.toNat), ?_, ?_⟩
  · simp [Instr.sliceAt, Instr.slice, run_underlying ht, hb]
  · have e : (s.data.toList.take h.toNat).drop l.toNat = (s.extract l.toNat h.toNat).data.toList := by
      rw [Lib.extract_data, List.drop_take]
    rw [e]
    exact .str _

theorem boxRo_sound {e : TypeId} {x : Value} {px : PV} (hW : WRel E H w) (hx : RepV E px x) (h1 : px.cells.all PV.one = true) : Yields T.P E H w (Instr.box e x) (.rptr px.cells) := by
  obtain ⟨c1, c2, c3⟩ := cells_rep hx h1
  obtain ⟨hW', hE⟩ := hW.addRo x.cells e
  refine ⟨.pointer (some ⟨w.heap.size, 0, none⟩), _, _, by simp [Instr.box, newVar, newRow], ?_, hW', hE⟩
  refine .rptr (fun j => if h : j < x.cells.size then x.cells[j] else .int .i64 0) rfl (fun j pv hp => ?_) (fun j => ?_) (fun j pv hp => ?_)
  · have hj : j < x.cells.size := by
      rw [c1]
      rcases Nat.lt_or_ge j px.cells.length with h' | h'
      · exact h'
      · rw [List.getElem?_eq_none h'] at hp; cases hp
    simp [Env.cell, Env.add, upd, hj]
  · split
    · rename_i hj
      exact c2 _ (Array.getElem_mem_toList hj)
    · rfl
  · have hj : j < x.cells.size := by
      rw [c1]
      rcases Nat.lt_or_ge j px.cells.length with h' | h'
      · exact h'
      · rw [List.getElem?_eq_none h'] at hp; cases hp
    rw [dif_pos hj]
    exact (c3 j pv _ hp (Array.getElem?_eq_getElem hj)).mono hE.env

end
end Go.PM
