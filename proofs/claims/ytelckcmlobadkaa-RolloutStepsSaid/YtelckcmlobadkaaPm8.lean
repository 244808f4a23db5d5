/-
  PM8: places, slices, lengths. No condition.
-/
import Derived.Test.YtelckcmlobadkaaPm7
set_option linter.unusedSimpArgs false
set_option linter.unusedVariables false
namespace Go.PM
open Go Go.RowKit

section
variable {T : Tbl} {n : Nat} {E : Env} {F : PF} {H : PH} {a : Act} {w : World}

theorem elem_slice {t e : TypeId} (h : T.P.underlying t = some (.slice e)) : T.P.elem t = e ∧ T.P.underlying t = some (.slice (T.P.elem t)) := by
  have : T.P.elem t = e := by simp [Program.elem, h]
  exact ⟨this, by rw [this]; exact h⟩

theorem elem_array {t e : TypeId} {k : Nat} (h : T.P.underlying t = some (.array k e)) : T.P.elem t = e ∧ T.P.arrayLen t = k ∧ T.P.underlying t = some (.array (T.P.arrayLen t) (T.P.elem t)) := by
  have h1 : T.P.elem t = e := by simp [Program.elem, h]
  have h2 : T.P.arrayLen t = k := by simp [Program.arrayLen, h]
  exact ⟨h1, h2, by rw [h1, h2]; exact h⟩

theorem rptr_drop {cs : List PV} {b off : Nat} (h : RepV E (.rptr cs) (.pointer (some ⟨b, off, none⟩))) (d : Nat) : RepV E (.rptr (cs.drop d)) (.pointer (some ⟨b, off + d, none⟩)) := by
  cases h with
  | rptr u hsp hc h1 hr =>
    refine .rptr (fun j => u (d + j)) rfl (fun j pv hp => ?_) (fun j => h1 _) (fun j pv hp => hr (d + j) pv (by rw [← hp, List.getElem?_drop]))
    have := hc (d + j) pv (by rw [← hp, List.getElem?_drop])
    simp only at this ⊢
    rw [← this]
    congr 1
    omega

theorem rptr_addr {cs : List PV} {v : Value} (h : RepV E (.rptr cs) v) : ∃ b off, v = .pointer (some ⟨b, off, none⟩) := by
  cases h with
  | rptr u hsp hc h1 hr => rename_i ad; exact ⟨ad.block, ad.off, by rw [← addr_eta hsp]⟩

theorem idxS_sl {t e : TypeId} {s : Nat} {rows : List (List PV)} {v : Value} {k : IntKind} {i : Int} {r : List PV} (ht : T.P.underlying t = some (.slice e)) (hs : T.size e = some s)
    (hv : RepV E (.sl s rows) v) (h0 : 0 ≤ i) (hr : rows[i.toNat]? = some r) : ∃ u, (Instr.indexAt t v (.int k i)).run T.P w = .ok u w ∧ RepV E (.rptr r) u := by
  obtain ⟨h1, h2⟩ := elem_slice ht
  cases hv with
  | sl u hcap hmax hrow ha ho hrep =>
  rename_i a0 cap
  have hlt : i.toNat < rows.length := by
    rcases Nat.lt_or_ge i.toNat rows.length with h | h
    · exact h
    · rw [List.getElem?_eq_none h] at hr; cases hr
  obtain ⟨ad, rfl, hsp, hc⟩ := ha (by intro h; subst h; simp at hlt)
  rw [addr_eta hsp]
  refine ⟨.pointer (some ⟨ad.block, ad.off + i.toNat * s, none⟩), ?_, ?_⟩
  · rw [run_indexAt_slice w t _ _ _ _ _ h2, if_pos ⟨h0, by omega⟩, h1, run_size hs, Result.andThen_ok, add_plain]
  · refine .rptr (u i.toNat) rfl (fun j pv hp => ?_) (fun j => ho _ _) (fun j pv hp => hrep i.toNat j pv (by simp [at2, hr, hp]))
    simpa using hc i.toNat j pv (by simp [at2, hr, hp])

theorem idxS_osl {t e : TypeId} {o s off len : Nat} {v : Value} {k : IntKind} {i : Int} (ht : T.P.underlying t = some (.slice e)) (hs : T.size e = some s)
    (hv : RepV E (.osl o s off len) v) (h0 : 0 ≤ i) (hi : i < len) : ∃ u, (Instr.indexAt t v (.int k i)).run T.P w = .ok u w ∧ RepV E (.ptr o s (off + i.toNat) 0) u := by
  obtain ⟨h1, h2⟩ := elem_slice ht
  cases hv with
  | osl hb hsp hoff hlen hmax hn hroom =>
  rename_i cap m ad
  have hoff' : ad.off = off * s := by
    rcases hoff with h | h
    · omega
    · exact h
  have had : ad = ⟨o, off * s, none⟩ := by cases ad; simp_all
  subst had
  refine ⟨_, ?_, .ptr o s _ 0⟩
  rw [run_indexAt_slice w t _ _ _ _ _ h2, if_pos ⟨h0, hi⟩, h1, run_size hs, Result.andThen_ok, add_plain, ← Nat.add_mul, Nat.add_zero]

theorem idxA_sound {t e : TypeId} {k s : Nat} {v : Value} {kk : IntKind} {i : Int} {px pv : PV} (ht : T.P.underlying t = some (.array k e)) (hs : T.size e = some s)
    (hv : RepV E px v) (h0 : 0 ≤ i) (hi : i < k) (hpx : (∃ o s0 r c, px = .ptr o s0 r c ∧ pv = .ptr o s0 r (c + i.toNat * s)) ∨ (∃ cs, px = .rptr cs ∧ pv = .rptr (cs.drop (i.toNat * s)))) :
    ∃ u, (Instr.indexAt t v (.int kk i)).run T.P w = .ok u w ∧ RepV E pv u := by
  obtain ⟨h1, h2, h3⟩ := elem_array ht
  rcases hpx with ⟨o, s0, r, c, rfl, rfl⟩ | ⟨cs, rfl, rfl⟩
  · cases hv
    refine ⟨_, ?_, .ptr o s0 r _⟩
    rw [run_indexAt_array w t _ _ _ h3, h2, if_pos ⟨h0, hi⟩, h1, run_size hs, Result.andThen_ok, add_plain, Nat.add_assoc]
  · obtain ⟨b, off, rfl⟩ := rptr_addr hv
    refine ⟨_, ?_, rptr_drop hv _⟩
    rw [run_indexAt_array w t _ _ _ h3, h2, if_pos ⟨h0, hi⟩, h1, run_size hs, Result.andThen_ok, add_plain]

theorem fieldA_sound {t : TypeId} {fs : Array Field} {f : Nat} {fd : Field} {s : Nat} {v : Value} {px pv : PV} (ht : T.P.underlying t = some (.struct fs)) (hf : fs[f]? = some fd) (hs : T.size fd.type = some (s + 1))
    (hv : RepV E px v) (hpx : (∃ o s0 r c, px = .ptr o s0 r c ∧ pv = .ptr o s0 r (c + fd.offset)) ∨ (∃ cs, px = .rptr cs ∧ pv = .rptr (cs.drop fd.offset))) :
    ∃ u, (Instr.fieldAt t v f).run T.P w = .ok u w ∧ RepV E pv u := by
  rcases hpx with ⟨o, s0, r, c, rfl, rfl⟩ | ⟨cs, rfl, rfl⟩
  · cases hv
    refine ⟨_, ?_, .ptr o s0 r _⟩
    simp [Instr.fieldAt, run_underlying ht, hf, Instr.sureAddr, fieldPlace, run_size hs, add_plain, Nat.add_assoc]
  · obtain ⟨b, off, rfl⟩ := rptr_addr hv
    refine ⟨_, ?_, rptr_drop hv _⟩
    simp [Instr.fieldAt, run_underlying ht, hf, Instr.sureAddr, fieldPlace, run_size hs, add_plain]

theorem part_one {t : TypeId} {cs : Array Value} {k : Nat} {u : Value} (ht : T.isAgg t = some false) (h : cs[k]? = some u) : (part t cs k).run T.P w = .ok u w := by
  simp [part, run_isAgg' ht, h]
theorem part_many {t : TypeId} {cs : Array Value} {k s : Nat} (ht : T.isAgg t = some true) (hs : T.size t = some s) : (part t cs k).run T.P w = .ok (.agg (cs.extract k (k + s))) w := by
  simp [part, run_isAgg' ht, run_size hs]

theorem agg_at {cs : List PV} {vs : Array Value} {k : Nat} {pv : PV} (hl : vs.size = cs.length) (hr : ∀ (j : Nat) pv v, cs[j]? = some pv → vs[j]? = some v → RepV E pv v) (h : cs[k]? = some pv) :
    ∃ u, vs[k]? = some u ∧ RepV E pv u := by
  have hlt : k < cs.length := by
    rcases Nat.lt_or_ge k cs.length with h' | h'
    · exact h'
    · rw [List.getElem?_eq_none h'] at h; cases h
  exact ⟨vs[k]'(by omega), Array.getElem?_eq_getElem (by omega), hr k pv _ h (Array.getElem?_eq_getElem (by omega))⟩

theorem agg_part {cs : List PV} {vs : Array Value} {k s : Nat} (hl : vs.size = cs.length) (h1 : ∀ v ∈ vs.toList, v.oneCell' = true) (hr : ∀ (j : Nat) pv v, cs[j]? = some pv → vs[j]? = some v → RepV E pv v) (h : k + s ≤ cs.length) :
    RepV E (.agg ((cs.drop k).take s)) (.agg (vs.extract k (k + s))) := by
  refine .agg _ (by simp; omega) (fun v hv => h1 v ?_) (fun j pv v hp hv => ?_)
  · simp only [Array.toList_extract] at hv
    exact List.mem_of_mem_drop (List.mem_of_mem_take hv)
  · rw [List.getElem?_take] at hp
    split at hp
    · rename_i hj
      rw [List.getElem?_drop] at hp
      refine hr (k + j) pv v hp ?_
      rw [Array.getElem?_extract] at hv
      split at hv
      · exact hv
      · cases hv
    · cases hp

theorem field_one {t : TypeId} {fs : Array Field} {f : Nat} {fd : Field} {cs : List PV} {v : Value} {pv : PV} (ht : T.P.underlying t = some (.struct fs)) (hf : fs[f]? = some fd) (hg : T.isAgg fd.type = some false)
    (hv : RepV E (.agg cs) v) (h : cs[fd.offset]? = some pv) : ∃ u, (Instr.field t v f).run T.P w = .ok u w ∧ RepV E pv u := by
  cases hv with
  | agg vs hl h1 hr =>
  obtain ⟨u, hu, hru⟩ := agg_at hl hr h
  exact ⟨u, by simp [Instr.field, run_underlying ht, hf, asAgg, part_one hg hu], hru⟩

theorem field_many {t : TypeId} {fs : Array Field} {f : Nat} {fd : Field} {cs : List PV} {s : Nat} {v : Value} (ht : T.P.underlying t = some (.struct fs)) (hf : fs[f]? = some fd) (hg : T.isAgg fd.type = some true) (hs : T.size fd.type = some s)
    (hv : RepV E (.agg cs) v) (h : fd.offset + s ≤ cs.length) : ∃ u, (Instr.field t v f).run T.P w = .ok u w ∧ RepV E (.agg ((cs.drop fd.offset).take s)) u := by
  cases hv with
  | agg vs hl h1 hr => exact ⟨_, by simp [Instr.field, run_underlying ht, hf, asAgg, part_many hg hs], agg_part hl h1 hr h⟩

theorem idxV_sound {t e : TypeId} {k s : Nat} {g : Bool} {cs : List PV} {v : Value} {kk : IntKind} {i : Int} {pv : PV} (ht : T.P.underlying t = some (.array k e)) (hs : T.size e = some s) (hg : T.isAgg e = some g)
    (hv : RepV E (.agg cs) v) (h0 : 0 ≤ i) (hi : i < k) (h : (if g then (if i.toNat * s + s ≤ cs.length then some (.agg ((cs.drop (i.toNat * s)).take s)) else none) else cs[i.toNat * s]?) = some pv) :
    ∃ u, (Instr.index t v (.int kk i)).run T.P w = .ok u w ∧ RepV E pv u := by
  cases hv with
  | agg vs hl h1 hr =>
  cases g with
  | true =>
    simp only [if_true] at h
    split at h
    · rename_i hle
      cases h
      exact ⟨_, by simp [Instr.index, asIntOf, run_underlying ht, h0, hi, run_size hs, part_many hg hs], agg_part hl h1 hr hle⟩
    · cases h
  | false =>
    simp only [Bool.false_eq_true, if_false] at h
    obtain ⟨u, hu, hru⟩ := agg_at hl hr h
    exact ⟨u, by simp [Instr.index, asIntOf, run_underlying ht, h0, hi, run_size hs, part_one hg hu], hru⟩

theorem idxStr_sound {t : TypeId} {l : List UInt8} {v : Value} {kk : IntKind} {i : Int} {pv : PV} (ht : T.P.underlying t = some .string) (hv : RepV E (.str l) v) (h0 : 0 ≤ i) (h : (l[i.toNat]?).map (fun b => PV.int .u8 b.toNat) = some pv) :
    ∃ u, (Instr.index t v (.int kk i)).run T.P w = .ok u w ∧ RepV E pv u := by
  cases hv with
  | str s =>
  simp only [Option.map_eq_some_iff] at h
  obtain ⟨b, hb, rfl⟩ := h
  have hb' : s[i.toNat]? = some b := by
    have hlt : i.toNat < s.data.toList.length := by
      rcases Nat.lt_or_ge i.toNat s.data.toList.length with h' | h'
      · exact h'
      · rw [List.getElem?_eq_none h'] at hb; cases hb
    have hsz : i.toNat < s.size := by
      have e1 : s.data.toList.length = s.size := by rw [Array.length_toList]; rfl
      omega
    rw [getElem?_pos s i.toNat hsz]
    rw [List.getElem?_eq_getElem hlt] at hb
    cases hb
    rfl
  exact ⟨_, by simp [Instr.index, asIntOf, run_underlying ht, h0, hb'], .int _ _⟩

theorem bnd_sound {x : Option Operand} {p : Option POpd} {d m : Int} (hx : T.opt x = some p) (h : bnd F d p = some m) (hA : ARel n E F a) (hN : E.num = T.num) :
    (x = none ∧ m = d) ∨ ∃ o k, x = some o ∧ a.eval o = .int k m := by
  cases x with
  | none =>
    simp [Tbl.opt] at hx
    subst hx
    simp [bnd] at h
    exact .inl ⟨rfl, h.symm⟩
  | some o =>
    simp only [Tbl.opt, Option.map_eq_some_iff] at hx
    obtain ⟨q, hq, rfl⟩ := hx
    simp only [bnd, Option.bind_eq_some_iff] at h
    obtain ⟨pv, hp, hi⟩ := h
    have r := opd_sound hq hp hA hN
    unfold PV.intOf at hi
    split at hi
    · cases hi
      generalize hev : a.eval o = ev at r
      cases r
      exact .inr ⟨o, _, rfl, hev⟩
    · cases hi

/-- The bounds of a slice expression. -/
theorem sliceBounds_sound {isS : Bool} {lo hi mx : Option Operand} {pl ph pm : Option POpd} {len cap : Nat} {l h : Int} (hl : T.opt lo = some pl) (hh : T.opt hi = some ph) (hm : T.opt mx = some pm)
    (bl : bnd F 0 pl = some l) (bh : bnd F len ph = some h) (hlen : len ≤ cap) (h0 : 0 ≤ l) (h1 : l ≤ h) (h2 : h ≤ len) (hm' : pm = none ∨ (hi ≠ none ∧ bnd F 0 pm = some h)) (hA : ARel n E F a) (hN : E.num = T.num) :
    ∃ m, (Instr.sliceBounds isS len cap (lo.map a.eval) (hi.map a.eval) (mx.map a.eval)).run T.P w = .ok (l.toNat, h.toNat, m) w ∧ h.toNat ≤ m ∧ m ≤ cap := by
  have kl := bnd_sound hl bl hA hN
  have kh := bnd_sound hh bh hA hN
  rcases hm' with rfl | ⟨hne, bm⟩
  · have hmx : mx = none := by
      cases mx with
      | none => rfl
      | some x =>
        simp only [Tbl.opt, Option.map_eq_some_iff] at hm
        obtain ⟨q, -, hq⟩ := hm
        cases hq
    subst hmx
    refine ⟨cap, ?_, by omega, Nat.le_refl _⟩
    rcases kl with ⟨rfl, rfl⟩ | ⟨ol, k1, rfl, e1⟩ <;> rcases kh with ⟨rfl, rfl⟩ | ⟨oh, k2, rfl, e2⟩
    · simp [Instr.sliceBounds]
    · simp only [Instr.sliceBounds, Option.map_none, Option.map_some, e2, Sem.run_bind, Sem.run_pure, Result.andThen_ok, run_sliceBound w k2 h cap _ (by omega) (by omega)]
      rfl
    · simp only [Instr.sliceBounds, Option.map_none, Option.map_some, e1, Sem.run_bind, Sem.run_pure, Result.andThen_ok, run_sliceBound w k1 l len _ (by omega) (by omega)]
      simp
    · simp only [Instr.sliceBounds, Option.map_none, Option.map_some, e1, e2, Sem.run_bind, Sem.run_pure, Result.andThen_ok, run_sliceBound w k2 h cap _ (by omega) (by omega), run_sliceBound w k1 l h.toNat _ (by omega) (by omega)]
  · have km := bnd_sound hm bm hA hN
    rcases km with ⟨rfl, h00⟩ | ⟨om, k3, rfl, e3⟩
    · simp [Tbl.opt] at hm
      subst hm
      refine ⟨cap, ?_, by omega, Nat.le_refl _⟩
      rcases kh with ⟨rfl, rfl⟩ | ⟨oh, k2, rfl, e2⟩
      · exact absurd rfl hne
      · rcases kl with ⟨rfl, rfl⟩ | ⟨ol, k1, rfl, e1⟩
        · simp only [Instr.sliceBounds, Option.map_none, Option.map_some, e2, Sem.run_bind, Sem.run_pure, Result.andThen_ok, run_sliceBound w k2 h cap _ (by omega) (by omega)]
          rfl
        · simp only [Instr.sliceBounds, Option.map_none, Option.map_some, e1, e2, Sem.run_bind, Sem.run_pure, Result.andThen_ok, run_sliceBound w k2 h cap _ (by omega) (by omega), run_sliceBound w k1 l h.toNat _ (by omega) (by omega)]
    · rcases kh with ⟨rfl, rfl⟩ | ⟨oh, k2, rfl, e2⟩
      · exact absurd rfl hne
      · refine ⟨h.toNat, ?_, Nat.le_refl _, by omega⟩
        rcases kl with ⟨rfl, rfl⟩ | ⟨ol, k1, rfl, e1⟩
        · simp only [Instr.sliceBounds, Option.map_none, Option.map_some, e2, e3, Sem.run_bind, Sem.run_pure, Result.andThen_ok, run_sliceBound w k3 h cap _ (by omega) (by omega), run_sliceBound w k2 h h.toNat _ (by omega) (by omega)]
          rfl
        · simp only [Instr.sliceBounds, Option.map_none, Option.map_some, e1, e2, e3, Sem.run_bind, Sem.run_pure, Result.andThen_ok, run_sliceBound w k3 h cap _ (by omega) (by omega), run_sliceBound w k2 h h.toNat _ (by omega) (by omega), run_sliceBound w k1 l h.toNat _ (by omega) (by omega)]

end
end Go.PM
