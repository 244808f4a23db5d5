/-
  PM14: operations that make an object. No condition.
-/
import Derived.Test.YtelckcmlobadkaaPm13
import Derived.Laws.MakeOwn
set_option linter.unusedSimpArgs false
set_option linter.unusedVariables false
namespace Go.PM
open Go Go.RowKit

def Env.own (E : Env) (b n : Nat) : Env := ⟨E.G, upd E.sz b (some n), E.num⟩

section
variable {T : Tbl} {n : Nat} {E : Env} {F : PF} {H : PH} {a : Act} {w : World}

theorem Env.le_own (hW : WRel E H w) (m : Nat) : E.le (E.own w.heap.size m) := by
  refine ⟨fun b ds h => h, fun b k h => ?_, rfl⟩
  have := hW.s_lt h
  simp only [Env.own]
  rw [upd_ne _ _ (by omega)]
  exact h

theorem at2_lt {s : Nat} {rs : List (List PV)} (h : ∀ r ∈ rs, r.length = s) {i j : Nat} {pv : PV} (hp : at2 rs i j = some pv) : i < rs.length ∧ j < s := by
  unfold at2 at hp
  cases hr : rs[i]? with
  | none => simp [hr] at hp
  | some r =>
    rw [hr, Option.bind_some] at hp
    have hl := h r (List.mem_of_getElem? hr)
    refine ⟨?_, ?_⟩
    · rcases Nat.lt_or_ge i rs.length with h' | h'
      · exact h'
      · rw [List.getElem?_eq_none h'] at hr; cases hr
    · rcases Nat.lt_or_ge j r.length with h' | h'
      · omega
      · rw [List.getElem?_eq_none h'] at hp; cases hp

/-- Cells that read as rows. -/
def RRep (E : Env) (s : Nat) (rs : List (List PV)) (cs : Array Value) : Prop :=
  (∀ r ∈ rs, r.length = s) ∧ rs.length * s ≤ cs.size ∧ ∀ i j pv, at2 rs i j = some pv → ∃ u, cs[i * s + j]? = some u ∧ u.oneCell' = true ∧ RepV E pv u

theorem RRep.of_flat {s : Nat} {rs : List (List PV)} {cs : Array Value} (h : CRep E rs.flatten cs) (hs : ∀ r ∈ rs, r.length = s) : RRep E s rs cs := by
  refine ⟨hs, by rw [h.1, flatten_len rs hs]; exact Nat.le_refl _, fun i j pv hp => ?_⟩
  obtain ⟨-, hj⟩ := at2_lt hs hp
  have e := flatten_get rs i j hs hj
  rw [hp] at e
  have hlt : i * s + j < cs.size := by
    rw [h.1]
    rcases Nat.lt_or_ge (i * s + j) rs.flatten.length with h' | h'
    · exact h'
    · rw [List.getElem?_eq_none h'] at e; cases e
  exact ⟨cs[i * s + j], Array.getElem?_eq_getElem hlt, h.2.1 _ (Array.getElem_mem_toList hlt), h.2.2 _ pv _ e (Array.getElem?_eq_getElem hlt)⟩

theorem RRep.mono {E' : Env} (hE : E.le E') {s : Nat} {rs : List (List PV)} {cs : Array Value} (h : RRep E s rs cs) : RRep E' s rs cs :=
  ⟨h.1, h.2.1, fun i j pv hp => by obtain ⟨u, h1, h2, h3⟩ := h.2.2 i j pv hp; exact ⟨u, h1, h2, h3.mono hE⟩⟩

theorem set_apply (H : PH) (o q : Nat) (x : PObj) : (H.set o x).f q = if q = o then some x else H.f q := rfl

/-- A new block that the call owns. -/
theorem WRel.addObj (hW : WRel E H w) {s : Nat} {rs : List (List PV)} {cs : Array Value} (ty : TypeId) (h : RRep E s rs cs) :
    WRel (E.own w.heap.size cs.size) (H.set w.heap.size (.rows s rs)) (w.alloc (.cells cs ty)) ∧ Ext E H w (E.own w.heap.size cs.size) (H.set w.heap.size (.rows s rs)) (w.alloc (.cells cs ty)) := by
  have hle := Env.le_own hW cs.size
  refine ⟨⟨fun b ds hb => ?_, fun o x ho => ?_, fun o m hs => ?_⟩, ⟨hle, rfl, rfl, rfl, by simp, fun b hb _ => Below.heap_alloc w _ b hb, fun o x ho => ?_, fun b ds hb => .inl hb⟩⟩
  · obtain ⟨h1, ty', fr, h2⟩ := hW.g b ds hb
    have hlt := hW.g_lt hb
    refine ⟨fun x hx => h1 x ?_, ty', fr, (Below.heap_alloc w _ b hlt).trans h2⟩
    rw [set_apply, if_neg (by omega)] at hx
    exact hx
  · rw [set_apply] at ho
    split at ho
    · rename_i e
      subst e
      cases ho
      refine ⟨by simp, cs, ty, heap_alloc_new w _, by simp [Env.own, upd], h.1, h.2.1, fun i j pv hp => ?_⟩
      obtain ⟨u, h1, h2, h3⟩ := h.2.2 i j pv hp
      exact ⟨u, h1, h2, h3.mono hle⟩
    · obtain ⟨h1, h2⟩ := hW.h o x ho
      exact ⟨by simp; omega, h2.mono hle (Below.heap_alloc w _ o h1)⟩
  · simp only [Env.own, upd] at hs
    split at hs
    · rename_i e
      cases hs
      subst e
      exact ⟨cs, ty, (0, 0), heap_alloc_new w _, rfl⟩
    · obtain ⟨cur, ty', fr, h1, h2⟩ := hW.s o m hs
      exact ⟨cur, ty', fr, (Below.heap_alloc w _ o (hW.s_lt hs)).trans h1, h2⟩
  · rw [set_apply] at ho
    split at ho
    · rename_i e; exact .inr (by omega)
    · exact .inl ⟨x, ho⟩

theorem WRel.addMap (hW : WRel E H w) (sh : MSh) : WRel E (H.set w.heap.size (.map sh (fun _ => none))) (w.alloc (.map #[] 0)) ∧ Ext E H w E (H.set w.heap.size (.map sh (fun _ => none))) (w.alloc (.map #[] 0)) := by
  refine ⟨⟨fun b ds hb => ?_, fun o x ho => ?_, fun o m hs => ?_⟩, ⟨.refl E, rfl, rfl, rfl, by simp, fun b hb _ => Below.heap_alloc w _ b hb, fun o x ho => ?_, fun b ds hb => .inl hb⟩⟩
  · obtain ⟨h1, ty', fr, h2⟩ := hW.g b ds hb
    have hlt := hW.g_lt hb
    refine ⟨fun x hx => h1 x ?_, ty', fr, (Below.heap_alloc w _ b hlt).trans h2⟩
    rw [set_apply, if_neg (by omega)] at hx
    exact hx
  · rw [set_apply] at ho
    split at ho
    · rename_i e
      subst e
      cases ho
      exact ⟨by simp, #[], 0, [], heap_alloc_new w _, rfl, rfl, fun i e e' h => by simp at h⟩
    · obtain ⟨h1, h2⟩ := hW.h o x ho
      exact ⟨by simp; omega, h2.mono (.refl E) (Below.heap_alloc w _ o h1)⟩
  · obtain ⟨cur, ty', fr, h1, h2⟩ := hW.s o m hs
    exact ⟨cur, ty', fr, (Below.heap_alloc w _ o (hW.s_lt hs)).trans h1, h2⟩
  · rw [set_apply] at ho
    split at ho
    · rename_i e; exact .inr (by omega)
    · exact .inl ⟨x, ho⟩

/-- What a making operation does. -/
def Makes (P : Program) (E : Env) (H : PH) (w : World) (o : Oper) (a : Act) (mk : Nat → PV) (x : PObj) : Prop :=
  ∃ v w' E' q, (execOp a.eval o).run P w = .ok (.value v) w' ∧ H q = none ∧ RepV E' (mk q) v ∧ WRel E' (H.set q x) w' ∧ Ext E H w E' (H.set q x) w'

theorem rows1_rrep {cs : List PV} {vs : Array Value} (h : CRep E cs vs) : RRep E cs.length [cs] vs := by
  refine .of_flat (by simpa using h) (by simp)

theorem own_sz (E : Env) (b m : Nat) : (E.own b m).sz b = some m := by simp [Env.own, upd]

theorem call_notNew {o : Oper} {c : Call} {p : POp} (hc : T.call o c = some p) : p.isNew = false := by
  unfold Tbl.call at hc
  repeat' (first | (split at hc) | (simp only [Option.map_eq_some_iff] at hc; obtain ⟨_, -, rfl⟩ := hc; rfl) | (cases hc; rfl) | (cases hc; done))

theorem new_sound {o : Oper} {p : POp} {mk : Nat → PV} {x : PObj} (hc : T.op o = some p) (hn : p.isNew = true) (hv : allocOf p F = some (mk, x)) (hA : ARel n E F a) (hW : WRel E H w) (hN : E.num = T.num) : Makes T.P E H w o a mk x := by
  have hnew := hW.h_new
  unfold Tbl.op at hc
  split at hc
  case h_4 => -- alloc
    rename_i e ho
    simp only [Option.map_eq_some_iff] at hc
    obtain ⟨z, hz, rfl⟩ := hc
    simp only [allocOf, Option.some.injEq, Prod.mk.injEq] at hv
    obtain ⟨rfl, rfl⟩ := hv
    obtain ⟨i, zv, hi, hiz, hzr⟩ := zero_rep (E := E) hz
    obtain ⟨h1, h2⟩ := hW.addObj e (rows1_rrep hzr)
    have hrun : (Instr.alloc e true (.tuple #[])).run T.P w = .ok (.pointer (some ⟨w.heap.size, 0, none⟩)) (w.alloc (.cells zv.cells e)) := by
      simp [Instr.alloc, zeroValue, typeInfo, hi, hiz, newVar, newRow]
    refine ⟨_, _, _, w.heap.size, value_run ?_ hrun, hnew, ?_, h1, h2⟩
    · unfold execOp; rw [ho]
    · have := RepV.ptr (E := E.own w.heap.size zv.cells.size) w.heap.size z.length 0 0
      simpa using this
  case h_5 => -- box
    rename_i e y ho
    simp only [Option.map_eq_some_iff] at hc
    obtain ⟨q, hq, rfl⟩ := hc
    generalize hro : T.isRo o.dst = ro at *
    cases ro with
    | true => simp [POp.isNew] at hn
    | false =>
      simp only [allocOf] at hv
      split at hv
      · rename_i v hv1
        split at hv
        · rename_i h1
          simp only [Option.some.injEq, Prod.mk.injEq] at hv
          obtain ⟨rfl, rfl⟩ := hv
          obtain ⟨c1, c2, c3⟩ := cells_rep (opd_sound hq hv1 hA hN) h1
          obtain ⟨g1, g2⟩ := hW.addObj e (rows1_rrep (E := E) (cs := v.cells) (vs := (a.eval y).cells) ⟨c1, c2, c3⟩)
          have hrun : (Instr.box e (a.eval y)).run T.P w = .ok (.pointer (some ⟨w.heap.size, 0, none⟩)) (w.alloc (.cells (a.eval y).cells e)) := by
            simp [Instr.box, newVar, newRow]
          refine ⟨_, _, _, w.heap.size, value_run ?_ hrun, hnew, ?_, g1, g2⟩
          · unfold execOp; rw [ho]
          · have := RepV.ptr (E := E.own w.heap.size (a.eval y).cells.size) w.heap.size v.cells.length 0 0
            simpa using this
        · cases hv
      · cases hv
  case h_7 => -- buildSlice
    rename_i t len parts ho
    split at hc
    · rename_i e hu
      split at hc
      · rename_i s z pl hs hz hpl
        split at hc
        · rename_i hzl
          cases hc
          generalize hro : T.isRo o.dst = ro at *
          cases ro with
          | true => simp [POp.isNew] at hn
          | false =>
            simp only [allocOf] at hv
            split at hv
            · rename_i hle
              simp only [Option.map_eq_some_iff, Prod.mk.injEq] at hv
              obtain ⟨out, hout, rfl, rfl⟩ := hv
              obtain ⟨us, hrun, hcr, hrow, hlen⟩ := bslice_cells (w := w) hu hs hz hzl.1 hzl.2 hpl hle.2 hout hA hN
              obtain ⟨g1, g2⟩ := hW.addObj e (RRep.of_flat hcr hrow)
              refine ⟨_, _, _, w.heap.size, value_run ?_ hrun, hnew, ?_, g1, g2⟩
              · unfold execOp; rw [ho]
              · have hsz : us.size = len * s := by rw [hcr.1, flatten_len out hrow, hlen]
                refine .osl (n := us.size) rfl rfl (.inr (by simp)) (Nat.le_refl _) ?_ (own_sz _ _ _) (by rw [hsz]; omega)
                have : len * 1 ≤ len * s := Nat.mul_le_mul_left _ hzl.2
                simp only [maxLen]
                omega
            · cases hv
        · cases hc
      · cases hc
    · cases hc
  case h_15 => -- makeMap
    rename_i t ho
    split at hc
    case h_2 => cases hc
    simp only [Option.map_eq_some_iff] at hc
    obtain ⟨sh, -, rfl⟩ := hc
    simp only [allocOf, Option.some.injEq, Prod.mk.injEq] at hv
    obtain ⟨rfl, rfl⟩ := hv
    obtain ⟨g1, g2⟩ := hW.addMap sh
    have hrun : (Instr.makeMap t (Option.map a.eval none)).run T.P w = .ok (.map (some w.heap.size)) (w.alloc (.map #[] 0)) := by
      simp [Instr.makeMap]
    refine ⟨_, _, _, w.heap.size, value_run ?_ hrun, hnew, .map _, g1, g2⟩
    unfold execOp; rw [ho]
  case h_19 => -- makeSlice
    rename_i t l c ho
    split at hc
    · rename_i e hu
      split at hc
      · rename_i i z p q hi hz hp hq
        split at hc
        · rename_i hzl
          cases hc
          simp only [allocOf] at hv
          split at hv
          · rename_i k1 m1 k2 m2 hv1 hv2
            split at hv
            · rename_i hcond
              simp only [Option.some.injEq, Prod.mk.injEq] at hv
              obtain ⟨rfl, rfl⟩ := hv
              obtain ⟨h0, h1, h2, h3, -⟩ := hcond
              have r1 := opd_sound hp hv1 hA hN
              have r2 := opd_sound hq hv2 hA hN
              generalize hx : a.eval l = ex at r1
              generalize hy : a.eval c = ey at r2
              cases r1; cases r2
              obtain ⟨i', zv, hi', hiz, hzr⟩ := zero_rep (E := E) hz
              rw [hi] at hi'
              cases hi'
              have hrun := run_make w t e i zv hu hi hiz k1 k2 m1 m2 h0 h1 (by rw [Int.mul_comm]; omega) h3
              have hcr := hzr.zeros (len := m2.toNat) hzl.1 hzl.2
              have hbig : RRep E i.size (List.replicate m2.toNat z) (madeCells zv.cells (m2.toNat * i.size)) :=
                RRep.of_flat hcr (fun r hr => by rw [(List.mem_replicate.1 hr).2]; exact hzl.1)
              have hsm : RRep E i.size (List.replicate m1.toNat z) (madeCells zv.cells (m2.toNat * i.size)) := by
                refine ⟨fun r hr => by rw [(List.mem_replicate.1 hr).2]; exact hzl.1, ?_, fun a b pv hpv => hbig.2.2 a b pv ?_⟩
                · have := hbig.2.1
                  simp only [List.length_replicate] at this ⊢
                  have h5 : m1.toNat * i.size ≤ m2.toNat * i.size := Nat.mul_le_mul_right _ (by omega)
                  omega
                · unfold at2 at hpv ⊢
                  rw [List.getElem?_replicate] at hpv ⊢
                  split at hpv
                  · rw [if_pos (by omega)]; exact hpv
                  · simp at hpv
              obtain ⟨g1, g2⟩ := hW.addObj e hsm
              refine ⟨_, _, _, w.heap.size, value_run (s := Instr.makeSlice t (.int k1 m1) (.int k2 m2)) ?_ hrun, hnew, ?_, g1, g2⟩
              · unfold execOp; rw [ho]; simp only [hx, hy]
              · refine .osl (n := (madeCells zv.cells (m2.toNat * i.size)).size) rfl rfl (.inr (by simp)) (by omega) (by simp only [maxLen]; omega) (own_sz _ _ _) (by rw [size_madeCells]; omega)
            · cases hv
          · cases hv
        · cases hc
      · cases hc
    · cases hc
  all_goals (first
    | (simp only [Option.map_eq_some_iff] at hc; obtain ⟨_, -, rfl⟩ := hc; simp [POp.isNew] at hn; done)
    | skip)
  all_goals (repeat' (first | (split at hc) | (simp only [Option.map_eq_some_iff] at hc; obtain ⟨_, -, rfl⟩ := hc; simp [POp.isNew] at hn; done) | (cases hc; simp [POp.isNew] at hn; done) | (cases hc; done)))
  all_goals (rw [call_notNew hc] at hn; cases hn)

end
end Go.PM
