/-
  PM15: operations that write to objects. No condition.
-/
import Derived.Test.YtelckcmlobadkaaPm14
import Derived.Laws.CopyRow
set_option linter.unusedSimpArgs false
set_option linter.unusedVariables false
namespace Go.PM
open Go Go.RowKit

section
variable {T : Tbl} {n : Nat} {E : Env} {F : PF} {H : PH} {a : Act} {w : World}

/-- A row of the call's own is laid anew. -/
theorem WRel.setRows (hW : WRel E H w) {o s : Nat} {rs rs' : List (List PV)} {cur cs : Array Value} {ty : TypeId} (ho : H o = some (.rows s rs)) (hh : w.heap[o]? = some (.cells cur ty (0, 0))) (hsz : cs.size = cur.size)
    (h : RRep E s rs' cs) : WRel E (H.set o (.rows s rs')) (w.setRow o cs) ∧ Ext E H w E (H.set o (.rows s rs')) (w.setRow o cs) := by
  have hself := setRow_heap w o cur cs ty (0, 0) hh
  have hother : ∀ b, b ≠ o → (w.setRow o cs).heap[b]? = w.heap[b]? := fun b hb => setRow_other w o b cs hb
  have hGne : ∀ b ds, E.G b = some ds → b ≠ o := fun b ds hb e => by
    subst e
    have := (hW.g b ds hb).1 _ ho
    cases this
  have hSz : E.sz o = some cur.size := by
    obtain ⟨-, cur', ty', h1, h2, -⟩ := hW.h o _ ho
    rw [hh] at h1
    cases h1
    exact h2
  refine ⟨⟨fun b ds hb => ?_, fun q x hq => ?_, fun q m hs => ?_⟩, ⟨.refl E, rfl, rfl, rfl, by simp, fun b _ hn => hother b (fun e => by subst e; rw [ho] at hn; cases hn), fun q x hq => ?_, fun b ds hb => .inl hb⟩⟩
  · obtain ⟨h1, ty', fr, h2⟩ := hW.g b ds hb
    have hne := hGne b ds hb
    refine ⟨fun x hx => h1 x ?_, ty', fr, (hother b hne).trans h2⟩
    rw [set_apply, if_neg hne] at hx
    exact hx
  · rw [set_apply] at hq
    split at hq
    · rename_i e
      subst e
      cases hq
      refine ⟨by simpa using (hW.h q _ ho).1, cs, ty, hself, by rw [hsz]; exact hSz, h.1, h.2.1, h.2.2⟩
    · rename_i e
      obtain ⟨h1, h2⟩ := hW.h q x hq
      exact ⟨by simpa using h1, h2.mono (.refl E) (hother q e)⟩
  · by_cases e : q = o
    · subst e
      rw [hSz] at hs
      cases hs
      exact ⟨cs, ty, (0, 0), hself, hsz⟩
    · obtain ⟨cur', ty', fr, h1, h2⟩ := hW.s q m hs
      exact ⟨cur', ty', fr, (hother q e).trans h1, h2⟩
  · rw [set_apply] at hq
    split at hq
    · rename_i e; subst e; exact .inl ⟨_, ho⟩
    · exact .inl ⟨x, hq⟩

def Writes (P : Program) (E : Env) (H : PH) (w : World) (o : Oper) (a : Act) (K : PV → PH → Prop) : Prop :=
  ∃ v nx w' E' H' pv, (execOp a.eval o).run P w = .ok nx w' ∧ (nx = .value v ∨ (nx = .skip ∧ v = undef)) ∧ RepV E' pv v ∧ WRel E' H' w' ∧ Ext E H w E' H' w' ∧ K pv H'

theorem setCells_get : ∀ (ps : List PV) (r : List PV) (c j : Nat), c + ps.length ≤ r.length → (setCells r c ps)[j]? = if c ≤ j ∧ j < c + ps.length then ps[j - c]? else r[j]?
  | [], r, c, j, _ => by
    rw [if_neg (by intro h; simp at h; omega)]
    rfl
  | p :: ps, r, c, j, h => by
    simp only [List.length_cons] at h ⊢
    simp only [setCells]
    rw [setCells_get ps _ (c + 1) j (by rw [List.length_set]; omega), List.getElem?_set]
    by_cases h1 : c = j
    · subst h1
      rw [if_neg (by omega), if_pos rfl, if_pos (by omega), if_pos (by omega)]
      simp
    · by_cases h2 : c + 1 ≤ j ∧ j < c + 1 + ps.length
      · rw [if_pos h2, if_pos (by omega)]
        have : j - c = (j - (c + 1)) + 1 := by omega
        rw [this, List.getElem?_cons_succ]
      · rw [if_neg h2, if_neg h1, if_neg (by omega)]

theorem splice_get (L cs : List Value) (off k : Nat) (h : off + cs.length ≤ L.length) : (L.take off ++ cs ++ L.drop (off + cs.length))[k]? = if off ≤ k ∧ k < off + cs.length then cs[k - off]? else L[k]? := by
  have h1 : (L.take off).length = off := by rw [List.length_take]; omega
  by_cases ha : k < off
  · rw [if_neg (by omega), List.append_assoc, List.getElem?_append_left (by omega), List.getElem?_take, if_pos ha]
  · by_cases hb : k < off + cs.length
    · rw [if_pos ⟨by omega, hb⟩, List.append_assoc, List.getElem?_append_right (by omega), h1, List.getElem?_append_left (by omega)]
    · rw [if_neg (by omega), List.append_assoc, List.getElem?_append_right (by omega), h1, List.getElem?_append_right (by omega), List.getElem?_drop]
      congr 1
      omega

/-- Cells laid into one row. -/
theorem RRep.store {s : Nat} {rs : List (List PV)} {cur : Array Value} (h : RRep E s rs cur) {i c : Nat} {r ps : List PV} {us : List Value} (hr : rs[i]? = some r) (hc : c + ps.length ≤ s) (hl : us.length = ps.length)
    (h1 : ∀ u ∈ us, u.oneCell' = true) (hrep : ∀ (j : Nat) p u, ps[j]? = some p → us[j]? = some u → RepV E p u) :
    RRep E s (rs.set i (setCells r c ps)) (cur.toList.take (i * s + c) ++ us ++ cur.toList.drop (i * s + c + us.length)).toArray := by
  have hi : i < rs.length := by
    rcases Nat.lt_or_ge i rs.length with h' | h'
    · exact h'
    · rw [List.getElem?_eq_none h'] at hr; cases hr
  have hrl : r.length = s := h.1 r (List.mem_of_getElem? hr)
  have hle : (i + 1) * s ≤ rs.length * s := Nat.mul_le_mul_right _ hi
  rw [Nat.succ_mul] at hle
  have hcur := h.2.1
  have hfit : i * s + c + us.length ≤ cur.toList.length := by (have e : cur.toList.length = cur.size := Array.length_toList; omega)
  refine ⟨fun q hq => ?_, ?_, fun i' j pv hp => ?_⟩
  · rcases List.mem_or_eq_of_mem_set hq with hq | rfl
    · exact h.1 q hq
    · rw [setCells_length]; exact hrl
  · rw [List.length_set, List.size_toArray]
    simp only [List.length_append, List.length_take, List.length_drop]
    have e : cur.toList.length = cur.size := Array.length_toList
    omega
  · rw [List.getElem?_toArray, splice_get _ _ _ _ hfit]
    by_cases e : i' = i
    · subst e
      simp only [at2, List.getElem?_set, if_true, hi, Option.bind_some] at hp
      rw [setCells_get ps r c j (by omega)] at hp
      split at hp
      · rename_i hj
        rw [if_pos (by omega)]
        have e2 : i' * s + j - (i' * s + c) = j - c := by omega
        rw [e2]
        have hlt : j - c < us.length := by omega
        exact ⟨us[j - c], List.getElem?_eq_getElem hlt, h1 _ (List.getElem_mem hlt), hrep _ pv _ hp (List.getElem?_eq_getElem hlt)⟩
      · rename_i hj
        have hp' : at2 rs i' j = some pv := by simp [at2, hr, hp]
        have hj2 := (at2_lt h.1 hp').2
        rw [if_neg (by omega), Array.getElem?_toList]
        exact h.2.2 i' j pv hp'
    · have hp' : at2 rs i' j = some pv := by
        simp only [at2] at hp ⊢
        rw [List.getElem?_set, if_neg (fun x => e x.symm)] at hp
        exact hp
      have hj2 := (at2_lt h.1 hp').2
      have hne : ¬ (i * s + c ≤ i' * s + j ∧ i' * s + j < i * s + c + us.length) := by
        rcases Nat.lt_or_ge i' i with h' | h'
        · have : (i' + 1) * s ≤ i * s := Nat.mul_le_mul_right _ h'
          rw [Nat.succ_mul] at this
          omega
        · have : (i + 1) * s ≤ i' * s := Nat.mul_le_mul_right _ (by omega)
          rw [Nat.succ_mul] at this
          omega
      rw [if_neg hne, Array.getElem?_toList]
      exact h.2.2 i' j pv hp'

theorem store_sound {o : Oper} {t : TypeId} {ax x : Operand} {pp px : POpd} {k : Nat} {pa pv : PV} {H' : PH} (ho : o.op = .store t ax x) (hs : T.size t = some k) (hp : T.opd ax = some pp) (hx : T.opd x = some px)
    (hpa : pp.ev F = some pa) (hpv : px.ev F = some pv) (hlen : pv.cells.length = k) (hst : storeAt H pa pv.cells = some H') (hA : ARel n E F a) (hW : WRel E H w) (hN : E.num = T.num) :
    ∃ w', (execOp a.eval o).run T.P w = .ok .skip w' ∧ WRel E H' w' ∧ Ext E H w E H' w' := by
  unfold storeAt at hst
  split at hst
  · rename_i q size i c
    split at hst
    · rename_i s rs hq
      split at hst
      · rename_i hcond
        obtain ⟨rfl, hcl, hone⟩ := hcond
        split at hst
        · rename_i r hr
          cases hst
          have ra := opd_sound hp hpa hA hN
          generalize hea : a.eval ax = ea at ra
          cases ra
          obtain ⟨c1, c2, c3⟩ := cells_rep (opd_sound hx hpv hA hN) hone
          obtain ⟨-, cur, ty, hh, hsz, hrow, hlen', hcell⟩ := hW.h q _ hq
          have hR : RRep E s rs cur := ⟨hrow, hlen', hcell⟩
          have hi : i < rs.length := by
            rcases Nat.lt_or_ge i rs.length with h' | h'
            · exact h'
            · rw [List.getElem?_eq_none h'] at hr; cases hr
          have hle : (i + 1) * s ≤ rs.length * s := Nat.mul_le_mul_right _ hi
          rw [Nat.succ_mul] at hle
          have hul : (a.eval x).cells.toList.length = pv.cells.length := by simpa using c1
          have hfit : i * s + c + 0 + (a.eval x).cells.toList.length ≤ cur.size := by omega
          have hrun := run_storeCells_at T.P q (i * s + c) ty (a.eval x).cells.toList 0 cur w hh hfit c2
          simp only [Nat.add_zero] at hrun
          obtain ⟨g1, g2⟩ := hW.setRows hq hh (cs := (cur.toList.take (i * s + c) ++ (a.eval x).cells.toList ++ cur.toList.drop (i * s + c + (a.eval x).cells.toList.length)).toArray)
            (by rw [List.size_toArray]; simp only [List.length_append, List.length_take, List.length_drop]; have e : cur.toList.length = cur.size := Array.length_toList; omega)
            (hR.store hr hcl hul c2 (fun j p u hp hu => c3 j p u hp (by simpa using hu)))
          refine ⟨_, ?_, g1, g2⟩
          unfold execOp
          rw [ho]
          have hne : ¬ ((a.eval x).cells.size ≠ k) := by rw [c1, hlen]; simp
          simp [hea, Instr.storeAt, Instr.sureAddr, storeVar, run_size hs, hne, hrun]
        · cases hst
      · cases hst
    · cases hst
  · cases hst

end
end Go.PM
