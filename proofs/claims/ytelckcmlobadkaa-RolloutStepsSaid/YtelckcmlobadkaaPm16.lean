/-
  PM16: append. No condition.
-/
import Derived.Test.YtelckcmlobadkaaPm15
set_option linter.unusedSimpArgs false
set_option linter.unusedVariables false
namespace Go.PM
open Go Go.RowKit

section
variable {T : Tbl} {n : Nat} {E : Env} {F : PF} {H : PH} {a : Act} {w : World}

theorem src_cells {s : Nat} {pv : PV} {v : Value} {rows : List (List PV)} (P : Program) (hW : WRel E H w) (hv : RepV E pv v) (h : viewRows H s pv = some rows) :
    ∃ ad cap, ∃ news : List Value, v = .slice ad rows.length cap ∧ news.length = rows.length * s ∧ (∀ u ∈ news, u.oneCell' = true) ∧ (∀ r ∈ rows, r.length = s) ∧
      (∀ i j q, at2 rows i j = some q → ∃ u, news[i * s + j]? = some u ∧ RepV E q u) ∧
      ∀ wx : World, wx.heap = w.heap → (Builtin.firstCells s rows.length v).run P wx = .ok news.toArray wx := by
  obtain ⟨ad, cap, rfl, hcap, hrow, hc⟩ := view_sound hW hv h
  by_cases hne : rows = []
  · subst hne
    refine ⟨ad, cap, [], rfl, by simp, by simp, by simp, fun i j q hq => by simp [at2] at hq, fun wx _ => ?_⟩
    cases ad with
    | none => simp [Builtin.firstCells]
    | some x => simp [Builtin.firstCells, Go.loadCells, Go.loadCellsFrom]
  · obtain ⟨b, off, rfl, hcell⟩ := hc hne
    have hat : ∀ k, k < rows.length * s → ∃ u q, at2 rows (k / s) (k % s) = some q ∧ w.cell? ⟨b, off + k, none⟩ = some u ∧ u.oneCell' = true ∧ RepV E q u := by
      intro k hk
      have hs : 0 < s := by
        rcases Nat.eq_zero_or_pos s with h | h
        · subst h; simp at hk
        · exact h
      have h1 : k / s < rows.length := (Nat.div_lt_iff_lt_mul hs).2 hk
      have h2 : k % s < s := Nat.mod_lt _ hs
      have h3 : k / s * s + k % s = k := by rw [Nat.mul_comm]; exact Nat.div_add_mod k s
      have hq : ∃ q, at2 rows (k / s) (k % s) = some q := by
        have hl := hrow rows[k / s] (List.getElem_mem h1)
        exact ⟨rows[k / s][k % s]'(by omega), by simp [at2, h1, List.getElem?_eq_getElem (show k % s < rows[k / s].length by omega)]⟩
      obtain ⟨q, hq⟩ := hq
      obtain ⟨u, g1, g2, g3⟩ := hcell _ _ q hq
      rw [h3] at g1
      exact ⟨u, q, hq, g1, g2, g3⟩
    refine ⟨_, cap, (List.range (rows.length * s)).map fun k => (w.cell? ⟨b, off + k, none⟩).getD undef, rfl, by simp, ?_, hrow, ?_, ?_⟩
    · intro u hu
      simp only [List.mem_map, List.mem_range] at hu
      obtain ⟨k, hk, rfl⟩ := hu
      obtain ⟨u, q, -, g1, g2, -⟩ := hat k hk
      simp [g1, g2]
    · intro i j q hq
      obtain ⟨hi, hj⟩ := at2_lt hrow hq
      have hlt : i * s + j < rows.length * s := by
        have : (i + 1) * s ≤ rows.length * s := Nat.mul_le_mul_right _ hi
        rw [Nat.succ_mul] at this
        omega
      obtain ⟨u, g1, g2, g3⟩ := hcell i j q hq
      refine ⟨u, ?_, g3⟩
      rw [List.getElem?_map, List.getElem?_range hlt]
      simp [g1]
    · intro wx hwx
      refine run_firstCells_some wx s rows.length _ _ cap _ (by simp) (fun j u hu => ?_)
      rw [add_plain]
      simp only [List.getElem?_map, Option.map_eq_some_iff] at hu
      obtain ⟨k, hk, rfl⟩ := hu
      have hjk : j < rows.length * s := by
        rcases Nat.lt_or_ge j (rows.length * s) with h' | h'
        · exact h'
        · rw [List.getElem?_eq_none (by simpa using h')] at hk; cases hk
      rw [List.getElem?_range hjk] at hk
      cases hk
      obtain ⟨u, q, -, g1, -, -⟩ := hat j hjk
      have : wx.cell? ⟨b, off + j, none⟩ = w.cell? ⟨b, off + j, none⟩ := by simp [World.cell?, hwx]
      rw [this, g1]
      rfl

theorem run_app_stay {t ty e : TypeId} {i : TypeInfo} (ht : T.P.underlying t = some (.slice e)) (hi : T.P.info? e = some i) (base : Option Addr) (sLen sCap c : Nat) (ad : Option Addr) (hle : sLen ≤ sCap)
    (hf : (Builtin.firstCells i.size 0 (.slice ad 0 c)).run T.P w = .ok #[] w) : (Builtin.append_ #[t, t] ty #[.slice base sLen sCap, .slice ad 0 c]).run T.P w = .ok (.slice base sLen sCap) w := by
  cases base with
  | none => simp [Builtin.append_, run_underlying ht, sizeOf, typeInfo, hi, Builtin.lenOf, hle, hf]
  | some b => simp [Builtin.append_, run_underlying ht, sizeOf, typeInfo, hi, Builtin.lenOf, hle, hf, storeCells]

theorem run_app_room {t ty e bt : TypeId} {i : TypeInfo} (ht : T.P.underlying t = some (.slice e)) (hi : T.P.info? e = some i) (g sLen sCap m c : Nat) (ad : Option Addr) (cur : Array Value) (hg : w.heap[g]? = some (.cells cur bt (0, 0)))
    (news : List Value) (hl : news.length = m * i.size) (hf : (Builtin.firstCells i.size m (.slice ad m c)).run T.P w = .ok news.toArray w) (h1 : ∀ u ∈ news, u.oneCell' = true) (hroom : sLen + m ≤ sCap) (hfit : sLen * i.size + news.length ≤ cur.size) :
    (Builtin.append_ #[t, t] ty #[.slice (some ⟨g, 0, none⟩) sLen sCap, .slice ad m c]).run T.P w =
      .ok (.slice (some ⟨g, 0, none⟩) (sLen + m) sCap) (w.setRow g (cur.toList.take (sLen * i.size) ++ news ++ cur.toList.drop (sLen * i.size + news.length)).toArray) := by
  have hst := run_storeCells_at T.P g (sLen * i.size) bt news 0 cur w hg (by simpa using hfit) h1
  simp only [Nat.add_zero] at hst
  simp [Builtin.append_, run_underlying ht, sizeOf, typeInfo, hi, Builtin.lenOf, hroom, hf, Addr.add_lit, hst]

theorem run_app_grow {t ty e : TypeId} {i : TypeInfo} {z : Value} (ht : T.P.underlying t = some (.slice e)) (hi : T.P.info? e = some i) (hz : i.zero = some z) (base : Option Addr) (sLen sCap m c : Nat) (ad : Option Addr) (olds news : List Value)
    (ho : (Builtin.firstCells i.size sLen (.slice base sLen sCap)).run T.P w.drew = .ok olds.toArray w.drew) (hf : (Builtin.firstCells i.size m (.slice ad m c)).run T.P w.drew = .ok news.toArray w.drew)
    (hg : sCap < sLen + m) (h63 : sLen + m ≤ maxLen) (hb : (sLen + m) * i.bytes ≤ 140737488355328) :
    (Builtin.append_ #[t, t] ty #[.slice base sLen sCap, .slice ad m c]).run T.P w =
      .ok (.slice (some ⟨w.heap.size, 0, none⟩) (sLen + m) (grownCap w (sLen + m) sCap e))
        (w.drew.alloc (.cells (olds.toArray ++ news.toArray ++ Builtin.zeroCells z.cells (grownCap w (sLen + m) sCap e - (sLen + m))) e)) := by
  have hn : ¬ (sLen + m ≤ sCap) := by omega
  simp only [maxLen] at h63
  have h63' : ¬ (9223372036854775807 < ((sLen : Int) + (m : Int))) := by omega
  have hfit := growslice_fits hg hb
  have h48' : ¬ (281474976710656 < Builtin.nextslicecap (sLen + m) sCap * i.bytes) := by omega
  simp [Builtin.append_, run_underlying ht, sizeOf, typeInfo, zeroValue, hi, hz, Builtin.lenOf, hn, h63', h48', Question.forced, hf, ho, newRow, grownCap]
  congr 2
  apply Array.ext'
  simp [List.append_assoc]

theorem WRel.drew (hW : WRel E H w) : WRel E H w.drew := ⟨hW.g, fun o x ho => ⟨(hW.h o x ho).1, (hW.h o x ho).2.mono (.refl E) rfl⟩, hW.s⟩
theorem Ext.of_drew {E' : Env} {H' : PH} {w' : World} (h : Ext E H w.drew E' H' w') : Ext E H w E' H' w' := ⟨h.env, h.os, h.tape, h.output, h.size, h.block, h.new, h.newG⟩

theorem at2_append {rs src : List (List PV)} (i j : Nat) : at2 (rs ++ src) i j = if i < rs.length then at2 rs i j else at2 src (i - rs.length) j := by
  unfold at2
  rw [List.getElem?_append]
  split <;> rfl

/-- Old rows, new rows, and what lies behind them. -/
theorem RRep.join {s : Nat} {rs src : List (List PV)} {olds news : List Value} {tail : List Value} (h1 : ∀ r ∈ rs, r.length = s) (h2 : ∀ r ∈ src, r.length = s) (hlo : olds.length = rs.length * s) (hln : news.length = src.length * s)
    (ho : ∀ i j q, at2 rs i j = some q → ∃ u, olds[i * s + j]? = some u ∧ u.oneCell' = true ∧ RepV E q u) (hn : ∀ i j q, at2 src i j = some q → ∃ u, news[i * s + j]? = some u ∧ u.oneCell' = true ∧ RepV E q u) :
    RRep E s (rs ++ src) (olds ++ news ++ tail).toArray := by
  refine ⟨fun r hr => ?_, ?_, fun i j q hq => ?_⟩
  · rcases List.mem_append.1 hr with h | h
    · exact h1 r h
    · exact h2 r h
  · rw [List.size_toArray, List.length_append, List.length_append, List.length_append, hlo, hln, Nat.add_mul]
    omega
  · rw [at2_append] at hq
    rw [List.getElem?_toArray]
    split at hq
    · rename_i hi
      obtain ⟨u, g1, g2, g3⟩ := ho i j q hq
      refine ⟨u, ?_, g2, g3⟩
      have hlt : i * s + j < olds.length := by
        rcases Nat.lt_or_ge (i * s + j) olds.length with h' | h'
        · exact h'
        · rw [List.getElem?_eq_none h'] at g1; cases g1
      rw [List.append_assoc, List.getElem?_append_left hlt]
      exact g1
    · rename_i hi
      obtain ⟨u, g1, g2, g3⟩ := hn _ j q hq
      refine ⟨u, ?_, g2, g3⟩
      have hlt : (i - rs.length) * s + j < news.length := by
        rcases Nat.lt_or_ge ((i - rs.length) * s + j) news.length with h' | h'
        · exact h'
        · rw [List.getElem?_eq_none h'] at g1; cases g1
      have e : i * s + j = olds.length + ((i - rs.length) * s + j) := by
        rw [hlo, ← Nat.add_assoc, ← Nat.add_mul]
        congr 2
        omega
      rw [e, List.append_assoc, List.getElem?_append_right (by omega), Nat.add_sub_cancel_left, List.getElem?_append_left hlt]
      exact g1

theorem PH.set_self {o : Nat} {x : PObj} (h : H o = some x) : H.set o x = H := by
  apply PH.ext
  intro q
  rw [set_apply]
  split
  · rename_i e; subst e; exact h.symm
  · rfl

theorem WRel.dead (hW : WRel E H w) {o : Nat} {x : PObj} (ho : H o = some x) : WRel E (H.set o .dead) w ∧ Ext E H w E (H.set o .dead) w := by
  refine ⟨⟨fun b ds hb => ⟨fun y hy => ?_, (hW.g b ds hb).2⟩, fun q y hq => ?_, hW.s⟩, ⟨.refl E, rfl, rfl, rfl, Nat.le_refl _, fun _ _ _ => rfl, fun q y hq => ?_, fun b ds hb => .inl hb⟩⟩
  · rw [set_apply] at hy
    split at hy
    · cases hy; rfl
    · exact (hW.g b ds hb).1 y hy
  · rw [set_apply] at hq
    split at hq
    · rename_i e
      subst e
      cases hq
      exact ⟨(hW.h q x ho).1, trivial⟩
    · exact hW.h q y hq
  · rw [set_apply] at hq
    split at hq
    · rename_i e; subst e; exact .inl ⟨x, ho⟩
    · exact .inl ⟨y, hq⟩

end
end Go.PM
