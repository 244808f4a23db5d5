/-
  PM11: 'peval' is sound. No condition.
-/
import Derived.Test.YtelckcmlobadkaaPm10
import Derived.Laws.BytesArg
set_option linter.unusedSimpArgs false
set_option linter.unusedVariables false
namespace Go.PM
open Go Go.RowKit

section
variable {T : Tbl} {n : Nat} {E : Env} {F : PF} {H : PH} {a : Act} {w : World}

/-- The rows that a slice value shows lie in memory. -/
theorem view_sound {s : Nat} {pv : PV} {v : Value} {rows : List (List PV)} (hW : WRel E H w) (hv : RepV E pv v) (h : viewRows H s pv = some rows) :
    ∃ ad cap, v = .slice ad rows.length cap ∧ rows.length ≤ cap ∧ (∀ r ∈ rows, r.length = s) ∧ (rows ≠ [] → ∃ b off, ad = some ⟨b, off, none⟩ ∧
      ∀ i j q, at2 rows i j = some q → ∃ u, w.cell? ⟨b, off + (i * s + j), none⟩ = some u ∧ u.oneCell' = true ∧ RepV E q u) := by
  unfold viewRows at h
  split at h
  · cases h; cases hv
    exact ⟨none, 0, rfl, Nat.le_refl _, by simp, fun h => absurd rfl h⟩
  · rename_i s0 rs
    split at h
    · rename_i e
      subst e
      cases h
      cases hv with
      | sl u hcap hmax hrow ha ho hr =>
      rename_i a0 cap
      refine ⟨a0, cap, rfl, hcap, hrow, fun hne => ?_⟩
      obtain ⟨ad, rfl, hsp, hc⟩ := ha hne
      refine ⟨ad.block, ad.off, by rw [← addr_eta hsp], fun i j q hq => ⟨u i j, ?_, ho i j, hr i j q hq⟩⟩
      have := hW.cell_ro (hc i j q hq)
      rw [← this]
      congr 2
      omega
    · cases h
  · rename_i o s0 off len
    split at h
    · rename_i e
      subst e
      split at h
      · rename_i s' rs ho
        split at h
        · rename_i hc
          cases h
          obtain ⟨rfl, hle⟩ := hc
          obtain ⟨hlt, cur, ty, hh, hsz, hrow, hlen, hcell⟩ := hW.h o _ ho
          cases hv with
          | osl hb hsp hoff hlen' hmax hn hroom =>
          rename_i cap N ad
          have hl : ((rs.drop off).take len).length = len := by rw [List.length_take, List.length_drop]; omega
          refine ⟨some ad, cap, by rw [hl], by omega, fun r hr => hrow r (List.mem_of_mem_drop (List.mem_of_mem_take hr)), fun hne => ?_⟩
          have hpos : 0 < ((rs.drop off).take len).length := List.length_pos_iff.2 hne
          have hoff' : ad.off = off * s' := by
            rcases hoff with h | h
            · omega
            · exact h
          have had : ad = ⟨o, off * s', none⟩ := by cases ad; simp_all
          subst had
          refine ⟨o, off * s', rfl, fun i j q hq => ?_⟩
          have hq' : at2 rs (off + i) j = some q := by
            unfold at2 at hq ⊢
            rw [List.getElem?_take] at hq
            split at hq
            · rw [List.getElem?_drop] at hq; exact hq
            · simp at hq
          obtain ⟨u, h1, h2, h3⟩ := hcell (off + i) j q hq'
          refine ⟨u, ?_, h2, h3⟩
          rw [cell_of_row w o _ cur ty (0, 0) hh, ← h1]
          congr 1
          rw [Nat.add_mul]; omega
        · cases h
      · cases h
    · cases h
  · cases h

theorem byteRows_form : ∀ {rows : List (List PV)} {l : List UInt8}, byteRows rows = some l → ∃ ns : List Int, rows = ns.map (fun n => [PV.int .u8 n]) ∧ l = ns.map fun n => UInt8.ofNat n.toNat
  | [], l, h => by simp [byteRows] at h; exact ⟨[], by simp [h]⟩
  | r :: rows, l, h => by
    unfold byteRows at h
    split at h
    · exact ⟨[], by simp at *⟩
    · rename_i m rest heq
      cases heq
      simp only [Option.map_eq_some_iff] at h
      obtain ⟨l', hl', rfl⟩ := h
      obtain ⟨ns, h1, h2⟩ := byteRows_form hl'
      exact ⟨m :: ns, by simp [h1], by simp [h2]⟩
    · cases h

theorem bytes2str_sound {src dst e : TypeId} {pv : PV} {v : Value} {rows : List (List PV)} {l : List UInt8} (hs : T.P.underlying src = some (.slice e)) (he : T.P.underlying e = some (.int .u8)) (hd : T.P.underlying dst = some .string)
    (hW : WRel E H w) (hv : RepV E pv v) (hr : viewRows H 1 pv = some rows) (hb : byteRows rows = some l) : ∃ u, (convert src dst v).run T.P w = .ok u w ∧ RepV E (.str l) u := by
  obtain ⟨ad, cap, rfl, hcap, hrow, hcell⟩ := view_sound hW hv hr
  obtain ⟨ns, rfl, rfl⟩ := byteRows_form hb
  by_cases hne : ns = []
  · subst hne
    refine ⟨.string ByteArray.empty, ?_, RepV.str ByteArray.empty⟩
    cases ad with
    | none => exact run_convert_bytes_nil w src e hs he _ _ dst hd
    | some x =>
      rw [run_convert_bytes_string w src dst e _ _ _ hs he hd]
      have := run_bytesToString (P := T.P) w x 0 cap [] (by simp [Go.loadCells, Go.loadCellsFrom])
      simpa using this
  · obtain ⟨b, off, rfl, hc⟩ := hcell (by simpa using hne)
    have hl : (ns.map fun n => [PV.int .u8 n]).length = ns.length := by simp
    refine ⟨.string (strOfNums ns), ?_, ?_⟩
    · rw [hl]
      refine run_convert_bytes_arg w src e hs he b off ns.length cap ns rfl (fun i hi => ?_) dst hd
      obtain ⟨u, h1, h2, h3⟩ := hc i 0 (.int .u8 ns[i]) (by simp [at2, hi])
      cases h3
      simp only [Nat.mul_one, Nat.add_zero] at h1
      rw [h1]
      simp [List.getD, hi]
    · have := RepV.str (E := E) (strOfNums ns)
      rw [strOfNums_data] at this
      exact this

theorem evs_len {xs : List POpd} {vs : List PV} (h : POpd.evs F xs = some vs) : vs.length = xs.length := by
  induction xs generalizing vs with
  | nil => simp [POpd.evs] at h; subst h; rfl
  | cons x xs ih =>
    simp only [POpd.evs] at h
    split at h
    · rename_i v ws hv hws
      cases h
      simp [ih hws]
    · cases h

theorem RepVs.len {ps : List PV} {vs : List Value} (h : RepVs E ps vs) : vs.length = ps.length := by
  induction h with
  | nil => rfl
  | cons _ _ ih => simp [ih]

theorem RepVs.at_ {ps : List PV} {vs : List Value} (h : RepVs E ps vs) : ∀ (j : Nat) p v, ps[j]? = some p → vs[j]? = some v → RepV E p v := by
  induction h with
  | nil => intro j p v hp; simp at hp
  | cons h _ ih =>
    intro j p v hp hv
    cases j with
    | zero => simp at hp hv; subst hp; subst hv; exact h
    | succ j => exact ih j p v (by simpa using hp) (by simpa using hv)

theorem RepVs.mono {E' : Env} (hE : E.le E') {ps : List PV} {vs : List Value} (h : RepVs E ps vs) : RepVs E' ps vs := by
  induction h with
  | nil => exact .nil
  | cons h _ ih => exact .cons (h.mono hE) ih

def POp.isCall : POp → Bool
  | .call .. | .callv .. => true
  | _ => false

theorem value_run {P : Program} {o : Oper} {s : Sem Value} {v : Value} {w w' : World} (h : execOp a.eval o = (do pure (.value (← s)) : Sem Next)) (hr : s.run P w = .ok v w') : (execOp a.eval o).run P w = .ok (.value v) w' := by
  rw [h]; simp [hr]

end
end Go.PM
