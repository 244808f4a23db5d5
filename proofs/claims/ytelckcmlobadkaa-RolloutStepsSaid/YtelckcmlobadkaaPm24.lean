/-
  PM24: what a row's arguments are: from their readings to pure values. No condition.
-/
import Derived.Test.YtelckcmlobadkaaPm23
import Derived.ProofKit
set_option linter.unusedSimpArgs false
set_option linter.unusedVariables false
namespace Go.PM
open Go Go.RowKit

/-- The kinds of cells. -/
inductive CT where
  | int (k : IntKind)
  | bool
  | str
  | sl (es : List CT)
  deriving Inhabited

def cellsFields (P : Program) (rec : TypeId → Option (List CT)) : Nat → List Field → Option (List CT)
  | _, [] => some []
  | k, f :: fs => match rec f.type with
    | some cts => if f.offset = k ∧ P.cellsOf f.type = cts.length then (cellsFields P rec (k + cts.length) fs).map (cts ++ ·) else none
    | none => none

def cellsTy (P : Program) : Nat → TypeId → Option (List CT)
  | 0, _ => none
  | n + 1, t => match P.underlying t with
    | some .bool => some [.bool]
    | some (.int k) => some [.int k]
    | some .string => some [.str]
    | some (.slice e) => match cellsTy P n e with
      | some cts => if P.cellsOf e = cts.length ∧ 0 < cts.length then some [.sl cts] else none
      | none => none
    | some (.struct fs) => match cellsFields P (cellsTy P n) 0 fs.toList with
      | some cts => if P.cellsOf t = cts.length then some cts else none
      | none => none
    | _ => none

inductive PV.Ty : CT → PV → Prop
  | int {k : IntKind} {n : Int} (h : (Lit.int k n).wf = true) : PV.Ty (.int k) (.int k n)
  | bool (b : Bool) : PV.Ty .bool (.bool b)
  | str {s : List UInt8} (h : s.length ≤ maxLen) : PV.Ty .str (.str s)
  | sl {es : List CT} {rows : List (List PV)} (hr : ∀ r ∈ rows, r.length = es.length) (hl : rows.length ≤ maxLen) (h : ∀ (i j : Nat) pv ct, at2 rows i j = some pv → es[j]? = some ct → PV.Ty ct pv) : PV.Ty (.sl es) (.sl es.length rows)

/-- The world at the start: all blocks of cells are read-only. -/
def Env.of (W : World) (num : Nat → FuncId) : Env := ⟨fun b => match W.heap[b]? with | some (.cells cs _ _) => some cs | _ => none, fun _ => none, num⟩

theorem WRel.start (W : World) (num : Nat → FuncId) : WRel (Env.of W num) PH.nil W := by
  refine ⟨fun b cs hb => ⟨fun x hx => (by cases hx), ?_⟩, fun o x hx => (by cases hx), fun o n h => (by cases h)⟩
  simp only [Env.of] at hb
  split at hb
  · rename_i c ty fr h
    cases hb
    exact ⟨ty, fr, h⟩
  · cases hb

structure Reads (E : Env) (cts : List CT) (pvs : List PV) (cs : List Value) : Prop where
  lp : pvs.length = cts.length
  lc : cs.length = cts.length
  rep : ∀ (j : Nat) pv c, pvs[j]? = some pv → cs[j]? = some c → RepV E pv c ∧ c.oneCell' = true
  ty : ∀ (j : Nat) pv ct, pvs[j]? = some pv → cts[j]? = some ct → PV.Ty ct pv

theorem Reads.one {E : Env} {ct : CT} {pv : PV} {c : Value} (h : RepV E pv c) (h1 : c.oneCell' = true) (ht : PV.Ty ct pv) : Reads E [ct] [pv] [c] := by
  refine ⟨rfl, rfl, fun j p u a b => ?_, fun j p u a b => ?_⟩
  · cases j with
    | zero => simp at a b; subst a; subst b; exact ⟨h, h1⟩
    | succ j => simp at a
  · cases j with
    | zero => simp at a b; subst a; subst b; exact ht
    | succ j => simp at a

theorem Reads.append {E : Env} {ct1 ct2 : List CT} {p1 p2 : List PV} {c1 c2 : List Value} (h : Reads E ct1 p1 c1) (k : Reads E ct2 p2 c2) : Reads E (ct1 ++ ct2) (p1 ++ p2) (c1 ++ c2) := by
  refine ⟨by simp [h.lp, k.lp], by simp [h.lc, k.lc], fun j p u a b => ?_, fun j p u a b => ?_⟩
  · rcases Nat.lt_or_ge j p1.length with hj | hj
    · rw [List.getElem?_append_left hj] at a
      rw [List.getElem?_append_left (by rw [h.lc, ← h.lp]; exact hj)] at b
      exact h.rep j p u a b
    · rw [List.getElem?_append_right hj] at a
      rw [List.getElem?_append_right (by rw [h.lc, ← h.lp]; exact hj)] at b
      rw [show j - c1.length = j - p1.length by rw [h.lc, h.lp]] at b
      exact k.rep _ p u a b
  · rcases Nat.lt_or_ge j p1.length with hj | hj
    · rw [List.getElem?_append_left hj] at a
      rw [List.getElem?_append_left (by rw [← h.lp]; exact hj)] at b
      exact h.ty j p u a b
    · rw [List.getElem?_append_right hj] at a
      rw [List.getElem?_append_right (by rw [← h.lp]; exact hj)] at b
      rw [show j - ct1.length = j - p1.length by rw [h.lp]] at b
      exact k.ty _ p u a b

theorem cell_start {W : World} {num : Nat → FuncId} {a : Addr} {v : Value} (h : W.cell? a = some v) : a.spot = none ∧ (Env.of W num).cell a.block a.off = some v := by
  unfold World.cell? at h
  split at h
  · rename_i c ty fr hb
    split at h
    · cases h
    · rename_i hs
      refine ⟨by simpa using hs, ?_⟩
      simp only [Env.cell, Env.of, hb]
      exact h
  · cases h

theorem fields_reads {P : Program} {E : Env} {rec : TypeId → Option (List CT)} {H : Type} {f : TypeId → List Value → Option (DataW H × List MemPlace)}
    (ih : ∀ t cs x cts, f t cs = some x → rec t = some cts → ∃ pvs, Reads E cts pvs cs) (cs : List Value) :
    ∀ (fs : List Field) (k : Nat) (cts : List CT), (∀ g ∈ fs, ∃ x, f g.type ((cs.drop g.offset).take (P.cellsOf g.type)) = some x) → cellsFields P rec k fs = some cts →
      ∃ pvs, Reads E cts pvs ((cs.drop k).take cts.length)
  | [], k, cts, _, h => by
    simp [cellsFields] at h; subst h
    exact ⟨[], rfl, by simp, fun j p c a => by simp at a, fun j p c a => by simp at a⟩
  | g :: fs, k, cts, hm, h => by
    simp only [cellsFields] at h
    split at h
    · rename_i c1 h1
      split at h
      · rename_i hc
        simp only [Option.map_eq_some_iff] at h
        obtain ⟨c2, h2, rfl⟩ := h
        obtain ⟨x, hx⟩ := hm g (by simp)
        obtain ⟨p1, r1⟩ := ih _ _ _ _ hx h1
        rw [hc.1, hc.2] at r1
        obtain ⟨p2, r2⟩ := fields_reads ih cs fs (k + c1.length) c2 (fun g' hg' => hm g' (by simp [hg'])) h2
        refine ⟨p1 ++ p2, ?_⟩
        have := r1.append r2
        rw [List.length_append, List.take_add, List.drop_drop]
        exact this
      · cases h
    · cases h

theorem trod_reads {H : Type} {enc : TypeId × Value → H} {P : Program} {W : World} {base : Nat} {sp : Nat → Bool} {held : Bool} (num : Nat → FuncId) :
    ∀ (fuel m : Nat) (t : TypeId) (cs : List Value) (x : DataW H × List MemPlace) (cts : List CT), DataW.trod enc P W base sp held fuel t cs = some x → cellsTy P m t = some cts → ∃ pvs, Reads (Env.of W num) cts pvs cs := by
  intro fuel
  induction fuel with
  | zero => intro m t cs x cts h; simp [DataW.trod] at h
  | succ fuel ih =>
    intro m t cs x cts h hc
    cases m with
    | zero => simp [cellsTy] at hc
    | succ m =>
      simp only [cellsTy] at hc
      split at hc
      · rename_i hu
        cases hc
        obtain ⟨b, rfl, -⟩ := DataW.trod_bool hu h
        exact ⟨[.bool b], .one (.bool b) rfl (.bool b)⟩
      · rename_i k hu
        cases hc
        obtain ⟨n, rfl, -, hw⟩ := DataW.trod_int hu h
        exact ⟨[.int k n], .one (.int k n) rfl (.int hw)⟩
      · rename_i hu
        cases hc
        obtain ⟨s, rfl, -, hs⟩ := DataW.trod_string hu h
        exact ⟨[.str s.data.toList], .one (.str s) rfl (.str (by rw [Array.length_toList]; exact hs))⟩
      · rename_i e hu
        split at hc
        · rename_i ces he
          split at hc
          · rename_i hcond
            cases hc
            rcases DataW.trod_slice hu h with ⟨rfl, -⟩ | ⟨a, len, cap, elems, rest, n, hn, rfl, -, -, hlen, hcap, hel, helem, -⟩
            · refine ⟨[.sl ces.length []], .one ?_ rfl (.sl (by simp) (by simp) (by simp [at2]))⟩
              exact .sl (fun _ _ => .bool false) (by simp) (by decide) (by simp) (by simp) (fun _ _ => rfl) (by simp [at2])
            · cases hn
              have each : ∀ i, i < len → ∃ pvs us, Reads (Env.of W num) ces pvs us ∧ W.cells? base (a.add (i * ces.length)) ces.length = some us := by
                intro i hi
                have h1 := helem i hi
                rw [List.getElem?_eq_getElem (by omega), Option.bind_eq_some_iff] at h1
                obtain ⟨us, h2, h3⟩ := h1
                obtain ⟨pvs, r⟩ := ih m e us _ ces h3 he
                rw [hcond.1] at h2
                exact ⟨pvs, us, r, h2⟩
              have each' : ∀ i, ∃ pvs, ∃ us, i < len → Reads (Env.of W num) ces pvs us ∧ W.cells? base (a.add (i * ces.length)) ces.length = some us := by
                intro i
                by_cases hi : i < len
                · obtain ⟨pvs, us, h1⟩ := each i hi
                  exact ⟨pvs, us, fun _ => h1⟩
                · exact ⟨[], [], fun h => (hi h).elim⟩
              obtain ⟨pf, hpf⟩ := Classical.axiomOfChoice each'
              obtain ⟨uf, huf⟩ := Classical.axiomOfChoice hpf
              have hat : ∀ i j pv, at2 ((List.range len).map pf) i j = some pv → i < len ∧ (pf i)[j]? = some pv := by
                intro i j pv hp
                unfold at2 at hp
                rw [List.getElem?_map, Option.bind_eq_some_iff] at hp
                obtain ⟨r, hr, hp⟩ := hp
                rw [Option.map_eq_some_iff] at hr
                obtain ⟨i', hi', rfl⟩ := hr
                have hi : i < len := by simpa using (List.getElem?_eq_some_iff.1 hi').1
                have : i' = i := by simp [hi] at hi'; exact hi'.symm
                subst this
                exact ⟨hi, hp⟩
              have hu : ∀ i j pv, at2 ((List.range len).map pf) i j = some pv → ∃ v, (uf i)[j]? = some v ∧ j < ces.length ∧ RepV (Env.of W num) pv v ∧ v.oneCell' = true := by
                intro i j pv hp
                obtain ⟨hi, hp'⟩ := hat i j pv hp
                obtain ⟨r, -⟩ := huf i hi
                have hj : j < ces.length := by rw [← r.lp]; exact (List.getElem?_eq_some_iff.1 hp').1
                have hv : (uf i)[j]? = some ((uf i)[j]'(by rw [r.lc]; exact hj)) := List.getElem?_eq_getElem _
                exact ⟨_, hv, hj, (r.rep j pv _ hp' hv).1, (r.rep j pv _ hp' hv).2⟩
              have hul : ((List.range len).map pf).length = len := by simp
              refine ⟨[.sl ces.length ((List.range len).map pf)], .one ?_ rfl (.sl (fun r hr => ?_) (by rw [hul]; omega) fun i j pv ct hp hct => ?_)⟩
              · have key := RepV.sl (E := Env.of W num) (size := ces.length) (rows := (List.range len).map pf) (a := some a) (cap := cap)
                  (fun i j => match at2 ((List.range len).map pf) i j with | some _ => ((uf i)[j]?).getD (.bool false) | none => .bool false) (by rw [hul]; exact hlen) hcap
                  (fun r hr => by
                    simp only [List.mem_map, List.mem_range] at hr
                    obtain ⟨i, hi, rfl⟩ := hr
                    exact (huf i hi).1.lp)
                  (fun hne => by
                    have hl0 : 0 < len := by
                      rcases Nat.eq_zero_or_pos len with h | h
                      · subst h; exact (hne rfl).elim
                      · exact h
                    have hsp : a.spot = none := by
                      obtain ⟨r, hc⟩ := huf 0 hl0
                      have h3 := (World.cells?_some hc).2.2 0 hcond.2
                      rw [Nat.zero_mul, Addr.add_zero', Addr.add_zero', List.getElem?_eq_getElem (by rw [r.lc]; exact hcond.2)] at h3
                      exact (cell_start (num := num) h3).1
                    refine ⟨a, rfl, hsp, fun i j pv hp => ?_⟩
                    obtain ⟨hi, -⟩ := hat i j pv hp
                    obtain ⟨v, hv, hj, -⟩ := hu i j pv hp
                    have h3 := (World.cells?_some (huf i hi).2).2.2 j hj
                    rw [addr_eta hsp, add_plain, add_plain, hv] at h3
                    have h4 := (cell_start (num := num) h3).2
                    simp only [hp, hv, Option.getD_some]
                    exact h4)
                  (fun i j => by
                    split
                    · rename_i pv hp
                      obtain ⟨v, hv, -, -, h1⟩ := hu i j pv hp
                      simp [hv, h1]
                    · rfl)
                  (fun i j pv hp => by
                    obtain ⟨v, hv, -, h1, -⟩ := hu i j pv hp
                    simp only [hp, hv, Option.getD_some]
                    exact h1)
                rw [hul] at key
                exact key
              · simp only [List.mem_map, List.mem_range] at hr
                obtain ⟨i, hi, rfl⟩ := hr
                exact (huf i hi).1.lp
              · obtain ⟨hi, hp'⟩ := hat i j pv hp
                exact (huf i hi).1.ty j pv ct hp' hct
          · cases hc
        · cases hc
      · rename_i fs hu
        split at hc
        · rename_i cts' hcf
          split at hc
          · rename_i hlen
            cases hc
            obtain ⟨xs, n, hn, -, hcl, hxl, hx⟩ := DataW.trod_struct hu h
            cases hn
            have := fields_reads (f := DataW.trod enc P W base sp held fuel) (fun t cs x cts a b => ih m t cs x cts a b) cs fs.toList 0 cts (fun g hg => by
              obtain ⟨i, hi, rfl⟩ := List.getElem_of_mem hg
              have := hx i fs.toList[i] (by simp at hi; simp [hi])
              rw [this]
              exact ⟨_, List.getElem?_eq_getElem (by simp at hi; omega)⟩) hcf
            rw [List.drop_zero, List.take_of_length_le (by omega)] at this
            exact this
          · cases hc
        · cases hc
      · cases hc
end Go.PM
