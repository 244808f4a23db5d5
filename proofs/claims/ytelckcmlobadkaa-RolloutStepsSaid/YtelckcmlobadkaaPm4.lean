/-
  PM4: each operation that leaves the objects alone does in the model what 'peval' says. No condition.
-/
import Derived.Test.YtelckcmlobadkaaPm3
set_option linter.unusedSimpArgs false
set_option linter.unusedVariables false
namespace Go.PM
open Go

structure ARel (n : Nat) (E : Env) (F : PF) (a : Act) : Prop where
  size : a.tmps.size = n
  defers : a.defers = []
  t : ∀ i pv, F i = some pv → RepV E pv (a.tmps.getD i undef)

theorem ARel.mono {n : Nat} {E E' : Env} (h : E.le E') {F : PF} {a : Act} (r : ARel n E F a) : ARel n E' F a := ⟨r.size, r.defers, fun i pv hi => (r.t i pv hi).mono h⟩
theorem ARel.weaken {n : Nat} {E : Env} {F F0 : PF} {a : Act} (r : ARel n E F a) (h : F0.le F) : ARel n E F0 a := ⟨r.size, r.defers, fun i pv hi => r.t i pv (h i pv hi)⟩
theorem ARel.put {n : Nat} {E : Env} {F : PF} {a : Act} (r : ARel n E F a) {d : Option Tmp} (hd : d.all (· < n) = true) {pv : PV} {v : Value} (h : RepV E pv v) : ARel n E (F.put d pv) (a.put d v) := by
  cases d with
  | none => exact r
  | some d =>
    have hd' : d < n := by simpa using hd
    refine ⟨by simp [Act.put, r.size], by simp [Act.put, r.defers], fun i qv hi => ?_⟩
    simp only [PF.put, PF.set, upd] at hi
    split at hi
    · rename_i e
      subst e
      cases hi
      simp only [Act.put, Array.getD_eq_getD_getElem?]
      rw [Array.getElem?_setIfInBounds]
      simp [r.size, hd', h]
    · rename_i e
      have := r.t i qv hi
      simp only [Act.put, Array.getD_eq_getD_getElem?] at this ⊢
      rw [Array.getElem?_setIfInBounds, if_neg (by omega)]
      exact this

section
variable {T : Tbl} {n : Nat} {E : Env} {F : PF} {H : PH} {a : Act} {w : World}

theorem opd_sound {x : Operand} {p : POpd} {pv : PV} (hx : T.opd x = some p) (hv : p.ev F = some pv) (hA : ARel n E F a) (hN : E.num = T.num) : RepV E pv (a.eval x) := by
  cases x with
  | tmp t =>
    simp [Tbl.opd] at hx
    subst hx
    exact hA.t t pv hv
  | const v =>
    simp only [Tbl.opd, Option.map_eq_some_iff] at hx
    obtain ⟨q, hq, rfl⟩ := hx
    simp [POpd.ev] at hv
    subst hv
    exact ofValue_rep hq
  | global g => simp [Tbl.opd] at hx
  | func f =>
    simp only [Tbl.opd] at hx
    split at hx
    · rename_i m hm
      split at hx
      · rename_i hf
        cases hx
        simp [POpd.ev] at hv
        subst hv
        have := RepV.fn (E := E) (name := m) (captured := []) #[] rfl (by intro j pv v h; simp at h)
        rw [hN, hf] at this
        exact this
      · cases hx
    · cases hx

theorem opds_sound {xs : List Operand} : ∀ {ps : List POpd} {pvs : List PV}, T.opds xs = some ps → POpd.evs F ps = some pvs → ARel n E F a → E.num = T.num → RepVs E pvs (xs.map a.eval) := by
  induction xs with
  | nil =>
    intro ps pvs h1 h2 _ _
    simp [Tbl.opds] at h1; subst h1
    simp [POpd.evs] at h2; subst h2
    exact .nil
  | cons x xs ih =>
    intro ps pvs h1 h2 hA hN
    simp only [Tbl.opds] at h1
    split at h1
    · rename_i p ps' hp hps
      cases h1
      simp only [POpd.evs] at h2
      split at h2
      · rename_i v vs hv hvs
        cases h2
        exact .cons (opd_sound hp hv hA hN) (ih hps hvs hA hN)
      · cases h2
    · cases h1

theorem WRel.cell_ro (hW : WRel E H w) {b off : Nat} {u : Value} (h : E.cell b off = some u) : w.cell? ⟨b, off, none⟩ = some u := by
  unfold Env.cell at h
  cases hg : E.G b with
  | none => simp [hg] at h
  | some cs =>
    obtain ⟨-, ty, fr, hh⟩ := hW.g b cs hg
    rw [cell_of_row w b off cs ty fr hh]
    simpa [hg] using h

theorem add_plain (b off i : Nat) : (⟨b, off, none⟩ : Addr).add i = ⟨b, off + i, none⟩ := by unfold Addr.add; split <;> simp_all

theorem addr_eta {ad : Addr} (h : ad.spot = none) : ad = ⟨ad.block, ad.off, none⟩ := by cases ad; simp_all

/-- The cells behind a pointer. -/
theorem loadCells_sound {pv : PV} {v : Value} (hW : WRel E H w) (hv : RepV E pv v) {k : Nat} {cs : List PV} (h : loadCells H pv k = some cs) :
    ∃ b off, v = .pointer (some ⟨b, off, none⟩) ∧ cs.length = k ∧ ∃ us : List Value, us.length = k ∧ (∀ u ∈ us, u.oneCell' = true) ∧
      (∀ (j : Nat) u, us[j]? = some u → w.cell? ⟨b, off + j, none⟩ = some u) ∧ ∀ (j : Nat) q u, cs[j]? = some q → us[j]? = some u → RepV E q u := by
  unfold loadCells at h
  split at h
  · rename_i o size i c
    cases hv
    split at h
    · rename_i s rs ho
      split at h
      · rename_i hs
        subst hs
        split at h
        · rename_i r hr
          split at h
          · rename_i hck
            cases h
            obtain ⟨-, cur, ty, hh, hsz, hrow, hlen, hc⟩ := hW.h o _ ho
            have hat : ∀ j, j < k → ∃ u, cur[i * s + (c + j)]? = some u ∧ u.oneCell' = true ∧ RepV E (r.getD (c + j) .junk) u := by
              intro j hj
              refine hc i (c + j) _ ?_
              simp only [at2, hr, Option.bind_some, List.getD_eq_getElem?_getD]
              rw [List.getElem?_eq_getElem (by omega)]
              rfl
            refine ⟨o, i * s + c, rfl, by simp; omega, ?_⟩
            refine ⟨(List.range k).map fun j => (cur[i * s + (c + j)]?).getD undef, by simp, ?_, ?_, ?_⟩
            · intro u hu
              simp only [List.mem_map, List.mem_range] at hu
              obtain ⟨j, hj, rfl⟩ := hu
              obtain ⟨u, h1, h2, -⟩ := hat j hj
              simp [h1, h2]
            · intro j u hu
              simp only [List.getElem?_map, Option.map_eq_some_iff] at hu
              obtain ⟨j', hj', rfl⟩ := hu
              have hjk : j < k := by
                rcases Nat.lt_or_ge j k with h | h
                · exact h
                · rw [List.getElem?_eq_none (by simpa using h)] at hj'; cases hj'
              rw [List.getElem?_range hjk] at hj'
              cases hj'
              obtain ⟨u, h1, -, -⟩ := hat j hjk
              rw [cell_of_row w o _ cur ty (0, 0) hh, Nat.add_assoc, h1]
              rfl
            · intro j q u hq hu
              simp only [List.getElem?_map, Option.map_eq_some_iff] at hu
              obtain ⟨j', hj', rfl⟩ := hu
              have hjk : j < k := by
                rcases Nat.lt_or_ge j k with h | h
                · exact h
                · rw [List.getElem?_eq_none (by simpa using h)] at hj'; cases hj'
              rw [List.getElem?_range hjk] at hj'
              cases hj'
              obtain ⟨u, h1, -, h3⟩ := hat j hjk
              have hqq : r.getD (c + j) .junk = q := by
                rw [List.getElem?_take, if_pos hjk, List.getElem?_drop] at hq
                simp [hq]
              rw [← hqq, h1]
              exact h3
          · cases h
        · cases h
      · cases h
    · cases h
  · rename_i cells
    cases hv with
    | rptr u hsp hc h1 hr =>
    rename_i ad
    split at h
    · rename_i hle
      cases h
      refine ⟨ad.block, ad.off, by rw [← addr_eta hsp], by simp; omega, (List.range k).map u, by simp, ?_, ?_, ?_⟩
      · intro x hx
        simp only [List.mem_map] at hx
        obtain ⟨j, -, rfl⟩ := hx
        exact h1 j
      · intro j x hx
        simp only [List.getElem?_map, Option.map_eq_some_iff] at hx
        obtain ⟨j', hj', rfl⟩ := hx
        have hjk : j < k := by
          rcases Nat.lt_or_ge j k with h | h
          · exact h
          · rw [List.getElem?_eq_none (by simpa using h)] at hj'; cases hj'
        rw [List.getElem?_range hjk] at hj'
        cases hj'
        exact hW.cell_ro (hc j _ (List.getElem?_eq_getElem (by omega)))
      · intro j q x hq hx
        simp only [List.getElem?_map, Option.map_eq_some_iff] at hx
        obtain ⟨j', hj', rfl⟩ := hx
        have hjk : j < k := by
          rcases Nat.lt_or_ge j k with h | h
          · exact h
          · rw [List.getElem?_eq_none (by simpa using h)] at hj'; cases hj'
        rw [List.getElem?_range hjk] at hj'
        cases hj'
        rw [List.getElem?_take, if_pos hjk] at hq
        exact hr j q hq
    · cases h
  · cases h

theorem bin_sound {op : BinOp} {px py pv : PV} {x y : Value} (hx : RepV E px x) (hy : RepV E py y) (h : PV.bin op px py = some pv) (t : TypeId) (ox oy : Operand) :
    ∃ v, (do eqGuard op t ox oy x y; binOp op t x y : Sem Value).run T.P w = .ok v w ∧ RepV E pv v := by
  unfold PV.bin at h
  split at h
  · cases hx; cases hy
    unfold shift at h
    split at h
    · cases h
    · rename_i hb
      cases h
      exact ⟨_, by simp [eqGuard, binOp, Op.shift, hb], .int _ _⟩
  · cases hx; cases hy
    unfold shift at h
    split at h
    · cases h
    · rename_i hb
      cases h
      exact ⟨_, by simp [eqGuard, binOp, Op.shift, hb], .int _ _⟩
  · rename_i op' k a k' b n1 n2
    cases hx; cases hy
    split at h
    · rename_i hk
      subst hk
      cases op <;> simp only [binInt] at h <;>
        first
          | (cases h; refine ⟨_, ?_, RepV.int _ _⟩; simp [eqGuard, binOp, Op.intArith, Op.intBits]; done)
          | (cases h; refine ⟨_, ?_, RepV.bool _⟩; simp [eqGuard, binOp, Op.intCmp]; done)
          | (split at h
             · cases h
             · rename_i hb
               cases h
               refine ⟨_, ?_, RepV.int _ _⟩
               simp [eqGuard, binOp, Op.intDiv, hb])
          | cases h
    · cases h
  · rename_i op' a b
    cases hx with
    | str s =>
    cases hy with
    | str s' =>
    cases op <;> simp only [binStr] at h <;>
      first
        | (cases h; refine ⟨_, ?_, RepV.bool _⟩; simp [eqGuard, binOp, Op.stringOp, ByteArray.toList_eq]; done)
        | (split at h
           · cases h
           · rename_i hb
             cases h
             refine ⟨.string (s ++ s'), ?_, ?_⟩
             · have hb' : ¬ (((s.size + s'.size : Nat) : Int) > IntKind.i64.max) := by
                 intro hh
                 apply hb
                 have e1 : s.data.toList.length = s.size := by rw [Array.length_toList]; rfl
                 have e2 : s'.data.toList.length = s'.size := by rw [Array.length_toList]; rfl
                 rw [e1, e2]
                 exact hh
               have e1 : Op.stringOp .add s s' = pure (.string (s ++ s')) := by unfold Op.stringOp; exact if_neg hb'
               have e2 : binOp .add t (.string s) (.string s') = pure (.string (s ++ s')) := by unfold binOp; exact e1
               simp [eqGuard, e2]
             · have e : s.data.toList ++ s'.data.toList = (s ++ s').data.toList := by rw [ByteArray.data_append, Array.toList_append]
               rw [e]
               exact .str _)
        | cases h
  · cases h

theorem un_sound {u : UnOp} {px pv : PV} {x : Value} (hx : RepV E px x) (h : PV.un u px = some pv) : ∃ v, (Op.unary u x).run T.P w = .ok v w ∧ RepV E pv v := by
  unfold PV.un at h
  split at h
  · cases hx
    split at h
    · cases h; exact ⟨_, by simp [Op.unary, Op.intArith], .int _ _⟩
    · cases h; exact ⟨_, by simp [Op.unary, Op.intBits], .int _ _⟩
    · cases h
  · cases hx
    split at h
    · cases h; exact ⟨_, by simp [Op.unary], .bool _⟩
    · cases h
  · cases h

end
end Go.PM
