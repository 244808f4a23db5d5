/-
  PM25: behind a law: it returned true and its arguments read as they did. No condition.
-/
import Derived.Test.YtelckcmlobadkaaPm24
set_option linter.unusedSimpArgs false
set_option linter.unusedVariables false
namespace Go.PM
open Go Go.RowKit Go.ChangeShapes Go.WideShapes

theorem Ext.below {E E' : Env} {H' : PH} {w w' : World} (h : Ext E PH.nil w E' H' w') : Below w.heap.size w w' :=
  ⟨h.os, h.tape, h.output, h.size, fun k hk => h.block k hk rfl⟩

theorem Below.trodAll {H : Type} {enc : TypeId × Value → H} {P : Program} (hl : laidOutB P = true) {W W' : World} (hb : Below W.heap.size W W') :
    ∀ {ts : List TypeId} {vs : List Value} {ds : List (DataW H)} {ps : List MemPlace}, (∀ t ∈ ts, P.readableRec t = true ∧ t < P.types.size) → DataW.TrodAll enc P W 0 (fun _ => true) true ts vs ds ps →
      DataW.TrodAll enc P W' 0 (fun b => decide (b < W.heap.size)) true ts vs ds ps
  | [], [], [], ps, _, h => h
  | [], _ :: _, _, _, _, h => h.elim
  | [], [], _ :: _, _, _, h => h.elim
  | _ :: _, [], _, _, _, h => h.elim
  | _ :: _, _ :: _, [], _, _, h => h.elim
  | t :: ts, v :: vs, d :: ds, ps, ht, h => by
    obtain ⟨p, q, h1, h2, rfl⟩ := h
    have hlt : ∀ x ∈ p, x.block < W.heap.size := fun x hx => DataW.TrodAll.lt (ts := [t]) (vs := [v]) (ds := [d]) ⟨p, [], h1, rfl, (List.append_nil p).symm⟩ x hx
    exact ⟨p, q, Below.trod hl (ht t (by simp)).1 (ht t (by simp)).2 h1 hb hlt, Below.trodAll hl hb (fun u hu => ht u (by simp [hu])) h2, rfl⟩

theorem post_true {H : Type} {enc : TypeId × Value → H} {P : Program} {f : Func} {s : ChangeSpec} {handsOn apart fresh : Bool} {W W' : World} {args : Array Value} {ds gs : List (DataW H)} {before : List MemPlace} {bt : TypeId}
    (hl : laidOutB P = true) (hW : DataW.Whole enc P f.params.toList s.vars apart W args.toList ds gs before) (hb : Below W.heap.size W W') (hts : ∀ t ∈ f.params.toList, P.readableRec t = true ∧ t < P.types.size)
    (hrt : f.resultTypes = #[bt]) (hbt : P.underlying bt = some .bool) (hv : s.vars = []) (hr : (s.fn H (ds ++ gs)).results = [.lit (.bool true)]) (ha : (s.fn H (ds ++ gs)).args = ds) (hvs : (s.fn H (ds ++ gs)).vars = []) :
    s.post enc P f apart fresh handsOn false W args (.bool true) W' := by
  obtain ⟨p, q, hA, hV, rfl, hz, hn⟩ := hW
  rw [hv] at hV
  obtain ⟨rfl, rfl⟩ := trodVars_none hV
  refine ⟨ds, [], p ++ [], [], p, [], ⟨p, [], hA, by rw [hv]; exact hV, rfl, hz, hn⟩, ?_, ?_, ?_, hb.frame _, fun h => by cases h⟩
  · rw [hr, hrt]
    refine ⟨[], [], ⟨1, ?_⟩, rfl, rfl⟩
    simp [DataW.trod, hbt, Value.cells, Value.resultList]
  · rw [ha]
    exact Below.trodAll hl hb hts hA
  · rw [hv, hvs]
    exact rfl

theorem law_calls {C : Ctx} {name : Nat} {W : World} {args : Array Value} {pvs : List PV} (h : ECalls C name pvs PH.nil (Gives (.bool true))) (hr : RepVs (Env.of W C.num) pvs args.toList) :
    Calls C.P (C.num name) args W fun e W' => e = .returned (.bool true) ∧ Below W.heap.size W W' :=
  (h.2 (Env.of W C.num) W args rfl (WRel.start W C.num) hr).mono fun e W' he => by
    obtain ⟨v, pv, E', H', rfl, -, hrep, hE, rfl, -⟩ := he
    cases hrep
    exact ⟨rfl, hE.below⟩

/-- An argument that is a struct. -/
theorem arg_struct {H : Type} {enc : TypeId × Value → H} {P : Program} {W : World} {r : Reach} {base : Nat} {sp : Nat → Bool} {held : Bool} (num : Nat → FuncId) {t : TypeId} {v : Value} {d : DataW H} {ps : List MemPlace} {fs : Array Field} {n : Nat} {cts : List CT}
    (hu : P.underlying t = some (.struct fs)) (hval : Value.okWide P W r base t v) (hd : DataW.Trod enc P W 0 sp held t v d ps) (hc : cellsTy P n t = some cts) :
    ∃ pvs, RepV (Env.of W num) (.agg pvs) v ∧ pvs.length = cts.length ∧ ∀ (j : Nat) pv ct, pvs[j]? = some pv → cts[j]? = some ct → PV.Ty ct pv := by
  obtain ⟨cs, rfl, -⟩ := okWide_struct hu hval
  obtain ⟨fuel, h⟩ := hd
  obtain ⟨pvs, hr⟩ := trod_reads num fuel n t _ _ cts h hc
  have hl : cs.size = pvs.length := by have := hr.lc; rw [hr.lp, ← this]; simp [Value.cells]
  refine ⟨pvs, .agg cs hl (fun u hu => ?_) (fun j pv u a b => (hr.rep j pv u a (by simpa [Value.cells] using b)).1), hr.lp, hr.ty⟩
  obtain ⟨j, hj, rfl⟩ := List.getElem_of_mem hu
  simp only [Array.length_toList] at hj
  exact (hr.rep j _ _ (List.getElem?_eq_getElem (by omega)) (by simp [Value.cells, hj])).2

/-- An argument of one cell. -/
theorem arg_one {H : Type} {enc : TypeId × Value → H} {P : Program} {W : World} {sp : Nat → Bool} {held : Bool} (num : Nat → FuncId) {t : TypeId} {v : Value} {d : DataW H} {ps : List MemPlace} {n : Nat} {ct : CT}
    (hv : v.cells = #[v]) (hd : DataW.Trod enc P W 0 sp held t v d ps) (hc : cellsTy P n t = some [ct]) : ∃ pv, RepV (Env.of W num) pv v ∧ PV.Ty ct pv := by
  obtain ⟨fuel, h⟩ := hd
  obtain ⟨pvs, hr⟩ := trod_reads num fuel n t _ _ [ct] h hc
  rw [hv] at hr
  have hl := hr.lp
  cases pvs with
  | nil => simp at hl
  | cons pv rest => exact ⟨pv, (hr.rep 0 pv v rfl rfl).1, hr.ty 0 pv ct rfl rfl⟩
end Go.PM
