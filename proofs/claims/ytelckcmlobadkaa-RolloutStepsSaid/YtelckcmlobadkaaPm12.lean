/-
  PM12: 'peval' is sound, whole. No condition.
-/
import Derived.Test.YtelckcmlobadkaaPm11m
set_option linter.unusedSimpArgs false
set_option linter.unusedVariables false
namespace Go.PM
open Go Go.RowKit

section
variable {T : Tbl} {n : Nat} {E : Env} {F : PF} {H : PH} {a : Act} {w : World}

def Good (P : Program) (E : Env) (H : PH) (w : World) (o : Oper) (a : Act) (pv : PV) : Prop :=
  ∃ v w' E', (execOp a.eval o).run P w = .ok (.value v) w' ∧ RepV E' pv v ∧ WRel E' H w' ∧ Ext E H w E' H w'

theorem Good.mk' {P : Program} {o : Oper} {pv : PV} {v : Value} (hW : WRel E H w) (h : (execOp a.eval o).run P w = .ok (.value v) w) (r : RepV E pv v) : Good P E H w o a pv := ⟨v, w, E, h, r, hW, .refl E H w⟩
theorem Good.of {P : Program} {o : Oper} {pv : PV} {s : Sem Value} (he : execOp a.eval o = (do pure (.value (← s)) : Sem Next)) (h : Yields P E H w s pv) : Good P E H w o a pv := by
  obtain ⟨v, w', E', h1, h2, h3, h4⟩ := h
  exact ⟨v, w', E', value_run he h1, h2, h3, h4⟩
theorem Good.val {P : Program} {o : Oper} {pv : PV} {s : Sem Value} (hW : WRel E H w) (he : execOp a.eval o = (do pure (.value (← s)) : Sem Next)) (h : ∃ v, s.run P w = .ok v w ∧ RepV E pv v) : Good P E H w o a pv := by
  obtain ⟨v, h1, h2⟩ := h
  exact .of he (Yields.same hW h1 h2)

theorem calm_slice {t : TypeId} {o : Oper} {x : Operand} {lo hi mx : Option Operand} {p : POpd} {pl ph pm : Option POpd} {e : TypeId} {s : Nat} {pv : PV} (ho : o.op = .slice t x lo hi mx) (ht : T.P.underlying t = some (.slice e)) (hs : T.size e = some s)
    (hx : T.opd x = some p) (hl : T.opt lo = some pl) (hh : T.opt hi = some ph) (hm : T.opt mx = some pm) (hmh : ¬ (mx.isSome = true ∧ hi.isNone = true)) (hv : peval (.slice s p pl ph pm) F H = some pv)
    (hA : ARel n E F a) (hW : WRel E H w) (hN : E.num = T.num) : Good T.P E H w o a pv := by
  refine Good.val hW (s := Instr.sliceAt t (a.eval x) (lo.map a.eval) (hi.map a.eval) (mx.map a.eval)) (by unfold execOp; rw [ho]) ?_
  have hne : pm ≠ none → hi ≠ none := fun h e => by
    subst e
    cases mx with
    | none => simp [Tbl.opt] at hm; exact h hm.symm
    | some y => exact hmh ⟨rfl, rfl⟩
  simp only [peval] at hv
  split at hv
  · rename_i v hv0
    have r := opd_sound hx hv0 hA hN
    split at hv
    · split at hv
      · rename_i l h bl bh
        refine slice_sound (len := 0) ht hs hl hh hm r bl bh (.inl ⟨rfl, rfl⟩) ?_ hA hN
        split at hv
        · exact .inl ⟨rfl, hv⟩
        · simp only [Option.bind_eq_some_iff] at hv
          obtain ⟨m, h1, h2⟩ := hv
          exact .inr ⟨hne (by simp), m, h1, h2⟩
      · cases hv
    · split at hv
      · rename_i l h bl bh
        refine slice_sound ht hs hl hh hm r bl bh (.inr (.inl ⟨_, _, rfl, rfl⟩)) ?_ hA hN
        split at hv
        · exact .inl ⟨rfl, hv⟩
        · simp only [Option.bind_eq_some_iff] at hv
          obtain ⟨m, h1, h2⟩ := hv
          exact .inr ⟨hne (by simp), m, h1, h2⟩
      · cases hv
    · split at hv
      · rename_i l h bl bh
        refine slice_sound ht hs hl hh hm r bl bh (.inr (.inr ⟨_, _, _, rfl⟩)) ?_ hA hN
        split at hv
        · exact .inl ⟨rfl, hv⟩
        · simp only [Option.bind_eq_some_iff] at hv
          obtain ⟨m, h1, h2⟩ := hv
          exact .inr ⟨hne (by simp), m, h1, h2⟩
      · cases hv
    · cases hv
  · cases hv

/-- A builtin that yields a value. -/
theorem calm_builtin {o : Oper} {c : Call} {b : Builtin} {s : Sem Value} {pv : PV} (ho : o.op = .call c) (hcc : c.callee = .builtin b) (hb : ∀ cs, builtin b c.argTypes o.type cs (c.args.map a.eval) = (do pure (.value (← s)) : Sem Next))
    (hW : WRel E H w) (h : ∃ v, s.run T.P w = .ok v w ∧ RepV E pv v) : Good T.P E H w o a pv := by
  obtain ⟨v, h1, h2⟩ := h
  refine .mk' hW ?_ h2
  unfold execOp
  rw [ho]
  simp [resolve, hcc, invoke, hb, h1]

theorem args1 {xs : Array Operand} {x : Operand} (h : xs.toList = [x]) (f : Operand → Value) : xs.map f = #[f x] := by
  apply Array.ext'; simp [h]
theorem args2 {xs : Array Operand} {x y : Operand} (h : xs.toList = [x, y]) (f : Operand → Value) : xs.map f = #[f x, f y] := by
  apply Array.ext'; simp [h]
theorem arr1 {α : Type} {xs : Array α} {x : α} (h : xs.toList = [x]) : xs = #[x] := by apply Array.ext'; simp [h]
theorem arr2 {α : Type} {xs : Array α} {x y : α} (h : xs.toList = [x, y]) : xs = #[x, y] := by apply Array.ext'; simp [h]

theorem size_data (s : ByteArray) : s.data.toList.length = s.size := by rw [Array.length_toList]; rfl

theorem calm_call {o : Oper} {c : Call} {p : POp} {pv : PV} (ho : o.op = .call c) (hc : T.call o c = some p) (hw : p.isWrite = false) (hk : p.isCall = false) (hv : peval p F H = some pv)
    (hA : ARel n E F a) (hW : WRel E H w) (hN : E.num = T.num) : Good T.P E H w o a pv := by
  unfold Tbl.call at hc
  split at hc
  · rename_i b hcc
    split at hc
    · -- len
      rename_i x t hca hct
      have e1 := args1 hca a.eval
      have e2 := arr1 hct
      split at hc
      · rename_i k e ht
        cases hc
        simp [peval, POpd.ev] at hv
        subst hv
        refine calm_builtin (s := Builtin.len_ c.argTypes o.type (c.args.map a.eval)) ho hcc (fun cs => rfl) hW ⟨goInt k, ?_, .int _ _⟩
        rw [e1, e2]
        simp [Builtin.len_, run_underlying ht]
      · rename_i ht
        simp only [Option.map_eq_some_iff] at hc
        obtain ⟨q, hq, rfl⟩ := hc
        simp only [peval] at hv
        split at hv
        · rename_i s0 hs0
          cases hv
          have r := opd_sound hq hs0 hA hN
          generalize hx : a.eval x = ex at r
          cases r with
          | str s =>
          refine calm_builtin (s := Builtin.len_ c.argTypes o.type (c.args.map a.eval)) ho hcc (fun cs => rfl) hW ⟨goInt s.size, ?_, ?_⟩
          · rw [e1, e2, hx]
            simp [Builtin.len_, run_underlying ht]
          · rw [size_data]; exact .int _ _
        · cases hv
      · rename_i e ht
        simp only [Option.map_eq_some_iff] at hc
        obtain ⟨q, hq, rfl⟩ := hc
        have key : ∀ (ad : Option Addr) (m cap : Nat), a.eval x = .slice ad m cap → Good T.P E H w o a (.int .i64 m) := by
          intro ad m cap hx
          refine calm_builtin (s := Builtin.len_ c.argTypes o.type (c.args.map a.eval)) ho hcc (fun cs => rfl) hW ⟨goInt m, ?_, .int _ _⟩
          rw [e1, e2, hx]
          simp [Builtin.len_, run_underlying ht]
        simp only [peval] at hv
        split at hv
        · rename_i hs0
          cases hv
          have r := opd_sound hq hs0 hA hN
          generalize hx : a.eval x = ex at r
          cases r
          exact key _ _ _ hx
        · rename_i hs0
          cases hv
          have r := opd_sound hq hs0 hA hN
          generalize hx : a.eval x = ex at r
          cases r
          exact key _ _ _ hx
        · rename_i hs0
          cases hv
          have r := opd_sound hq hs0 hA hN
          generalize hx : a.eval x = ex at r
          cases r
          exact key _ _ _ hx
        · cases hv
      · cases hc
    · -- append
      split at hc <;> try cases hc
      split at hc <;> try cases hc
      split at hc <;> cases hc
      simp [POp.isWrite] at hw
    · -- cap
      rename_i x t hca hct
      split at hc
      · rename_i e ht
        simp only [Option.map_eq_some_iff] at hc
        obtain ⟨q, hq, rfl⟩ := hc
        simp only [peval] at hv
        split at hv
        · rename_i hs0
          cases hv
          have r := opd_sound hq hs0 hA hN
          generalize hx : a.eval x = ex at r
          cases r
          refine calm_builtin (s := Builtin.cap_ c.argTypes o.type (c.args.map a.eval)) ho hcc (fun cs => rfl) hW ⟨goInt 0, ?_, .int _ _⟩
          rw [args1 hca a.eval, arr1 hct, hx]
          simp [Builtin.cap_, run_underlying ht]
        · cases hv
      · cases hc
    · -- max
      rename_i x y hca
      split at hc <;> cases hc
      rename_i p q hp hq
      simp only [peval] at hv
      split at hv
      · rename_i k m k' m' h1 h2
        have r1 := opd_sound hp h1 hA hN
        have r2 := opd_sound hq h2 hA hN
        split at hv
        · cases hv
          generalize hx : a.eval x = ex at r1
          generalize hy : a.eval y = ey at r2
          cases r1; cases r2
          refine calm_builtin (s := Builtin.max_ c.argTypes o.type (c.args.map a.eval)) ho hcc (fun cs => rfl) hW ⟨_, ?_, .int _ _⟩
          rw [args2 hca a.eval, hx, hy, run_max_int2]
          simp
        · cases hv
      · cases hv
    · -- min
      rename_i x y hca
      split at hc <;> cases hc
      rename_i p q hp hq
      simp only [peval] at hv
      split at hv
      · rename_i k m k' m' h1 h2
        have r1 := opd_sound hp h1 hA hN
        have r2 := opd_sound hq h2 hA hN
        split at hv
        · cases hv
          generalize hx : a.eval x = ex at r1
          generalize hy : a.eval y = ey at r2
          cases r1; cases r2
          refine calm_builtin (s := Builtin.min_ c.argTypes o.type (c.args.map a.eval)) ho hcc (fun cs => rfl) hW ⟨_, ?_, .int _ _⟩
          rw [args2 hca a.eval, hx, hy, run_min_int2]
          simp
        · cases hv
      · cases hv
    · cases hc
  · split at hc
    · split at hc <;> cases hc
      simp [POp.isCall] at hk
    · cases hc
  · simp only [Option.map_eq_some_iff] at hc
    obtain ⟨q, -, rfl⟩ := hc
    simp [POp.isCall] at hk
  · cases hc

end
end Go.PM
