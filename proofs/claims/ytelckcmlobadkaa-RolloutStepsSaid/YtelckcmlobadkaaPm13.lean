/-
  PM13: every operation that leaves the objects alone does what 'peval' says. No condition.
-/
import Derived.Test.YtelckcmlobadkaaPm12
set_option linter.unusedSimpArgs false
set_option linter.unusedVariables false
namespace Go.PM
open Go Go.RowKit

section
variable {T : Tbl} {n : Nat} {E : Env} {F : PF} {H : PH} {a : Act} {w : World}

set_option maxHeartbeats 8000000 in
theorem calm_sound {o : Oper} {p : POp} {pv : PV} (hc : T.op o = some p) (hn : p.isNew = false) (hw : p.isWrite = false) (hk : p.isCall = false) (hv : peval p F H = some pv)
    (hA : ARel n E F a) (hW : WRel E H w) (hN : E.num = T.num) : Good T.P E H w o a pv := by
  unfold Tbl.op at hc
  split at hc
  · -- move
    rename_i x ho
    simp only [Option.map_eq_some_iff] at hc
    obtain ⟨q, hq, rfl⟩ := hc
    exact .mk' hW (v := a.eval x) (by unfold execOp; rw [ho]; simp) (opd_sound hq hv hA hN)
  · -- assign
    rename_i x ho
    simp only [Option.map_eq_some_iff] at hc
    obtain ⟨q, hq, rfl⟩ := hc
    exact .mk' hW (v := a.eval x) (by unfold execOp; rw [ho]; simp) (opd_sound hq hv hA hN)
  · -- pick
    rename_i c x y ho
    split at hc <;> cases hc
    rename_i p1 p2 p3 h1 h2 h3
    simp only [peval] at hv
    split at hv
    · rename_i t hv1
      have r := opd_sound h1 hv1 hA hN
      generalize hx : a.eval c = ec at r
      cases r
      refine .mk' hW (v := if t then a.eval x else a.eval y) (by unfold execOp; rw [ho]; simp [hx, asBool]) ?_
      cases t
      · exact opd_sound h3 (by simpa using hv) hA hN
      · exact opd_sound h2 (by simpa using hv) hA hN
    · cases hv
  · -- alloc
    simp only [Option.map_eq_some_iff] at hc
    obtain ⟨z, -, rfl⟩ := hc
    simp [POp.isNew] at hn
  · -- box
    rename_i e x ho
    simp only [Option.map_eq_some_iff] at hc
    obtain ⟨q, hq, rfl⟩ := hc
    generalize hro : T.isRo o.dst = ro at *
    cases ro with
    | false => simp [POp.isNew] at hn
    | true =>
      simp only [peval] at hv
      split at hv
      · rename_i v hv1
        split at hv
        · rename_i h1
          cases hv
          exact .of (s := Instr.box e (a.eval x)) (by unfold execOp; rw [ho]) (boxRo_sound hW (opd_sound hq hv1 hA hN) h1)
        · cases hv
      · cases hv
  · -- build
    rename_i t parts ho
    split at hc
    · rename_i z fs hz hu
      split at hc
      · rename_i hm
        simp only [Option.map_eq_some_iff] at hc
        obtain ⟨pl, hpl, rfl⟩ := hc
        simp only [peval, Option.map_eq_some_iff] at hv
        obtain ⟨out, hout, rfl⟩ := hv
        have hy := build_sound (T := T) (w := w) hz (.inl ⟨fs, hu, hm, hpl⟩) hout hA hN
        refine Good.val hW ?_ hy
        unfold execOp; rw [ho]
      · cases hc
    · rename_i z k e hz hu
      split at hc
      · rename_i s hs
        simp only [Option.map_eq_some_iff] at hc
        obtain ⟨pl, hpl, rfl⟩ := hc
        simp only [peval, Option.map_eq_some_iff] at hv
        obtain ⟨out, hout, rfl⟩ := hv
        have hy := build_sound (T := T) (w := w) hz (.inr ⟨k, e, s, hu, hs, hpl⟩) hout hA hN
        refine Good.val hW ?_ hy
        unfold execOp; rw [ho]
      · cases hc
    · cases hc
  · -- buildSlice
    rename_i t len parts ho
    split at hc
    · rename_i e hu
      split at hc
      · rename_i s z pl hs hz hpl
        split at hc
        · rename_i hzl
          cases hc
          generalize hro : T.isRo o.dst = ro at *
          cases ro with
          | false => simp [POp.isNew] at hn
          | true =>
            simp only [peval] at hv
            split at hv
            · rename_i hle
              simp only [Option.map_eq_some_iff] at hv
              obtain ⟨out, hout, rfl⟩ := hv
              have hy := bsliceRo_sound (T := T) hu hs hz hzl.1 hzl.2 hpl hle.2 hout hA hN hW
              refine Good.of ?_ hy
              unfold execOp; rw [ho]
            · cases hv
        · cases hc
      · cases hc
    · cases hc
  · -- load
    rename_i t x ho
    split at hc
    · rename_i k q hg hs hq
      cases hc
      simp only [peval] at hv
      split at hv
      · rename_i v hv1
        simp only [Option.map_eq_some_iff] at hv
        obtain ⟨cs, hcs, rfl⟩ := hv
        have hx := opd_sound hq hv1 hA hN
        have hy := loadAt_many (T := T) hg hs hW hx hcs
        refine Good.val hW (s := Instr.loadAt t (a.eval x)) ?_ hy
        unfold execOp; rw [ho]
      · cases hv
    · rename_i k q hg hq
      cases hc
      simp only [peval] at hv
      split at hv
      · rename_i v hv1
        split at hv
        · rename_i v' hcs
          cases hv
          have hx := opd_sound hq hv1 hA hN
          have hy := loadAt_one (T := T) hg hW hx hcs
          refine Good.val hW (s := Instr.loadAt t (a.eval x)) ?_ hy
          unfold execOp; rw [ho]
        · cases hv
      · cases hv
    · cases hc
  · -- store
    split at hc <;> cases hc
    simp [POp.isWrite] at hw
  · -- nilCheck
    rename_i x ho
    simp only [Option.map_eq_some_iff] at hc
    obtain ⟨q, hq, rfl⟩ := hc
    simp only [peval] at hv
    split at hv
    · rename_i hv1
      cases hv
      have r := opd_sound hq hv1 hA hN
      refine .mk' hW (v := a.eval x) ?_ r
      generalize hx : a.eval x = ex at r
      cases r
      unfold execOp; rw [ho]; simp [hx]
    · rename_i hv1
      cases hv
      have r := opd_sound hq hv1 hA hN
      refine .mk' hW (v := a.eval x) ?_ r
      obtain ⟨b, off, hx⟩ := rptr_addr r
      unfold execOp; rw [ho]; simp [hx]
    · cases hv
  · -- binOp
    rename_i b t x y yt ho
    split at hc
    · rename_i p q hp hq
      have hbin : ∀ b', b = b' → peval (.bin b' p q) F H = some pv → Good T.P E H w o a pv := by
        intro b' hb hv
        subst hb
        simp only [peval] at hv
        split at hv
        · rename_i v1 v2 h1 h2
          exact .val hW (s := do eqGuard b t x y (a.eval x) (a.eval y); binOp b t (a.eval x) (a.eval y)) (by unfold execOp; rw [ho]) (bin_sound (opd_sound hp h1 hA hN) (opd_sound hq h2 hA hN) hv t x y)
        · cases hv
      have hbool : ∀ neg, b = (if neg then .neq else .eql) → T.P.underlying t = some .bool → peval (.eqb neg p q) F H = some pv → Good T.P E H w o a pv := by
        intro neg hb ht hv
        simp only [peval] at hv
        split at hv
        · rename_i v1 v2 h1 h2
          cases hv
          have r1 := opd_sound hp h1 hA hN
          have r2 := opd_sound hq h2 hA hN
          generalize hx : a.eval x = ex at r1
          generalize hy : a.eval y = ey at r2
          cases r1; cases r2
          refine .val hW (s := do eqGuard b t x y (a.eval x) (a.eval y); binOp b t (a.eval x) (a.eval y)) (by unfold execOp; rw [ho]) ⟨_, ?_, .bool _⟩
          rw [hx, hy, hb]
          exact eqb_sound neg v1 v2 x y ht
        · cases hv
      have hst : ∀ neg ks, b = (if neg then .neq else .eql) → T.flat t = some ks → peval (.eqs neg ks p q) F H = some pv → Good T.P E H w o a pv := by
        intro neg ks hb ht hv
        simp only [peval] at hv
        split at hv
        · rename_i v1 v2 h1 h2
          simp only [Option.map_eq_some_iff] at hv
          obtain ⟨c, hcc, rfl⟩ := hv
          refine .val hW (s := do eqGuard b t x y (a.eval x) (a.eval y); binOp b t (a.eval x) (a.eval y)) (by unfold execOp; rw [ho]) ⟨_, ?_, .bool _⟩
          rw [hb]
          exact eqsv_sound neg (opd_sound hp h1 hA hN) (opd_sound hq h2 hA hN) hcc x y ht
        · cases hv
      split at hc
      · split at hc
        · cases hc; exact hbin _ rfl hv
        · cases hc; exact hbin _ rfl hv
        · rename_i ht; cases hc; exact hbool false rfl ht hv
        · simp only [Option.map_eq_some_iff] at hc
          obtain ⟨ks, hks, rfl⟩ := hc
          exact hst false ks rfl hks hv
        · cases hc
      · split at hc
        · cases hc; exact hbin _ rfl hv
        · cases hc; exact hbin _ rfl hv
        · rename_i ht; cases hc; exact hbool true rfl ht hv
        · simp only [Option.map_eq_some_iff] at hc
          obtain ⟨ks, hks, rfl⟩ := hc
          exact hst true ks rfl hks hv
        · cases hc
      · cases hc; exact hbin _ rfl hv
    · cases hc
  · -- unOp
    rename_i u t x ho
    simp only [Option.map_eq_some_iff] at hc
    obtain ⟨q, hq, rfl⟩ := hc
    simp only [peval] at hv
    split at hv
    · rename_i v hv1
      exact .val hW (s := Op.unary u (a.eval x)) (by unfold execOp; rw [ho]) (un_sound (opd_sound hq hv1 hA hN) hv)
    · cases hv
  · -- convert
    rename_i s d x ho
    split at hc
    · rename_i k k' q hs hd hq
      cases hc
      simp only [peval] at hv
      split at hv
      · rename_i m hv1
        cases hv
        have r := opd_sound hq hv1 hA hN
        generalize hx : a.eval x = ex at r
        cases r
        refine .val hW (s := convert s d (a.eval x)) (by unfold execOp; rw [ho]) ⟨_, ?_, .int _ _⟩
        rw [hx]
        simp [convert, run_underlying hs, run_underlying hd, Conv.intToInt]
      · cases hv
    · rename_i q hs hd hq
      cases hc
      simp only [peval] at hv
      split at hv
      · rename_i l hv1
        cases hv
        have r := opd_sound hq hv1 hA hN
        refine .val hW (s := convert s d (a.eval x)) (by unfold execOp; rw [ho]) ⟨a.eval x, ?_, r⟩
        generalize hx : a.eval x = ex at r
        cases r
        simp [convert, run_underlying hs, run_underlying hd]
      · cases hv
    · rename_i e q hs hd hq
      split at hc
      · rename_i he
        cases hc
        simp only [peval] at hv
        split at hv
        · rename_i v hv1
          split at hv
          · rename_i rows hr
            simp only [Option.map_eq_some_iff] at hv
            obtain ⟨l, hl, rfl⟩ := hv
            exact .val hW (s := convert s d (a.eval x)) (by unfold execOp; rw [ho]) (bytes2str_sound hs he hd hW (opd_sound hq hv1 hA hN) hr hl)
          · cases hv
        · cases hv
      · cases hc
    · cases hc
  · -- makeFunc
    rename_i f first captured ho
    split at hc
    · rename_i m cs hm hcs
      split at hc
      · rename_i hf
        cases hc
        simp only [peval, Option.map_eq_some_iff] at hv
        obtain ⟨vs, hvs, rfl⟩ := hv
        have r := opds_sound hcs hvs hA hN
        refine .val hW (s := Instr.makeFunc (.func f) (first.map a.eval) (captured.map a.eval)) (by unfold execOp; rw [ho]) ⟨.func (.func f) #[] (captured.map a.eval), ?_, ?_⟩
        · have : first = #[] := Array.eq_empty_of_size_eq_zero hf.2
          subst this
          simp [Instr.makeFunc]
        · have hl := r.len
          have := RepV.fn (E := E) (name := m) (captured := vs) (captured.map a.eval) (by simpa using hl) (fun j p v a b => r.at_ j p v a (by simpa using b))
          rw [hN, hf.1] at this
          exact this
      · cases hc
    · cases hc
  · -- makeMap
    split at hc
    · simp only [Option.map_eq_some_iff] at hc
      obtain ⟨z, -, rfl⟩ := hc
      simp [POp.isNew] at hn
    · cases hc
  · -- lookup
    rename_i t x k ok ho
    split at hc
    · rename_i kt et hu
      split at hc
      · rename_i sh z p1 q1 hsh hz hp hq
        simp only [Option.map_eq_some_iff] at hc
        obtain ⟨pz, hpz, rfl⟩ := hc
        simp only [Option.bind_eq_some_iff] at hz
        obtain ⟨info, hi, hz⟩ := hz
        simp only [peval] at hv
        split at hv
        · rename_i m kv h1 h2
          split at hv
          · rename_i sh' g key h3 h4
            split at hv
            · rename_i he
              subst he
              cases hv
              exact .val hW (s := Instr.lookup t (a.eval x) (a.eval k) ok) (by unfold execOp; rw [ho]) (lookup_sound hu hsh hi hz hpz (opd_sound hp h1 hA hN) (opd_sound hq h2 hA hN) h3 h4 hW)
            · cases hv
          · cases hv
        · cases hv
      · cases hc
    · cases hc
  · -- mapUpdate
    split at hc
    · split at hc <;> cases hc
      simp [POp.isWrite] at hw
    · cases hc
  · -- insert
    split at hc
    · split at hc <;> cases hc
      simp [POp.isWrite] at hw
    · cases hc
  · -- makeSlice
    split at hc
    · split at hc
      · split at hc <;> cases hc
        simp [POp.isNew] at hn
      · cases hc
    · cases hc
  · -- slice
    rename_i t x lo hi mx ho
    split at hc
    · rename_i e p l h m hu hx hl hh hm
      split at hc
      · cases hc
      · rename_i hmh
        simp only [Option.map_eq_some_iff] at hc
        obtain ⟨s, hs, rfl⟩ := hc
        exact calm_slice ho hu hs hx hl hh hm hmh hv hA hW hN
    · rename_i p l h hu hx hl hh hm
      cases hc
      have hmx : mx = none := by
        cases mx with
        | none => rfl
        | some y => simp only [Tbl.opt, Option.map_eq_some_iff] at hm; obtain ⟨_, -, hq⟩ := hm; cases hq
      subst hmx
      simp only [peval] at hv
      split at hv
      · rename_i str hv1
        split at hv
        · rename_i li hi' bl bh
          split at hv
          · rename_i hb
            cases hv
            exact .val hW (s := Instr.sliceAt t (a.eval x) (lo.map a.eval) (hi.map a.eval) (Option.map a.eval none)) (by unfold execOp; rw [ho]) (sliceStr_sound hu hl hh (opd_sound hx hv1 hA hN) bl bh hb.1 hb.2.1 hb.2.2 hA hN)
          · cases hv
        · cases hv
      · cases hv
    · cases hc
  · -- fieldAddr
    rename_i t x f ho
    split at hc
    · rename_i fs q hu hq
      split at hc
      · rename_i fd hf
        split at hc
        · rename_i s hs
          cases hc
          simp only [peval] at hv
          split at hv
          · rename_i hv1
            cases hv
            exact .val hW (s := Instr.fieldAt t (a.eval x) f) (by unfold execOp; rw [ho]) (fieldA_sound hu hf hs (opd_sound hq hv1 hA hN) (.inl ⟨_, _, _, _, rfl, rfl⟩))
          · rename_i hv1
            cases hv
            exact .val hW (s := Instr.fieldAt t (a.eval x) f) (by unfold execOp; rw [ho]) (fieldA_sound hu hf hs (opd_sound hq hv1 hA hN) (.inr ⟨_, rfl, rfl⟩))
          · cases hv
        · cases hc
      · cases hc
    · cases hc
  · -- field
    rename_i t x f ho
    split at hc
    · rename_i fs q hu hq
      split at hc
      · rename_i fd hf
        split at hc
        · rename_i k hg hs
          cases hc
          simp only [peval] at hv
          split at hv
          · rename_i cs hv1
            split at hv
            · rename_i hle
              cases hv
              exact .val hW (s := Instr.field t (a.eval x) f) (by unfold execOp; rw [ho]) (field_many hu hf hg hs (opd_sound hq hv1 hA hN) hle)
            · cases hv
          · cases hv
        · rename_i k hg
          cases hc
          simp only [peval] at hv
          split at hv
          · rename_i cs hv1
            exact .val hW (s := Instr.field t (a.eval x) f) (by unfold execOp; rw [ho]) (field_one hu hf hg (opd_sound hq hv1 hA hN) hv)
          · cases hv
        · cases hc
      · cases hc
    · cases hc
  · -- indexAddr
    rename_i t x i ho
    split at hc
    · rename_i e p q hu hp hq
      simp only [Option.map_eq_some_iff] at hc
      obtain ⟨s, hs, rfl⟩ := hc
      simp only [peval] at hv
      split at hv
      · rename_i s0 rows k m h1 h2
        have r1 := opd_sound hp h1 hA hN
        have r2 := opd_sound hq h2 hA hN
        generalize hy : a.eval i = ey at r2
        cases r2
        split at hv
        · rename_i hc
          obtain ⟨rfl, h0⟩ := hc
          split at hv
          · rename_i r hr
            cases hv
            refine .val hW (s := Instr.indexAt t (a.eval x) (a.eval i)) (by unfold execOp; rw [ho]) ?_
            rw [hy]
            exact idxS_sl hu hs r1 h0 hr
          · cases hv
        · cases hv
      · rename_i o' s0 off len k m h1 h2
        have r1 := opd_sound hp h1 hA hN
        have r2 := opd_sound hq h2 hA hN
        generalize hy : a.eval i = ey at r2
        cases r2
        split at hv
        · rename_i hc
          obtain ⟨rfl, h0, hi⟩ := hc
          cases hv
          refine .val hW (s := Instr.indexAt t (a.eval x) (a.eval i)) (by unfold execOp; rw [ho]) ?_
          rw [hy]
          exact idxS_osl hu hs r1 h0 hi
        · cases hv
      · cases hv
    · rename_i e p q k hu hp hq
      simp only [Option.map_eq_some_iff] at hc
      obtain ⟨s, hs, rfl⟩ := hc
      simp only [peval] at hv
      split at hv
      · rename_i h1 h2
        have r1 := opd_sound hp h1 hA hN
        have r2 := opd_sound hq h2 hA hN
        generalize hy : a.eval i = ey at r2
        cases r2
        split at hv
        · rename_i hc
          cases hv
          refine .val hW (s := Instr.indexAt t (a.eval x) (a.eval i)) (by unfold execOp; rw [ho]) ?_
          rw [hy]
          exact idxA_sound hu hs r1 hc.1 hc.2 (.inl ⟨_, _, _, _, rfl, rfl⟩)
        · cases hv
      · rename_i h1 h2
        have r1 := opd_sound hp h1 hA hN
        have r2 := opd_sound hq h2 hA hN
        generalize hy : a.eval i = ey at r2
        cases r2
        split at hv
        · rename_i hc
          cases hv
          refine .val hW (s := Instr.indexAt t (a.eval x) (a.eval i)) (by unfold execOp; rw [ho]) ?_
          rw [hy]
          exact idxA_sound hu hs r1 hc.1 hc.2 (.inr ⟨_, rfl, rfl⟩)
        · cases hv
      · cases hv
    · cases hc
  · -- index
    rename_i t x i ho
    split at hc
    · rename_i e p q k hu hp hq
      split at hc
      · rename_i s g hs hg
        cases hc
        simp only [peval] at hv
        split at hv
        · rename_i h1 h2
          have r1 := opd_sound hp h1 hA hN
          have r2 := opd_sound hq h2 hA hN
          generalize hy : a.eval i = ey at r2
          cases r2
          split at hv
          · rename_i hc
            refine .val hW (s := Instr.index t (a.eval x) (a.eval i)) (by unfold execOp; rw [ho]) ?_
            rw [hy]
            exact idxV_sound hu hs hg r1 hc.1 hc.2 hv
          · cases hv
        · cases hv
      · cases hc
    · rename_i p q hu hp hq
      cases hc
      simp only [peval] at hv
      split at hv
      · rename_i h1 h2
        have r1 := opd_sound hp h1 hA hN
        have r2 := opd_sound hq h2 hA hN
        generalize hy : a.eval i = ey at r2
        cases r2
        split at hv
        · rename_i hc
          refine .val hW (s := Instr.index t (a.eval x) (a.eval i)) (by unfold execOp; rw [ho]) ?_
          rw [hy]
          exact idxStr_sound hu r1 hc hv
        · cases hv
      · cases hv
    · cases hc
  · -- extract
    rename_i x i ho
    simp only [Option.map_eq_some_iff] at hc
    obtain ⟨q, hq, rfl⟩ := hc
    simp only [peval] at hv
    split at hv
    · rename_i vs hv1
      have r := opd_sound hq hv1 hA hN
      generalize hx : a.eval x = ex at r
      cases r with
      | tup us hl hr =>
      obtain ⟨u, hu, hru⟩ := agg_at hl hr hv
      refine .val hW (s := Instr.extract (a.eval x) i) (by unfold execOp; rw [ho]) ⟨u, ?_, hru⟩
      rw [hx]
      simp [Instr.extract, hu]
    · cases hv
  · rename_i c ho
    exact calm_call ho hc hw hk hv hA hW hN
  · cases hc

end
end Go.PM
