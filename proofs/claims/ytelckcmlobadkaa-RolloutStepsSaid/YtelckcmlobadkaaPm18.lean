/-
  PM18: one operation: its weakest precondition over pure values implies the model's. No condition.
-/
import Derived.Test.YtelckcmlobadkaaPm17f
import Derived.Test.YtelckcmlobadkaaPm15m
set_option linter.unusedSimpArgs false
set_option linter.unusedVariables false
namespace Go.PM
open Go Go.RowKit

section
variable {T : Tbl} {n : Nat} {E : Env} {F : PF} {H : PH} {a : Act} {w : World}

/-- Whatever follows takes every state that fits. -/
def Takes (n : Nat) (E : Env) (H : PH) (w : World) (K : PF → PH → Prop) (next : Act → World → Prop) : Prop :=
  ∀ E' F' H' a' w', ARel n E' F' a' → WRel E' H' w' → Ext E H w E' H' w' → K F' H' → next a' w'

theorem RepVs.append {ps qs : List PV} {vs us : List Value} (h : RepVs E ps vs) (k : RepVs E qs us) : RepVs E (ps ++ qs) (vs ++ us) := by
  induction h with
  | nil => exact k
  | cons h _ ih => exact .cons h ih

theorem RepVs.of_at {ps : List PV} : ∀ {vs : List Value}, vs.length = ps.length → (∀ (j : Nat) p v, ps[j]? = some p → vs[j]? = some v → RepV E p v) → RepVs E ps vs := by
  induction ps with
  | nil => intro vs hl _; simp at hl; subst hl; exact .nil
  | cons p ps ih =>
    intro vs hl h
    cases vs with
    | nil => simp at hl
    | cons v vs => exact .cons (h 0 p v rfl rfl) (ih (by simpa using hl) fun j q u a b => h (j + 1) q u (by simpa using a) (by simpa using b))

theorem call_run {o : Oper} {c : Call} {f : FuncId} {vc : Array Value} {x : Operand} {P : Program} {fn : Func} (ho : o.op = .call c) (hcc : c.callee = .value x) (hx : a.eval x = .func (.func f) #[] vc)
    (hf : P.funcs[f]? = some fn) (hb : fn.body.isSome = true) (hnm : (fn.name == "runtime.NumGoroutine") = false) :
    (execOp a.eval o).run P w = .ok (.enter f (c.args.map a.eval ++ vc)) w := by
  have hb' : fn.body.isNone = false := by cases h : fn.body <;> simp_all
  unfold execOp
  rw [ho]
  simp only [resolve, hcc, hx, Deferred.ofValue, Sem.run_bind, Sem.run_pure, Result.andThen_ok, invoke, callFunc, run_program, hf, hnm, hb', Bool.false_eq_true, if_false, Array.empty_append]

theorem calls_sound {C : Ctx} {name : Nat} {ps : Option (List PV)} {d : Option Nat} {K : PF → PH → Prop} {o : Oper} {c : Call} {x : Operand} {vc : Array Value} {Q : Exit → Act → World → Prop} {next : Act → World → Prop}
    (h : wpCallNow C name ps d K F H) (hd : o.dst = d) (hlt : o.dst.all (· < n) = true) (ho : o.op = .call c) (hcc : c.callee = .value x) (hx : a.eval x = .func (.func (C.num name)) #[] vc)
    (hargs : ∀ vs, ps = some vs → RepVs E vs (c.args.map a.eval ++ vc).toList) (hA : ARel n E F a) (hW : WRel E H w) (hN : E.num = C.num) (hnext : Takes n E H w K next) : o.wp C.P a w next Q := by
  obtain ⟨vs, H0, R, rfl, hle, ⟨⟨fn, hf, hb, hnm⟩, hcall⟩, hK⟩ := h
  have hrun := call_run (w := w) (a := a) ho hcc hx hf hb hnm
  unfold Oper.wp
  rw [hrun, Oper.upon_enter]
  refine (hcall E w _ hN (hW.weaken hle) (hargs vs rfl)).mono fun e w' he => ?_
  obtain ⟨v, pv, E', H', rfl, hW', hr, hE, hR⟩ := he
  have hap : Apart H H0 H' := by
    intro q y hq h0
    rcases hE.new q y hq with ⟨z, hz⟩ | hge
    · rw [h0] at hz; cases hz
    · cases hh : H q with
      | none => rfl
      | some z => have := (hW.h q z hh).1; omega
  have hA' : ARel n E' (F.put d pv) (a.put o.dst v) := by
    rw [← hd]
    exact (hA.mono hE.env).put hlt hr
  exact hnext E' _ _ _ w' hA' (hW.over hE hle hW') (hE.narrow hle) (hK pv H' hR hap)

/-- .. objects given up to it. -/
theorem callsF_sound {C : Ctx} {name : Nat} {args : List POpd} {cs : List PV} {d : Option Nat} {K : PF → PH → Prop} {o : Oper} {c : Call} {x : Operand} {vc : Array Value} {Q : Exit → Act → World → Prop} {next : Act → World → Prop}
    (h : wpCall C name args cs d K F H) (hd : o.dst = d) (hlt : o.dst.all (· < n) = true) (ho : o.op = .call c) (hcc : c.callee = .value x) (hx : a.eval x = .func (.func (C.num name)) #[] vc)
    (hargs : ∀ (E' : Env) (F' : PF) vs, E.le E' → ARel n E' F' a → E'.num = C.num → POpd.evs F' args = some vs → RepVs E' (vs ++ cs) (c.args.map a.eval ++ vc).toList) (hA : ARel n E F a) (hW : WRel E H w) (hN : E.num = C.num) (hnext : Takes n E H w K next) : o.wp C.P a w next Q := by
  rcases h with h | ⟨F1, H1, hf, h⟩
  · refine calls_sound h hd hlt ho hcc hx (fun vs hvs => ?_) hA hW hN hnext
    rw [Option.map_eq_some_iff] at hvs
    obtain ⟨ws, hws, rfl⟩ := hvs
    exact hargs E F ws (.refl E) hA hN hws
  · obtain ⟨E', hA', hW', hE⟩ := hA.frz hW hf
    refine calls_sound h hd hlt ho hcc hx (fun vs hvs => ?_) hA' hW' (hE.env.num.trans hN) (fun E2 F2 H2 a2 w2 g1 g2 g3 g4 => hnext E2 F2 H2 a2 w2 g1 g2 (hE.trans g3) g4)
    rw [Option.map_eq_some_iff] at hvs
    obtain ⟨ws, hws, rfl⟩ := hvs
    exact hargs E' F1 ws hE.env hA' (hE.env.num.trans hN) hws

theorem isCall_cases {o : Oper} {p : POp} (hc : T.op o = some p) (hk : p.isCall = true) : ∃ c, o.op = .call c ∧ T.call o c = some p := by
  unfold Tbl.op at hc
  split at hc
  case h_26 => rename_i c ho; exact ⟨c, ho, hc⟩
  all_goals (repeat' (first | (split at hc) | (simp only [Option.map_eq_some_iff] at hc; obtain ⟨_, -, rfl⟩ := hc; simp [POp.isCall] at hk; done) | (cases hc; simp [POp.isCall] at hk; done) | (cases hc; done)))

theorem isWrite_cases {o : Oper} {p : POp} (hc : T.op o = some p) (hk : p.isWrite = true) :
    (∃ t ax x k pp px, o.op = .store t ax x ∧ T.size t = some k ∧ T.opd ax = some pp ∧ T.opd x = some px ∧ p = .store k pp px) ∨
    (∃ c x y t e i px py, o.op = .call c ∧ c.callee = .builtin .append ∧ c.args.toList = [x, y] ∧ c.argTypes.toList = [t, t] ∧ T.P.underlying t = some (.slice e) ∧ T.P.info? e = some i ∧ i.zero.isSome = true ∧
      (i.zero.map (·.cells.size)) = some i.size ∧ 0 < i.size ∧ T.opd x = some px ∧ T.opd y = some py ∧ p = .append i.size i.bytes px py) ∨
    (∃ t kt et sh x k v px pk pv, (o.op = .mapUpdate t x k v ∨ o.op = .insert t x k v) ∧ T.P.underlying t = some (.map kt et) ∧ T.keyShape kt = some sh ∧ T.opd x = some px ∧ T.opd k = some pk ∧ T.opd v = some pv ∧
      (p = .mapset sh px pk pv ∨ p = .insert sh px pk pv)) := by
  unfold Tbl.op at hc
  split at hc
  case h_17 =>
    rename_i t x k v ho
    split at hc
    · rename_i kt et hu
      split at hc <;> cases hc
      rename_i sh p q r h1 h2 h3 h4
      exact .inr (.inr ⟨t, kt, et, sh, x, k, v, p, q, r, .inl ho, hu, h1, h2, h3, h4, .inl rfl⟩)
    · cases hc
  case h_18 =>
    rename_i t x k v ho
    split at hc
    · rename_i kt et hu
      split at hc <;> cases hc
      rename_i sh p q r h1 h2 h3 h4
      exact .inr (.inr ⟨t, kt, et, sh, x, k, v, p, q, r, .inr ho, hu, h1, h2, h3, h4, .inr rfl⟩)
    · cases hc
  case h_9 =>
    rename_i t ax x ho
    split at hc <;> cases hc
    rename_i k pp px h1 h2 h3
    exact .inl ⟨t, ax, x, k, pp, px, ho, h1, h2, h3, rfl⟩
  case h_26 =>
    rename_i c ho
    unfold Tbl.call at hc
    split at hc
    · rename_i b hcc
      split at hc
      · split at hc <;> (first | (simp only [Option.map_eq_some_iff] at hc; obtain ⟨_, -, rfl⟩ := hc; simp [POp.isWrite] at hk; done) | (cases hc; simp [POp.isWrite] at hk; done) | (cases hc; done))
      · rename_i x y t u hca hct
        split at hc <;> try cases hc
        rename_i e e' ht hu
        split at hc <;> try cases hc
        rename_i i px py hi hx hy
        split at hc
        · rename_i hcond
          cases hc
          obtain ⟨rfl, h1, h2, h3⟩ := hcond
          exact .inr (.inl ⟨c, x, y, t, e, i, px, py, ho, hcc, hca, hct, ht, hi, h1, h2, h3, hx, hy, rfl⟩)
        · cases hc
      · split at hc <;> (first | (simp only [Option.map_eq_some_iff] at hc; obtain ⟨_, -, rfl⟩ := hc; simp [POp.isWrite] at hk; done) | (cases hc; done))
      · split at hc <;> (first | (cases hc; simp [POp.isWrite] at hk; done) | (cases hc; done))
      · split at hc <;> (first | (cases hc; simp [POp.isWrite] at hk; done) | (cases hc; done))
      · cases hc
    · split at hc
      · split at hc
        · cases hc; simp [POp.isWrite] at hk
        · cases hc
      · cases hc
    · simp only [Option.map_eq_some_iff] at hc
      obtain ⟨_, -, rfl⟩ := hc
      simp [POp.isWrite] at hk
    · cases hc
  all_goals (repeat' (first | (split at hc) | (simp only [Option.map_eq_some_iff] at hc; obtain ⟨_, -, rfl⟩ := hc; simp [POp.isWrite] at hk; done) | (cases hc; simp [POp.isWrite] at hk; done) | (cases hc; done)))

theorem write_sound {o : Oper} {p : POp} {K : PV → PH → Prop} (hc : T.op o = some p) (hk : p.isWrite = true) (h : wpWrite p F H K) (hA : ARel n E F a) (hW : WRel E H w) (hN : E.num = T.num) : Writes T.P E H w o a K := by
  rcases isWrite_cases hc hk with ⟨t, ax, x, k, pp, px, ho, h1, h2, h3, rfl⟩ | ⟨c, x, y, t, e, i, px, py, ho, hcc, hca, hct, ht, hi, g1, g2, g3, hx, hy, rfl⟩ | ⟨t, kt, et, sh, x, k, v, px, pk, pv, ho, hu, hsh, hx, hkk, hv, hp⟩
  · simp only [wpWrite] at h
    split at h
    · rename_i pa pv hpa hpv
      obtain ⟨hl, H', hst, hK⟩ := h
      obtain ⟨w', hr, hW', hE⟩ := store_sound ho h1 h2 h3 hpa hpv hl hst hA hW hN
      exact ⟨undef, _, w', E, H', .junk, hr, .inr ⟨rfl, rfl⟩, .junk _, hW', hE, hK⟩
    · exact h.elim
  · simp only [wpWrite] at h
    split at h
    · rename_i pa pb hpa hpb
      exact append_sound ho hcc hca hct ht hi g1 g2 g3 (opd_sound hx hpa hA hN) (opd_sound hy hpb hA hN) h hW
    · exact h.elim
  · have key : ∀ q kv vv g key, px.ev F = some (.map q) → pk.ev F = some kv → pv.ev F = some vv → H q = some (.map sh g) → keyOf sh kv = some key → K .junk (H.set q (.map sh (g.upd key vv))) → Writes T.P E H w o a K := by
      intro q kv vv g key e1 e2 e3 e4 e5 hK
      obtain ⟨w', g1, g2, g3⟩ := mapset_sound hu hsh (opd_sound hx e1 hA hN) (opd_sound hkk e2 hA hN) (opd_sound hv e3 hA hN) e4 e5 hW
      refine ⟨undef, .skip, w', E, _, .junk, ?_, .inr ⟨rfl, rfl⟩, .junk _, g2, g3, hK⟩
      rcases ho with ho | ho <;> (unfold execOp; rw [ho]; simp [g1])
    rcases hp with rfl | rfl
    · simp only [wpWrite] at h
      split at h
      · rename_i q kv vv e1 e2 e3
        split at h
        · rename_i sh' g ky e4 e5
          obtain ⟨rfl, hK⟩ := h
          exact key q kv vv g ky e1 e2 e3 e4 e5 hK
        · exact h.elim
      · exact h.elim
    · simp only [wpWrite] at h
      split at h
      · rename_i q kv vv e1 e2 e3
        split at h
        · rename_i sh' g ky e4 e5
          obtain ⟨rfl, -, hK⟩ := h
          exact key q kv vv g ky e1 e2 e3 e4 e5 hK
        · exact h.elim
      · exact h.elim

theorem op_sound {C : Ctx} (hCP : C.P = T.P) (hCN : C.num = T.num) {o : Oper} {p : POp} {d : Option Nat} {K : PF → PH → Prop} {Q : Exit → Act → World → Prop} {next : Act → World → Prop} (hc : T.op o = some p) (hd : o.dst = d) (hlt : o.dst.all (· < n) = true)
    (h : wpOp C p d K F H) (hA : ARel n E F a) (hW : WRel E H w) (hN : E.num = T.num) (hnext : Takes n E H w K next) : o.wp T.P a w next Q := by
  by_cases hk : p.isCall = true
  · obtain ⟨c, ho, hcall⟩ := isCall_cases hc hk
    unfold Tbl.call at hcall
    split at hcall
    · rename_i b hcc
      exfalso
      repeat' (first | (split at hcall) | (simp only [Option.map_eq_some_iff] at hcall; obtain ⟨_, -, rfl⟩ := hcall; simp [POp.isCall] at hk; done) | (cases hcall; simp [POp.isCall] at hk; done) | (cases hcall; done))
    · rename_i f hcc
      split at hcall
      · rename_i m xs hm hxs
        split at hcall
        · rename_i hf
          cases hcall
          rw [← hCP]
          refine callsF_sound h hd hlt ho hcc (vc := #[]) (by rw [hCN, hf]; rfl) (fun E' F' vs _ hA' hN' hvs => ?_) hA hW (hN.trans hCN.symm) hnext
          simpa using opds_sound hxs hvs hA' (hN'.trans hCN)
        · cases hcall
      · cases hcall
    · rename_i t hcc
      simp only [Option.map_eq_some_iff] at hcall
      obtain ⟨xs, hxs, rfl⟩ := hcall
      obtain ⟨name, cs, hfn, hcl⟩ := h
      have r := hA.t t _ hfn
      have hx0 : a.eval (.tmp t) = a.tmps.getD t undef := rfl
      generalize hv : a.tmps.getD t undef = v at r
      cases r with
      | fn vc hl hr =>
      rw [← hCP]
      refine callsF_sound hcl hd hlt ho hcc (vc := vc) (by rw [hx0, hv, hN, hCN]) (fun E' F' ws hle hA' hN' hws => ?_) hA hW (hN.trans hCN.symm) hnext
      rw [Array.toList_append]
      refine RepVs.append (by simpa using opds_sound hxs hws hA' (hN'.trans hCN)) (RepVs.of_at (by simpa using hl) fun j p u hp hu => (hr j p u hp (by simpa using hu)).mono hle)
    · cases hcall
  · have hk' : p.isCall = false := by simpa using hk
    have hgen : (if p.isNew then wpNew (allocOf p F) d K F H else if p.isWrite then wpWrite p F H (fun r H' => K (F.put d r) H') else wpCalm (peval p F H) d K F H) := by
      cases p <;> first | exact h | (simp [POp.isCall] at hk')
    by_cases hn : p.isNew = true
    · rw [if_pos hn] at hgen
      obtain ⟨mk, x, hal, hK⟩ := hgen
      obtain ⟨v, w', E', q, hr, hq, hrep, hW', hE⟩ := new_sound hc hn hal hA hW hN
      unfold Oper.wp
      rw [hr, Oper.upon_value]
      exact hnext E' _ _ _ w' (by rw [← hd]; exact (hA.mono hE.env).put hlt hrep) hW' hE (hK q hq)
    · rw [if_neg hn] at hgen
      by_cases hw : p.isWrite = true
      · rw [if_pos hw] at hgen
        obtain ⟨v, nx, w', E', H', pv, hr, hnx, hrep, hW', hE, hK⟩ := write_sound hc hw hgen hA hW hN
        unfold Oper.wp
        have hA' : ARel n E' (F.put d pv) (a.put o.dst v) := by rw [← hd]; exact (hA.mono hE.env).put hlt hrep
        rcases hnx with rfl | ⟨rfl, rfl⟩
        · rw [hr, Oper.upon_value]
          exact hnext E' _ _ _ w' hA' hW' hE hK
        · rw [hr, Oper.upon_skip]
          exact hnext E' _ _ _ w' hA' hW' hE hK
      · rw [if_neg hw] at hgen
        obtain ⟨pv, hpv, hK⟩ := hgen
        obtain ⟨v, w', E', hr, hrep, hW', hE⟩ := calm_sound hc (by simpa using hn) (by simpa using hw) hk' hpv hA hW hN
        unfold Oper.wp
        rw [hr, Oper.upon_value]
        exact hnext E' _ _ _ w' (by rw [← hd]; exact (hA.mono hE.env).put hlt hrep) hW' hE hK

end
end Go.PM
