/-
  PM18d: a region that draws its order does in the model what it does in its lexical order. No condition.
-/
import Derived.Test.YtelckcmlobadkaaPm18c
set_option linter.unusedSimpArgs false
set_option linter.unusedVariables false
namespace Go.PM
open Go Go.RowKit

/-- What is calm reads what stays, where a write or a call may come on either side of it. -/
def flagOf (ms cls : List Nat) (i : Nat) : Bool :=
  cls.getD i 0 != 0 || (List.range cls.length).any fun j => (cls.getD j 0 == 2 || cls.getD j 0 == 3 || cls.getD j 0 == 4) && !(ms.getD j 0).testBit i && !(ms.getD i 0).testBit j
def withFlags (ops : Array Oper) (is : List PInstr) : List (PInstr × Bool) :=
  let ms := masks ops.toList []
  let cls := is.map fun i => i.op.cls
  is.zip ((List.range is.length).map (flagOf ms cls))

namespace Tbl
variable (T : Tbl)

def drawn (n : Nat) (ops : Array Oper) : Option (List (PInstr × Bool)) :=
  match T.instrs n ops ops.toList with
  | some is => if T.P.follows .mixedOrders && drawOk ops (withFlags ops is) then some (withFlags ops is) else none
  | none => none

def code (n : Nat) : Code → Option PCode
  | .skip => some .skip
  | .region _ ops d => if d then (T.drawn n ops).map .draw else (T.instrs n ops ops.toList).map .region
  | .seq a b => match code n a, code n b with
    | some a, some b => some (.seq a b)
    | _, _ => none
  | .cond c a b => match T.opd c, code n a, code n b with
    | some c, some a, some b => some (.cond c a b)
    | _, _, _ => none
  | .block id c => (code n c).map (.block id)
  | .loop c => (code n c).map .loop
  | .exit id => some (.exit id)
  | .ret => some .ret
  | _ => none

end Tbl

section
variable {C : Ctx} {Hs : PH} {S : Spec} {T : Tbl} {n : Nat}

section
variable {E : Env} {F : PF} {H : PH} {a : Act} {w : World}
theorem Takes.after {E' : Env} {H' : PH} {w' : World} {K : PF → PH → Prop} {next : Act → World → Prop} (h : Takes n E H w K next) (hE : Ext E H w E' H' w') : Takes n E' H' w' K next :=
  fun E2 F2 H2 a2 w2 hA hW hX hK => h E2 F2 H2 a2 w2 hA hW (hE.trans hX) hK

theorem bool_slot {t : Nat} {b : Bool} (hA : ARel n E F a) (h : F t = some (.bool b)) : a.tmps[t]? = some (.bool b) := by
  have r := hA.t t _ h
  rw [Array.getD_eq_getD_getElem?] at r
  cases hg : a.tmps[t]? with
  | none => rw [hg] at r; simp [undef] at r; cases r
  | some v => rw [hg] at r; simp at r; cases r; rfl

theorem instr_spec {ops : Array Oper} {o : Oper} {i : PInstr} (h : T.instr n ops o = some i) : (T.op o = some i.op ∨ i.op = .stuck) ∧ o.dst = i.dst ∧ o.dst.all (· < n) = true ∧
    ((o.guard = none ∧ i.guard = none) ∨ ∃ j want t, o.guard = some (j, want) ∧ i.guard = some (t, want) ∧ (ops[j]?).bind (·.dst) = some t) := by
  unfold Tbl.instr at h
  have hp : T.op o = some ((T.op o).getD .stuck) ∨ (T.op o).getD .stuck = .stuck := by
    cases T.op o
    · exact .inr rfl
    · exact .inl rfl
  · generalize (T.op o).getD .stuck = p at *
    split at h
    · rename_i hd
      split at h
      · rename_i hg
        cases h
        exact ⟨hp, rfl, hd, .inl ⟨hg, rfl⟩⟩
      · rename_i j want hg
        split at h
        · rename_i t ht
          cases h
          exact ⟨hp, rfl, hd, .inr ⟨j, want, t, hg, rfl, ht⟩⟩
        · cases h
    · cases h

theorem wanted_spec {ops : Array Oper} {o : Oper} {j t : Nat} {want b : Bool} (hg : o.guard = some (j, want)) (ht : (ops[j]?).bind (·.dst) = some t) (hb : a.tmps[t]? = some (.bool b)) : Region.wanted o (yielded ops a.tmps) = (b == want) := by
  simp [Region.wanted, hg, yielded, ht, hb]

end

theorem rep_skip {E : Env} : RepV E (.tup []) undef := .tup #[] rfl (by simp)
theorem skip_slot {n : Nat} {E : Env} {F : PF} {a : Act} {t : Nat} (hA : ARel n E F a) (h : F t = some (.tup [])) : a.tmps.getD t undef = undef := by
  have := hA.t t _ h
  generalize a.tmps.getD t undef = v at this
  cases this with
  | tup vs hl hr =>
    have : vs = #[] := by simpa using hl
    subst this; rfl
theorem skipped_spec {ops : Array Oper} {a : Act} {o : Oper} {j t : Nat} {want : Bool} (hg : o.guard = some (j, want)) (ht : (ops[j]?).bind (·.dst) = some t) (hb : a.tmps.getD t undef = undef) : Region.wanted o (yielded ops a.tmps) = false := by
  simp only [Region.wanted, hg, yielded, ht]
  rw [Array.getD_eq_getD_getElem?] at hb
  cases h : a.tmps[t]? with
  | none => simp [h]
  | some v =>
    rw [h] at hb
    simp only [Option.getD_some] at hb
    subst hb
    simp [h, undef]

theorem opS_sound {C : Ctx} {E : Env} {F : PF} {H : PH} {a : Act} {w : World} (hCP : C.P = T.P) (hCN : C.num = T.num) {o : Oper} {p : POp} {d : Option Nat} {K : PF → PH → Prop} {Q : Exit → Act → World → Prop} {next : Act → World → Prop} (hc : T.op o = some p ∨ p = .stuck) (hd : o.dst = d) (hlt : o.dst.all (· < n) = true)
    (h : wpOp C p d K F H) (hA : ARel n E F a) (hW : WRel E H w) (hN : E.num = T.num) (hnext : Takes n E H w K next) : o.wp T.P a w next Q := by
  rcases hc with hc | rfl
  · exact op_sound hCP hCN hc hd hlt h hA hW hN hnext
  · obtain ⟨v, hv, -⟩ := h
    cases hv

theorem only_le (H : PH) (D : List Nat) : (H.only D).le H := by
  intro o x ho
  rw [only_at] at ho
  split at ho
  · exact ho
  · cases ho

theorem run_wpOp {op : POp} {F : PF} {H : PH} {st : Bool} {d : Option Nat} {K : PF → PH → Prop} (hle : Hs.le H) (h : (op.kind F).run C Hs S st (fun v H' => K (F.put d v) H') H) : wpOp C op d K F H := by
  have hgen : (if op.isNew then Kind.new (allocOf op F) else if op.isWrite then .write (fun H K => wpWrite op F H K) else .calm (peval op F)).run C Hs S st (fun v H' => K (F.put d v) H') H →
      (if op.isNew then wpNew (allocOf op F) d K F H else if op.isWrite then wpWrite op F H (fun r H' => K (F.put d r) H') else wpCalm (peval op F H) d K F H) := by
    intro h
    by_cases h1 : op.isNew = true
    · rw [if_pos h1] at h ⊢; exact h
    · rw [if_neg h1] at h ⊢
      by_cases h2 : op.isWrite = true
      · rw [if_pos h2] at h ⊢
        have h' : wpWrite op F H fun r H' => Hs.le H' ∧ K (F.put d r) H' := h
        exact wpWrite_mono (fun v H' hh => hh.2) h'
      · rw [if_neg h2] at h ⊢
        obtain ⟨v, hv, hK⟩ := h
        refine ⟨v, ?_, hK⟩
        cases st
        · exact hv
        · exact peval_mono hle hv
  have hcall : ∀ name vs0, (Kind.call name vs0).run C Hs S st (fun v H' => K (F.put d v) H') H → wpCallNow C name vs0 d K F H := by
    intro name vs0 h
    obtain ⟨vs, D, R, h1, h2, h3, h4, h5, h6⟩ := h
    exact ⟨vs, H.only D, R (H.only D), h1, only_le H D, h4, fun r H' a b => (h6 r H' a b).2⟩
  cases op
  case call name as => exact .inl (by simpa using hcall _ _ h)
  case callv x as =>
    simp only [POp.kind] at h
    split at h
    · rename_i name cs hx
      exact ⟨name, cs, hx, .inl (hcall _ _ h)⟩
    · exact h.elim
  case insert sh x k v =>
    obtain ⟨o, sh', key, vv, g, h1, h2, h3, -, h5⟩ := h
    show wpWrite (.insert sh x k v) F H (fun r H' => K (F.put d r) H')
    split at h1
    · rename_i o' kv vv' e1 e2 e3
      simp only [Option.map_eq_some_iff, Prod.mk.injEq] at h1
      obtain ⟨key', e4, rfl, rfl, rfl, rfl⟩ := h1
      simp only [wpWrite, e1, e2, e3, h2, e4]
      exact ⟨trivial, h3, h5⟩
    · cases h1
  all_goals exact hgen h

theorem any_sound (hCP : C.P = T.P) (hCN : C.num = T.num) {ops : Array Oper} {is : List PInstr} {fl : List Bool} (hfl : fl.length = is.length) (his : ∀ (i : Nat) o, ops[i]? = some o → ∃ p, is[i]? = some p ∧ T.instr n ops o = some p)
    {K : PF → PH → Prop} {Q : Exit → Act → World → Prop} :
    ∀ (fuel : Nat) (listed : Array Bool) (E : Env) (F : PF) (H : PH) (a : Act) (w : World), anyP C Hs S ops (is.zip fl) K fuel listed F H → Hs.le H → ARel n E F a → WRel E H w → E.num = T.num → Takes n E H w K (Q .normal) →
      wpAny T.P .any ops Q fuel listed a w := by
  intro fuel
  induction fuel with
  | zero => intro listed E F H a w h hle hA hW hN hT; exact ⟨h.1, hT E F H a w hA hW (.refl E H w) h.2⟩
  | succ fuel ih =>
    intro listed E F H a w h hle hA hW hN hT
    refine ⟨fun e => hT E F H a w hA hW (.refl E H w) (h.1 e), fun i hi => ?_⟩
    obtain ⟨-, o, ho, -⟩ := mem_ready.1 hi
    obtain ⟨p, hp, hin⟩ := his i o ho
    have hlt : i < is.length := (List.getElem?_eq_some_iff.1 hp).1
    have hz : (is.zip fl)[i]? = some (p, fl[i]'(by omega)) := by
      rw [List.getElem?_zip_eq_some]
      exact ⟨hp, by simp⟩
    have hone := h.2 i hi _ hz
    obtain ⟨hop, hd, hdn, hg⟩ := instr_spec hin
    have hTk : Takes n E H w (fun F' H' => Hs.le H' ∧ anyP C Hs S ops (is.zip fl) K fuel (listed.setIfInBounds i true) F' H') (wpAny T.P .any ops Q fuel (listed.setIfInBounds i true)) :=
      fun E' F' H' a' w' hA' hW' hE hK => ih _ E' F' H' a' w' hK.2 hK.1 hA' hW' (hE.env.num.trans hN) (hT.after hE)
    have hone' := oneD_mono (K' := fun F' H' => Hs.le H' ∧ anyP C Hs S ops (is.zip fl) K fuel (listed.setIfInBounds i true) F' H') (fun F' H' x y => ⟨x, y⟩) hle hone
    unfold oneD PInstr.kind at hone'
    unfold Go.wpOp
    simp only [ho]
    rcases hg with ⟨hg1, hg2⟩ | ⟨j, want, t, hg1, hg2, ht⟩
    · rw [if_pos (by simp [Region.wanted, hg1])]
      simp only [hg2] at hone'
      exact .inl (opS_sound hCP hCN hop hd hdn (run_wpOp hle hone') hA hW hN hTk)
    · simp only [hg2] at hone'
      split at hone'
      · rename_i b hb
        rw [wanted_spec hg1 ht (bool_slot hA hb)]
        split at hone'
        · rename_i hbw
          rw [if_pos (by simp [hbw])]
          exact .inl (opS_sound hCP hCN hop hd hdn (run_wpOp hle hone') hA hW hN hTk)
        · rename_i hbw
          rw [if_neg (by simpa using hbw)]
          obtain ⟨v, hv, hK⟩ := hone'
          cases hv
          exact hTk E _ H _ w (by rw [← hd]; exact hA.put hdn rep_skip) hW (.refl E H w) hK
      · rename_i hb
        rw [skipped_spec hg1 ht (skip_slot hA hb), if_neg (by simp)]
        obtain ⟨v, hv, hK⟩ := hone'
        cases hv
        exact hTk E _ H _ w (by rw [← hd]; exact hA.put hdn rep_skip) hW (.refl E H w) hK
      · exact hone'.elim

theorem instrs_at {ops : Array Oper} : ∀ {l : List Oper} {is : List PInstr}, T.instrs n ops l = some is → is.length = l.length ∧ ∀ (i : Nat) o, l[i]? = some o → ∃ p, is[i]? = some p ∧ T.instr n ops o = some p
  | [], is, h => by
    simp [Tbl.instrs] at h; subst h
    exact ⟨rfl, fun i o h => by simp at h⟩
  | o :: l, is, h => by
    simp only [Tbl.instrs] at h
    split at h
    · rename_i p ps hp hps
      cases h
      obtain ⟨h1, h2⟩ := instrs_at hps
      refine ⟨by simp [h1], fun i o' ho' => ?_⟩
      cases i with
      | zero => simp at ho'; subst ho'; exact ⟨p, rfl, hp⟩
      | succ i => obtain ⟨q, a, b⟩ := h2 i o' (by simpa using ho'); exact ⟨q, by simpa using a, b⟩
    · cases h

theorem draw_sound (hCP : C.P = T.P) (hCN : C.num = T.num) {id : Nat} {ops : Array Oper} {il : List (PInstr × Bool)} (hil : T.drawn n ops = some il) {K : PF → PH → Prop} {Q : Exit → Act → World → Prop} {E : Env} {F : PF} {H : PH} {a : Act} {w : World}
    (h : ∃ Hs S, PH.le Hs H ∧ wpD C Hs S il K F H) (hA : ARel n E F a) (hW : WRel E H w) (hN : E.num = T.num) (hT : Takes n E H w K (Q .normal)) : (Code.region id ops true).wp T.P Q a w := by
  obtain ⟨Hs, S, hle, h⟩ := h
  unfold Tbl.drawn at hil
  split at hil
  · rename_i is his
    split at hil
    · rename_i hcond
      cases hil
      simp only [Bool.and_eq_true, drawOk] at hcond
      obtain ⟨hm, hms, hps⟩ := hcond
      obtain ⟨hlen, hat⟩ := instrs_at his
      have hlen' : is.length = ops.size := by simpa using hlen
      refine wp_region_any hm ?_
      have hzl : (withFlags ops is).length = ops.size := by simp [withFlags, hlen']
      have h' := anyP_lex (C := C) (Hs := Hs) (S := S) (K := K) hzl hms (withFlags ops is) 0 (Array.replicate ops.size false) F H (by simp) (by simp [hzl]) (by simp) (fun j hj => by simp [hj]) hps hle h
      rw [hzl] at h'
      exact any_sound hCP hCN (by simp) (fun i o ho => hat i o (by simpa using ho)) ops.size _ E F H a _ h' hle hA hW.drew hN (fun E' F' H' a' w' g1 g2 g3 g4 => hT E' F' H' a' w' g1 g2 g3.of_drew g4)
    · cases hil
  · cases hil

end
end Go.PM
