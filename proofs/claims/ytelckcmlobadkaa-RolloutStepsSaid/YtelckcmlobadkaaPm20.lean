/-
  PM20: a function's contract from its body. No condition.
-/
import Derived.Test.YtelckcmlobadkaaPm19
set_option linter.unusedSimpArgs false
set_option linter.unusedVariables false
namespace Go.PM
open Go Go.RowKit

namespace Tbl
variable (T : Tbl)
def res : ResultVar → Option PRes
  | .tmp t => some (.tmp t)
  | .cell t ty => match T.isAgg ty, T.size ty with
    | some true, some k => some (.cell t (some k))
    | some false, _ => some (.cell t none)
    | _, _ => none
def ress : List ResultVar → Option (List PRes)
  | [] => some []
  | r :: rs => match T.res r, ress rs with
    | some p, some ps => some (p :: ps)
    | _, _ => none
def func (fn : Func) : Option PFunc :=
  match fn.body with
  | some c => match T.code fn.ntmps c, T.ress fn.results.toList with
    | some b, some rs => some ⟨fn.params.size, fn.ntmps, b, rs⟩
    | _, _ => none
  | none => none
end Tbl

section
variable {T : Tbl} {n : Nat} {E : Env} {F : PF} {H : PH} {a : Act} {w : World}

def resSem (tmps : Array Value) : ResultVar → Sem Value
  | .tmp t => pure (tmps.getD t undef)
  | .cell a t => do loadVar t (← asAddr (tmps.getD a undef))

theorem res_sound {r : ResultVar} {p : PRes} {pv : PV} (hr : T.res r = some p) (hv : p.ev F H = some pv) (hA : ARel n E F a) (hW : WRel E H w) : ∃ v, (resSem a.tmps r).run T.P w = .ok v w ∧ RepV E pv v := by
  cases r with
  | tmp t =>
    simp [Tbl.res] at hr
    subst hr
    exact ⟨_, rfl, hA.t t pv hv⟩
  | cell t ty =>
    simp only [Tbl.res] at hr
    split at hr
    · rename_i k hg hs
      cases hr
      simp only [PRes.ev] at hv
      split at hv
      · rename_i q hq
        rw [Option.map_eq_some_iff] at hv
        obtain ⟨cs, hcs, rfl⟩ := hv
        obtain ⟨b, off, hb, -⟩ := loadCells_sound hW (hA.t t q hq) hcs
        obtain ⟨u, h1, h2⟩ := loadAt_many (T := T) hg hs hW (hA.t t q hq) hcs
        refine ⟨u, ?_, h2⟩
        rw [hb] at h1
        simpa [resSem, hb, asAddr, Instr.loadAt, Instr.sureAddr] using h1
      · cases hv
    · rename_i hg
      cases hr
      simp only [PRes.ev] at hv
      split at hv
      · rename_i q hq
        split at hv
        · rename_i v' hcs
          cases hv
          obtain ⟨b, off, hb, -⟩ := loadCells_sound hW (hA.t t q hq) hcs
          obtain ⟨u, h1, h2⟩ := loadAt_one (T := T) hg hW (hA.t t q hq) hcs
          refine ⟨u, ?_, h2⟩
          rw [hb] at h1
          simpa [resSem, hb, asAddr, Instr.loadAt, Instr.sureAddr] using h1
        · cases hv
      · cases hv
    · cases hr

theorem ress_sound (hA : ARel n E F a) (hW : WRel E H w) : ∀ (rs : List ResultVar) (ps : List PRes) (pvs : List PV), T.ress rs = some ps → PRes.evs F H ps = some pvs →
    ∃ vs, (rs.mapM (resSem a.tmps)).run T.P w = .ok vs w ∧ RepVs E pvs vs
  | [], ps, pvs, h1, h2 => by
    simp [Tbl.ress] at h1; subst h1
    simp [PRes.evs] at h2; subst h2
    exact ⟨[], by simp, .nil⟩
  | r :: rs, ps, pvs, h1, h2 => by
    simp only [Tbl.ress] at h1
    split at h1
    · rename_i p ps' hp hps
      cases h1
      simp only [PRes.evs] at h2
      split at h2
      · rename_i v vs hv hvs
        cases h2
        obtain ⟨u, g1, g2⟩ := res_sound hp hv hA hW
        obtain ⟨us, k1, k2⟩ := ress_sound hA hW rs ps' vs hps hvs
        exact ⟨u :: us, by simp [List.mapM_cons, g1, k1], .cons g2 k2⟩
      · cases h2
    · cases h1

theorem pack_sound {pvs : List PV} {vs : List Value} (h : RepVs E pvs vs) : RepV E (packRes pvs) (if h : vs.toArray.size = 1 then vs.toArray[0] else .tuple vs.toArray) := by
  cases h with
  | nil => exact .tup #[] rfl (by simp)
  | cons h t =>
    cases t with
    | nil => exact h
    | cons h2 t2 =>
      rename_i p v q u ps us
      have hall : RepVs E (p :: q :: ps) (v :: u :: us) := .cons h (.cons h2 t2)
      rw [dif_neg (by simp)]
      exact .tup _ (by simpa using hall.len) (fun j pv w hp hw => hall.at_ j pv w hp (by simpa using hw))

theorem results_eq (fn : Func) (tmps : Array Value) : results fn tmps = (do
    let vs ← fn.results.mapM (resSem tmps)
    pure (if h : vs.size = 1 then vs[0] else .tuple vs)) := by
  unfold results
  congr 1

theorem ecalls_of {C : Ctx} (hCP : C.P = T.P) (hCN : C.num = T.num) {name : Nat} {args : List PV} {R : PV → PH → Prop} {fn : Func} {pf : PFunc} (hf : C.P.funcs[C.num name]? = some fn) (hnm : (fn.name == "runtime.NumGoroutine") = false)
    (hpf : T.func fn = some pf) (hlen : args.length ≤ pf.ntmps) (h : pf.body.wp C (retK pf.res R) (PF.args args) H) : ECalls C name args H R := by
  unfold Tbl.func at hpf
  split at hpf
  · rename_i c hb
    split at hpf
    · rename_i b rs hcode hress
      cases hpf
      refine ⟨⟨fn, hf, by simp [hb], hnm⟩, fun E w vs hN hW hvs => ?_⟩
      have hvl : vs.size = args.length := by simpa using hvs.len
      refine calls_of_wp hf hb ?_
      rw [hCP]
      have hA : ARel fn.ntmps E (PF.args args) { tmps := vs ++ Array.replicate (fn.ntmps - vs.size) undef, defers := [] } := by
        refine ⟨by simp only at hlen; simp; omega, rfl, fun i pv hi => ?_⟩
        have hil : i < vs.size := by
          rw [hvl]
          rcases Nat.lt_or_ge i args.length with h' | h'
          · exact h'
          · simp [PF.args, List.getElem?_eq_none h'] at hi
        simp only [Array.getD_eq_getD_getElem?]
        rw [Array.getElem?_append_left hil, Array.getElem?_eq_getElem hil]
        exact hvs.at_ i pv _ hi (by simp [hil])
      refine code_sound hCP hCN c b (retK rs R) _ E (PF.args args) H _ w hcode h hA hW (hN.trans hCN) fun e E' F' H' a' w' hA' hW' hE hK => ?_
      have key : retK rs R .ret F' H' → bodyPost T.P fn (fun e w' => ∃ v pv E' H', e = .returned v ∧ WRel E' H' w' ∧ RepV E' pv v ∧ Ext E H w E' H' w' ∧ R pv H') .ret a' w' := by
        rintro ⟨pvs, hpvs, F1, H1, H2, hfz, hle, v0, hv0, hR⟩
        obtain ⟨us, g1, g2⟩ := ress_sound hA' hW' fn.results.toList rs pvs hress hpvs
        have hpk := pack_sound g2
        obtain ⟨E2, k1, k2, k3⟩ := hfz.sound hW'
        have hrep := k3 (fun _ => if h : us.toArray.size = 1 then us.toArray[0] else .tuple us.toArray) (fun i pv hi => by
          simp only [PF.set, upd] at hi
          split at hi
          · cases hi; exact hpk
          · cases hi) 0 v0 hv0
        refine ⟨hA'.defers, _, ?_, _, v0, E2, H2, rfl, k1.weaken hle, hrep, (hE.trans k2).drop hle, hR⟩
        rw [results_eq, Array.mapM_eq_mapM_toList]
        simp [g1]
      cases e with
      | normal => exact key hK
      | exit id => exact hK.elim
      | ret => exact key hK
    · cases hpf
  · cases hpf

end
end Go.PM
