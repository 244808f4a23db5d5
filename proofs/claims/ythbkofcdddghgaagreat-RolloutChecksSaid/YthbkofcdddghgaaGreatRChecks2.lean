/-
  Texts of ours, joined: Pm20 Pm20c Pm21 Pm22 Pm23 Pm24 Pm25 Pm26 Pm27 Pm29 Jf0 NaCode Pm30 Pm31 NaPlain NaW1 NaW2 NaW3 NaW4 NaW5 NaW6 NaW7 NaW8 NaW9 NaKn NaW10 NaW11 Pm32 NaW12 NaW13 NaW14 NaW15 FrCode FrW1 FrW2 FrW3 FrW4. No condition.
-/
import Derived.Test.YthbkofcdddghgaaGreatRChecks1
import Derived.ProofKit
import Derived.OpenShut
set_option linter.unusedSimpArgs false
set_option linter.unusedVariables false
open Nat renaming reduceEqDiff → γ, reduceAdd → δ, reduceSub → ε, reduceMul → ζ, reduceLT → η, reduceLeDiff → θ, reduceBEq → τ
open Int renaming reduceLT → ι, reduceLE → κ, reduceEq → μ, reduceToNat → ν, reduceAdd → ξ, reduceNeg → ο, reduceBEq → ρ, reduceBNe → σ
open List renaming reduceReplicate → υ
open List renaming length_map → bJT, range → bJU, replicate → bJW, getElem_mem → bJX, length_append → bKA, getElem?_eq_getElem → bKD, length_singleton → bKH, mem_cons → bKJ, take_of_length_le → bKK, length_take → bKL, getD_eq_getElem?_getD → bKO, all_eq_true → bKQ, take_length → bKS, append_assoc → bKU, getElem?_eq_some_iff → bKV, drop_zero → bKW, mem_map → bKX, getElem?_map → bKZ, not_mem_nil → bLB, mem_singleton → bLD, getElem?_eq_none → bLG, mem_append → bLH, mem_range → bLI, take_succ_eq_append_getElem → bLK, append_nil → bLM, drop_eq_getElem_cons → bLP, length_set → bLQ, Sublist → bLR, getElem?_append_right → bLS, length_cons → bLU, length_drop → bLV, map_append → bLW, map_cons → bLX, getElem_of_mem → bMA, getElem_map → bMC, length_nil → bMD, nodup_append → bME, take_append_drop → bMF, getElem?_append_left → bMH, mem_of_getElem? → bMK, nil_append → bML, getElem?_take_of_lt → bMO, getElem?_take → bMY, set_append_right → bMZ, contains_iff_mem → bNE, drop_of_length_le → bNF, flatten_cons → bNG, getElem?_drop → bNH, length_replicate → bNI, eq_nil_of_length_eq_zero → bNJ
open Nat renaming le_refl → bJV, gcd → bJY, zero_le → bKF, mul_add → bKG, lt_or_ge → bKM, zero_add → bKN, mul_assoc → bKP, mul_comm → bKT, add_mul → bKY, mul_le_mul_right → bLA, mod_eq_of_lt → bLE, mod_lt → bLJ, add_zero → bLL, pow_succ → bLN, min_eq_left → bLY, mul_le_mul_left → bLZ, pos_of_ne_zero → bMB, add_assoc → bMG, sub_self → bMI, pow_pos → bMM, div_lt_iff_lt_mul → bMP, le_trans → bMQ, eq_zero_or_pos → bMT, div_add_mod → bNA, div_eq_of_lt → bNB
open Bool renaming false_and → bJZ, not_true → bKC, true_and → bKE, not_false → bKI, and_eq_true → bKR, and_false → bLC, and_true → bLT, and_assoc → bMS, false_eq_true → bMU
open Option renaming map_eq_some_iff → bKB, map_some → bLF, getD_some → bMJ, some → bMN, bind_eq_some_iff → bMV, bind_some → bNC
open Array renaming replicate → bLO, length_toList → bMR, getElem?_eq_getElem → bMW, getElem?_eq_some_iff → bND
open Int renaming toNat_natCast → bMX
namespace Go.PM
open Go Go.RowKit
namespace Tbl
variable (T:Tbl)
def res:ResultVar→Option dQ
 | .tmp t=>some (.tmp t)
 | .cell t ty=>match T.isAgg ty,T.size ty with
  | some true,some k=>some (.cell t (some k))
  | some false,_=>some (.cell t none)
  | _,_=>none
def aHM:List ResultVar→Option (List dQ)
 | []=>some []
 | r::rs=>match T.res r,aHM rs with
  | some p,some ps=>some (p::ps)
  | _,_=>none
def func (fn:Func):Option aW :=
 match fn.body with
 | some c=>match T.code fn.ntmps c,T.aHM fn.results.toList with
  | some b,some rs=>some ⟨fn.params.size,fn.ntmps,b,rs⟩
  | _,_=>none
 | none=>none
end Tbl
section
variable {T:Tbl} {n:Nat} {E:Env} {F:PF} {H:PH} {a:Act} {w:World}
def OX (tmps:Array Value):ResultVar→Sem Value
 | .tmp t=>pure (tmps.getD t undef)
 | .cell a t=>do loadVar t (← asAddr (tmps.getD a undef))
theorem a9M {r:ResultVar} {p:dQ} {pv:PV} (hr:T.res r=some p) (hv:p.ev F H=some pv) (hA:dV n E F a) (hW:bM E H w):∃ v,(OX a.tmps r).run T.P w=.ok v w∧aY E pv v:=by
 cases r with
 | tmp t =>
  simp[Tbl.res] at hr
  subst hr
  exact⟨_,rfl,hA.t t pv hv⟩
 | cell t ty =>
  simp only[Tbl.res] at hr
  split at hr
  ·rename_i k hg hs
   cases hr
   simp only[dQ.ev] at hv
   split at hv
   ·rename_i q hq
    rw[bKB] at hv
    obtain⟨cs,hcs,rfl⟩:=hv
    obtain⟨b,off,hb,-⟩:=mM hW (hA.t t q hq) hcs
    obtain⟨u,h1,h2⟩:=TY (T:=T) hg hs hW (hA.t t q hq) hcs
    refine⟨u,?_,h2⟩
    rw[hb] at h1
    simpa [OX,hb,asAddr,Instr.loadAt,Instr.sureAddr] using h1
   ·cases hv
  ·rename_i hg
   cases hr
   simp only[dQ.ev] at hv
   split at hv
   ·rename_i q hq
    split at hv
    ·rename_i v' hcs
     cases hv
     obtain⟨b,off,hb,-⟩:=mM hW (hA.t t q hq) hcs
     obtain⟨u,h1,h2⟩:=adX (T:=T) hg hW (hA.t t q hq) hcs
     refine⟨u,?_,h2⟩
     rw[hb] at h1
     simpa [OX,hb,asAddr,Instr.loadAt,Instr.sureAddr] using h1
    ·cases hv
   ·cases hv
  ·cases hr
theorem afL (hA:dV n E F a) (hW:bM E H w):∀ (rs:List ResultVar) (ps:List dQ) (pvs:List PV),T.aHM rs=some ps→dQ.evs F H ps=some pvs →
  ∃ vs,(rs.mapM (OX a.tmps)).run T.P w=.ok vs w∧eI E pvs vs
 | [],ps,pvs,h1,h2=>by
  simp[Tbl.aHM] at h1; subst h1
  simp[dQ.evs] at h2; subst h2
  exact⟨[],by simp,.nil⟩
 | r::rs,ps,pvs,h1,h2=>by
  simp only[Tbl.aHM] at h1
  split at h1
  ·rename_i p ps' hp hps
   cases h1
   simp only[dQ.evs] at h2
   split at h2
   ·rename_i v vs hv hvs
    cases h2
    obtain⟨u,g1,g2⟩:=a9M hp hv hA hW
    obtain⟨us,k1,k2⟩:=afL hA hW rs ps' vs hps hvs
    exact⟨u::us,by simp[List.mapM_cons,g1,k1],.cons g2 k2⟩
   ·cases h2
  ·cases h1
theorem a2C {pvs:List PV} {vs:List Value} (h:eI E pvs vs):aY E (aV pvs) (if h:vs.toArray.size=1 then vs.toArray[0] else .tuple vs.toArray):=by
 cases h with
 | nil=>exact .tup #[] rfl (by simp)
 | cons h t =>
  cases t with
  | nil=>exact h
  | cons h2 t2 =>
   rename_i p v q u ps us
   have bJG:eI E (p::q::ps) (v::u::us):=.cons h (.cons h2 t2)
   rw[dif_neg (by simp)]
   exact .tup _ (by simpa using bJG.len) (fun j pv w hp hw=>bJG.at_ j pv w hp (by simpa using hw))
theorem a2M (fn:Func) (tmps:Array Value):results fn tmps=(do
  let vs ← fn.results.mapM (OX tmps)
  pure (if h:vs.size=1 then vs[0] else .tuple vs)):=by
 unfold results
 congr 1
theorem aL {C:Ctx} (hCP:C.P=T.P) (hCN:C.num=T.num) {name:Nat} {args:List PV} {R:PV→PH→Prop} {fn:Func} {pf:aW} (hf:C.P.funcs[C.num name]?=some fn) (hnm:(fn.name=="runtime.NumGoroutine")=false)
  (hpf:T.func fn=some pf) (hlen:args.length≤pf.ntmps) (h:pf.body.wp C (aT pf.res R) (PF.args args) H):aE C name args H R:=by
 unfold Tbl.func at hpf
 split at hpf
 ·rename_i c hb
  split at hpf
  ·rename_i b rs hcode hress
   cases hpf
   refine⟨⟨fn,hf,by simp[hb],hnm⟩,fun E w vs hN hW hvs=>?_⟩
   have hvl:vs.size=args.length:=by simpa using hvs.len
   refine calls_of_wp hf hb ?_
   rw[hCP]
   have hA:dV fn.ntmps E (PF.args args) { tmps:=vs++bLO (fn.ntmps-vs.size) undef,defers:=[] }:=by
    refine⟨by simp only at hlen; simp; omega,rfl,fun i pv hi=>?_⟩
    have hil:i<vs.size:=by
     rw[hvl]
     rcases bKM i args.length with h' | h'
     ·exact h'
     ·simp[PF.args,bLG h'] at hi
    simp only[Array.getD_eq_getD_getElem?]
    rw[Array.getElem?_append_left hil,bMW hil]
    exact hvs.at_ i pv _ hi (by simp[hil])
   refine aZS hCP hCN c b (aT rs R) _ E (PF.args args) H _ w hcode h hA hW (hN.trans hCN) fun e E' F' H' a' w' hA' hW' hE hK=>?_
   have key:aT rs R .ret F' H'→bodyPost T.P fn (fun e w'=>∃ v pv E' H',e=.returned v∧bM E' H' w'∧aY E' pv v∧Ext E H w E' H' w'∧R pv H') .ret a' w':=by
    rintro⟨pvs,hpvs,F1,H1,H2,hfz,hle,v0,hv0,hR⟩
    obtain⟨us,g1,g2⟩:=afL hA' hW' fn.results.toList rs pvs hress hpvs
    have hpk:=a2C g2
    obtain⟨E2,k1,k2,k3⟩:=hfz.sound hW'
    have bJO:=k3 (fun _=>if h:us.toArray.size=1 then us.toArray[0] else .tuple us.toArray) (fun i pv hi=>by
     simp only[PF.set,upd] at hi
     split at hi
     ·cases hi; exact hpk
     ·cases hi) 0 v0 hv0
    refine⟨hA'.defers,_,?_,_,v0,E2,H2,rfl,k1.weaken hle,bJO,(hE.trans k2).drop hle,hR⟩
    rw[a2M,Array.mapM_eq_mapM_toList]
    simp[g1]
   cases e with
   | normal=>exact key hK
   | exit id=>exact hK.elim
   | ret=>exact key hK
  ·cases hpf
 ·cases hpf
end
end Go.PM
namespace Go.PM
open Go
inductive Co:PV→PV→Prop
 | refl (v:PV):Co v v
 | junk (v:PV):Co v .junk
 | nil (s:Nat):Co .aB (.sl s [])
 | osl0 (o s off s':Nat):Co (.osl o s off 0) (.sl s' [])
 | agg {cs ds:List PV} (hl:ds.length=cs.length) (h:∀ (j:Nat) p q,cs[j]?=some p→ds[j]?=some q→Co p q):Co (.agg cs) (.agg ds)
 | tup {cs ds:List PV} (hl:ds.length=cs.length) (h:∀ (j:Nat) p q,cs[j]?=some p→ds[j]?=some q→Co p q):Co (.tup cs) (.tup ds)
 | bH {cs ds:List PV} (hl:ds.length=cs.length) (h:∀ (j:Nat) p q,cs[j]?=some p→ds[j]?=some q→Co p q):Co (.bH cs) (.bH ds)
 | sl {s:Nat} {rs ts:List (List PV)} (hl:ts.length=rs.length) (hr:∀ (i:Nat) r t,rs[i]?=some r→ts[i]?=some t→t.length=r.length)
   (h:∀ (i j:Nat) p q,at2 rs i j=some p→at2 ts i j=some q→Co p q):Co (.sl s rs) (.sl s ts)
structure CoL (ps qs:List PV):Prop where
 len:qs.length=ps.length
 at_:∀ (j:Nat) p q,ps[j]?=some p→qs[j]?=some q→Co p q
theorem CoL.refl (ps:List PV):CoL ps ps:=⟨rfl,fun j p q h k=>by rw[h] at k; cases k; exact .refl p⟩
theorem Co.sound {E:Env} {p q:PV} (h:Co p q):∀ {v:Value},aY E p v→aY E q v:=by
 induction h with
 | refl=>intro v r; exact r
 | junk=>intro v _; exact .junk v
 | nil s =>
  intro v r
  cases r
  exact .sl (fun _ _=>.bool false) (by simp) (by decide) (by simp) (by simp) (fun _ _=>rfl) (by simp[at2])
 | osl0 o s off s' =>
  intro v r
  cases r with
  | osl hb hsp bJP hlen bJK hn bIV=>exact .sl (fun _ _=>.bool false) (by simp) bJK (by simp) (by simp) (fun _ _=>rfl) (by simp[at2])
 | agg hl h ih =>
  intro v r
  cases r with
  | agg vs hl' h1 hr =>
  refine .agg vs (hl'.trans hl.symm) h1 fun j q u hq hu=>?_
  have hj:=(bKV.1 hq).1
  have hp:=bKD (show j<_ by rw[hl] at hj; exact hj)
  exact ih j _ q hp hq (hr j _ u hp hu)
 | tup hl h ih =>
  intro v r
  cases r with
  | tup vs hl' hr =>
  refine .tup vs (hl'.trans hl.symm) fun j q u hq hu=>?_
  have hj:=(bKV.1 hq).1
  have hp:=bKD (show j<_ by rw[hl] at hj; exact hj)
  exact ih j _ q hp hq (hr j _ u hp hu)
 | bH hl h ih =>
  intro v r
  cases r with
  | bH u hsp hc h1 hr =>
  refine .bH u hsp (fun j q hq=>?_) h1 fun j q hq=>?_
  ·have hj:=(bKV.1 hq).1
   exact hc j _ (bKD (show j<_ by rw[hl] at hj; exact hj))
  ·have hj:=(bKV.1 hq).1
   have hp:=bKD (show j<_ by rw[hl] at hj; exact hj)
   exact ih j _ q hp hq (hr j _ hp)
 | @sl s rs ts hl hrr h ih =>
  intro v r
  have key:∀ (i j:Nat) q,at2 ts i j=some q→∃ p,at2 rs i j=some p:=by
   intro i j q hq
   unfold at2 at hq ⊢
   rw[bMV] at hq
   obtain⟨t,ht,hq⟩:=hq
   have hi:=(bKV.1 ht).1
   have hr:=bKD (Om:i<rs.length)
   have:=hrr i _ t hr ht
   have hj:=(bKV.1 hq).1
   rw[hr]
   exact⟨(rs[i])[j]'Om,by simp⟩
  cases r with
  | sl u hcap bJK hs ha h1 hr =>
  rw[← hl]
  refine .sl u Om bJK (fun t ht=>?_) (fun hne=>?_) h1 fun i j q hq=>?_
  ·obtain⟨i,hi,rfl⟩:=bMA ht
   have:=hrr i rs[i] ts[i] (by simp) (by simp)
   rw[this]
   exact hs _ (by simp)
  ·obtain⟨ad,e,sp,hc⟩:=ha (by rintro rfl; exact hne (bNJ (by simpa using hl)))
   refine⟨ad,e,sp,fun i j q hq=>?_⟩
   obtain⟨p,hp⟩:=key i j q hq
   exact hc i j p hp
  ·obtain⟨p,hp⟩:=key i j q hq
   exact ih i j p q hp hq (hr i j p hp)
theorem CoL.sound {E:Env}:∀ {ps qs:List PV} {vs:List Value},CoL ps qs→eI E ps vs→eI E qs vs
 | [],qs,vs,h,r=>by
  cases r
  have:qs=[]:=bNJ h.len
  subst this
  exact .nil
 | p::ps,qs,vs,h,r=>by
  cases r with
  | cons r1 r2 =>
  cases qs with
  | nil=>have:=h.len; simp at this
  | cons q qs =>
   refine .cons ((h.at_ 0 p q rfl rfl).sound r1) (CoL.sound ⟨by simpa using h.len,fun j x y a b=>h.at_ (j+1) x y (by simpa using a) (by simpa using b)⟩ r2)
theorem aE.args {C:Ctx} {name:Nat} {args args':List PV} {H:PH} {R:PV→PH→Prop} (h:aE C name args' H R) (hc:CoL args args'):aE C name args H R :=
 ⟨h.1,fun E w vs hN hW hvs=>h.2 E w vs hN hW (hc.sound hvs)⟩
theorem aE.post {C:Ctx} {name:Nat} {args:List PV} {H:PH} {R R':PV→PH→Prop} (h:aE C name args H R) (hR:∀ r H',R r H'→∃ r',Co r r'∧R' r' H'):aE C name args H R' :=
 ⟨h.1,fun E w vs hN hW hvs=>(h.2 E w vs hN hW hvs).mono fun e w' he=>by
  obtain⟨v,pv,E',H',rfl,hW',hr,hE,hp⟩:=he
  obtain⟨pv',hco,hp'⟩:=hR pv H' hp
  exact⟨v,pv',E',H',rfl,hW',hco.sound hr,hE,hp'⟩⟩
attribute [go_sem] List.getElem?_cons_succ List.getElem?_cons_zero and_self and_true true_and or_true true_or or_false false_or bKC bKI bLF bNC if_true if_false bLU bMD List.drop_succ_cons bKW List.take_succ_cons List.take_zero bLX List.map_nil bMN.injEq PV.bool.injEq PV.int.injEq aO PV.bin
@[go_sem] theorem buD (k:IntKind) (a b:Int):jT .add k a b=some (.int k (k.wrap (a+b))):=(rfl)
@[go_sem] theorem buN (k:IntKind) (a b:Int):jT .sub k a b=some (.int k (k.wrap (a-b))):=(rfl)
@[go_sem] theorem buJ (k:IntKind) (a b:Int):jT .mul k a b=some (.int k (k.wrap (a*b))):=(rfl)
@[go_sem] theorem buL (k:IntKind) (a b:Int):jT .quo k a b=if b=0 then none else some (.int k (k.wrap (a.tdiv b))):=(rfl)
@[go_sem] theorem buM (k:IntKind) (a b:Int):jT .rem k a b=if b=0 then none else some (.int k (a.tmod b)):=(rfl)
@[go_sem] theorem buE (k:IntKind) (a b:Int):jT .eql k a b=some (.bool (a==b)):=(rfl)
@[go_sem] theorem buK (k:IntKind) (a b:Int):jT .neq k a b=some (.bool (a != b)):=(rfl)
@[go_sem] theorem buI (k:IntKind) (a b:Int):jT .lss k a b=some (.bool (decide (a<b))):=(rfl)
@[go_sem] theorem buH (k:IntKind) (a b:Int):jT .leq k a b=some (.bool (decide (a≤b))):=(rfl)
@[go_sem] theorem buG (k:IntKind) (a b:Int):jT .gtr k a b=some (.bool (decide (a>b))):=(rfl)
@[go_sem] theorem buF (k:IntKind) (a b:Int):jT .geq k a b=some (.bool (decide (a≥b))):=(rfl)
section
variable {C:Ctx} {K:cN} {F:PF} {H:PH}
@[go_sem] theorem bFU:aC.wp C .skip K F H=K .normal F H:=(rfl)
@[go_sem] theorem bwM (ops:List bC):aC.wp C (.region ops) K F H=wpOps C ops (K .normal) F H:=(rfl)
@[go_sem] theorem aYD (a b:aC):aC.wp C (.seq a b) K F H=a.wp C (iD C (b.wp C) K) F H:=(rfl)
@[go_sem] theorem bxV (id:Nat) (c:aC):aC.wp C (.block id c) K F H=c.wp C (dW id K) F H:=(rfl)
@[go_sem] theorem bFT (id:Nat):aC.wp C (.exit id) K F H=K (.exit id) F H:=(rfl)
@[go_sem] theorem bGF:aC.wp C .ret K F H=K .ret F H:=(rfl)
def RX (C:Ctx) (v:Option PV) (a b:aC) (K:cN) (F:PF) (H:PH):Prop :=
 match v with
 | some (.bool t)=>if t then a.wp C K F H else b.wp C K F H
 | _=>False
@[go_sem] theorem bjW (c:aP) (a b:aC):aC.wp C (.cond c a b) K F H=RX C (c.ev F) a b K F H:=(rfl)
@[go_sem] theorem buV (a b:aC):RX C (some (.bool true)) a b K F H=a.wp C K F H:=(rfl)
@[go_sem] theorem btC (a b:aC):RX C (some (.bool false)) a b K F H=b.wp C K F H:=(rfl)
theorem kS {t:Bool} {a b:aC} (h1:t=true→a.wp C K F H) (h2:t=false→b.wp C K F H):RX C (some (.bool t)) a b K F H:=by
 cases t
 ·exact h2 rfl
 ·exact h1 rfl
@[go_sem] theorem btK (w:cN→PF→PH→Prop):iD C w K .normal F H=w K F H:=(rfl)
@[go_sem] theorem bsR (w:cN→PF→PH→Prop):iD C w K .normal=w K:=(rfl)
@[go_sem] theorem bxI (w:cN→PF→PH→Prop) (id:Nat):iD C w K (.exit id)=K (.exit id):=(rfl)
@[go_sem] theorem bFK (w:cN→PF→PH→Prop):iD C w K .ret=K .ret:=(rfl)
@[go_sem] theorem bqN (id:Nat):dW id K .normal=K .normal:=(rfl)
@[go_sem] theorem buR (id:Nat):dW id K .ret=K .ret:=(rfl)
@[go_sem] theorem TA (id id':Nat):dW id K (.exit id') F H=if id'=id then K .normal F H else K (.exit id') F H:=(rfl)
@[go_sem] theorem bwK (K:PF→PH→Prop):wpOps C [] K F H=K F H:=(rfl)
@[go_sem] theorem bwL (d:Option Nat) (op:POp) (rest:List bC) (K:PF→PH→Prop):wpOps C (⟨d,op,none⟩::rest) K F H=wpOp C op d (wpOps C rest K) F H:=(rfl)
def tE (C:Ctx) (v:Option PV) (want:Bool) (op:POp) (d:Option Nat) (rest:List bC) (K:PF→PH→Prop) (F:PF) (H:PH):Prop :=
 match v with
 | some (.bool b)=>if b=want then wpOp C op d (wpOps C rest K) F H else wpOps C rest K (F.put d (.tup [])) H
 | some (.tup [])=>wpOps C rest K (F.put d (.tup [])) H
 | _=>False
@[go_sem] theorem aOM (d:Option Nat) (op:POp) (t:Nat) (want:Bool) (rest:List bC) (K:PF→PH→Prop) :
  wpOps C (⟨d,op,some (t,want)⟩::rest) K F H=tE C (F t) want op d rest K F H:=(rfl)
@[go_sem] theorem bxE (op:POp) (d:Option Nat) (rest:List bC) (K:PF→PH→Prop):tE C (some (.bool true)) true op d rest K F H=wpOp C op d (wpOps C rest K) F H:=(rfl)
@[go_sem] theorem bxB (op:POp) (d:Option Nat) (rest:List bC) (K:PF→PH→Prop):tE C (some (.bool false)) false op d rest K F H=wpOp C op d (wpOps C rest K) F H:=(rfl)
@[go_sem] theorem bxD (op:POp) (d:Option Nat) (rest:List bC) (K:PF→PH→Prop):tE C (some (.bool true)) false op d rest K F H=wpOps C rest K (F.put d (.tup [])) H:=(rfl)
@[go_sem] theorem bxC (op:POp) (d:Option Nat) (rest:List bC) (K:PF→PH→Prop):tE C (some (.bool false)) true op d rest K F H=wpOps C rest K (F.put d (.tup [])) H:=(rfl)
@[go_sem] theorem btH (want:Bool) (op:POp) (d:Option Nat) (rest:List bC) (K:PF→PH→Prop):tE C (some (.tup [])) want op d rest K F H=wpOps C rest K (F.put d (.tup [])) H:=(rfl)
@[go_sem] theorem bCB (d:Nat) (v:PV):F.put (some d) v=F.set d v:=(rfl)
@[go_sem] theorem bCA (v:PV):F.put none v=F:=(rfl)
@[go_sem] theorem nA (i j:Nat) (v:PV):(F.set i v) j=if j=i then some v else F j:=(rfl)
@[go_sem] theorem args_at (vs:List PV) (i:Nat):PF.args vs i=vs[i]?:=(rfl)
@[go_sem] theorem bGK (i:Nat):PF.nil i=none:=(rfl)
@[go_sem] theorem acB (t:Nat):(aP.tmp t).ev F=F t:=(rfl)
@[go_sem] theorem bBR (v:PV):(aP.const v).ev F=some v:=(rfl)
@[go_sem] theorem bS (i j:Nat) (x:cP):(H.set i x) j=if j=i then some x else H j:=(rfl)
@[go_sem] theorem alO (i:Nat):PH.nil i=none:=(rfl)
@[go_sem] theorem SA:aP.evs F []=some []:=(rfl)
@[go_sem] theorem wP (x:aP) (xs:List aP):aP.evs F (x::xs)=(match x.ev F,aP.evs F xs with | some v,some vs=>some (v::vs) | _,_=>none):=(rfl)
theorem cW {i j:Nat} {x:cP}:(H.set i x) j=none↔j≠i∧H j=none:=by
 rw[bS]
 split<;>simp_all
@[go_sem] theorem btL (v:PV) (d:Option Nat) (K:PF→PH→Prop):bP (some v) d K F H=K (F.put d v) H:=by
 simp[bP]
theorem aR {mk:Nat→PV} {x:cP} {d:Option Nat} {K:PF→PH→Prop} (h:∀ o,H o=none→K (F.put d (mk o)) (H.set o x)):lD (some (mk,x)) d K F H:=⟨mk,x,rfl,h⟩
@[go_sem] theorem bGD (x:aP) (d:Option Nat) (K:PF→PH→Prop):wpOp C (.mv x) d K F H=bP (aO (.mv x) F H) d K F H:=(rfl)
@[go_sem] theorem bxU (x:aP) (d:Option Nat) (K:PF→PH→Prop):wpOp C (.same x) d K F H=bP (aO (.same x) F H) d K F H:=(rfl)
@[go_sem] theorem bxT (c a b:aP) (d:Option Nat) (K:PF→PH→Prop):wpOp C (.pick c a b) d K F H=bP (aO (.pick c a b) F H) d K F H:=(rfl)
@[go_sem] theorem bFO (o:BinOp) (x y:aP) (d:Option Nat) (K:PF→PH→Prop):wpOp C (.bin o x y) d K F H=bP (aO (.bin o x y) F H) d K F H:=(rfl)
@[go_sem] theorem bFQ (n:Bool) (x y:aP) (d:Option Nat) (K:PF→PH→Prop):wpOp C (.eqb n x y) d K F H=bP (aO (.eqb n x y) F H) d K F H:=(rfl)
@[go_sem] theorem bFR (n:Bool) (ks:List Sc) (x y:aP) (d:Option Nat) (K:PF→PH→Prop):wpOp C (.eqs n ks x y) d K F H=bP (aO (.eqs n ks x y) F H) d K F H:=(rfl)
@[go_sem] theorem bGE (o:UnOp) (x:aP) (d:Option Nat) (K:PF→PH→Prop):wpOp C (.un o x) d K F H=bP (aO (.un o x) F H) d K F H:=(rfl)
@[go_sem] theorem bxM (k:IntKind) (x:aP) (d:Option Nat) (K:PF→PH→Prop):wpOp C (.conv k x) d K F H=bP (aO (.conv k x) F H) d K F H:=(rfl)
@[go_sem] theorem bwD (z:List PV) (ps:List (Nat × Nat × aP)) (d:Option Nat) (K:PF→PH→Prop):wpOp C (.build z ps) d K F H=bP (aO (.build z ps) F H) d K F H:=(rfl)
@[go_sem] theorem bxR (n:Option Nat) (p:aP) (d:Option Nat) (K:PF→PH→Prop):wpOp C (.load n p) d K F H=bP (aO (.load n p) F H) d K F H:=(rfl)
@[go_sem] theorem btW (x:aP) (d:Option Nat) (K:PF→PH→Prop):wpOp C (.bIE x) d K F H=bP (aO (.bIE x) F H) d K F H:=(rfl)
@[go_sem] theorem btP (off:Nat) (x:aP) (d:Option Nat) (K:PF→PH→Prop):wpOp C (.bJB off x) d K F H=bP (aO (.bJB off x) F H) d K F H:=(rfl)
@[go_sem] theorem bwF (off:Nat) (n:Option Nat) (x:aP) (d:Option Nat) (K:PF→PH→Prop):wpOp C (.field off n x) d K F H=bP (aO (.field off n x) F H) d K F H:=(rfl)
@[go_sem] theorem bxO (s:Nat) (x i:aP) (d:Option Nat) (K:PF→PH→Prop):wpOp C (.bIK s x i) d K F H=bP (aO (.bIK s x i) F H) d K F H:=(rfl)
@[go_sem] theorem bxN (n s:Nat) (x i:aP) (d:Option Nat) (K:PF→PH→Prop):wpOp C (.idxA n s x i) d K F H=bP (aO (.idxA n s x i) F H) d K F H:=(rfl)
@[go_sem] theorem bxP (n s:Nat) (g:Bool) (x i:aP) (d:Option Nat) (K:PF→PH→Prop):wpOp C (.idxV n s g x i) d K F H=bP (aO (.idxV n s g x i) F H) d K F H:=(rfl)
@[go_sem] theorem btQ (x i:aP) (d:Option Nat) (K:PF→PH→Prop):wpOp C (.bIY x i) d K F H=bP (aO (.bIY x i) F H) d K F H:=(rfl)
@[go_sem] theorem bwI (s:Nat) (x:aP) (lo hi mx:Option aP) (d:Option Nat) (K:PF→PH→Prop):wpOp C (.slice s x lo hi mx) d K F H=bP (aO (.slice s x lo hi mx) F H) d K F H:=(rfl)
@[go_sem] theorem btX (n s:Nat) (x:aP) (lo hi mx:Option aP) (d:Option Nat) (K:PF→PH→Prop):wpOp C (.sliceA n s x lo hi mx) d K F H=bP (aO (.sliceA n s x lo hi mx) F H) d K F H:=(rfl)
@[go_sem] theorem bqQ (x:aP) (lo hi:Option aP) (d:Option Nat) (K:PF→PH→Prop):wpOp C (.bIS x lo hi) d K F H=bP (aO (.bIS x lo hi) F H) d K F H:=(rfl)
@[go_sem] theorem bxF:PV.uA .aB=some (.int .i64 0):=(rfl)
@[go_sem] theorem bGC (s:Nat) (rows:List (List PV)):PV.uA (.sl s rows)=some (.int .i64 rows.length):=(rfl)
@[go_sem] theorem bBZ (o s off n:Nat):PV.uA (.osl o s off n)=some (.int .i64 n):=(rfl)
@[go_sem] theorem bFS (x:aP) (d:Option Nat) (K:PF→PH→Prop):wpOp C (.len x) d K F H=bP (aO (.len x) F H) d K F H:=(rfl)
@[go_sem] theorem btS (x:aP) (d:Option Nat) (K:PF→PH→Prop):wpOp C (.bIX x) d K F H=bP (aO (.bIX x) F H) d K F H:=(rfl)
@[go_sem] theorem bxQ (x:aP) (d:Option Nat) (K:PF→PH→Prop):wpOp C (.lenM x) d K F H=bP (aO (.lenM x) F H) d K F H:=(rfl)
@[go_sem] theorem bwG (n:Bool) (x:aP) (d:Option Nat) (K:PF→PH→Prop):wpOp C (.isNil n x) d K F H=bP (aO (.isNil n x) F H) d K F H:=(rfl)
@[go_sem] theorem btJ:PV.DC .aB=some true:=(rfl)
@[go_sem] theorem bvL (o s off len:Nat):PV.DC (.osl o s off len)=some false:=(rfl)
@[go_sem] theorem btI (s:Nat) (r:List PV) (rs:List (List PV)):PV.DC (.sl s (r::rs))=some false:=(rfl)
@[go_sem] theorem btO (x:aP) (d:Option Nat) (K:PF→PH→Prop):wpOp C (.bJR x) d K F H=bP (aO (.bJR x) F H) d K F H:=(rfl)
@[go_sem] theorem bsZ (x:aP) (i:Nat) (d:Option Nat) (K:PF→PH→Prop):wpOp C (.extract x i) d K F H=bP (aO (.extract x i) F H) d K F H:=(rfl)
@[go_sem] theorem btV (m:Bool) (x y:aP) (d:Option Nat) (K:PF→PH→Prop):wpOp C (.bIQ m x y) d K F H=bP (aO (.bIQ m x y) F H) d K F H:=(rfl)
@[go_sem] theorem bxS (n:Nat) (cs:List aP) (d:Option Nat) (K:PF→PH→Prop):wpOp C (.mkfn n cs) d K F H=bP (aO (.mkfn n cs) F H) d K F H:=(rfl)
@[go_sem] theorem btT (sh:MSh) (z:PV) (x k:aP) (ok:Bool) (d:Option Nat) (K:PF→PH→Prop):wpOp C (.lookup sh z x k ok) d K F H=bP (aO (.lookup sh z x k ok) F H) d K F H:=(rfl)
@[go_sem] theorem bqC (x:aP) (d:Option Nat) (K:PF→PH→Prop):wpOp C (.bIF x) d K F H=bP (aO (.bIF x) F H) d K F H:=(rfl)
@[go_sem] theorem bxK (x:aP) (d:Option Nat) (K:PF→PH→Prop):wpOp C (.box true x) d K F H=bP (aO (.box true x) F H) d K F H:=(rfl)
@[go_sem] theorem bsY (s l:Nat) (z:List PV) (ps:List (Nat × aP)) (d:Option Nat) (K:PF→PH→Prop):wpOp C (.bHV true s l z ps) d K F H=bP (aO (.bHV true s l z ps) F H) d K F H:=(rfl)
@[go_sem] theorem bwC (cs:List PV) (d:Option Nat) (K:PF→PH→Prop):wpOp C (.alloc cs) d K F H=lD (cQ (.alloc cs) F) d K F H:=(rfl)
@[go_sem] theorem btA (s b:Nat) (z:List PV) (l c:aP) (d:Option Nat) (K:PF→PH→Prop):wpOp C (.bHZ s b z l c) d K F H=lD (cQ (.bHZ s b z l c) F) d K F H:=(rfl)
@[go_sem] theorem bwH (sh:MSh) (d:Option Nat) (K:PF→PH→Prop):wpOp C (.bJL sh) d K F H=lD (cQ (.bJL sh) F) d K F H:=(rfl)
@[go_sem] theorem bFP (x:aP) (d:Option Nat) (K:PF→PH→Prop):wpOp C (.box false x) d K F H=lD (cQ (.box false x) F) d K F H:=(rfl)
@[go_sem] theorem btN (s l:Nat) (z:List PV) (ps:List (Nat × aP)) (d:Option Nat) (K:PF→PH→Prop):wpOp C (.bHV false s l z ps) d K F H=lD (cQ (.bHV false s l z ps) F) d K F H:=(rfl)
@[go_sem] theorem bwJ (n:Nat) (p x:aP) (d:Option Nat) (K:PF→PH→Prop):wpOp C (.store n p x) d K F H=bU (.store n p x) F H (fun r H'=>K (F.put d r) H'):=(rfl)
@[go_sem] theorem btM (s b:Nat) (x y:aP) (d:Option Nat) (K:PF→PH→Prop):wpOp C (.append s b x y) d K F H=bU (.append s b x y) F H (fun r H'=>K (F.put d r) H'):=(rfl)
@[go_sem] theorem btU (sh:MSh) (x k v:aP) (d:Option Nat) (K:PF→PH→Prop):wpOp C (.bIN sh x k v) d K F H=bU (.bIN sh x k v) F H (fun r H'=>K (F.put d r) H'):=(rfl)
@[go_sem] theorem btR (sh:MSh) (x k v:aP) (d:Option Nat) (K:PF→PH→Prop):wpOp C (.insert sh x k v) d K F H=bU (.insert sh x k v) F H (fun r H'=>K (F.put d r) H'):=(rfl)
@[go_sem] theorem bxL (n:Nat) (az:List aP) (d:Option Nat) (K:PF→PH→Prop):wpOp C (.call n az) d K F H=fP C n az [] d K F H:=(rfl)
@[go_sem] theorem bwE (x:aP) (az:List aP) (d:Option Nat) (K:PF→PH→Prop):wpOp C (.bJA x az) d K F H=(∃ n cs,x.ev F=some (.fn n cs)∧fP C n az cs d K F H):=(rfl)
theorem PF.nil_le:PF.nil.le F:=fun _ _ h=>(by cases h)
theorem PF.aI {i:Nat} {v:PV} {G:PF} (h1:F.le G) (h2:G i=some v):(F.set i v).le G:=by
 intro j u hj
 rw[nA] at hj
 split at hj
 ·rename_i e; subst e; cases hj; exact h2
 ·exact h1 _ _ hj
theorem PF.le_refl:F.le F:=fun _ _ h=>h
theorem PH.nil_le:PH.nil.le H:=fun _ _ h=>(by cases h)
theorem PH.aI {i:Nat} {x:cP} {G:PH} (h1:H.le G) (h2:G i=some x):(H.set i x).le G:=by
 intro j u hj
 rw[bS] at hj
 split at hj
 ·rename_i e; subst e; cases hj; exact h2
 ·exact h1 _ _ hj
theorem PH.le_refl:H.le H:=fun _ _ h=>h
theorem wp_loop {c:aC} {α:Type} (Fs:α→PF) (Hs:α→PH) (Pr:α→Prop) (m:α→Nat) (a0:α) (h0:Pr a0) (hF:(Fs a0).le F) (hH:(Hs a0).le H)
  (hb:∀ a,Pr a→c.wp C (eE Fs Hs Pr m (m a) K) (Fs a) (Hs a)):aC.wp C (.loop c) K F H :=
 ⟨α,Fs,Hs,Pr,m,a0,F,H,.refl F H,h0,hF,hH,hb⟩
theorem aH {α:Type} {Fs:α→PF} {Hs:α→PH} {Pr:α→Prop} {m:α→Nat} {n:Nat} (a:α) (h0:Pr a) (hm:m a<n) (hF:(Fs a).le F) (hH:(Hs a).le H):eE Fs Hs Pr m n K .normal F H :=
 ⟨a,F,H,.refl F H,h0,hm,hF,hH⟩
@[go_sem] theorem bvP {α:Type} {Fs:α→PF} {Hs:α→PH} {Pr:α→Prop} {m:α→Nat} {n:Nat} (id:Nat):eE Fs Hs Pr m n K (.exit id)=K (.exit id):=(rfl)
@[go_sem] theorem bxG {α:Type} {Fs:α→PF} {Hs:α→PH} {Pr:α→Prop} {m:α→Nat} {n:Nat}:eE Fs Hs Pr m n K .ret=K .ret:=(rfl)
def aD (v:PV) (r:PV) (H:PH):Prop:=r=v∧H=PH.nil
theorem PH.kV:H.eJ .nil .nil=H:=PH.ext fun o=>rfl
theorem aOL {name:Nat} {vs cs:List PV} {v:PV} {args:List aP} {d:Option Nat} {K:PF→PH→Prop} (h:aE C name (vs++cs) .nil (aD v)) (ha:aP.evs F args=some vs)
  (hk:K (F.put d v) H):fP C name args cs d K F H:=by
 refine .inl ⟨vs++cs,.nil,_,by rw[ha]; rfl,PH.nil_le,h,?_⟩
 rintro r H' ⟨rfl,rfl⟩ _
 rw[PH.kV]
 exact hk
theorem aA {name:Nat} {vs:List PV} {v:PV} {args:List aP} {d:Option Nat} {K:PF→PH→Prop} (h:aE C name vs .nil (aD v)) (ha:aP.evs F args=some vs)
  (hk:K (F.put d v) H):fP C name args [] d K F H:=aOL (cs:=[]) (by rw[bLM]; exact h) ha hk
theorem aM {res:List dQ} {vs:List PV} {v:PV} {e:lJ} (he:e=.normal∨e=.ret) (h:dQ.evs F H res=some vs) (hv:aV vs=v):aT res (aD v) e F H:=by
 have key:∃ vs,dQ.evs F H res=some vs∧∃ F1 H1 H2,iW (PF.nil.set 0 (aV vs)) H F1 H1∧H2.le H1∧∃ u,F1 0=some u∧aD v u H2 :=
  ⟨vs,h,_,H,.nil,.refl _ _,PH.nil_le,v,by rw[nA,if_pos rfl,hv],rfl,rfl⟩
 rcases he with rfl | rfl<;>exact key
@[go_sem] theorem pV:dQ.evs F H []=some []:=(rfl)
@[go_sem] theorem kX (x:dQ) (xs:List dQ):dQ.evs F H (x::xs)=(match x.ev F H,dQ.evs F H xs with | some v,some vs=>some (v::vs) | _,_=>none):=(rfl)
@[go_sem] theorem nY (t:Nat):dQ.ev F H (.tmp t)=F t:=(rfl)
@[go_sem] theorem bFI (t:Nat):dQ.ev F H (.cell t none)=(match F t with | some p=>(match loadCells H p 1 with | some [v]=>some v | _=>none) | none=>none):=(rfl)
@[go_sem] theorem bxH (t k:Nat):dQ.ev F H (.cell t (some k))=(match F t with | some p=>(loadCells H p k).map .agg | none=>none):=(rfl)
end
section
variable {C:Ctx} {K:cN} {F:PF} {H Hs:PH} {S:Spec}
theorem bR {ops:List (bC × Bool)} (Hs:PH) (S:Spec) (hle:Hs.le H) (h:wpD C Hs S ops (K .normal) F H):aC.wp C (.draw ops) K F H:=⟨Hs,S,hle,h⟩
def eG:Spec:=fun _ _=>none
def dOp (C:Ctx) (Hs:PH) (S:Spec) (st:Bool) (op:POp) (d:Option Nat) (K:PF→PH→Prop) (F:PF) (H:PH):Prop:=(op.kind F).run C Hs S st (fun v H'=>K (F.put d v) H') H
@[go_sem] theorem bFM (K:PF→PH→Prop):wpD C Hs S [] K F H=K F H:=(rfl)
@[go_sem] theorem bFN (d:Option Nat) (op:POp) (st:Bool) (rest:List (bC × Bool)) (K:PF→PH→Prop):wpD C Hs S ((⟨d,op,none⟩,st)::rest) K F H=dOp C Hs S st op d (wpD C Hs S rest K) F H:=(rfl)
def wV (C:Ctx) (Hs:PH) (S:Spec) (v:Option PV) (want st:Bool) (op:POp) (d:Option Nat) (rest:List (bC × Bool)) (K:PF→PH→Prop) (F:PF) (H:PH):Prop :=
 match v with
 | some (.bool b)=>if b=want then dOp C Hs S st op d (wpD C Hs S rest K) F H else wpD C Hs S rest K (F.put d (.tup [])) H
 | some (.tup [])=>wpD C Hs S rest K (F.put d (.tup [])) H
 | _=>False
@[go_sem] theorem bxJ (d:Option Nat) (op:POp) (t:Nat) (want st:Bool) (rest:List (bC × Bool)) (K:PF→PH→Prop) :
  wpD C Hs S ((⟨d,op,some (t,want)⟩,st)::rest) K F H=wV C Hs S (F t) want st op d rest K F H:=by
 have e1:wpD C Hs S ((⟨d,op,some (t,want)⟩,st)::rest) K F H=((⟨d,op,some (t,want)⟩:bC).kind F).run C Hs S st (fun v H'=>wpD C Hs S rest K (F.put d v) H') H:=(rfl)
 rw[e1]
 unfold bC.kind wV
 simp only
 cases F t with
 | none=>rfl
 | some v =>
  cases v
  case bool b =>
   simp only
   by_cases hb:b=want
   ·rw[if_pos hb,if_pos hb]; rfl
   ·rw[if_neg hb,if_neg hb]; simp[Kind.run]
  case tup vs=>cases vs<;>simp[Kind.run]
  all_goals rfl
@[go_sem] theorem bxA (op:POp) (st:Bool) (d:Option Nat) (rest:List (bC × Bool)) (K:PF→PH→Prop):wV C Hs S (some (.bool true)) true st op d rest K F H=dOp C Hs S st op d (wpD C Hs S rest K) F H:=(rfl)
@[go_sem] theorem bwX (op:POp) (st:Bool) (d:Option Nat) (rest:List (bC × Bool)) (K:PF→PH→Prop):wV C Hs S (some (.bool false)) false st op d rest K F H=dOp C Hs S st op d (wpD C Hs S rest K) F H:=(rfl)
@[go_sem] theorem bwZ (op:POp) (st:Bool) (d:Option Nat) (rest:List (bC × Bool)) (K:PF→PH→Prop):wV C Hs S (some (.bool true)) false st op d rest K F H=wpD C Hs S rest K (F.put d (.tup [])) H:=(rfl)
@[go_sem] theorem bwY (op:POp) (st:Bool) (d:Option Nat) (rest:List (bC × Bool)) (K:PF→PH→Prop):wV C Hs S (some (.bool false)) true st op d rest K F H=wpD C Hs S rest K (F.put d (.tup [])) H:=(rfl)
@[go_sem] theorem btG (want:Bool) (op:POp) (st:Bool) (d:Option Nat) (rest:List (bC × Bool)) (K:PF→PH→Prop):wV C Hs S (some (.tup [])) want st op d rest K F H=wpD C Hs S rest K (F.put d (.tup [])) H:=(rfl)
@[go_sem] theorem bGG (x:aP) (st:Bool) (d:Option Nat) (K:PF→PH→Prop):dOp C Hs S st (.mv x) d K F H=bP (aO (.mv x) F (if st then Hs else H)) d K F H:=(rfl)
@[go_sem] theorem bBP (x:aP) (st:Bool) (d:Option Nat) (K:PF→PH→Prop):dOp C Hs S st (.same x) d K F H=bP (aO (.same x) F (if st then Hs else H)) d K F H:=(rfl)
@[go_sem] theorem bBO (c a b:aP) (st:Bool) (d:Option Nat) (K:PF→PH→Prop):dOp C Hs S st (.pick c a b) d K F H=bP (aO (.pick c a b) F (if st then Hs else H)) d K F H:=(rfl)
@[go_sem] theorem bFV (o:BinOp) (x y:aP) (st:Bool) (d:Option Nat) (K:PF→PH→Prop):dOp C Hs S st (.bin o x y) d K F H=bP (aO (.bin o x y) F (if st then Hs else H)) d K F H:=(rfl)
@[go_sem] theorem bFX (n:Bool) (x y:aP) (st:Bool) (d:Option Nat) (K:PF→PH→Prop):dOp C Hs S st (.eqb n x y) d K F H=bP (aO (.eqb n x y) F (if st then Hs else H)) d K F H:=(rfl)
@[go_sem] theorem bFY (n:Bool) (ks:List Sc) (x y:aP) (st:Bool) (d:Option Nat) (K:PF→PH→Prop):dOp C Hs S st (.eqs n ks x y) d K F H=bP (aO (.eqs n ks x y) F (if st then Hs else H)) d K F H:=(rfl)
@[go_sem] theorem bGH (o:UnOp) (x:aP) (st:Bool) (d:Option Nat) (K:PF→PH→Prop):dOp C Hs S st (.un o x) d K F H=bP (aO (.un o x) F (if st then Hs else H)) d K F H:=(rfl)
@[go_sem] theorem bBH (k:IntKind) (x:aP) (st:Bool) (d:Option Nat) (K:PF→PH→Prop):dOp C Hs S st (.conv k x) d K F H=bP (aO (.conv k x) F (if st then Hs else H)) d K F H:=(rfl)
@[go_sem] theorem bwO (z:List PV) (ps:List (Nat × Nat × aP)) (st:Bool) (d:Option Nat) (K:PF→PH→Prop):dOp C Hs S st (.build z ps) d K F H=bP (aO (.build z ps) F (if st then Hs else H)) d K F H:=(rfl)
@[go_sem] theorem bBM (n:Option Nat) (p:aP) (st:Bool) (d:Option Nat) (K:PF→PH→Prop):dOp C Hs S st (.load n p) d K F H=bP (aO (.load n p) F (if st then Hs else H)) d K F H:=(rfl)
@[go_sem] theorem bvF (x:aP) (st:Bool) (d:Option Nat) (K:PF→PH→Prop):dOp C Hs S st (.bIE x) d K F H=bP (aO (.bIE x) F (if st then Hs else H)) d K F H:=(rfl)
@[go_sem] theorem buZ (off:Nat) (x:aP) (st:Bool) (d:Option Nat) (K:PF→PH→Prop):dOp C Hs S st (.bJB off x) d K F H=bP (aO (.bJB off x) F (if st then Hs else H)) d K F H:=(rfl)
@[go_sem] theorem bwP (off:Nat) (n:Option Nat) (x:aP) (st:Bool) (d:Option Nat) (K:PF→PH→Prop):dOp C Hs S st (.field off n x) d K F H=bP (aO (.field off n x) F (if st then Hs else H)) d K F H:=(rfl)
@[go_sem] theorem bBJ (s:Nat) (x i:aP) (st:Bool) (d:Option Nat) (K:PF→PH→Prop):dOp C Hs S st (.bIK s x i) d K F H=bP (aO (.bIK s x i) F (if st then Hs else H)) d K F H:=(rfl)
@[go_sem] theorem bBI (n s:Nat) (x i:aP) (st:Bool) (d:Option Nat) (K:PF→PH→Prop):dOp C Hs S st (.idxA n s x i) d K F H=bP (aO (.idxA n s x i) F (if st then Hs else H)) d K F H:=(rfl)
@[go_sem] theorem bBK (n s:Nat) (g:Bool) (x i:aP) (st:Bool) (d:Option Nat) (K:PF→PH→Prop):dOp C Hs S st (.idxV n s g x i) d K F H=bP (aO (.idxV n s g x i) F (if st then Hs else H)) d K F H:=(rfl)
@[go_sem] theorem bvA (x i:aP) (st:Bool) (d:Option Nat) (K:PF→PH→Prop):dOp C Hs S st (.bIY x i) d K F H=bP (aO (.bIY x i) F (if st then Hs else H)) d K F H:=(rfl)
@[go_sem] theorem bwS (s:Nat) (x:aP) (lo hi mx:Option aP) (st:Bool) (d:Option Nat) (K:PF→PH→Prop):dOp C Hs S st (.slice s x lo hi mx) d K F H=bP (aO (.slice s x lo hi mx) F (if st then Hs else H)) d K F H:=(rfl)
@[go_sem] theorem bqZ (x:aP) (lo hi:Option aP) (st:Bool) (d:Option Nat) (K:PF→PH→Prop):dOp C Hs S st (.bIS x lo hi) d K F H=bP (aO (.bIS x lo hi) F (if st then Hs else H)) d K F H:=(rfl)
@[go_sem] theorem bFZ (x:aP) (st:Bool) (d:Option Nat) (K:PF→PH→Prop):dOp C Hs S st (.len x) d K F H=bP (aO (.len x) F (if st then Hs else H)) d K F H:=(rfl)
@[go_sem] theorem bvB (x:aP) (st:Bool) (d:Option Nat) (K:PF→PH→Prop):dOp C Hs S st (.bIX x) d K F H=bP (aO (.bIX x) F (if st then Hs else H)) d K F H:=(rfl)
@[go_sem] theorem bBL (x:aP) (st:Bool) (d:Option Nat) (K:PF→PH→Prop):dOp C Hs S st (.lenM x) d K F H=bP (aO (.lenM x) F (if st then Hs else H)) d K F H:=(rfl)
@[go_sem] theorem bwQ (n:Bool) (x:aP) (st:Bool) (d:Option Nat) (K:PF→PH→Prop):dOp C Hs S st (.isNil n x) d K F H=bP (aO (.isNil n x) F (if st then Hs else H)) d K F H:=(rfl)
@[go_sem] theorem buY (x:aP) (st:Bool) (d:Option Nat) (K:PF→PH→Prop):dOp C Hs S st (.bJR x) d K F H=bP (aO (.bJR x) F (if st then Hs else H)) d K F H:=(rfl)
@[go_sem] theorem btE (x:aP) (i:Nat) (st:Bool) (d:Option Nat) (K:PF→PH→Prop):dOp C Hs S st (.extract x i) d K F H=bP (aO (.extract x i) F (if st then Hs else H)) d K F H:=(rfl)
@[go_sem] theorem bvE (m:Bool) (x y:aP) (st:Bool) (d:Option Nat) (K:PF→PH→Prop):dOp C Hs S st (.bIQ m x y) d K F H=bP (aO (.bIQ m x y) F (if st then Hs else H)) d K F H:=(rfl)
@[go_sem] theorem bBN (n:Nat) (cs:List aP) (st:Bool) (d:Option Nat) (K:PF→PH→Prop):dOp C Hs S st (.mkfn n cs) d K F H=bP (aO (.mkfn n cs) F (if st then Hs else H)) d K F H:=(rfl)
@[go_sem] theorem bvC (sh:MSh) (z:PV) (x k:aP) (ok:Bool) (st:Bool) (d:Option Nat) (K:PF→PH→Prop):dOp C Hs S st (.lookup sh z x k ok) d K F H=bP (aO (.lookup sh z x k ok) F (if st then Hs else H)) d K F H:=(rfl)
@[go_sem] theorem bqP (x:aP) (st:Bool) (d:Option Nat) (K:PF→PH→Prop):dOp C Hs S st (.bIF x) d K F H=bP (aO (.bIF x) F (if st then Hs else H)) d K F H:=(rfl)
@[go_sem] theorem bBG (x:aP) (st:Bool) (d:Option Nat) (K:PF→PH→Prop):dOp C Hs S st (.box true x) d K F H=bP (aO (.box true x) F (if st then Hs else H)) d K F H:=(rfl)
@[go_sem] theorem btD (s l:Nat) (z:List PV) (ps:List (Nat × aP)) (st:Bool) (d:Option Nat) (K:PF→PH→Prop):dOp C Hs S st (.bHV true s l z ps) d K F H=bP (aO (.bHV true s l z ps) F (if st then Hs else H)) d K F H:=(rfl)
@[go_sem] theorem bwN (cs:List PV) (st:Bool) (d:Option Nat) (K:PF→PH→Prop):dOp C Hs S st (.alloc cs) d K F H=lD (cQ (.alloc cs) F) d K F H:=(rfl)
@[go_sem] theorem btF (s b:Nat) (z:List PV) (l c:aP) (st:Bool) (d:Option Nat) (K:PF→PH→Prop):dOp C Hs S st (.bHZ s b z l c) d K F H=lD (cQ (.bHZ s b z l c) F) d K F H:=(rfl)
@[go_sem] theorem bwR (sh:MSh) (st:Bool) (d:Option Nat) (K:PF→PH→Prop):dOp C Hs S st (.bJL sh) d K F H=lD (cQ (.bJL sh) F) d K F H:=(rfl)
@[go_sem] theorem bFW (x:aP) (st:Bool) (d:Option Nat) (K:PF→PH→Prop):dOp C Hs S st (.box false x) d K F H=lD (cQ (.box false x) F) d K F H:=(rfl)
@[go_sem] theorem buX (s l:Nat) (z:List PV) (ps:List (Nat × aP)) (st:Bool) (d:Option Nat) (K:PF→PH→Prop):dOp C Hs S st (.bHV false s l z ps) d K F H=lD (cQ (.bHV false s l z ps) F) d K F H:=(rfl)
@[go_sem] theorem bwT (n:Nat) (p x:aP) (st:Bool) (d:Option Nat) (K:PF→PH→Prop):dOp C Hs S st (.store n p x) d K F H=bU (.store n p x) F H (fun r H'=>Hs.le H'∧K (F.put d r) H'):=(rfl)
@[go_sem] theorem buW (s b:Nat) (x y:aP) (st:Bool) (d:Option Nat) (K:PF→PH→Prop):dOp C Hs S st (.append s b x y) d K F H=bU (.append s b x y) F H (fun r H'=>Hs.le H'∧K (F.put d r) H'):=(rfl)
@[go_sem] theorem bvD (sh:MSh) (x k v:aP) (st:Bool) (d:Option Nat) (K:PF→PH→Prop):dOp C Hs S st (.bIN sh x k v) d K F H=bU (.bIN sh x k v) F H (fun r H'=>Hs.le H'∧K (F.put d r) H'):=(rfl)
theorem rX:H.only []=PH.nil:=PH.ext fun o=>by simp[PH.only,PH.nil]
theorem bJ {name:Nat} {vs:List PV} {v:PV} {args:List aP} {st:Bool} {d:Option Nat} {K:PF→PH→Prop} (hS:S name vs=some ([],fun _=>aD v)) (h:aE C name vs .nil (aD v)) (ha:aP.evs F args=some vs)
  (hle:Hs.le H) (hk:K (F.put d v) H):dOp C Hs S st (.call name args) d K F H:=by
 refine⟨vs,[],fun _=>aD v,ha,hS,fun o ho=>by simp at ho,by rw[rX]; exact h,fun G=>⟨v,.nil,⟨rfl,rfl⟩,fun o x hx=>by simp[PH.nil] at hx⟩,?_⟩
 rintro r H' ⟨rfl,rfl⟩ -
 rw[rX,PH.kV]
 exact⟨hle,hk⟩
theorem RY {sh:MSh} {x k v:aP} {o:Nat} {kv vv:PV} {key:List KS} {g:fG} {st:Bool} {d:Option Nat} {K:PF→PH→Prop} (hx:x.ev F=some (.map o)) (hk:k.ev F=some kv) (hv:v.ev F=some vv) (hkey:keyOf sh kv=some key)
  (ho:H o=some (.map sh g)) (hg:g key=none) (hs:Hs o=none) (h:K (F.put d .junk) (H.set o (.map sh (g.upd key vv)))):dOp C Hs S st (.insert sh x k v) d K F H:=by
 refine⟨o,sh,key,vv,g,?_,ho,hg,hs,h⟩
 simp only[hx,hk,hv,hkey,bLF]
end
theorem wrap_i64 {n:Int} (h1:-9223372036854775808≤n) (h2:n≤9223372036854775807):IntKind.i64.wrap n=n:=by
 have e:IntKind.i64.wrap n=if decide (n%18446744073709551616≥9223372036854775808)=true then n%18446744073709551616-18446744073709551616 else n%18446744073709551616:=by
  simp[IntKind.wrap,IntKind.bits,IntKind.signed]
 rw[e]
 split
 ·rename_i h; simp only[decide_eq_true_eq] at h; omega
 ·rename_i h; simp only[decide_eq_true_eq] at h; omega
theorem sH {k:Nat} (h:k≤9223372036854775807):IntKind.i64.wrap (k:Int)=k:=wrap_i64 Om Om
theorem dH {k:Nat} (h:k<9223372036854775807):IntKind.i64.wrap ((k:Int)+1)=((k+1:Nat):Int):=by
 rw[wrap_i64 Om Om]; omega
theorem wZz (k:Nat) (h:k<9223372036854775807:=by omega):IntKind.i64.wrap ((k:Int)+1)=((k+1:Nat):Int):=dH h
theorem wrap_u64 {n:Int} (h1:0≤n) (h2:n<18446744073709551616):IntKind.u64.wrap n=n:=by
 have e:IntKind.u64.wrap n=n%18446744073709551616:=by
  simp[IntKind.wrap,IntKind.bits,IntKind.signed]
 rw[e]; omega
theorem wrap_u8 {n:Int} (h1:0≤n) (h2:n<256):IntKind.u8.wrap n=n:=by
 have e:IntKind.u8.wrap n=n%256:=by
  simp[IntKind.wrap,IntKind.bits,IntKind.signed]
 rw[e]; omega
abbrev ints (xs:List Int):PV:=.sl 1 (xs.map fun n=>[.int .i64 n])
open Go Go.RowKit
inductive CT where
 | int (k:IntKind)
 | bool
 | str
 | sl (es:List CT)
 deriving Inhabited
def oL (P:Program) (rec:TypeId→Option (List CT)):Nat→List Field→Option (List CT)
 | _,[]=>some []
 | k,f::fs=>match rec f.type with
  | some cts=>if f.offset=k∧P.cellsOf f.type=cts.length then (oL P rec (k+cts.length) fs).map (cts++·) else none
  | none=>none
def fS (P:Program):Nat→TypeId→Option (List CT)
 | 0,_=>none
 | n+1,t=>match P.underlying t with
  | some .bool=>some [.bool]
  | some (.int k)=>some [.int k]
  | some .string=>some [.str]
  | some (.slice e)=>match fS P n e with
   | some cts=>if P.cellsOf e=cts.length∧0<cts.length then some [.sl cts] else none
   | none=>none
  | some (.struct fs)=>match oL P (fS P n) 0 fs.toList with
   | some cts=>if P.cellsOf t=cts.length then some cts else none
   | none=>none
  | some (.array k e)=>match fS P n e with
   | some cts=>if P.cellsOf e=cts.length∧P.cellsOf t=k*cts.length then some (bJW k cts).flatten else none
   | none=>none
  | _=>none
inductive PV.Ty:CT→PV→Prop
 | int {k:IntKind} {n:Int} (h:(Lit.int k n).wf=true):PV.Ty (.int k) (.int k n)
 | bool (b:Bool):PV.Ty .bool (.bool b)
 | str {s:List UInt8} (h:s.length≤maxLen):PV.Ty .str (.str s)
 | sl {es:List CT} {rows:List (List PV)} (hr:∀ r∈rows,r.length=es.length) (hl:rows.length≤maxLen) (h:∀ (i j:Nat) pv ct,at2 rows i j=some pv→es[j]?=some ct→PV.Ty ct pv):PV.Ty (.sl es) (.sl es.length rows)
def Env.of (W:World) (num:Nat→FuncId):Env:=⟨fun b=>match W.heap[b]? with | some (.cells cs _ _)=>some cs | _=>none,fun _=>none,num⟩
theorem bM.start (W:World) (num:Nat→FuncId):bM (Env.of W num) PH.nil W:=by
 refine⟨fun b cs hb=>⟨fun x hx=>(by cases hx),?_⟩,fun o x hx=>(by cases hx),fun o n h=>(by cases h)⟩
 simp only[Env.of] at hb
 split at hb
 ·rename_i c ty fr h
  cases hb
  exact⟨ty,fr,h⟩
 ·cases hb
structure Reads (E:Env) (cts:List CT) (pvs:List PV) (cs:List Value):Prop where
 lp:pvs.length=cts.length
 lc:cs.length=cts.length
 rep:∀ (j:Nat) pv c,pvs[j]?=some pv→cs[j]?=some c→aY E pv c∧c.oneCell'=true
 ty:∀ (j:Nat) pv ct,pvs[j]?=some pv→cts[j]?=some ct→PV.Ty ct pv
theorem Reads.one {E:Env} {ct:CT} {pv:PV} {c:Value} (h:aY E pv c) (h1:c.oneCell'=true) (ht:PV.Ty ct pv):Reads E [ct] [pv] [c]:=by
 refine⟨rfl,rfl,fun j p u a b=>?_,fun j p u a b=>?_⟩
 ·cases j with
  | zero=>simp at a b; subst a; subst b; exact⟨h,h1⟩
  | succ j=>simp at a
 ·cases j with
  | zero=>simp at a b; subst a; subst b; exact ht
  | succ j=>simp at a
theorem Reads.append {E:Env} {ct1 ct2:List CT} {p1 p2:List PV} {c1 c2:List Value} (h:Reads E ct1 p1 c1) (k:Reads E ct2 p2 c2):Reads E (ct1++ct2) (p1++p2) (c1++c2):=by
 refine⟨by simp[h.lp,k.lp],by simp[h.lc,k.lc],fun j p u a b=>?_,fun j p u a b=>?_⟩
 ·rcases bKM j p1.length with hj | hj
  ·rw[bMH hj] at a
   rw[bMH (by rw[h.lc,← h.lp]; exact hj)] at b
   exact h.rep j p u a b
  ·rw[bLS hj] at a
   rw[bLS (by rw[h.lc,← h.lp]; exact hj)] at b
   rw[show j-c1.length=j-p1.length by rw[h.lc,h.lp]] at b
   exact k.rep _ p u a b
 ·rcases bKM j p1.length with hj | hj
  ·rw[bMH hj] at a
   rw[bMH (by rw[← h.lp]; exact hj)] at b
   exact h.ty j p u a b
  ·rw[bLS hj] at a
   rw[bLS (by rw[← h.lp]; exact hj)] at b
   rw[show j-ct1.length=j-p1.length by rw[h.lp]] at b
   exact k.ty _ p u a b
theorem aaK {W:World} {num:Nat→FuncId} {a:Addr} {v:Value} (h:W.cell? a=some v):a.spot=none∧(Env.of W num).cell a.block a.off=some v:=by
 unfold World.cell? at h
 split at h
 ·rename_i c ty fr hb
  split at h
  ·cases h
  ·rename_i hs
   refine⟨by simpa using hs,?_⟩
   simp only[Env.cell,Env.of,hb]
   exact h
 ·cases h
inductive PV.Len (N:Nat):PV→Prop
 | flat {pv:PV} (h1:∀ n rows,pv≠.sl n rows) (h2:∀ vs,pv≠.agg vs):PV.Len N pv
 | sl {n:Nat} {rows:List (List PV)} (h:rows.length≤N) (hr:∀ r∈rows,∀ v∈r,PV.Len N v):PV.Len N (.sl n rows)
 | agg {vs:List PV} (h:∀ v∈vs,PV.Len N v):PV.Len N (.agg vs)
theorem PV.Len.int {N:Nat} (k:IntKind) (n:Int):PV.Len N (.int k n):=.flat (fun _ _ h=>by cases h) fun _ h=>by cases h
theorem PV.Len.bool {N:Nat} (b:Bool):PV.Len N (.bool b):=.flat (fun _ _ h=>by cases h) fun _ h=>by cases h
theorem PV.Len.str {N:Nat} (s:List UInt8):PV.Len N (.str s):=.flat (fun _ _ h=>by cases h) fun _ h=>by cases h
theorem PV.Len.rows {N n:Nat} {rows:List (List PV)} (h:PV.Len N (.sl n rows)):rows.length≤N∧∀ r∈rows,∀ v∈r,PV.Len N v:=by
 cases h with
 | flat h1 _=>exact absurd rfl (h1 n rows)
 | sl h1 h2=>exact⟨h1,h2⟩
theorem PV.Len.parts {N:Nat} {vs:List PV} (h:PV.Len N (.agg vs)):∀ v∈vs,PV.Len N v:=by
 cases h with
 | flat _ h2=>exact absurd rfl (h2 vs)
 | agg h=>exact h
structure WL {H:Type} (P:Program) (N:Nat) (S:TypeId→DataW H→Prop):Prop where
 sl:∀ t e elems spare,P.underlying t=some (.slice e)→S t (.slice elems spare)→elems.length≤N∧∀ d∈elems,S e d
 st:∀ t fs parts,P.underlying t=some (.struct fs)→S t (.agg parts)→∀ (i:Nat) g d,fs[i]?=some g→parts[i]?=some d→S g.type d
 ar:∀ t n e parts,P.underlying t=some (.array n e)→S t (.agg parts)→∀ d∈parts,S e d
theorem RU {H:Type} {P:Program} {A:(TypeId→DataW H→Prop)→Prop} {pv:PV} (h:∀ {N},PV.Len N pv):∀ N S,WL P N S→A S→∀ v∈[pv],PV.Len N v:=fun N S _ _ v hv=>by
 obtain rfl:=bLD.1 hv
 exact h
theorem acD {P:Program} {E:Env} {rec:TypeId→Option (List CT)} {H:Type} {f:TypeId→List Value→Option (DataW H × List MemPlace)}
  (ih:∀ t cs x cts,f t cs=some x→rec t=some cts→∃ pvs,Reads E cts pvs cs∧∀ N S,WL P N S→S t x.1→∀ v∈pvs,PV.Len N v) (cs:List Value) :
  ∀ (fs:List Field) (k:Nat) (cts:List CT),(∀ g∈fs,∃ x,f g.type ((cs.drop g.offset).take (P.cellsOf g.type))=some x)→oL P rec k fs=some cts →
   ∃ pvs,Reads E cts pvs ((cs.drop k).take cts.length)∧∀ N S,WL P N S→(∀ g∈fs,∀ x,f g.type ((cs.drop g.offset).take (P.cellsOf g.type))=some x→S g.type x.1)→∀ v∈pvs,PV.Len N v
 | [],k,cts,_,h=>by
  simp[oL] at h; subst h
  exact⟨[],⟨rfl,by simp,fun j p c a=>by simp at a,fun j p c a=>by simp at a⟩,fun _ _ _ _ v hv=>by cases hv⟩
 | g::fs,k,cts,hm,h=>by
  simp only[oL] at h
  split at h
  ·rename_i c1 h1
   split at h
   ·rename_i hc
    simp only[bKB] at h
    obtain⟨c2,h2,rfl⟩:=h
    obtain⟨x,hx⟩:=hm g (by simp)
    obtain⟨p1,r1,l1⟩:=ih _ _ _ _ hx h1
    rw[hc.1,hc.2] at r1
    obtain⟨p2,r2,l2⟩:=acD ih cs fs (k+c1.length) c2 (fun g' hg'=>hm g' (by simp[hg'])) h2
    refine⟨p1++p2,?_,fun N S hM hS v hv=>?_⟩
    ·have:=r1.append r2
     rw[bKA,List.take_add,List.drop_drop]
     exact this
    ·rcases bLH.1 hv with hv | hv
     ·exact l1 N S hM (hS g (by simp) x hx) v hv
     ·exact l2 N S hM (fun g' hg'=>hS g' (by simp[hg'])) v hv
   ·cases h
  ·cases h
theorem aoS {E:Env} {cts:List CT} {R:List PV→Prop} (h0:R []) (h1:∀ a b,R a→R b→R (a++b)) (cs:List Value) :
  ∀ n:Nat,(∀ i,i<n→∃ pvs,Reads E cts pvs ((cs.drop (i*cts.length)).take cts.length)∧R pvs)→∃ pvs,Reads E (bJW n cts).flatten pvs (cs.take (n*cts.length))∧R pvs
 | 0,_=>⟨[],⟨rfl,by simp,fun j p c a=>by simp at a,fun j p c a=>by simp at a⟩,h0⟩
 | n+1,h=>by
  obtain⟨p1,r1,q1⟩:=aoS h0 h1 cs n fun i hi=>h i Om
  obtain⟨p2,r2,q2⟩:=h n Om
  refine⟨p1++p2,?_,h1 _ _ q1 q2⟩
  rw[List.replicate_succ',List.flatten_append,List.flatten_singleton,Nat.succ_mul,List.take_add]
  exact r1.append r2
theorem biN {H:Type} {enc:TypeId × Value→H} {P:Program} {W:World} {base:Nat} {sp:Nat→Bool} {held:Bool} (num:Nat→FuncId) :
  ∀ (fuel m:Nat) (t:TypeId) (cs:List Value) (x:DataW H × List MemPlace) (cts:List CT),DataW.trod enc P W base sp held fuel t cs=some x→fS P m t=some cts→∃ pvs,Reads (Env.of W num) cts pvs cs∧∀ N S,WL P N S→S t x.1→∀ v∈pvs,PV.Len N v:=by
 intro fuel
 induction fuel with
 | zero=>intro m t cs x cts h; simp[DataW.trod] at h
 | succ fuel ih =>
  intro m t cs x cts h hc
  cases m with
  | zero=>simp[fS] at hc
  | succ m =>
   simp only[fS] at hc
   split at hc
   ·rename_i hu
    cases hc
    obtain⟨b,rfl,-⟩:=DataW.trod_bool hu h
    exact⟨[.bool b],.one (.bool b) rfl (.bool b),RU (.bool b)⟩
   ·rename_i k hu
    cases hc
    obtain⟨n,rfl,-,hw⟩:=DataW.trod_int hu h
    exact⟨[.int k n],.one (.int k n) rfl (.int hw),RU (.int k n)⟩
   ·rename_i hu
    cases hc
    obtain⟨s,rfl,-,hs⟩:=DataW.trod_string hu h
    exact⟨[.str s.data.toList],.one (.str s) rfl (.str (by rw[bMR]; exact hs)),RU (.str _)⟩
   ·rename_i e hu
    split at hc
    ·rename_i ces he
     split at hc
     ·rename_i bJC
      cases hc
      rcases DataW.trod_slice hu h with ⟨rfl,-⟩ | ⟨a,len,cap,elems,rest,n,hn,rfl,hxe,-,hlen,hcap,hel,helem,-⟩
      ·refine⟨[.sl ces.length []],.one ?_ rfl (.sl (by simp) (by simp) (by simp[at2])),RU (.sl (bKF _) (fun r hr=>by cases hr))⟩
       exact .sl (fun _ _=>.bool false) (by simp) (by decide) (by simp) (by simp) (fun _ _=>rfl) (by simp[at2])
      ·cases hn
       have each:∀ i,i<len→∃ pvs us,(Reads (Env.of W num) ces pvs us∧∀ N S,WL P N S→(∀ d∈elems.map (·.1),S e d)→∀ v∈pvs,PV.Len N v)∧W.cells? base (a.add (i*ces.length)) ces.length=some us:=by
        intro i hi
        have h1:=helem i hi
        rw[bKD Om,bMV] at h1
        obtain⟨us,h2,h3⟩:=h1
        obtain⟨pvs,r,rl⟩:=ih m e us _ ces h3 he
        rw[bJC.1] at h2
        exact⟨pvs,us,⟨r,fun N S hM hS=>rl N S hM (hS _ (bKX.2 ⟨_,bJX _,rfl⟩))⟩,h2⟩
       have each':∀ i,∃ pvs,∃ us,i<len→(Reads (Env.of W num) ces pvs us∧∀ N S,WL P N S→(∀ d∈elems.map (·.1),S e d)→∀ v∈pvs,PV.Len N v)∧W.cells? base (a.add (i*ces.length)) ces.length=some us:=by
        intro i
        by_cases hi:i<len
        ·obtain⟨pvs,us,h1⟩:=each i hi
         exact⟨pvs,us,fun _=>h1⟩
        ·exact⟨[],[],fun h=>(hi h).elim⟩
       obtain⟨pf,hpf⟩:=Classical.axiomOfChoice each'
       obtain⟨uf,huf⟩:=Classical.axiomOfChoice hpf
       have hat:∀ i j pv,at2 ((bJU len).map pf) i j=some pv→i<len∧(pf i)[j]?=some pv:=by
        intro i j pv hp
        unfold at2 at hp
        rw[bKZ,bMV] at hp
        obtain⟨r,hr,hp⟩:=hp
        rw[bKB] at hr
        obtain⟨i',hi',rfl⟩:=hr
        have hi:i<len:=by simpa using (bKV.1 hi').1
        have:i'=i:=by simp[hi] at hi'; exact hi'.symm
        subst this
        exact⟨hi,hp⟩
       have hu2:∀ i j pv,at2 ((bJU len).map pf) i j=some pv→∃ v,(uf i)[j]?=some v∧j<ces.length∧aY (Env.of W num) pv v∧v.oneCell'=true:=by
        intro i j pv hp
        obtain⟨hi,hp'⟩:=hat i j pv hp
        obtain⟨⟨r,-⟩,-⟩:=huf i hi
        have hj:j<ces.length:=by rw[← r.lp]; exact (bKV.1 hp').1
        have hv:(uf i)[j]?=some ((uf i)[j]'(by rw[r.lc]; exact hj)):=bKD _
        exact⟨_,hv,hj,(r.rep j pv _ hp' hv).1,(r.rep j pv _ hp' hv).2⟩
       have hul:((bJU len).map pf).length=len:=by simp
       refine⟨[.sl ces.length ((bJU len).map pf)],.one ?_ rfl (.sl (fun r hr=>?_) (by rw[hul]; omega) fun i j pv ct hp hct=>?_),fun N S hM hS v hv=>?_⟩
       ·have key:=aY.sl (E:=Env.of W num) (size:=ces.length) (rows:=(bJU len).map pf) (a:=some a) (cap:=cap)
         (fun i j=>match at2 ((bJU len).map pf) i j with | some _=>((uf i)[j]?).getD (.bool false) | none=>.bool false) (by rw[hul]; exact hlen) hcap
         (fun r hr=>by
          simp only[bKX,bLI] at hr
          obtain⟨i,hi,rfl⟩:=hr
          exact (huf i hi).1.1.lp)
         (fun hne=>by
          have hl0:0<len:=by
           rcases bMT len with h | h
           ·subst h; exact (hne rfl).elim
           ·exact h
          have hsp:a.spot=none:=by
           obtain⟨⟨r,-⟩,hc⟩:=huf 0 hl0
           have h3:=(World.cells?_some hc).2.2 0 bJC.2
           rw[Nat.zero_mul,Addr.add_zero',Addr.add_zero',bKD (by rw[r.lc]; exact bJC.2)] at h3
           exact (aaK (num:=num) h3).1
          refine⟨a,rfl,hsp,fun i j pv hp=>?_⟩
          obtain⟨hi,-⟩:=hat i j pv hp
          obtain⟨v,hv,hj,-⟩:=hu2 i j pv hp
          have h3:=(World.cells?_some (huf i hi).2).2.2 j hj
          rw[lL hsp,add_plain,add_plain,hv] at h3
          have h4:=(aaK (num:=num) h3).2
          simp only[hp,hv,bMJ]
          exact h4)
         (fun i j=>by
          split
          ·rename_i pv hp
           obtain⟨v,hv,-,-,h1⟩:=hu2 i j pv hp
           simp[hv,h1]
          ·rfl)
         (fun i j pv hp=>by
          obtain⟨v,hv,-,h1,-⟩:=hu2 i j pv hp
          simp only[hp,hv,bMJ]
          exact h1)
        rw[hul] at key
        exact key
       ·simp only[bKX,bLI] at hr
        obtain⟨i,hi,rfl⟩:=hr
        exact (huf i hi).1.1.lp
       ·obtain⟨hi,hp'⟩:=hat i j pv hp
        exact (huf i hi).1.1.ty j pv ct hp' hct
       ·rw[hxe] at hS
        obtain⟨m1,m2⟩:=hM.sl t e _ _ hu hS
        obtain rfl:=bLD.1 hv
        refine .sl (by rw[hul]; simpa [hel] using m1) fun r hr w hw=>?_
        simp only[bKX,bLI] at hr
        obtain⟨i,hi,rfl⟩:=hr
        exact (huf i hi).1.2 N S hM m2 w hw
     ·cases hc
    ·cases hc
   ·rename_i fs hu
    split at hc
    ·rename_i cts' hcf
     split at hc
     ·rename_i hlen
      cases hc
      obtain⟨xs,n,hn,hxe,hcl,hxl,hx⟩:=DataW.trod_struct hu h
      cases hn
      have:=acD (f:=DataW.trod enc P W base sp held fuel) (fun t cs x cts a b=>ih m t cs x cts a b) cs fs.toList 0 cts (fun g hg=>by
       obtain⟨i,hi,rfl⟩:=bMA hg
       have:=hx i fs.toList[i] (by simp at hi; simp[hi])
       rw[this]
       exact⟨_,bKD (by simp at hi; omega)⟩) hcf
      rw[bKW,bKK Om] at this
      obtain⟨pvs,r,rl⟩:=this
      refine⟨pvs,r,fun N S hM hS=>rl N S hM fun g hg y hy=>?_⟩
      rw[hxe] at hS
      obtain⟨i,hi,rfl⟩:=bMA hg
      have hi':i<fs.size:=by simpa using hi
      have:=hx i fs.toList[i] (by simp[hi'])
      rw[hy,bKD Om] at this
      refine hM.st t fs _ hu hS i fs.toList[i] y.1 (by simp[hi']) ?_
      rw[bKZ,bKD Om,← this]; rfl
     ·cases hc
    ·cases hc
   ·rename_i k e hu
    split at hc
    ·rename_i ces he
     split at hc
     ·rename_i bJC
      cases hc
      obtain⟨xs,n,hn,hxe,hcl,hxl,hx⟩:=DataW.trod_array hu h
      cases hn
      obtain⟨pvs,r,hq⟩:=aoS (E:=Env.of W num) (cts:=ces) (R:=fun pvs=>∀ N S,WL P N S→(∀ d:DataW H,d∈xs.map (fun y:DataW H × List MemPlace=>y.1)→S e d)→∀ v∈pvs,PV.Len N v) (fun _ _ _ _ v hv=>by cases hv)
       (fun a b ha hb N S hM hS v hv=>(bLH.1 hv).elim (ha N S hM hS v) (hb N S hM hS v)) cs k fun i hi=>by
        have h2:=hx i hi
        rw[bKD Om,bJC.1] at h2
        obtain⟨pvs,r,rl⟩:=ih m e _ _ ces h2 he
        exact⟨pvs,r,fun N S hM hS=>rl N S hM (hS _ (bKX.2 ⟨_,bJX _,rfl⟩))⟩
      rw[bKK Om] at r
      exact⟨pvs,r,fun N S hM hS=>hq N S hM (hM.ar t k e _ hu (by rw[hxe] at hS; exact hS))⟩
     ·cases hc
    ·cases hc
   ·cases hc
theorem agL {H:Type} {enc:TypeId × Value→H} {P:Program} {W:World} {base:Nat} {sp:Nat→Bool} {held:Bool} (num:Nat→FuncId)
  (fuel m:Nat) (t:TypeId) (cs:List Value) (x:DataW H × List MemPlace) (cts:List CT) (h:DataW.trod enc P W base sp held fuel t cs=some x) (hc:fS P m t=some cts):∃ pvs,Reads (Env.of W num) cts pvs cs :=
 (biN num fuel m t cs x cts h hc).imp fun _ r=>r.1
open Go Go.RowKit Go.ChangeShapes Go.WideShapes
theorem Ext.below {E E':Env} {H':PH} {w w':World} (h:Ext E PH.nil w E' H' w'):Below w.heap.size w w' :=
 ⟨h.os,h.tape,h.output,h.size,fun k hk=>h.block k hk rfl⟩
theorem Below.trodAll {H:Type} {enc:TypeId × Value→H} {P:Program} (hl:laidOutB P=true) {W W':World} (hb:Below W.heap.size W W') :
  ∀ {ts:List TypeId} {vs:List Value} {ds:List (DataW H)} {ps:List MemPlace},(∀ t∈ts,P.readableRec t=true∧t<P.types.size)→DataW.TrodAll enc P W 0 (fun _=>true) true ts vs ds ps →
   DataW.TrodAll enc P W' 0 (fun b=>decide (b<W.heap.size)) true ts vs ds ps
 | [],[],[],ps,_,h=>h
 | [],_::_,_,_,_,h=>h.elim
 | [],[],_::_,_,_,h=>h.elim
 | _::_,[],_,_,_,h=>h.elim
 | _::_,_::_,[],_,_,h=>h.elim
 | t::ts,v::vs,d::ds,ps,ht,h=>by
  obtain⟨p,q,h1,h2,rfl⟩:=h
  have hlt:∀ x∈p,x.block<W.heap.size:=fun x hx=>DataW.TrodAll.lt (ts:=[t]) (vs:=[v]) (ds:=[d]) ⟨p,[],h1,rfl,(bLM p).symm⟩ x hx
  exact⟨p,q,Below.trod hl (ht t (by simp)).1 (ht t (by simp)).2 h1 hb hlt,Below.trodAll hl hb (fun u hu=>ht u (by simp[hu])) h2,rfl⟩
theorem a9G {H:Type} {enc:TypeId × Value→H} {P:Program} {f:Func} {s:ChangeSpec} {handsOn apart fresh:Bool} {W W':World} {args:Array Value} {ds gs:List (DataW H)} {before:List MemPlace} {bt:TypeId}
  (hl:laidOutB P=true) (hW:DataW.Whole enc P f.params.toList s.vars apart W args.toList ds gs before) (hb:Below W.heap.size W W') (hts:∀ t∈f.params.toList,P.readableRec t=true∧t<P.types.size)
  (hrt:f.resultTypes=#[bt]) (hbt:P.underlying bt=some .bool) (hv:s.vars=[]) (hr:(s.fn H (ds++gs)).results=[.lit (.bool true)]) (ha:(s.fn H (ds++gs)).args=ds) (hvs:(s.fn H (ds++gs)).vars=[]) :
  s.post enc P f apart fresh handsOn false W args (.bool true) W':=by
 obtain⟨p,q,hA,hV,rfl,hz,hn⟩:=hW
 rw[hv] at hV
 obtain⟨rfl,rfl⟩:=trodVars_none hV
 refine⟨ds,[],p++[],[],p,[],⟨p,[],hA,by rw[hv]; exact hV,rfl,hz,hn⟩,?_,?_,?_,hb.frame _,fun h=>by cases h⟩
 ·rw[hr,hrt]
  refine⟨[],[],⟨1,?_⟩,rfl,rfl⟩
  simp[DataW.trod,hbt,Value.cells,Value.resultList]
 ·rw[ha]
  exact Below.trodAll hl hb hts hA
 ·rw[hv,hvs]
  exact rfl
theorem a7L {C:Ctx} {name:Nat} {W:World} {args:Array Value} {pvs:List PV} (h:aE C name pvs PH.nil (aD (.bool true))) (hr:eI (Env.of W C.num) pvs args.toList) :
  Calls C.P (C.num name) args W fun e W'=>e=.returned (.bool true)∧Below W.heap.size W W' :=
 (h.2 (Env.of W C.num) W args rfl (bM.start W C.num) hr).mono fun e W' he=>by
  obtain⟨v,pv,E',H',rfl,-,bJO,hE,rfl,-⟩:=he
  cases bJO
  exact⟨rfl,hE.below⟩
theorem aZH {H:Type} {enc:TypeId × Value→H} {P:Program} {W:World} {r:Reach} {base:Nat} {sp:Nat→Bool} {held:Bool} (num:Nat→FuncId) {t:TypeId} {v:Value} {d:DataW H} {ps:List MemPlace} {fs:Array Field} {n:Nat} {cts:List CT}
  (hu:P.underlying t=some (.struct fs)) (bII:Value.okWide P W r base t v) (hd:DataW.Trod enc P W 0 sp held t v d ps) (hc:fS P n t=some cts) :
  ∃ pvs,aY (Env.of W num) (.agg pvs) v∧pvs.length=cts.length∧∀ (j:Nat) pv ct,pvs[j]?=some pv→cts[j]?=some ct→PV.Ty ct pv:=by
 obtain⟨cs,rfl,-⟩:=okWide_struct hu bII
 obtain⟨fuel,h⟩:=hd
 obtain⟨pvs,hr⟩:=agL num fuel n t _ _ cts h hc
 have hl:cs.size=pvs.length:=by have:=hr.lc; rw[hr.lp,← this]; simp[Value.cells]
 refine⟨pvs,.agg cs hl (fun u hu=>?_) (fun j pv u a b=>(hr.rep j pv u a (by simpa [Value.cells] using b)).1),hr.lp,hr.ty⟩
 obtain⟨j,hj,rfl⟩:=bMA hu
 simp only[bMR] at hj
 exact (hr.rep j _ _ (bKD Om) (by simp[Value.cells,hj])).2
theorem rM {H:Type} {enc:TypeId × Value→H} {P:Program} {W:World} {sp:Nat→Bool} {held:Bool} (num:Nat→FuncId) {t:TypeId} {v:Value} {d:DataW H} {ps:List MemPlace} {n:Nat} {ct:CT}
  (hv:v.cells=#[v]) (hd:DataW.Trod enc P W 0 sp held t v d ps) (hc:fS P n t=some [ct]):∃ pv,aY (Env.of W num) pv v∧PV.Ty ct pv:=by
 obtain⟨fuel,h⟩:=hd
 obtain⟨pvs,hr⟩:=agL num fuel n t _ _ [ct] h hc
 rw[hv] at hr
 have hl:=hr.lp
 cases pvs with
 | nil=>simp at hl
 | cons pv rest=>exact⟨pv,(hr.rep 0 pv v rfl rfl).1,hr.ty 0 pv ct rfl rfl⟩
def InK (k:IntKind) (n:Int):Prop:=k.min≤n∧n≤k.max
def bkJ (k:IntKind) (xs:List Int):PV:=.sl 1 (xs.map fun n=>[.int k n])
theorem Ty.vX {k:IntKind} {pv:PV} (h:PV.Ty (.int k) pv):∃ n,pv=.int k n∧InK k n:=by
 cases h with
 | int h=>simp only[Lit.wf,bKR,decide_eq_true_eq] at h; exact⟨_,rfl,h⟩
theorem Ty.aVG {ct:CT} {pv:PV} (h:PV.Ty (.sl [ct]) pv):∃ vs:List PV,pv=.sl 1 (vs.map fun v=>[v])∧vs.length≤maxLen∧∀ v∈vs,PV.Ty ct v:=by
 cases h with
 | @sl es rows hr hl h =>
 have key:∀ r∈rows,r=[r.headD .junk]:=fun r hm=>by
  have:=hr r hm
  match r,this with
  | [x],_=>rfl
 have e:rows=(rows.map fun r=>r.headD .junk).map fun v=>[v]:=by
  rw[List.map_map]
  apply List.ext_getElem (by simp)
  intro n h1 h2
  simp only[bMC,Function.comp]
  exact key _ (bJX h1)
 refine⟨rows.map fun r=>r.headD .junk,by rw[← e]; rfl,by simpa using hl,fun v hv=>?_⟩
 rw[bKX] at hv
 obtain⟨r,hm,rfl⟩:=hv
 obtain⟨i,hi,rfl⟩:=bMA hm
 refine h i 0 _ ct ?_ rfl
 have:=key rows[i] hm
 unfold at2
 rw[bKD hi,bNC,this]
 rfl
theorem Ty.aCY {k:IntKind} {pv:PV} (h:PV.Ty (.sl [.int k]) pv):∃ xs:List Int,pv=bkJ k xs∧xs.length≤maxLen∧∀ x∈xs,InK k x:=by
 obtain⟨vs,rfl,hl,hv⟩:=Ty.aVG h
 have e:vs=(vs.map fun v=>match v with | .int _ n=>n | _=>0).map fun n=>PV.int k n:=by
  rw[List.map_map]
  apply List.ext_getElem (by simp)
  intro n h1 h2
  simp only[bMC,Function.comp]
  obtain⟨m,hm,-⟩:=Ty.vX (hv _ (bJX h1))
  rw[hm]
 refine⟨vs.map fun v=>match v with | .int _ n=>n | _=>0,?_,by simpa using hl,fun x hx=>?_⟩
 ·unfold bkJ
  conv=>lhs; rw[e]
  rw[List.map_map]
  rfl
 ·rw[bKX] at hx
  obtain⟨v,hm,rfl⟩:=hx
  obtain⟨m,rfl,hk⟩:=Ty.vX (hv v hm)
  exact hk
open Go Go.RowKit Go.ChangeShapes Go.WideShapes
inductive AT where
 | one (ct:CT)
 | struct (cts:List CT)
 deriving Inhabited
def aZG (P:Program) (n:Nat) (t:TypeId):Option AT :=
 match P.underlying t with
 | some .bool=>some (.one .bool)
 | some (.int k)=>some (.one (.int k))
 | some .string=>some (.one .str)
 | some (.slice _)=>match fS P n t with
  | some [ct]=>some (.one ct)
  | _=>none
 | some (.struct _)=>(fS P n t).map .struct
 | _=>none
def CV (P:Program) (n:Nat):List TypeId→Option (List AT)
 | []=>some []
 | t::ts=>match aZG P n t,CV P n ts with
  | some a,some az=>some (a::az)
  | _,_=>none
inductive AT.Ty:AT→PV→Prop
 | one {ct:CT} {pv:PV} (h:PV.Ty ct pv):AT.Ty (.one ct) pv
 | struct {cts:List CT} {pvs:List PV} (hl:pvs.length=cts.length) (h:∀ (j:Nat) pv ct,pvs[j]?=some pv→cts[j]?=some ct→PV.Ty ct pv):AT.Ty (.struct cts) (.agg pvs)
def AT.TyL:List AT→List PV→Prop
 | [],[]=>True
 | a::az,p::ps=>AT.Ty a p∧AT.TyL az ps
 | _,_=>False
section
variable {H:Type} {enc:TypeId × Value→H} {P:Program} {W:World} {sp:Nat→Bool} {held:Bool}
theorem bqW {r:Reach} {base:Nat} (num:Nat→FuncId) {t:TypeId} {v:Value} {d:DataW H} {ps:List MemPlace} {n:Nat} {a:AT}
  (bII:Value.okWide P W r base t v) (hd:DataW.Trod enc P W 0 sp held t v d ps) (ha:aZG P n t=some a):∃ pv,aY (Env.of W num) pv v∧AT.Ty a pv:=by
 unfold aZG at ha
 cases n with
 | zero =>
  split at ha
  ·rename_i hu
   cases ha
   obtain⟨b,rfl⟩:=okWide_bool hu bII
   obtain⟨pv,h1,h2⟩:=rM (n:=1) (ct:=.bool) num (by simp[Value.cells]) hd (by simp[fS,hu])
   exact⟨pv,h1,.one h2⟩
  ·rename_i k hu
   cases ha
   obtain⟨b,rfl⟩:=okWide_int hu bII
   obtain⟨pv,h1,h2⟩:=rM (n:=1) (ct:=.int k) num (by simp[Value.cells]) hd (by simp[fS,hu])
   exact⟨pv,h1,.one h2⟩
  ·rename_i hu
   cases ha
   obtain⟨b,rfl⟩:=okWide_string hu bII
   obtain⟨pv,h1,h2⟩:=rM (n:=1) (ct:=.str) num (by simp[Value.cells]) hd (by simp[fS,hu])
   exact⟨pv,h1,.one h2⟩
  ·simp[fS] at ha
  ·simp[fS] at ha
  ·cases ha
 | succ n =>
  split at ha
  ·rename_i hu
   cases ha
   obtain⟨b,rfl⟩:=okWide_bool hu bII
   obtain⟨pv,h1,h2⟩:=rM (n:=n+1) (ct:=.bool) num (by simp[Value.cells]) hd (by simp[fS,hu])
   exact⟨pv,h1,.one h2⟩
  ·rename_i k hu
   cases ha
   obtain⟨b,rfl⟩:=okWide_int hu bII
   obtain⟨pv,h1,h2⟩:=rM (n:=n+1) (ct:=.int k) num (by simp[Value.cells]) hd (by simp[fS,hu])
   exact⟨pv,h1,.one h2⟩
  ·rename_i hu
   cases ha
   obtain⟨b,rfl⟩:=okWide_string hu bII
   obtain⟨pv,h1,h2⟩:=rM (n:=n+1) (ct:=.str) num (by simp[Value.cells]) hd (by simp[fS,hu])
   exact⟨pv,h1,.one h2⟩
  ·rename_i e hu
   split at ha
   ·rename_i ct hc
    cases ha
    obtain⟨x,len,cap,rfl⟩:=okWide_slice hu bII
    obtain⟨pv,h1,h2⟩:=rM num (by simp[Value.cells]) hd hc
    exact⟨pv,h1,.one h2⟩
   ·cases ha
  ·rename_i fs hu
   rw[bKB] at ha
   obtain⟨cts,hc,rfl⟩:=ha
   obtain⟨pvs,h1,h2,h3⟩:=aZH num hu bII hd hc
   exact⟨_,h1,.struct h2 h3⟩
  ·cases ha
theorem aOW {r:Reach} {base:Nat} (num:Nat→FuncId) {n:Nat}:∀ {ts:List TypeId} {vs:List Value} {ds:List (DataW H)} {ps:List MemPlace} {az:List AT},DataW.TrodAll enc P W 0 sp held ts vs ds ps →
  (∀ (j:Nat) t v,ts[j]?=some t→vs[j]?=some v→Value.okWide P W r base t v)→CV P n ts=some az→∃ pvs,eI (Env.of W num) pvs vs∧AT.TyL az pvs
 | [],[],_,_,az,_,_,h=>by
  simp[CV] at h
  subst h
  exact⟨[],.nil,trivial⟩
 | [],_::_,_,_,_,h,_,_=>h.elim
 | _::_,[],[],_,_,h,_,_=>h.elim
 | _::_,[],_::_,_,_,h,_,_=>h.elim
 | _::_,_::_,[],_,_,h,_,_=>h.elim
 | t::ts,v::vs,d::ds,ps,az,h,hv,ha=>by
  obtain⟨p,q,h1,h2,rfl⟩:=h
  simp only[CV] at ha
  split at ha
  ·rename_i a as' e1 e2
   cases ha
   obtain⟨pv,r1,t1⟩:=bqW num (hv 0 t v rfl rfl) h1 e1
   obtain⟨pvs,r2,t2⟩:=aOW num h2 (fun j t v a b=>hv (j+1) t v (by simpa using a) (by simpa using b)) e2
   exact⟨pv::pvs,.cons r1 r2,t1,t2⟩
  ·cases ha
theorem TrodAll.length:∀ {ts:List TypeId} {vs:List Value} {ds:List (DataW H)} {ps:List MemPlace},DataW.TrodAll enc P W 0 sp held ts vs ds ps→ds.length=ts.length
 | [],[],[],_,_=>rfl
 | [],[],_::_,_,h=>h.elim
 | [],_::_,_,_,h=>h.elim
 | _::_,[],[],_,h=>h.elim
 | _::_,[],_::_,_,h=>h.elim
 | _::_,_::_,[],_,h=>h.elim
 | t::ts,v::vs,d::ds,ps,h=>by
  obtain⟨p,q,h1,h2,rfl⟩:=h
  simp[TrodAll.length h2]
end
theorem ayC {H:Type} {enc:TypeId × Value→H} {P:Program} {f:FuncId} {fn:Func} {s:ChangeSpec} {apart fresh handsOn:Bool} {bt:TypeId} {num:Nat→FuncId} {name n:Nat} {ats:List AT}
  (hl:laidOutB P=true) (hts:fn.params.toList.all (fun t=>P.readableRec t&&decide (t<P.types.size))=true) (hrt:fn.resultTypes=#[bt]) (hbt:P.underlying bt=some .bool) (hv:s.vars=[])
  (hs:∀ ds:List (DataW H),ds.length=fn.params.toList.length→(s.fn H ds).results=[.lit (.bool true)]∧(s.fn H ds).args=ds∧(s.fn H ds).vars=[])
  (hnum:num name=f) (ha:CV P n fn.params.toList=some ats) (h:∀ pvs,AT.TyL ats pvs→aE ⟨P,num⟩ name pvs PH.nil (aD (.bool true)))
  {W:World} {base:Nat} {args:Array Value} {ds gs:List (DataW H)} {before:List MemPlace}
  (bII:∀ (j:Nat) t v,fn.params[j]?=some t→args[j]?=some v→Value.okWide P W .any base t v) (hW:DataW.Whole enc P fn.params.toList s.vars apart W args.toList ds gs before) :
  Calls P f args W fun e W'=>∃ v,e=.returned v∧s.post enc P fn apart fresh handsOn false W args v W':=by
 have hts':∀ t∈fn.params.toList,P.readableRec t=true∧t<P.types.size:=fun t ht=>by
  have:=bKQ.1 hts t ht
  simpa using this
 have hW':=hW
 obtain⟨p,q,hA,hV,rfl,hz,hn⟩:=hW
 rw[hv] at hV
 obtain⟨rfl,rfl⟩:=trodVars_none hV
 obtain⟨pvs,hr,ht⟩:=aOW num hA (fun j t v a b=>bII j t v (by simpa using a) (by simpa using b)) ha
 have hlen:=TrodAll.length hA
 subst hnum
 obtain⟨r1,r2,r3⟩:=hs (ds++[]) (by simpa using hlen)
 refine (a7L (C:=⟨P,num⟩) (h pvs ht) hr).mono fun e W' he=>?_
 obtain⟨rfl,hb⟩:=he
 exact⟨_,rfl,a9G hl hW' hb hts' hrt hbt hv r1 (by rw[r2]; simp) r3⟩
attribute [go_sem] nH fU setCells PV.cells PV.one bU storeAt cQ loadCells dU bnd PV.slice PV.intOf PV.eqs PV.eq1 PV.un keyOf KS.of KS.ofs KS.sh List.all_cons List.all_nil List.set_cons_zero List.set_cons_succ bKE bLT bJZ bLC bKQ Bool.and_self
attribute [go_sem] Bool.bne_false Bool.bne_true Int.le_refl Int.lt_irrefl decide_true decide_false exists_eq_left exists_eq_left' bJT bNI bMX Int.natCast_nonneg Option.isSome_some Option.isSome_none bMJ Option.getD_none decide_eq_true_eq decide_eq_false_iff_not bKN bLL bJV Nat.sub_zero
def bD (xs:List Int):List (List PV):=xs.map fun n=>[.int .i64 n]
theorem bB {a b:Int} (h:a≠b):(a==b)=false:=by simp[h]
theorem bO {a b:Int} (h:a=b):(a==b)=true:=by simp[h]
theorem cT {a b:Int} (h:a≠b):(a != b)=true:=by simp[h]
theorem cH {a b:Int} (h:a=b):(a != b)=false:=by simp[h]
section
variable {H:PH}
@[go_sem] theorem PH.set_set (o:Nat) (x y:cP):(H.set o x).set o y=H.set o y:=PH.ext fun q=>by
 simp only[bS]; split<;>rfl
@[go_sem] theorem fN (o:Nat) (x:cP):(H.set o x) o=some x:=by simp only[bS,if_true]
end
def aN (C:Ctx) (k:Nat) (pf:aW):Prop:=∀ (args:List PV) (H:PH) (R:PV→PH→Prop),args.length≤pf.ntmps→pf.body.wp C (aT pf.res R) (PF.args args) H→aE C k args H R
theorem aN.go {C:Ctx} {k:Nat} {pf:aW} (r:aN C k pf) {args:List PV} {H:PH} {R:PV→PH→Prop} (h:pf.body.wp C (aT pf.res R) (PF.args args) H) (hl:Nat.ble args.length pf.ntmps=true):aE C k args H R:=r args H R (Nat.le_of_ble_eq_true hl) h
abbrev Rg:=List bC
abbrev Rd:=List (bC×Bool)
def iM (d s:Nat):bC:=⟨some d,.mv (.tmp s),none⟩
def iI (d:Nat) (n:Int):bC:=⟨some d,.mv (.const (.int .i64 n)),none⟩
def iB (d:Nat) (o:BinOp) (x y:Nat):bC:=⟨some d,.bin o (.tmp x) (.tmp y),none⟩
def iC (d:Nat) (o:BinOp) (x:Nat) (n:Int):bC:=⟨some d,.bin o (.tmp x) (.const (.int .i64 n)),none⟩
def iL (d s:Nat):bC:=⟨some d,.load none (.tmp s),none⟩
def iX (d n x y:Nat):bC:=⟨some d,.bIK n (.tmp x) (.tmp y),none⟩
def iN (d x:Nat):bC:=⟨some d,.len (.tmp x),none⟩
def iF (d n x:Nat):bC:=⟨some d,.bJB n (.tmp x),none⟩
def iS (n p x:Nat):bC:=⟨none,.store n (.tmp p) (.tmp x),none⟩
def iA (d:Nat) (o:POp):bC:=⟨some d,o,none⟩
def iG (d:Nat) (o:POp) (g:Nat) (b:Bool):bC:=⟨some d,o,some (g,b)⟩
def iP (d a b:Nat):bC:=⟨some d,.pick (.tmp a) (.tmp b) (.const (.bool false)),none⟩
def iQ (d a b:Nat):bC:=⟨some d,.pick (.tmp a) (.const (.bool true)) (.tmp b),none⟩
def iO (d s a:Nat):bC:=⟨some d,.load (some s) (.tmp a),none⟩
def iE (d a n:Nat):bC:=⟨some d,.extract (.tmp a) n,none⟩
def iK (d f a:Nat):bC:=⟨some d,.call f [.tmp a],none⟩
def iK2 (d f a b:Nat):bC:=⟨some d,.call f [.tmp a,.tmp b],none⟩
def iT (d:Nat) (b:Bool):bC:=⟨some d,.mv (.const (.bool b)),none⟩
def iZ (d:Nat):bC:=⟨some d,.mv (.const .aB),none⟩
def gM (d s g:Nat) (b:Bool):bC:=⟨some d,.mv (.tmp s),some (g,b)⟩
def gL (d s g:Nat) (b:Bool):bC:=⟨some d,.load none (.tmp s),some (g,b)⟩
def gF (d n s g:Nat) (b:Bool):bC:=⟨some d,.bJB n (.tmp s),some (g,b)⟩
def gN (d s g:Nat) (b:Bool):bC:=⟨some d,.len (.tmp s),some (g,b)⟩
def gO (d n s g:Nat) (b:Bool):bC:=⟨some d,.load (some n) (.tmp s),some (g,b)⟩
def gK (d f a g:Nat) (b:Bool):bC:=⟨some d,.call f [.tmp a],some (g,b)⟩
def gK2 (d f a c g:Nat) (b:Bool):bC:=⟨some d,.call f [.tmp a,.tmp c],some (g,b)⟩
def gC (d:Nat) (o:BinOp) (x:Nat) (n:Int) (g:Nat) (b:Bool):bC:=⟨some d,.bin o (.tmp x) (.const (.int .i64 n)),some (g,b)⟩
def gB (d:Nat) (o:BinOp) (x y g:Nat) (b:Bool):bC:=⟨some d,.bin o (.tmp x) (.tmp y),some (g,b)⟩
def sq (r:Rg) (c:aC):aC:=.seq (.region r) c
def dq (r:Rd) (c:aC):aC:=.seq (.draw r) c
def Tm (n:Nat):aP:=.tmp n
def Ci (n:Int):aP:=.const (.int .i64 n)
@[go_sem] theorem bHF (d s:Nat):iM d s=⟨some d,.mv (.tmp s),none⟩:=(rfl)
@[go_sem] theorem bHC (d:Nat) (n:Int):iI d n=⟨some d,.mv (.const (.int .i64 n)),none⟩:=(rfl)
@[go_sem] theorem bGX (d:Nat) (o:BinOp) (x y:Nat):iB d o x y=⟨some d,.bin o (.tmp x) (.tmp y),none⟩:=(rfl)
@[go_sem] theorem bGY (d:Nat) (o:BinOp) (x:Nat) (n:Int):iC d o x n=⟨some d,.bin o (.tmp x) (.const (.int .i64 n)),none⟩:=(rfl)
@[go_sem] theorem bHE (d s:Nat):iL d s=⟨some d,.load none (.tmp s),none⟩:=(rfl)
@[go_sem] theorem bHM (d n x y:Nat):iX d n x y=⟨some d,.bIK n (.tmp x) (.tmp y),none⟩:=(rfl)
@[go_sem] theorem bHG (d x:Nat):iN d x=⟨some d,.len (.tmp x),none⟩:=(rfl)
@[go_sem] theorem bHA (d n x:Nat):iF d n x=⟨some d,.bJB n (.tmp x),none⟩:=(rfl)
@[go_sem] theorem bHK (n p x:Nat):iS n p x=⟨none,.store n (.tmp p) (.tmp x),none⟩:=(rfl)
@[go_sem] theorem bGW (d:Nat) (o:POp):iA d o=⟨some d,o,none⟩:=(rfl)
@[go_sem] theorem bHB (d:Nat) (o:POp) (g:Nat) (b:Bool):iG d o g b=⟨some d,o,some (g,b)⟩:=(rfl)
@[go_sem] theorem bHI (d a b:Nat):iP d a b=⟨some d,.pick (.tmp a) (.tmp b) (.const (.bool false)),none⟩:=(rfl)
@[go_sem] theorem bHJ (d a b:Nat):iQ d a b=⟨some d,.pick (.tmp a) (.const (.bool true)) (.tmp b),none⟩:=(rfl)
@[go_sem] theorem bHH (d s a:Nat):iO d s a=⟨some d,.load (some s) (.tmp a),none⟩:=(rfl)
@[go_sem] theorem bGZ (d a n:Nat):iE d a n=⟨some d,.extract (.tmp a) n,none⟩:=(rfl)
@[go_sem] theorem bHD (d f a:Nat):iK d f a=⟨some d,.call f [.tmp a],none⟩:=(rfl)
@[go_sem] theorem bGJ (d f a b:Nat):iK2 d f a b=⟨some d,.call f [.tmp a,.tmp b],none⟩:=(rfl)
@[go_sem] theorem bHL (d:Nat) (b:Bool):iT d b=⟨some d,.mv (.const (.bool b)),none⟩:=(rfl)
@[go_sem] theorem bHN (d:Nat):iZ d=⟨some d,.mv (.const .aB),none⟩:=(rfl)
@[go_sem] theorem bGT (d s g:Nat) (b:Bool):gM d s g b=⟨some d,.mv (.tmp s),some (g,b)⟩:=(rfl)
@[go_sem] theorem bGS (d s g:Nat) (b:Bool):gL d s g b=⟨some d,.load none (.tmp s),some (g,b)⟩:=(rfl)
@[go_sem] theorem bGQ (d n s g:Nat) (b:Bool):gF d n s g b=⟨some d,.bJB n (.tmp s),some (g,b)⟩:=(rfl)
@[go_sem] theorem bGU (d s g:Nat) (b:Bool):gN d s g b=⟨some d,.len (.tmp s),some (g,b)⟩:=(rfl)
@[go_sem] theorem bGV (d n s g:Nat) (b:Bool):gO d n s g b=⟨some d,.load (some n) (.tmp s),some (g,b)⟩:=(rfl)
@[go_sem] theorem bGR (d f a g:Nat) (b:Bool):gK d f a g b=⟨some d,.call f [.tmp a],some (g,b)⟩:=(rfl)
@[go_sem] theorem bGI (d f a c g:Nat) (b:Bool):gK2 d f a c g b=⟨some d,.call f [.tmp a,.tmp c],some (g,b)⟩:=(rfl)
@[go_sem] theorem bGP (d:Nat) (o:BinOp) (x:Nat) (n:Int) (g:Nat) (b:Bool):gC d o x n g b=⟨some d,.bin o (.tmp x) (.const (.int .i64 n)),some (g,b)⟩:=(rfl)
@[go_sem] theorem bGO (d:Nat) (o:BinOp) (x y g:Nat) (b:Bool):gB d o x y g b=⟨some d,.bin o (.tmp x) (.tmp y),some (g,b)⟩:=(rfl)
@[go_sem] theorem bHO (r:Rg) (c:aC):sq r c=.seq (.region r) c:=(rfl)
@[go_sem] theorem bGN (r:Rd) (c:aC):dq r c=.seq (.draw r) c:=(rfl)
@[go_sem] theorem bGM (n:Nat):Tm n=.tmp n:=(rfl)
@[go_sem] theorem bGL (n:Int):Ci n=.const (.int .i64 n):=(rfl)
end Go.PM
namespace Go.PM
open Go
def HI:Rg:=[iI 2 0]
def HJ:Rg:=[iM 4 0,iN 5 4,iM 3 5]
def HK:Rg:=[iM 6 3,iC 7 .gtr 6 0,iM 8 7,gM 9 0 8 true,gM 10 3 8 true,gC 11 .sub 10 1 8 true,iG 12 (.bIK 1 (Tm 9) (Tm 11)) 8 true,gL 13 12 8 true,iG 14 (.bin .eql (Tm 13) (.const (.int .u32 0))) 8 true,iP 15 8 14]
def HL:Rg:=[iM 16 3,iC 17 .sub 16 1,iM 3 17]
def HH:aC:=(.seq (sq HK (.cond (Tm 15) .skip (.exit 0))) (.block 1 (.region HL)))
def qX:Rg:=[iM 18 3,iM 2 18]
def mY:aC:=(sq HI (sq HJ (.seq (.block 0 (.loop HH)) (sq qX .ret))))
def a1W:List Nat:=[]
def rU:aW:=⟨1,19,mY,[.tmp 2]⟩
def aqC:Rg:=[iT 2 false]
def aqD:Rg:=[iM 3 0,iK 4 138 3,iC 5 .gtr 4 512,iM 2 5]
def AZ:aC:=(sq aqC (sq aqD .ret))
def a8B:List Nat:=[]
def NP:aW:=⟨1,6,AZ,[.tmp 2]⟩
def aqP:Rg:=[iZ 2,iI 3 0]
def aqQ:Rg:=[iM 5 0,iK 6 138 5,iM 4 6]
def aqR:Rg:=[iM 7 4,iC 8 .gtr 7 512]
def aqS:Rg:=[iZ 2,iI 3 2]
def aqT:Rg:=[iM 9 0,iM 10 4,iM 11 4,iA 12 (.slice 1 (Tm 9) none (some (Tm 10)) (some (Tm 11))),iM 2 12,iI 3 0]
def BB:aC:=(sq aqP (sq aqQ (.seq (sq aqR (.cond (Tm 8) (sq aqS .ret) .skip)) (sq aqT .ret))))
def a8G:List Nat:=[]
def NW:aW:=⟨1,13,BB,[.tmp 2,.tmp 3]⟩
def aFB:Rg:=[iZ 2]
def aFC:Rg:=[iM 4 0,iA 5 (.conv .u32 (Tm 4)),iM 6 0,iA 7 (.bin .shr (Tm 6) (.const (.int .u64 32))),iA 8 (.conv .u32 (Tm 7)),iA 9 (.bHV true 1 2 [(.int .u32 0)] [(0,(Tm 5)),(1,(Tm 8))]),iM 3 9]
def aFD:Rg:=[iM 10 3,iM 11 3,iK 12 138 11,iA 13 (.slice 1 (Tm 10) none (some (Tm 12)) none),iM 2 13]
def HM:aC:=(sq aFB (sq aFC (sq aFD .ret)))
def bgT:List Nat:=[9]
def aeV:aW:=⟨1,14,HM,[.tmp 2]⟩
def aFV:Rg:=[iZ 2]
def aFW:Rg:=[iM 3 0,iM 4 0,iK 5 138 4,iA 6 (.slice 1 (Tm 3) none (some (Tm 5)) none),iA 7 (.append 1 4 (.const .aB) (Tm 6)),iM 2 7]
def HN:aC:=(sq aFV (sq aFW .ret))
def bgW:List Nat:=[]
def aeZ:aW:=⟨1,8,HN,[.tmp 2]⟩
def aSM:Rg:=[iI 4 0]
def aSN:Rg:=[iM 8 0,iK 9 138 8,iM 10 1,iK 11 138 10,iM 5 9,iM 6 11]
def aSO:Rg:=[iM 13 5,iM 14 6,iB 15 .lss 13 14,iM 12 15]
def aSP:Rg:=[iI 4 (-1)]
def aSQ:Rg:=[iM 17 5,iM 18 6,iB 19 .gtr 17 18,iM 16 19]
def aSR:Rg:=[iI 4 1]
def aSS:Rg:=[iM 20 5,iC 21 .sub 20 1,iM 7 21]
def aST:Rg:=[iM 22 7,iC 23 .geq 22 0]
def aSU:Rd:=[(iM 27 0,false),(iM 28 7,false),(iX 29 1 27 28,false),(iL 30 29,false),(iM 31 1,false),(iM 32 7,false),(iX 33 1 31 32,false),(iL 34 33,false),(iB 35 .lss 30 34,false),(iM 26 35,false)]
def aSV:Rg:=[iI 4 (-1)]
def aER:Rd:=[(iM 37 0,false),(iM 38 7,false),(iX 39 1 37 38,false),(iL 40 39,false),(iM 41 1,false),(iM 42 7,false),(iX 43 1 41 42,false),(iL 44 43,false),(iB 45 .gtr 40 44,false),(iM 36 45,false)]
def aES:Rg:=[iI 4 1]
def aET:Rg:=[iM 24 7,iC 25 .sub 24 1,iM 7 25]
def aEQ:aC:=(.seq (sq aST (.cond (Tm 23) .skip (.exit 1))) (.seq (.block 2 (.block 3 (dq aSU (.cond (Tm 26) (sq aSV .ret) (dq aER (.cond (Tm 36) (sq aES .ret) .skip)))))) (.region aET)))
def aEU:Rg:=[iI 4 0]
def NK:aC:=(sq aSM (sq aSN (.seq (.block 0 (sq aSO (.cond (Tm 12) (sq aSP .ret) (sq aSQ (.cond (Tm 16) (sq aSR .ret) .skip))))) (.seq (sq aSS (.block 1 (.loop aEQ))) (sq aEU .ret)))))
def bnX:List Nat:=[]
def aEP:aW:=⟨2,46,NK,[.tmp 4]⟩
def aSG:Rg:=[iZ 4,iI 5 0]
def aSH:Rg:=[iM 9 0,iK 10 137 9,iM 11 10,gM 12 1 11 false,gK 13 137 12 11 false,iQ 14 11 13]
def alU:Rg:=[iZ 4,iI 5 2]
def aSI:Rd:=[(iM 15 0,true),(iM 16 0,false),(iK 17 138 16,true),(iA 18 (.slice 1 (Tm 15) none (some (Tm 17)) none),true),(iM 19 1,true),(iM 20 1,true),(iK 21 138 20,true),(iA 22 (.slice 1 (Tm 19) none (some (Tm 21)) none),false),(iM 0 18,false),(iM 1 22,false)]
def aSJ:Rg:=[iM 23 0,iN 24 23,iM 25 1,iN 26 25,iB 27 .lss 24 26]
def aSK:Rg:=[iM 28 1,iM 29 0,iM 0 28,iM 1 29]
def alV:Rg:=[iM 30 0,iN 31 30,iC 32 .add 31 1,iA 33 (.bHZ 1 4 [(.int .u32 0)] (Tm 32) (Tm 32)),iM 6 33]
def alW:Rg:=[iA 7 (.mv (.const (.int .u64 0)))]
def alX:Rg:=[iM 34 0,iN 35 34,iI 36 0]
def aSL:Rg:=[iB 37 .lss 36 35]
def aEA:Rg:=[iM 38 36,iM 8 38]
def aEB:Rg:=[iM 39 7,iM 40 0,iM 41 8,iX 42 1 40 41,iL 43 42,iA 44 (.conv .u64 (Tm 43)),iB 45 .add 39 44,iM 7 45]
def aEC:Rg:=[iM 46 8,iM 47 1,iN 48 47,iB 49 .lss 46 48]
def aED:Rg:=[iM 50 7,iM 51 1,iM 52 8,iX 53 1 51 52,iL 54 53,iA 55 (.conv .u64 (Tm 54)),iB 56 .add 50 55,iM 7 56]
def XY:Rg:=[iM 57 6,iM 58 8,iM 59 7,iA 60 (.conv .u32 (Tm 59)),iX 61 1 57 58,iS 1 61 60]
def XZ:Rg:=[iM 62 7,iA 63 (.bin .shr (Tm 62) (.const (.int .u64 32))),iM 7 63]
def YA:Rg:=[iC 64 .add 36 1,iM 36 64]
def XW:aC:=(sq aSL (.seq (.cond (Tm 37) .skip (.exit 0)) (.seq (.block 1 (sq aEA (sq aEB (.seq (sq aEC (.cond (Tm 49) (.region aED) .skip)) (sq XY (.region XZ)))))) (.region YA))))
def YB:Rg:=[iM 65 6,iM 66 0,iN 67 66,iM 68 7,iA 69 (.conv .u32 (Tm 68)),iX 70 1 65 67,iS 1 70 69]
def YC:Rg:=[iM 71 6,iK 72 141 71,iE 73 72 0,iE 74 72 1,iM 4 73,iM 5 74]
def NJ:aC:=(sq aSG (.seq (sq aSH (.cond (Tm 14) (sq alU .ret) .skip)) (dq aSI (.seq (sq aSJ (.cond (Tm 27) (.region aSK) .skip)) (sq alV (sq alW (.seq (sq alX (.block 0 (.loop XW))) (sq YB (sq YC .ret)))))))))
def bnU:List Nat:=[]
def aDZ:aW:=⟨2,75,NJ,[.tmp 4,.tmp 5]⟩
def aTP:Rg:=[iZ 4,iI 5 0]
def aTQ:Rg:=[iM 11 0,iK 12 137 11,iM 13 12,gM 14 1 13 false,gK 15 137 14 13 false,iQ 16 13 15,iM 10 16]
def amI:Rg:=[iZ 4,iI 5 2]
def aTR:Rg:=[iM 18 0,iM 19 1,iK2 20 129 18 19,iC 21 .lss 20 0,iM 17 21]
def aTS:Rg:=[iZ 4,iI 5 4]
def aTT:Rd:=[(iM 22 0,true),(iM 23 0,false),(iK 24 138 23,true),(iA 25 (.slice 1 (Tm 22) none (some (Tm 24)) none),true),(iM 26 1,true),(iM 27 1,true),(iK 28 138 27,true),(iA 29 (.slice 1 (Tm 26) none (some (Tm 28)) none),false),(iM 0 25,false),(iM 1 29,false)]
def amJ:Rg:=[iM 30 0,iN 31 30,iA 32 (.bHZ 1 4 [(.int .u32 0)] (Tm 31) (Tm 31)),iM 6 32]
def amK:Rg:=[iA 7 (.mv (.const (.int .u64 0)))]
def amL:Rg:=[iM 33 0,iN 34 33,iI 35 0]
def aTU:Rg:=[iB 36 .lss 35 34]
def aFO:Rg:=[iM 37 35,iM 8 37]
def aFP:Rg:=[iM 38 0,iM 39 8,iX 40 1 38 39,iL 41 40,iA 42 (.conv .u64 (Tm 41)),iM 43 7,iB 44 .sub 42 43,iM 9 44]
def aFQ:Rg:=[iM 45 8,iM 46 1,iN 47 46,iB 48 .lss 45 47]
def aFR:Rg:=[iM 49 9,iM 50 1,iM 51 8,iX 52 1 50 51,iL 53 52,iA 54 (.conv .u64 (Tm 53)),iB 55 .sub 49 54,iM 9 55]
def YK:Rg:=[iM 56 6,iM 57 8,iM 58 9,iA 59 (.conv .u32 (Tm 58)),iX 60 1 56 57,iS 1 60 59]
def YL:Rg:=[iM 61 9,iA 62 (.bin .shr (Tm 61) (.const (.int .u64 63))),iM 7 62]
def YM:Rg:=[iC 63 .add 35 1,iM 35 63]
def YJ:aC:=(sq aTU (.seq (.cond (Tm 36) .skip (.exit 1)) (.seq (.block 2 (sq aFO (sq aFP (.seq (sq aFQ (.cond (Tm 48) (.region aFR) .skip)) (sq YK (.region YL)))))) (.region YM))))
def YN:Rg:=[iM 64 6,iK 65 141 64,iE 66 65 0,iE 67 65 1,iM 4 66,iM 5 67]
def NX:aC:=(sq aTP (.seq (.block 0 (sq aTQ (.cond (Tm 10) (sq amI .ret) (sq aTR (.cond (Tm 17) (sq aTS .ret) .skip))))) (dq aTT (sq amJ (sq amK (.seq (sq amL (.block 1 (.loop YJ))) (sq YN .ret)))))))
def boF:List Nat:=[]
def aFN:aW:=⟨2,68,NX,[.tmp 4,.tmp 5]⟩
def aTL:Rg:=[iZ 4,iI 5 0]
def aTM:Rg:=[iM 12 0,iK 13 137 12,iM 14 13,gM 15 1 14 false,gK 16 137 15 14 false,iQ 17 14 16]
def amB:Rg:=[iZ 4,iI 5 2]
def aTN:Rd:=[(iM 18 0,true),(iM 19 0,false),(iK 20 138 19,true),(iA 21 (.slice 1 (Tm 18) none (some (Tm 20)) none),true),(iM 22 1,true),(iM 23 1,true),(iK 24 138 23,true),(iA 25 (.slice 1 (Tm 22) none (some (Tm 24)) none),false),(iM 0 21,false),(iM 1 25,false)]
def amC:Rg:=[iM 26 0,iN 27 26,iM 28 1,iN 29 28,iB 30 .add 27 29,iA 31 (.bHZ 1 4 [(.int .u32 0)] (Tm 30) (Tm 30)),iM 6 31]
def amD:Rg:=[iM 32 0,iN 33 32,iI 34 0]
def aTO:Rg:=[iB 35 .lss 34 33]
def amE:Rg:=[iM 36 34,iX 37 1 32 34,iL 38 37,iM 7 36,iM 8 38]
def amF:Rg:=[iA 9 (.mv (.const (.int .u64 0)))]
def amG:Rg:=[iM 39 1,iN 40 39,iI 41 0]
def aFF:Rg:=[iB 42 .lss 41 40]
def aFG:Rg:=[iM 43 41,iX 44 1 39 41,iL 45 44,iM 10 43,iM 11 45]
def aFH:Rg:=[iM 46 9,iM 47 8,iA 48 (.conv .u64 (Tm 47)),iM 49 11,iA 50 (.conv .u64 (Tm 49)),iB 51 .mul 48 50,iM 52 6,iM 53 7,iM 54 10,iB 55 .add 53 54,iX 56 1 52 55,iL 57 56,iA 58 (.conv .u64 (Tm 57)),iB 59 .add 51 58,iB 60 .add 46 59,iM 9 60]
def aFI:Rg:=[iM 61 6,iM 62 7,iM 63 10,iB 64 .add 62 63,iM 65 9,iA 66 (.conv .u32 (Tm 65)),iX 67 1 61 64,iS 1 67 66]
def aFJ:Rg:=[iM 68 9,iA 69 (.bin .shr (Tm 68) (.const (.int .u64 32))),iM 9 69]
def aFK:Rg:=[iC 70 .add 41 1,iM 41 70]
def YF:aC:=(sq aFF (.seq (.cond (Tm 42) .skip (.exit 2)) (.seq (.block 3 (sq aFG (sq aFH (sq aFI (.region aFJ))))) (.region aFK))))
def YH:Rg:=[iM 71 6,iM 72 7,iM 73 1,iN 74 73,iB 75 .add 72 74,iM 76 9,iA 77 (.conv .u32 (Tm 76)),iX 78 1 71 75,iS 1 78 77]
def aFL:Rg:=[iC 79 .add 34 1,iM 34 79]
def YG:aC:=(sq aTO (.seq (.cond (Tm 35) .skip (.exit 0)) (.seq (.block 1 (sq amE (sq amF (.seq (sq amG (.block 2 (.loop YF))) (.region YH))))) (.region aFL))))
def YI:Rg:=[iM 80 6,iK 81 141 80,iE 82 81 0,iE 83 81 1,iM 4 82,iM 5 83]
def NQ:aC:=(sq aTL (.seq (sq aTM (.cond (Tm 17) (sq amB .ret) .skip)) (dq aTN (sq amC (.seq (sq amD (.block 0 (.loop YG))) (sq YI .ret))))))
def boD:List Nat:=[]
def aFE:aW:=⟨2,84,NQ,[.tmp 4,.tmp 5]⟩
def aEG:Rg:=[iI 2 0]
def aEH:Rg:=[iM 6 0,iK 7 138 6,iM 3 7]
def aEI:Rg:=[iM 8 3,iC 9 .eql 8 0]
def aEJ:Rg:=[iI 2 0]
def aEK:Rg:=[iM 10 3,iC 11 .sub 10 1,iC 12 .mul 11 32,iM 4 12]
def aEL:Rg:=[iM 13 0,iM 14 3,iC 15 .sub 14 1,iX 16 1 13 15,iL 17 16,iM 5 17]
def aEM:Rg:=[iM 18 5,iA 19 (.bin .gtr (Tm 18) (.const (.int .u32 0)))]
def aEN:Rg:=[iM 22 4,iC 23 .add 22 1,iM 4 23]
def aEO:Rg:=[iM 20 5,iA 21 (.bin .shr (Tm 20) (.const (.int .u64 1))),iM 5 21]
def aEF:aC:=(.seq (sq aEM (.cond (Tm 19) .skip (.exit 0))) (.seq (.block 1 (.region aEN)) (.region aEO)))
def aqB:Rg:=[iM 24 4,iM 2 24]
def HG:aC:=(sq aEG (sq aEH (.seq (sq aEI (.cond (Tm 9) (sq aEJ .ret) .skip)) (sq aEK (.seq (sq aEL (.block 0 (.loop aEF))) (sq aqB .ret))))))
def bgQ:List Nat:=[]
def aeJ:aW:=⟨1,25,HG,[.tmp 2]⟩
def aTE:Rg:=[iZ 4,iI 5 0]
def aTF:Rg:=[iM 8 0,iK 9 137 8,iM 10 9,gM 11 1 10 false,gK 12 137 11 10 false,iQ 13 10 12]
def amA:Rg:=[iZ 4,iI 5 2]
def aTG:Rg:=[iM 14 0,iK 15 135 14,iM 16 1,iK 17 135 16,iM 0 15,iM 1 17]
def aTH:Rg:=[iM 18 1,iN 19 18,iC 20 .gtr 19 0]
def aTI:Rg:=[iM 22 0,iM 23 1,iK2 24 136 22 23,iM 21 24,iE 25 21 0,iE 26 21 1,iM 6 25,iM 7 26]
def aTJ:Rg:=[iM 27 1,iM 28 7,iM 0 27,iM 1 28]
def aTD:aC:=(.seq (sq aTH (.cond (Tm 20) .skip (.exit 0))) (.block 1 (sq aTI (.region aTJ))))
def aTK:Rg:=[iM 29 0,iM 4 29,iI 5 0]
def NO:aC:=(sq aTE (.seq (sq aTF (.cond (Tm 13) (sq amA .ret) .skip)) (sq aTG (.seq (.block 0 (.loop aTD)) (sq aTK .ret)))))
def boB:List Nat:=[]
def aEZ:aW:=⟨2,30,NO,[.tmp 4,.tmp 5]⟩
def aSW:Rg:=[iZ 4,iZ 5,iI 6 0]
def aSX:Rg:=[iM 10 0,iK 11 137 10,iM 12 11,gM 13 1 12 false,gK 14 137 13 12 false,iQ 15 12 14,iM 9 15]
def alY:Rg:=[iZ 4,iZ 5,iI 6 2]
def aSY:Rg:=[iM 17 1,iK 18 138 17,iC 19 .eql 18 0,iM 16 19]
def aSZ:Rg:=[iZ 4,iZ 5,iI 6 3]
def aTA:Rd:=[(iM 21 0,true),(iM 22 0,false),(iK 23 138 22,true),(iA 24 (.slice 1 (Tm 21) none (some (Tm 23)) none),true),(iM 25 1,true),(iM 26 1,true),(iK 27 138 26,true),(iA 28 (.slice 1 (Tm 25) none (some (Tm 27)) none),false),(iK2 29 136 24 28,true),(iM 20 29,false),(iE 30 20 0,false),(iE 31 20 1,false),(iM 7 30,false),(iM 8 31,false)]
def aTB:Rg:=[iM 32 7,iM 33 8,iM 4 32,iM 5 33,iI 6 0]
def NM:aC:=(sq aSW (.seq (.block 0 (sq aSX (.cond (Tm 9) (sq alY .ret) (sq aSY (.cond (Tm 16) (sq aSZ .ret) .skip))))) (dq aTA (sq aTB .ret))))
def bnZ:List Nat:=[]
def aEV:aW:=⟨2,34,NM,[.tmp 4,.tmp 5,.tmp 6]⟩
def aqG:Rg:=[iZ 4,iA 5 (.mv (.const (.int .u32 0)))]
def aqH:Rg:=[iM 9 0,iN 10 9,iA 11 (.bHZ 1 4 [(.int .u32 0)] (Tm 10) (Tm 10)),iM 6 11]
def aqI:Rg:=[iA 7 (.mv (.const (.int .u64 0)))]
def aqJ:Rg:=[iM 12 0,iN 13 12,iC 14 .sub 13 1,iM 8 14]
def aqK:Rg:=[iM 15 8,iC 16 .geq 15 0]
def aqL:Rg:=[iM 19 7,iA 20 (.bin .shl (Tm 19) (.const (.int .u64 32))),iM 21 0,iM 22 8,iX 23 1 21 22,iL 24 23,iA 25 (.conv .u64 (Tm 24)),iB 26 .or 20 25,iM 7 26]
def aqM:Rg:=[iM 27 6,iM 28 8,iM 29 7,iM 30 1,iA 31 (.conv .u64 (Tm 30)),iB 32 .quo 29 31,iA 33 (.conv .u32 (Tm 32)),iX 34 1 27 28,iS 1 34 33]
def aqN:Rg:=[iM 35 7,iM 36 1,iA 37 (.conv .u64 (Tm 36)),iB 38 .rem 35 37,iM 7 38]
def aqO:Rg:=[iM 17 8,iC 18 .sub 17 1,iM 8 18]
def aqF:aC:=(.seq (sq aqK (.cond (Tm 16) .skip (.exit 0))) (.seq (.block 1 (sq aqL (sq aqM (.region aqN)))) (.region aqO)))
def aeX:Rg:=[iM 39 6,iM 40 6,iK 41 138 40,iA 42 (.slice 1 (Tm 39) none (some (Tm 41)) none),iM 43 7,iA 44 (.conv .u32 (Tm 43)),iM 4 42,iM 5 44]
def BA:aC:=(sq aqG (sq aqH (sq aqI (.seq (sq aqJ (.block 0 (.loop aqF))) (sq aeX .ret)))))
def a8E:List Nat:=[]
def NV:aW:=⟨2,45,BA,[.tmp 4,.tmp 5]⟩
def a8I:Rg:=[iZ 4]
def a8J:Rg:=[iM 9 0,iN 10 9,iC 11 .add 10 1,iA 12 (.bHZ 1 4 [(.int .u32 0)] (Tm 11) (Tm 11)),iM 5 12]
def a8K:Rg:=[iA 6 (.mv (.const (.int .u64 0)))]
def a8L:Rg:=[iM 13 0,iN 14 13,iI 15 0]
def a8M:Rg:=[iB 16 .lss 15 14]
def a8N:Rg:=[iM 17 15,iX 18 1 13 15,iL 19 18,iM 7 17,iM 8 19]
def a8O:Rg:=[iM 20 6,iM 21 8,iA 22 (.conv .u64 (Tm 21)),iM 23 1,iB 24 .shl 22 23,iB 25 .or 20 24,iM 6 25]
def a8P:Rg:=[iM 26 5,iM 27 7,iM 28 6,iA 29 (.conv .u32 (Tm 28)),iX 30 1 26 27,iS 1 30 29]
def a8Q:Rg:=[iM 31 6,iA 32 (.bin .shr (Tm 31) (.const (.int .u64 32))),iM 6 32]
def a8R:Rg:=[iC 33 .add 15 1,iM 15 33]
def aTV:aC:=(sq a8M (.seq (.cond (Tm 16) .skip (.exit 0)) (.seq (.block 1 (sq a8N (sq a8O (sq a8P (.region a8Q))))) (.region a8R))))
def aTW:Rg:=[iM 34 5,iM 35 0,iN 36 35,iM 37 6,iA 38 (.conv .u32 (Tm 37)),iX 39 1 34 36,iS 1 39 38]
def aTX:Rg:=[iM 40 5,iM 4 40]
def YO:aC:=(sq a8I (sq a8J (sq a8K (.seq (sq a8L (.block 0 (.loop aTV))) (sq aTW (sq aTX .ret))))))
def bsD:List Nat:=[]
def nup:aW:=⟨2,41,YO,[.tmp 4]⟩
def aeL:Rg:=[iZ 4,iZ 5]
def aeM:Rg:=[iM 21 0,iM 22 1,iK2 23 129 21 22,iC 24 .lss 23 0]
def aeN:Rg:=[iM 25 0,iK 26 135 25,iZ 4,iM 5 26]
def aeO:Rg:=[iM 27 1,iN 28 27,iC 29 .eql 28 1]
def aeP:Rg:=[iM 31 0,iM 32 1,iA 33 (.bIK 1 (Tm 32) (Ci 0)),iL 34 33,iK2 35 140 31 34,iM 30 35,iE 36 30 0,iE 37 30 1,iM 6 36,iM 7 37]
def aeQ:Rg:=[iM 38 6,iM 39 7,iA 40 (.conv .u64 (Tm 39)),iK 41 132 40,iM 4 38,iM 5 41]
def aeR:Rg:=[iA 8 (.mv (.const (.int .u64 0)))]
def aeS:Rg:=[iM 42 1,iM 43 1,iN 44 43,iC 45 .sub 44 1,iX 46 1 42 45,iL 47 46,iM 48 8,iB 49 .shl 47 48,iA 50 (.bin .lss (Tm 49) (.const (.int .u32 2147483648)))]
def aeT:Rg:=[iM 51 8,iA 52 (.bin .add (Tm 51) (.const (.int .u64 1))),iM 8 52]
def aeK:aC:=(.seq (sq aeS (.cond (Tm 50) .skip (.exit 0))) (.block 1 (.region aeT)))
def UH:Rd:=[(iM 53 0,false),(iM 54 8,false),(iK2 55 143 53 54,true),(iM 56 1,true),(iM 57 8,true),(iK2 58 143 56 57,true),(iM 59 1,true),(iN 60 59,true),(iA 61 (.slice 1 (Tm 58) none (some (Tm 60)) none),false),(iM 9 55,false),(iM 10 61,false)]
def UI:Rg:=[iM 62 10,iN 63 62,iM 11 63]
def UJ:Rg:=[iM 64 9,iN 65 64,iM 66 11,iB 67 .sub 65 66,iA 68 (.bHZ 1 4 [(.int .u32 0)] (Tm 67) (Tm 67)),iM 12 68]
def UK:Rd:=[(iM 69 10,false),(iM 70 11,false),(iC 71 .sub 70 1,false),(iX 72 1 69 71,false),(iL 73 72,false),(iA 74 (.conv .u64 (Tm 73)),false),(iM 75 10,false),(iM 76 11,false),(iC 77 .sub 76 2,false),(iX 78 1 75 77,false),(iL 79 78,false),(iA 80 (.conv .u64 (Tm 79)),false),(iM 13 74,false),(iM 14 80,false)]
def UL:Rg:=[iM 81 12,iN 82 81,iC 83 .sub 82 1,iM 15 83]
def UM:Rg:=[iM 84 15,iC 85 .geq 84 0]
def AO:Rd:=[(iM 88 9,false),(iM 89 15,false),(iM 90 11,false),(iB 91 .add 89 90,false),(iX 92 1 88 91,false),(iL 93 92,false),(iA 94 (.conv .u64 (Tm 93)),false),(iA 95 (.bin .shl (Tm 94) (.const (.int .u64 32))),false),(iM 96 9,false),(iM 97 15,false),(iM 98 11,false),(iB 99 .add 97 98,false),(iC 100 .sub 99 1,false),(iX 101 1 96 100,false),(iL 102 101,false),(iA 103 (.conv .u64 (Tm 102)),false),(iB 104 .or 95 103,false),(iM 16 104,false)]
def AP:Rd:=[(iM 105 16,false),(iM 106 13,false),(iB 107 .quo 105 106,false),(iM 108 16,false),(iM 109 13,false),(iB 110 .rem 108 109,false),(iM 17 107,false),(iM 18 110,false)]
def UN:Rg:=[iM 111 17,iA 112 (.bin .geq (Tm 111) (.const (.int .u64 4294967296))),iM 113 112,gM 114 17 113 false,gM 115 14 113 false,gB 116 .mul 114 115 113 false,gM 117 18 113 false,iG 118 (.bin .shl (Tm 117) (.const (.int .u64 32))) 113 false,gM 119 9 113 false,gM 120 15 113 false,gM 121 11 113 false,gB 122 .add 120 121 113 false,gC 123 .sub 122 2 113 false,iG 124 (.bIK 1 (Tm 119) (Tm 123)) 113 false,gL 125 124 113 false,iG 126 (.conv .u64 (Tm 125)) 113 false,gB 127 .or 118 126 113 false,gB 128 .gtr 116 127 113 false,iQ 129 113 128]
def AQ:Rg:=[iM 130 17,iA 131 (.bin .sub (Tm 130) (.const (.int .u64 1))),iM 17 131]
def AR:Rg:=[iM 132 18,iM 133 13,iB 134 .add 132 133,iM 18 134]
def AS:Rg:=[iM 135 18,iA 136 (.bin .geq (Tm 135) (.const (.int .u64 4294967296)))]
def sO:aC:=(.seq (sq UN (.cond (Tm 129) .skip (.exit 4))) (.block 5 (sq AQ (sq AR (sq AS (.cond (Tm 136) (.exit 4) .skip))))))
def AU:Rg:=[iM 137 9,iM 138 15,iM 139 15,iM 140 11,iB 141 .add 139 140,iC 142 .add 141 1,iA 143 (.slice 1 (Tm 137) (some (Tm 138)) (some (Tm 142)) none),iM 144 10,iM 145 17,iA 146 (.call 142 [(Tm 143),(Tm 144),(Tm 145)])]
def AV:Rg:=[iM 147 17,iA 148 (.bin .sub (Tm 147) (.const (.int .u64 1))),iM 17 148]
def AW:Rg:=[iM 149 9,iM 150 15,iM 151 15,iM 152 11,iB 153 .add 151 152,iC 154 .add 153 1,iA 155 (.slice 1 (Tm 149) (some (Tm 150)) (some (Tm 154)) none),iM 156 10,iK2 157 139 155 156]
def sP:Rg:=[iM 158 12,iM 159 15,iM 160 17,iA 161 (.conv .u32 (Tm 160)),iX 162 1 158 159,iS 1 162 161]
def UO:Rg:=[iM 86 15,iC 87 .sub 86 1,iM 15 87]
def AM:aC:=(.seq (sq UM (.cond (Tm 85) .skip (.exit 2))) (.seq (.block 3 (dq AO (dq AP (.seq (.block 4 (.loop sO)) (.seq (sq AU (.cond (Tm 146) (sq AV (.region AW)) .skip)) (.region sP)))))) (.region UO)))
def AX:Rg:=[iM 163 11,iA 164 (.bHZ 1 4 [(.int .u32 0)] (Tm 163) (Tm 163)),iM 19 164]
def AY:Rg:=[iM 165 19,iN 166 165,iI 167 0]
def UP:Rg:=[iB 168 .lss 167 166]
def UQ:Rg:=[iM 169 167,iM 20 169]
def UR:Rd:=[(iM 170 19,false),(iM 171 20,false),(iM 172 9,false),(iM 173 20,false),(iC 174 .add 173 1,false),(iX 175 1 172 174,false),(iL 176 175,false),(iA 177 (.conv .u64 (Tm 176)),false),(iA 178 (.bin .shl (Tm 177) (.const (.int .u64 32))),false),(iM 179 9,false),(iM 180 20,false),(iX 181 1 179 180,false),(iL 182 181,false),(iA 183 (.conv .u64 (Tm 182)),false),(iB 184 .or 178 183,false),(iM 185 8,false),(iB 186 .shr 184 185,false),(iA 187 (.conv .u32 (Tm 186)),false),(iX 188 1 170 171,false),(iS 1 188 187,true)]
def US:Rg:=[iC 189 .add 167 1,iM 167 189]
def AN:aC:=(sq UP (.seq (.cond (Tm 168) .skip (.exit 6)) (.seq (.block 7 (sq UQ (.draw UR))) (.region US))))
def UT:Rd:=[(iM 190 12,true),(iM 191 12,false),(iK 192 138 191,true),(iA 193 (.slice 1 (Tm 190) none (some (Tm 192)) none),true),(iM 194 19,true),(iM 195 19,true),(iK 196 138 195,true),(iA 197 (.slice 1 (Tm 194) none (some (Tm 196)) none),false),(iM 4 193,false),(iM 5 197,false)]
def xD:aC:=(sq aeL (.seq (sq aeM (.cond (Tm 24) (sq aeN .ret) .skip)) (.seq (sq aeO (.cond (Tm 29) (sq aeP (sq aeQ .ret)) .skip)) (sq aeR (.seq (.block 0 (.loop aeK)) (dq UH (sq UI (sq UJ (dq UK (.seq (sq UL (.block 2 (.loop AM))) (sq AX (.seq (sq AY (.block 6 (.loop AN))) (dq UT .ret)))))))))))))
def a1S:List Nat:=[]
def DK:aW:=⟨2,198,xD,[.tmp 4,.tmp 5]⟩
def NY:Rg:=[iT 6 false]
def NZ:Rg:=[iA 7 (.mv (.const (.int .u64 0))),iA 8 (.mv (.const (.int .u64 0)))]
def OA:Rg:=[iM 13 1,iN 14 13,iI 15 0]
def OB:Rg:=[iB 16 .lss 15 14]
def OC:Rg:=[iM 17 15,iX 18 1 13 15,iL 19 18,iM 9 17,iM 10 19]
def OD:Rg:=[iM 20 7,iM 21 2,iM 22 10,iA 23 (.conv .u64 (Tm 22)),iB 24 .mul 21 23,iB 25 .add 20 24,iM 7 25]
def OE:Rg:=[iM 26 0,iM 27 9,iX 28 1 26 27,iL 29 28,iA 30 (.conv .u64 (Tm 29)),iM 31 7,iA 32 (.bin .and (Tm 31) (.const (.int .u64 4294967295))),iB 33 .sub 30 32,iM 34 8,iB 35 .sub 33 34,iM 11 35]
def OF:Rg:=[iM 36 0,iM 37 9,iM 38 11,iA 39 (.conv .u32 (Tm 38)),iX 40 1 36 37,iS 1 40 39]
def OG:Rg:=[iM 41 11,iA 42 (.bin .shr (Tm 41) (.const (.int .u64 63))),iM 8 42]
def OH:Rg:=[iM 43 7,iA 44 (.bin .shr (Tm 43) (.const (.int .u64 32))),iM 7 44]
def KY:Rg:=[iC 45 .add 15 1,iM 15 45]
def KX:aC:=(sq OB (.seq (.cond (Tm 16) .skip (.exit 0)) (.seq (.block 1 (sq OC (sq OD (sq OE (sq OF (sq OG (.region OH))))))) (.region KY))))
def KZ:Rg:=[iM 46 0,iM 47 1,iN 48 47,iX 49 1 46 48,iL 50 49,iA 51 (.conv .u64 (Tm 50)),iM 52 7,iB 53 .sub 51 52,iM 54 8,iB 55 .sub 53 54,iM 12 55]
def LC:Rg:=[iM 56 0,iM 57 1,iN 58 57,iM 59 12,iA 60 (.conv .u32 (Tm 59)),iX 61 1 56 58,iS 1 61 60]
def LD:Rg:=[iM 62 12,iA 63 (.bin .shr (Tm 62) (.const (.int .u64 63))),iA 64 (.bin .eql (Tm 63) (.const (.int .u64 1))),iM 6 64]
def rV:aC:=(sq NY (sq NZ (.seq (sq OA (.block 0 (.loop KX))) (sq KZ (sq LC (sq LD .ret))))))
def aFU:List Nat:=[]
def tK:aW:=⟨3,65,rV,[.tmp 6]⟩
def UV:Rg:=[iA 4 (.mv (.const (.int .u64 0)))]
def UW:Rg:=[iM 7 1,iN 8 7,iI 9 0]
def UX:Rg:=[iB 10 .lss 9 8]
def UY:Rg:=[iM 11 9,iX 12 1 7 9,iL 13 12,iM 5 11,iM 6 13]
def UZ:Rg:=[iM 14 4,iM 15 0,iM 16 5,iX 17 1 15 16,iL 18 17,iA 19 (.conv .u64 (Tm 18)),iM 20 6,iA 21 (.conv .u64 (Tm 20)),iB 22 .add 19 21,iB 23 .add 14 22,iM 4 23]
def VA:Rg:=[iM 24 0,iM 25 5,iM 26 4,iA 27 (.conv .u32 (Tm 26)),iX 28 1 24 25,iS 1 28 27]
def VB:Rg:=[iM 29 4,iA 30 (.bin .shr (Tm 29) (.const (.int .u64 32))),iM 4 30]
def VC:Rg:=[iC 31 .add 9 1,iM 9 31]
def UU:aC:=(sq UX (.seq (.cond (Tm 10) .skip (.exit 0)) (.seq (.block 1 (sq UY (sq UZ (sq VA (.region VB))))) (.region VC))))
def VD:Rg:=[iM 32 0,iM 33 1,iN 34 33,iX 35 1 32 34,iL 36 35,iM 37 4,iA 38 (.conv .u32 (Tm 37)),iB 39 .add 36 38,iX 40 1 32 34,iS 1 40 39]
def uC:aC:=(sq UV (.seq (sq UW (.block 0 (.loop UU))) (.region VD)))
def aNX:List Nat:=[]
def xF:aW:=⟨2,41,uC,[]⟩
section
variable {C:Ctx} {K:cN} {F:PF} {H:PH}
theorem PH.kD (o:Nat) (x:cP):H.eJ .nil (PH.nil.set o x)=H.set o x:=PH.ext fun q=>by
 rw[mD]; simp only[bS,alO]; split<;>simp_all
theorem PH.lG (o:Nat) (x y:cP):H.eJ (PH.nil.set o x) (PH.nil.set o y)=H.set o y:=PH.ext fun q=>by
 rw[mD]; simp only[bS,alO]; split<;>simp_all
theorem eR {name:Nat} {vs:List PV} {H0:PH} {R:PV→PH→Prop} {args:List aP} {d:Option Nat} {K:PF→PH→Prop} (h:aE C name vs H0 R) (ha:aP.evs F args=some vs) (hle:H0.le H)
  (hk:∀ r H',R r H'→kJ H H0 H'→K (F.put d r) (H.eJ H0 H')):fP C name args [] d K F H :=
 .inl ⟨vs,H0,R,by rw[ha]; simp,hle,h,hk⟩
theorem aX {res:List dQ} {R:PV→PH→Prop} {vs:List PV} {e:lJ} (he:e=.normal∨e=.ret) (H0:PH) (h:dQ.evs F H res=some vs) (hle:H0.le H) (hR:R (aV vs) H0):aT res R e F H:=by
 have key:∃ vs,dQ.evs F H res=some vs∧∃ F1 H1 H2,iW (PF.nil.set 0 (aV vs)) H F1 H1∧H2.le H1∧∃ u,F1 0=some u∧R u H2 :=
  ⟨vs,h,_,H,H0,.refl _ _,hle,aV vs,by rw[nA,if_pos rfl],hR⟩
 rcases he with rfl | rfl<;>exact key
theorem aHN {t o s k:Nat} {rs:List (List PV)} {R:PV→PH→Prop} {e:lJ} (he:e=.normal∨e=.ret) (h:F t=some (.osl o s 0 k)) (ho:H o=some (.rows s rs)) (hk:k≤rs.length) (hR:R (.sl s (rs.take k)) .nil) :
  aT [.tmp t] R e F H:=by
 have key:∃ vs,dQ.evs F H [.tmp t]=some vs∧∃ F1 H1 H2,iW (PF.nil.set 0 (aV vs)) H F1 H1∧H2.le H1∧∃ u,F1 0=some u∧R u H2:=by
  refine⟨[.osl o s 0 k],by rw[kX,nY,h,pV],_,_,.nil,.step o ho (.refl _ _),PH.nil_le,.sl s (rs.take k),?_,hR⟩
  have:0+k≤rs.length:=by omega
  simp only[PF.frz,nA,if_true,aV,bLF,PV.frz,PV.rO,PV.dC,true_and,if_pos this,bKW]
 rcases he with rfl | rfl<;>exact key
def bY (v:PV) (r:PV) (H:PH):Prop:=Co r v∧H=PH.nil
theorem aE.bsQ {name:Nat} {args:List PV} {H:PH} {v:PV} (h:aE C name args H (bY v)):aE C name args H (aD v) :=
 h.post fun r H' ⟨h1,h2⟩=>⟨v,h1,rfl,h2⟩
theorem aD.bsQ {v r:PV} {H:PH} (h:aD v r H):bY v r H:=by
 obtain⟨rfl,rfl⟩:=h
 exact⟨.refl _,rfl⟩
theorem xY {s b:Nat} {y:PV} {src:List (List PV)} {K:PV→PH→Prop} (hy:dU H s y=some src) (hr:roomFor 0 src.length b) (h0:src=[]→K .aB H)
  (h1:src≠[]→∀ o,H o=none→K (.osl o s 0 src.length) (H.set o (.rows s src))):kY H s b .aB y K:=⟨src,hy,hr,h0,h1⟩
theorem RA {o s b len:Nat} {rs:List (List PV)} {y:PV} {src:List (List PV)} {K:PV→PH→Prop} (hy:dU H s y=some src) (hr:roomFor len src.length b) (ho:H o=some (.rows s rs)) (hl:len≤rs.length)
  (h0:K (.osl o s 0 (len+src.length)) (H.set o (.rows s (rs.take len++src))))
  (h1:∀ o',H o'=none→K (.osl o' s 0 (len+src.length)) (H.set o' (.rows s (rs.take len++src)))):kY H s b (.osl o s 0 len) y K :=
 ⟨src,hy,rfl,rfl,hr,rs,ho,hl,h0,h1⟩
end
def bL (H:PH) (s:Nat) (v:PV) (rows:List (List PV)):Prop :=
 (rows=[]∧v=.aB)∨∃ q rs,v=.osl q s 0 rows.length∧H q=some (.rows s rs)∧rows.length≤rs.length∧rs.take rows.length=rows
def Seen (s:Nat) (v:PV) (rows:List (List PV)):Prop:=(rows=[]∧v=.aB)∨v=.sl s rows
section
variable {C:Ctx} {K:cN} {F:PF} {H:PH} {s b:Nat} {v y:PV} {rows src:List (List PV)}
theorem bL.nil:bL H s .aB []:=.inl ⟨rfl,rfl⟩
theorem bL.view (h:bL H s v rows):dU H s v=some rows:=by
 rcases h with ⟨rfl,rfl⟩ | ⟨q,rs,rfl,h1,h2,h3⟩
 ·rfl
 ·have:0+rows.length≤rs.length:=by omega
  simp only[dU,if_true,h1,true_and,if_pos this,bKW,h3]
theorem Seen.view (h:Seen s v rows):dU H s v=some rows:=by
 rcases h with ⟨rfl,rfl⟩ | rfl
 ·rfl
 ·simp[dU]
theorem bL.ext {H':PH} (h:bL H s v rows) (hk:∀ o x,H o=some x→H' o=some x):bL H' s v rows:=by
 rcases h with h | ⟨q,rs,h0,h1,h2,h3⟩
 ·exact .inl h
 ·exact .inr ⟨q,rs,h0,hk q _ h1,h2,h3⟩
theorem fZ {K:PV→PH→Prop} (h:bL H s v rows) (hy:dU H s y=some src) (hr:roomFor rows.length src.length b)
  (hk:∀ v' H',bL H' s v' (rows++src)→(∀ o x,H o=some x→(∀ l,v≠.osl o s 0 l)→H' o=some x)→K v' H'):kY H s b v y K:=by
 rcases h with ⟨rfl,rfl⟩ | ⟨q,rs,rfl,h1,h2,h3⟩
 ·refine⟨src,hy,hr,fun e=>?_,fun e o ho=>?_⟩
  ·subst e
   exact hk _ _ (.inl ⟨rfl,rfl⟩) fun o x ho _=>ho
  ·refine hk _ _ (.inr ⟨o,src,rfl,by simp only[bS,if_true],bJV _,by simp⟩) fun o' x ho' _=>?_
   have:o'≠o:=by rintro rfl; rw[ho] at ho'; cases ho'
   simp only[bS,if_neg this,ho']
 ·have hlen:(rows++src).length=rows.length+src.length:=bKA
  refine⟨src,hy,rfl,rfl,hr,rs,h1,h2,?_,fun o ho=>?_⟩
  ·rw[h3]
   refine hk _ _ (.inr ⟨q,rows++src,by rw[hlen],by simp only[bS,if_true],bJV _,bKS⟩) fun o' x ho' hne=>?_
   have:o'≠q:=by rintro rfl; exact hne _ rfl
   simp only[bS,if_neg this,ho']
  ·rw[h3]
   refine hk _ _ (.inr ⟨o,rows++src,by rw[hlen],by simp only[bS,if_true],bJV _,bKS⟩) fun o' x ho' hne=>?_
   have h6:o'≠o:=by rintro rfl; rw[ho] at ho'; cases ho'
   simp only[bS,if_neg h6,ho']
def Pure (u:PV):Prop:=∀ q s rs,PV.frz q s rs u=u
theorem bL.frz (h:bL H s v rows):∃ v1,Seen s v1 rows∧∀ F:PF,∃ F1 H1,iW F H F1 H1∧(∀ t,F t=some v→F1 t=some v1)∧∀ i u,F i=some u→Pure u→F1 i=some u:=by
 rcases h with ⟨rfl,rfl⟩ | ⟨q,rs,rfl,h1,h2,h3⟩
 ·exact⟨.aB,.inl ⟨rfl,rfl⟩,fun F=>⟨F,H,.refl _ _,fun t h=>h,fun i u h _=>h⟩⟩
 ·refine⟨.sl s rows,.inr rfl,fun F=>⟨_,_,.step q h1 (.refl _ _),fun t ht=>?_,fun i u hi hp=>?_⟩⟩
  ·have:0+rows.length≤rs.length:=by omega
   simp only[PF.frz,ht,bLF,PV.frz,PV.rO,PV.dC,if_true,true_and,if_pos this,bKW,h3]
  ·simp only[PF.frz,hi,bLF]
   rw[hp]
theorem a2N {t:Nat} {e:lJ} (he:e=.normal∨e=.ret) (h:bL H s v rows) (ht:F t=some v):aT [.tmp t] (bY (.sl s rows)) e F H:=by
 rcases h with ⟨rfl,rfl⟩ | ⟨q,rs,rfl,h1,h2,h3⟩
 ·exact aX (vs:=[.aB]) he .nil (by rw[kX,nY,ht,pV]) PH.nil_le ⟨.nil s,rfl⟩
 ·exact aHN he ht h1 h2 ⟨by rw[h3]; exact .refl _,rfl⟩
end
end Go.PM
namespace Go.PM
open Go
section
variable {C:Ctx} {F:PF} {H:PH}
@[go_sem] theorem qO (o s:Nat) (rs:List (List PV)) (i:Nat):(F.frz o s rs) i=(F i).map (PV.frz o s rs):=(rfl)
theorem oC {name t o s k:Nat} {rs:List (List PV)} {v:PV} {d:Option Nat} {K:PF→PH→Prop} (h:aE C name [.sl s (rs.take k)] .nil (aD v)) (ht:F t=some (.osl o s 0 k)) (ho:H o=some (.rows s rs)) (hk:k≤rs.length)
  (hK:K ((F.frz o s rs).put d v) (H.frz o s rs)):fP C name [.tmp t] [] d K F H:=by
 refine .inr ⟨_,_,.step o ho (.refl _ _),[.sl s (rs.take k)],.nil,aD v,?_,PH.nil_le,h,?_⟩
 ·have:0+k≤rs.length:=by omega
  simp only[wP,SA,acB,qO,ht,bLF,PV.frz,PV.rO,PV.dC,if_true,true_and,if_pos this,bKW,bLM]
 ·rintro r H' ⟨rfl,rfl⟩ -
  rw[PH.kV]
  exact hK
end
end Go.PM
namespace Go.Na
def val:List Nat→Nat
 | []=>0
 | x::xs=>x+4294967296*val xs
def Lim (xs:List Nat):Prop:=∀ x∈xs,x<4294967296
def aG (n:Nat):List Nat:=if h:n=0 then [] else (n%4294967296)::aG (n/4294967296)
termination_by n
decreasing_by exact Nat.div_lt_self (bMB h) (by decide)
def nl (n:Nat):Nat:=(aG n).length
theorem eW:aG 0=[]:=by rw[aG]; simp
theorem pP {n:Nat} (h:n≠0):aG n=(n%4294967296)::aG (n/4294967296):=by rw[aG]; simp[h]
theorem mB {n:Nat} (h:n≠0) (hb:n<4294967296):aG n=[n]:=by
 rw[pP h,bLE hb,bNB hb,eW]
theorem aS (n:Nat):val (aG n)=n:=by
 induction n using Nat.strongRecOn with
 | _ n ih =>
  by_cases h:n=0
  ·subst h; rw[eW]; rfl
  ·rw[pP h,val,ih _ (Nat.div_lt_self (bMB h) (by decide))]
   exact Nat.mod_add_div n 4294967296
theorem aU (n:Nat):Lim (aG n):=by
 induction n using Nat.strongRecOn with
 | _ n ih =>
  by_cases h:n=0
  ·subst h; rw[eW]; intro x hx; cases hx
  ·rw[pP h]
   intro x hx
   rw[bKJ] at hx
   rcases hx with rfl | hx
   ·exact bLJ _ (by decide)
   ·exact ih _ (Nat.div_lt_self (bMB h) (by decide)) x hx
theorem wB:nl 0=0:=by rw[nl,eW]; rfl
theorem a7Z {n:Nat} (h:n≠0):nl n=nl (n/4294967296)+1:=by rw[nl,pP h]; rfl
theorem gT (n k:Nat):nl n≤k↔n<4294967296 ^ k:=by
 induction k generalizing n with
 | zero =>
  by_cases h:n=0
  ·subst h; simp[wB]
  ·rw[a7Z h]; simp; omega
 | succ k ih =>
  by_cases h:n=0
  ·subst h; simp[wB,bMM]
  ·rw[a7Z h,Nat.succ_le_succ_iff,ih,bLN,bMP (by decide)]
theorem gJ {n:Nat}:nl n=0↔n=0:=by
 have:=gT n 0
 simp at this
 exact this
theorem fF (xs ys:List Nat):val (xs++ys)=val xs+4294967296 ^ xs.length*val ys:=by
 induction xs with
 | nil=>simp[val]
 | cons x xs ih =>
  simp only[List.cons_append,val,bLU,ih,bLN]
  rw[bKG,bMG,← bKP,bKT 4294967296 (4294967296 ^ xs.length)]
theorem eN {xs:List Nat} (h:Lim xs):val xs<4294967296 ^ xs.length:=by
 induction xs with
 | nil=>simp[val]
 | cons x xs ih =>
  have h1:=h x (by simp)
  have h2:=ih fun y hy=>h y (by simp[hy])
  simp only[val,bLU,bLN]
  have:4294967296*(val xs+1)≤4294967296*4294967296 ^ xs.length:=bLZ _ h2
  rw[bKG,Nat.mul_one] at this
  rw[bKT (4294967296 ^ xs.length)]
  omega
theorem Lim.app {xs ys:List Nat} (h:Lim xs) (k:Lim ys):Lim (xs++ys):=fun x hx=>by
 rw[bLH] at hx
 exact hx.elim (h x) (k x)
theorem Lim.take {xs:List Nat} (h:Lim xs) (n:Nat):Lim (xs.take n):=fun x hx=>h x (List.mem_of_mem_take hx)
theorem Lim.drop {xs:List Nat} (h:Lim xs) (n:Nat):Lim (xs.drop n):=fun x hx=>h x (List.mem_of_mem_drop hx)
theorem Lim.set {xs:List Nat} (h:Lim xs) (i:Nat) {v:Nat} (hv:v<4294967296):Lim (xs.set i v):=fun x hx=>by
 rcases List.mem_or_eq_of_mem_set hx with h1 | h1
 ·exact h x h1
 ·subst h1; exact hv
theorem tH (n:Nat):Lim (bJW n 0):=fun x hx=>by
 rw[List.mem_replicate] at hx; rw[hx.2]; decide
theorem qE (n:Nat):val (bJW n 0)=0:=by
 induction n with
 | zero=>rfl
 | succ n ih=>simp[List.replicate_succ,val,ih]
theorem a7Q {xs:List Nat} (h:Lim xs) (hl:∀ x,xs.getLast?=some x→x≠0):aG (val xs)=xs:=by
 induction xs with
 | nil=>simp[val,eW]
 | cons x xs ih =>
  have hx:=h x (by simp)
  have hxs:Lim xs:=fun y hy=>h y (by simp[hy])
  cases xs with
  | nil =>
   have:=hl x (by simp)
   simp only[val,Nat.mul_zero,bLL]
   exact mB this hx
  | cons y ys =>
   have ih':=ih hxs fun z hz=>hl z (by rw[List.getLast?_cons_cons]; exact hz)
   have h0:val (y::ys)≠0:=fun e=>by rw[e,eW] at ih'; cases ih'
   have hne:x+4294967296*val (y::ys)≠0:=by
    have:0<4294967296*val (y::ys):=Nat.mul_pos (by decide) (bMB h0)
    omega
   show aG (x+4294967296*val (y::ys))=_
   rw[pP hne]
   have e1:(x+4294967296*val (y::ys))%4294967296=x:=by rw[Nat.add_mul_mod_self_left,bLE hx]
   have e2:(x+4294967296*val (y::ys))/4294967296=val (y::ys):=by rw[Nat.add_mul_div_left _ _ (by decide),bNB hx,bKN]
   rw[e1,e2,ih']
theorem aLG {xs:List Nat} {n:Nat} (h:∀ j x,n≤j→xs[j]?=some x→x=0):val (xs.take n)=val xs:=by
 have e:xs.drop n=bJW (xs.drop n).length 0:=by
  apply List.ext_getElem (by simp)
  intro i h1 h2
  rw[List.getElem_replicate,List.getElem_drop]
  exact h (n+i) _ Om (bKD _)
 conv=>rhs; rw[← bMF n xs,fF,e,qE]
 simp
theorem IL {xs:List Nat} (hx:Lim xs) {n:Nat} (hn:n≤xs.length) (h:∀ j x,n≤j→xs[j]?=some x→x=0) (h0:∀ x,0<n→xs[n-1]?=some x→x≠0):xs.take n=aG (val xs):=by
 rw[← aLG h,a7Q (hx.take n)]
 intro x hl
 rw[List.getLast?_eq_getElem?,bKL,bLY hn] at hl
 rcases bMT n with e | e
 ·subst e; simp at hl
 ·rw[bMO Om] at hl
  exact h0 x e hl
theorem aVN {xs:List Nat} (hx:Lim xs) {n:Nat} (hn:n≤xs.length) (h:∀ j x,n≤j→xs[j]?=some x→x=0) (h0:∀ x,0<n→xs[n-1]?=some x→x≠0):nl (val xs)=n:=by
 rw[nl,← IL hx hn h h0,bKL]; omega
theorem eU {xs:List Nat} (h:Lim xs):nl (val xs)≤xs.length:=(gT _ _).2 (eN h)
theorem jI {xs : List Nat} (h : Lim xs) : xs.take (nl (val xs)) = aG (val xs) := by
  have hl := eU h
  have e : val (xs.take (nl (val xs)) ++ xs.drop (nl (val xs))) = val xs := by rw [bMF]
  rw [fF, bKL, bLY hl] at e
  have h1 := eN (h.take (nl (val xs)))
  rw [bKL, bLY hl] at h1
  have h2 := (gT (val xs) (nl (val xs))).1 (bJV _)
  have hd : val (xs.drop (nl (val xs))) = 0 := by
    rcases bMT (val (xs.drop (nl (val xs)))) with h | h
    · exact h
    · have := bLZ (4294967296 ^ nl (val xs)) h
      omega
  have hz : ∀ j x, nl (val xs) ≤ j → xs[j]? = some x → x = 0 := by
    have zero : ∀ ys : List Nat, val ys = 0 → ∀ y ∈ ys, y = 0 := by
      intro ys
      induction ys with
      | nil => intro _ y hy; cases hy
      | cons z zs ih =>
        intro hv y hy
        simp only [val] at hv
        rw [bKJ] at hy
        rcases hy with rfl | hy
        · omega
        · exact ih (by have : 4294967296 * val zs = 0 := by omega
                       rcases Nat.mul_eq_zero.1 this with h | h
                       · cases h
                       · exact h) y hy
    intro j x hj hx
    refine zero _ hd x ?_
    rw [List.mem_iff_getElem?]
    exact ⟨j - nl (val xs), by rw [bNH, Nat.add_sub_cancel' hj]; exact hx⟩
  refine IL h hl hz fun x hpos hx e => ?_
  subst e
  have hz2 : ∀ j x, nl (val xs) - 1 ≤ j → xs[j]? = some x → x = 0 := fun j y hj hy => by
    rcases bKM j (nl (val xs)) with h3 | h3
    · have : j = nl (val xs) - 1 := by omega
      subst this; rw [hx] at hy; cases hy; rfl
    · exact hz j y h3 hy
  have h3 := aLG hz2
  have h4 := eN (h.take (nl (val xs) - 1))
  rw [h3, bKL, bLY Om] at h4
  have := (gT (val xs) (nl (val xs) - 1)).2 h4
  omega
theorem aJB {xs:List Nat} (h:Lim xs) {n:Nat} (hn:nl (val xs)=n+1):∃ x,xs[n]?=some x∧x≠0:=by
 have hl:=eU h
 refine⟨xs[n]'Om,bKD _,fun e=>?_⟩
 have e1:=jI h
 have hv:=aS (val xs)
 rw[← e1,hn,bLK Om,e,fF] at hv
 simp only[val,Nat.mul_zero,bLL] at hv
 have h4:=eN (h.take n)
 rw[hv,bKL,bLY Om] at h4
 have:=(gT (val xs) n).2 h4
 omega
theorem pX (xs:List Nat) {k:Nat} (h:k<xs.length):val xs=val (xs.take k)+4294967296 ^ k*(xs[k]+4294967296*val (xs.drop (k+1))):=by
 conv=>lhs; rw[← bMF k xs,fF,bKL,bLY Om,bLP h]
 rfl
theorem aaN {xs ys:List Nat} (hx:Lim xs) {k:Nat} (h1:k<xs.length) (h2:k<ys.length) (hd:xs.drop (k+1)=ys.drop (k+1)) (h:xs[k]<ys[k]):val xs<val ys:=by
 rw[pX xs h1,pX ys h2,hd]
 have h3:=eN (hx.take k)
 rw[bKL,bLY Om] at h3
 have h4:4294967296 ^ k*(xs[k]+4294967296*val (ys.drop (k+1))+1)≤4294967296 ^ k*(ys[k]+4294967296*val (ys.drop (k+1))):=bLZ _ Om
 rw[bKG _ _ 1,Nat.mul_one] at h4
 omega
def dB (a b:Nat):Int:=if a<b then -1 else if b<a then 1 else 0
theorem aoP {xs ys:List Nat} {k:Nat} (h1:k<xs.length) (h2:k<ys.length) (hd:xs.drop (k+1)=ys.drop (k+1)) (h:xs[k]=ys[k]):xs.drop k=ys.drop k:=by
 rw[bLP h1,bLP h2,hd,h]
theorem fA {a b:Nat} (h:a≤b):nl a≤nl b:=(gT a _).2 (Nat.lt_of_le_of_lt h ((gT b _).1 (bJV _)))
theorem axO {xs:List Nat} (h:Lim xs) {j:Nat} (hj:j<nl (val xs)):∃ (h1:j<xs.length) (h2:j<(aG (val xs)).length),xs[j]=(aG (val xs))[j]:=by
 have hl:=eU h
 refine⟨by omega,hj,?_⟩
 have e:=jI h
 have:(xs.take (nl (val xs)))[j]?=(aG (val xs))[j]?:=by rw[e]
 rw[bMO hj,bKD Om,bKD hj] at this
 exact bMN.inj this
def cC (n:Nat):Nat:=if h:n=0 then 0 else cC (n/2)+1
termination_by n
decreasing_by exact Nat.div_lt_self (bMB h) (by decide)
theorem iV:cC 0=0:=by rw[cC]; simp
theorem mV {n:Nat} (h:n≠0):cC n=cC (n/2)+1:=by rw[cC]; simp[h]
theorem kG (n k:Nat):cC n≤k↔n<2 ^ k:=by
 induction k generalizing n with
 | zero =>
  by_cases h:n=0
  ·subst h; simp[iV]
  ·rw[mV h]; simp; omega
 | succ k ih =>
  by_cases h:n=0
  ·subst h; simp[iV,bMM]
  ·rw[mV h,Nat.succ_le_succ_iff,ih,bLN,bMP (by decide)]
theorem jE {n:Nat}:cC n=0↔n=0:=by
 have:=kG n 0
 simp at this
 exact this
theorem ayA {hi lo k:Nat} (hl:lo<2 ^ k) (hh:hi≠0):cC (lo+2 ^ k*hi)=k+cC hi:=by
 apply Nat.le_antisymm
 ·rw[kG,Nat.pow_add]
  have h1:=(kG hi _).1 (bJV _)
  have:2 ^ k*(hi+1)≤2 ^ k*2 ^ cC hi:=bLZ _ h1
  rw[bKG,Nat.mul_one] at this
  omega
 ·obtain⟨b,hb⟩:∃ b,cC hi=b+1:=⟨cC hi-1,by have:=mt jE.1 hh; omega⟩
  rw[hb]
  rcases bKM (cC (lo+2 ^ k*hi)) (k+(b+1)) with h | h
  ·have h1:=(kG (lo+2 ^ k*hi) (k+b)).1 Om
   rw[Nat.pow_add] at h1
   have h2:¬ hi<2 ^ b:=fun h=>by have:=(kG hi b).2 h; omega
   have:2 ^ k*2 ^ b≤2 ^ k*hi:=bLZ _ Om
   omega
  ·exact h
theorem kI (n k:Nat):cC n≤32*k↔nl n≤k:=by
 rw[kG,gT,Nat.pow_mul]
end Go.Na
namespace Go.PM
theorem Lq {F F':PF} (h:F.le F':=by (repeat' (first|exact PF.nil_le|refine PF.aI ?_ ?_))<;>first|(simp only[go_sem,γ,δ,ε,ζ,η,θ,ι,κ,μ,ν,ξ,ο,ρ,σ,τ,υ,reduceIte,reduceCtorEq]<;>rfl)|rfl|assumption):F.le F':=h
end Go.PM
namespace Go.PM
open Go Go.Na
abbrev aJ (xs:List Nat):List (List PV):=xs.map fun (n:Nat)=>[PV.int .u32 (n:Int)]
abbrev aF (xs:List Nat):PV:=.sl 1 (xs.map fun (n:Nat)=>[PV.int .u32 (n:Int)])
theorem bT (xs:List Nat):(aJ xs).length=xs.length:=by simp
theorem bK (xs:List Nat) {i:Nat} (h:i<xs.length):(aJ xs)[i]?=some [.int .u32 (xs[i]:Nat)]:=by simp[h]
theorem aqA (xs:List Nat) (k:Nat):aF (xs.take k)=.sl 1 ((xs.map fun (n:Nat)=>[PV.int .u32 (n:Int)]).take k):=by rw[aF,List.map_take]
theorem cA (n:Nat):IntKind.u32.wrap (n:Int)=((n%4294967296:Nat):Int):=by
 have e:IntKind.u32.wrap (n:Int)=(n:Int)%4294967296:=by simp[IntKind.wrap,IntKind.bits,IntKind.signed]
 rw[e]; rfl
theorem tR {k:Nat} (h:k≤9223372036854775807) (h0:0<k):IntKind.i64.wrap ((k:Int)-1)=((k-1:Nat):Int):=by
 rw[wrap_i64 Om Om]; omega
def a1T (xs:List Nat) (n:Nat):PF:=((PF.nil.set 0 (aF xs)).set 3 (.int .i64 n))
theorem a1V {C:Ctx} (xs:List Nat) (hx:Lim xs) (hl:xs.length≤35184372087808):mY.wp C (aT rU.res (aD (.int .i64 (nl (val xs):Nat)))) (PF.args [aF xs]) .nil:=by
 simp only[go_sem,γ,reduceCtorEq,mY,HI,HJ,rU]
 refine wp_loop (α:=Nat) (a1T xs) (fun _=>.nil) (fun n=>n≤xs.length∧∀ j x,n≤j→xs[j]?=some x→x=0) (fun n=>n) xs.length ⟨bJV _,fun j x h e=>by rw[bLG h] at e; cases e⟩ ?_ PH.nil_le ?_
 ·unfold a1T
  exact Lq
 rintro n ⟨hn,hz⟩
 have out:(∀ x,0<n→xs[n-1]?=some x→x≠0)→nl (val xs)=n:=fun h=>aVN hx hn hz h
 simp only[go_sem,γ,reduceCtorEq,HH,HK,a1T]
 by_cases h0:(n:Int)>0
 ·have hp:0<n:=by omega
  have hi:=bK xs (Om:n-1<xs.length)
  simp only[go_sem,γ,reduceCtorEq,h0,tR (Om:n≤9223372036854775807) hp,hi]
  by_cases hz0:xs[n-1]=0
  ·simp only[go_sem,γ,reduceCtorEq,bO (Om:((xs[n-1]:Nat):Int)=0),HL,tR (Om:n≤9223372036854775807) hp]
   refine aH (n-1) ⟨by omega,fun j x hj he=>?_⟩ Om ?_ PH.nil_le
   ·rcases bKM j n with h | h
    ·have:j=n-1:=by omega
     subst this
     rw[bKD Om] at he
     cases he; exact hz0
    ·exact hz j x h he
   ·exact Lq
  ·simp only[go_sem,γ,reduceCtorEq,bB (Om:((xs[n-1]:Nat):Int)≠0),qX]
   refine aM (.inr rfl) rfl ?_
   rw[out fun x _ he=>by rw[bKD Om] at he; cases he; exact hz0]
   rfl
 ·simp only[go_sem,γ,reduceCtorEq,h0,qX]
  refine aM (.inr rfl) rfl ?_
  rw[out fun x h=>by omega]
  rfl
theorem a8A {C:Ctx} (xs:List Nat) (hlen:aE C 138 [aF xs] .nil (aD (.int .i64 (nl (val xs):Nat)))):AZ.wp C (aT NP.res (aD (.bool (decide (nl (val xs)>512))))) (PF.args [aF xs]) .nil:=by
 simp only[go_sem,reduceCtorEq,AZ,aqC,aqD,NP]
 refine aA hlen rfl ?_
 simp only[go_sem,γ]
 refine aM (.inr rfl) rfl ?_
 simp only[aV,PV.bool.injEq,decide_eq_decide]
 omega
def szL (n:Nat):List Nat:=if nl n>512 then [] else aG n
def szE (n:Nat):Int:=if nl n>512 then 2 else 0
def szV (n:Nat):PV:=.tup [aF (szL n),.int .i64 (szE n)]
theorem a8F {C:Ctx} (xs:List Nat) (hx:Lim xs) (hlen:aE C 138 [aF xs] .nil (aD (.int .i64 (nl (val xs):Nat)))):BB.wp C (aT NW.res (bY (szV (val xs)))) (PF.args [aF xs]) .nil:=by
 simp only[go_sem,reduceCtorEq,BB,aqP,aqQ,NW]
 refine aA hlen rfl ?_
 simp only[go_sem,γ,aqR]
 by_cases h:nl (val xs)>512
 ·have h':((nl (val xs):Nat):Int)>512:=by omega
  simp only[go_sem,h',aqS]
  refine aX (vs:=[.aB,.int .i64 2]) (.inr rfl) .nil rfl PH.nil_le ⟨?_,rfl⟩
  rw[szV,szL,szE,if_pos h,if_pos h]
  refine .tup rfl fun j p q hp hq=>?_
  match j with
  | 0=>simp at hp hq; subst hp; subst hq; exact .nil 1
  | 1=>simp at hp hq; subst hp; subst hq; exact .refl _
  | j+2=>simp at hp
 ·have h':¬ ((nl (val xs):Nat):Int)>512:=by omega
  have hl:=eU hx
  have hc:((nl (val xs):Nat):Int)≤(xs.length:Nat):=by omega
  simp only[go_sem,ν,γ,reduceCtorEq,h',aqT,hc,or_true,bKW]
  refine aX (.inr rfl) .nil rfl PH.nil_le ⟨?_,rfl⟩
  rw[szV,szL,szE,if_neg h,if_neg h,← jI hx,aqA]
  exact .refl _
theorem bgS {C:Ctx} (v:Nat) (hv:v<18446744073709551616) (hlen:∀ xs,Lim xs→xs.length≤35184372087808→aE C 138 [aF xs] .nil (aD (.int .i64 (nl (val xs):Nat)))) :
  HM.wp C (aT aeV.res (aD (aF (aG v)))) (PF.args [.int .u64 v]) .nil:=by
 have e1:IntKind.u32.wrap ((v:Nat):Int)=((v%4294967296:Nat):Int):=cA v
 have e2:Int.fdiv ((v:Nat):Int) 4294967296=((v/4294967296:Nat):Int):=by
  rw[Int.fdiv_eq_ediv_of_nonneg _ (by decide)]; rfl
 have hd:v/4294967296<4294967296:=by omega
 have e3:IntKind.u32.wrap ((v/4294967296:Nat):Int)=((v/4294967296:Nat):Int):=by rw[cA,bLE hd]
 have hL:Lim [v%4294967296,v/4294967296]:=by
  intro x hx
  simp only[bKJ,List.mem_nil_iff,or_false] at hx
  rcases hx with rfl | rfl
  ·exact bLJ _ (by decide)
  ·exact hd
 have bII:val [v%4294967296,v/4294967296]=v:=by simp only[val,Nat.mul_zero,bLL]; exact Nat.mod_add_div v 4294967296
 have hs:∀ a b:Int,PV.bin .shr (.int .u64 a) (.int .u64 b)=shift .shr .u64 a b:=fun _ _=>rfl
 have hsh:shift .shr .u64 (v:Int) 32=some (.int .u64 ((v/4294967296:Nat):Int)):=by
  unfold shift
  rw[if_neg (by decide)]
  simp only
  have:min (Int.toNat 32) IntKind.u64.bits=32:=by decide
  rw[this]
  rw[show (2:Int) ^ 32=4294967296 by decide,e2]
 simp only[go_sem,υ,δ,γ,η,θ,ζ,reduceCtorEq,HM,aFB,aFC,aeV,e1,hsh,e3]
 have hb:(2:Nat)*1≤16777216:=by decide
 simp only[go_sem,γ,aFD]
 refine aA (hlen [v%4294967296,v/4294967296] hL (by simp)) rfl ?_
 have hl:=eU hL
 rw[bII] at hl ⊢
 have hc:((nl v:Nat):Int)≤((2:Nat):Int):=by simp at hl; omega
 simp only[go_sem,ν,δ,γ,reduceCtorEq,hc,or_true,bKW]
 refine aM (.inr rfl) rfl ?_
 have:=jI hL
 rw[bII] at this
 rw[← this,aqA]
 rfl
theorem bgV {C:Ctx} (xs:List Nat) (hx:Lim xs) (hl:xs.length≤35184372087808) (hlen:aE C 138 [aF xs] .nil (aD (.int .i64 (nl (val xs):Nat)))) :
  HN.wp C (aT aeZ.res (bY (aF (aG (val xs))))) (PF.args [aF xs]) .nil:=by
 simp only[go_sem,reduceCtorEq,HN,aFV,aFW,aeZ]
 refine aA hlen rfl ?_
 have hn:=eU hx
 have hc:((nl (val xs):Nat):Int)≤(xs.length:Nat):=by omega
 simp only[go_sem,ν,γ,reduceCtorEq,hc,or_true,bKW]
 refine fZ (rows:=[]) (src:=aJ (aG (val xs))) .nil ?_ ?_ fun v H' ho _=>?_
 ·simp only[go_sem]
  rw[← jI hx,← List.map_take]
 ·unfold roomFor
  rw[bT]
  have:(aG (val xs)).length=nl (val xs):=rfl
  simp only[bMD,maxLen]
  omega
 ·exact a2N (.inr rfl) (by simpa using ho) rfl
end Go.PM
theorem Sq {p:Prop} (h:p:=by simp only[go_sem,γ,δ,ε,ζ,η,θ,ι,κ,μ,ν,ξ,ο,ρ,σ,τ,υ,reduceIte,reduceCtorEq]):p:=h
theorem Ev {p:Prop} (h:p:=by simp only[go_sem,γ,δ,ε,ζ,η,θ,ι,κ,μ,ν,ξ,ο,ρ,σ,τ,υ,reduceIte,reduceCtorEq]<;>rfl):p:=h
namespace Go.PM
open Go Go.Na
def a1O (xs ys:List Nat) (i:Int):PF:=(((PF.nil.set 0 (aF xs)).set 1 (aF ys)).set 7 (.int .i64 i))
theorem bnW {C:Ctx} (xs ys:List Nat) (hx:Lim xs) (hy:Lim ys) (lx:xs.length≤35184372087808) (ly:ys.length≤35184372087808) (hlx:aE C 138 [aF xs] .nil (aD (.int .i64 (nl (val xs):Nat)))) (hly:aE C 138 [aF ys] .nil (aD (.int .i64 (nl (val ys):Nat)))) :
  NK.wp C (aT aEP.res (aD (.int .i64 (dB (val xs) (val ys))))) (PF.args [aF xs,aF ys]) .nil:=by
 simp only[go_sem,reduceCtorEq,NK,aSM,aSN,aEP]
 refine aA hlx Ev ?_
 simp only[go_sem,γ]
 refine aA hly Ev ?_
 simp only[go_sem,γ,aSO]
 have bx:=eU hx
 have by':=eU hy
 by_cases c1:nl (val xs)<nl (val ys)
 ·have c1':((nl (val xs):Nat):Int)<(nl (val ys):Nat):=by omega
  simp only[go_sem,ο,c1',aSP]
  refine aM (.inr rfl) Ev ?_
  have:val xs<val ys:=by
   rcases bKM (val xs) (val ys) with h | h
   ·exact h
   ·have:=fA h; omega
  simp[aV,dB,this]
 have c1':¬ ((nl (val xs):Nat):Int)<(nl (val ys):Nat):=by omega
 simp only[go_sem,γ,c1',aSQ]
 by_cases c2:nl (val xs)>nl (val ys)
 ·have c2':((nl (val xs):Nat):Int)>(nl (val ys):Nat):=by omega
  simp only[go_sem,c2',aSR]
  refine aM (.inr rfl) Ev ?_
  have:val ys<val xs:=by
   rcases bKM (val ys) (val xs) with h | h
   ·exact h
   ·have:=fA h; omega
  have h2:¬ val xs<val ys:=by omega
  simp[aV,dB,this,h2]
 have c2':¬ ((nl (val xs):Nat):Int)>(nl (val ys):Nat):=by omega
 have hn:nl (val xs)=nl (val ys):=by omega
 simp only[go_sem,γ,c2',aSS]
 have ex:=aS (val xs)
 have ey:=aS (val ys)
 have LX:=aU (val xs)
 have LY:=aU (val ys)
 refine wp_loop (α:=Nat) (fun k=>a1O xs ys ((k:Int)-1)) (fun _=>.nil) (fun k=>k≤nl (val xs)∧(aG (val xs)).drop k=(aG (val ys)).drop k) (fun k=>k) (nl (val xs)) ⟨bJV _,?_⟩ ?_ PH.nil_le ?_
 ·rw[bNF (by rw[nl]; exact bJV _),bNF (by rw[hn,nl]; exact bJV _)]
 ·unfold a1O
  (repeat' (first|exact PF.nil_le|refine PF.aI ?_ ?_))<;>first|(simp only[go_sem,γ,reduceCtorEq,wrap_i64 (show -9223372036854775808≤((nl (val xs):Nat):Int)-1 by omega) (show ((nl (val xs):Nat):Int)-1≤9223372036854775807 by omega)]<;>rfl)|rfl
 rintro k ⟨hk,hd⟩
 simp only[go_sem,γ,reduceCtorEq,aEQ,aST,a1O]
 by_cases h0:0<k
 ·obtain⟨m,rfl⟩:∃ m,k=m+1:=⟨k-1,by omega⟩
  have hz:((m+1:Nat):Int)-1=(m:Int):=by omega
  have hge:(m:Int)≥0:=by omega
  obtain⟨x1,x2,x3⟩:=axO hx (Om:m<nl (val xs))
  obtain⟨y1,y2,y3⟩:=axO hy (Om:m<nl (val ys))
  simp only[go_sem,hz,hge]
  refine bR .nil eG PH.nil_le ?_
  simp only[go_sem,γ,reduceCtorEq,aSU,bK xs x1,bK ys y1]
  by_cases c3:xs[m]<ys[m]
  ·simp only[go_sem,ο,show ((xs[m]:Nat):Int)<(ys[m]:Nat) by omega,aSV]
   refine aM (.inr rfl) Ev ?_
   have:=aaN LX x2 y2 hd (by rw[← x3,← y3]; exact c3)
   rw[ex,ey] at this
   simp[aV,dB,this]
  ·simp only[go_sem,show ¬ ((xs[m]:Nat):Int)<(ys[m]:Nat) by omega]
   refine bR .nil eG PH.nil_le ?_
   simp only[go_sem,γ,reduceCtorEq,aER,bK xs x1,bK ys y1]
   by_cases c4:xs[m]>ys[m]
   ·simp only[go_sem,show ((xs[m]:Nat):Int)>(ys[m]:Nat) by omega,aES]
    refine aM (.inr rfl) Ev ?_
    have:=aaN LY y2 x2 hd.symm (by rw[← x3,← y3]; exact c4)
    rw[ex,ey] at this
    have h2:¬ val xs<val ys:=by omega
    simp[aV,dB,this,h2]
   ·simp only[go_sem,γ,reduceCtorEq,show ¬ ((xs[m]:Nat):Int)>(ys[m]:Nat) by omega,aET]
    refine aH m ⟨by omega,aoP x2 y2 hd (by rw[← x3,← y3]; omega)⟩ Om ?_ PH.nil_le
    (repeat' (first|exact PF.nil_le|refine PF.aI ?_ ?_))<;>first|(simp only[go_sem,γ,reduceCtorEq,wrap_i64 (Om:-9223372036854775808≤(m:Int)-1) (Om:(m:Int)-1≤9223372036854775807)]<;>rfl)|rfl
 ·have:k=0:=by omega
  subst this
  have hz:¬ ((0:Nat):Int)-1≥0:=by decide
  simp only[go_sem,hz,aEU]
  refine aM (.inr rfl) Ev ?_
  rw[bKW,bKW] at hd
  have:val xs=val ys:=by rw[← ex,← ey,hd]
  simp[aV,dB,this]
def aEE (k:Nat) (v:Nat):PF:=((PF.nil.set 4 (.int .i64 k)).set 5 (.int .u32 v))
theorem bgP {C:Ctx} (xs:List Nat) (hx:Lim xs) (lx:xs.length≤35184372087808) (hlx:aE C 138 [aF xs] .nil (aD (.int .i64 (nl (val xs):Nat)))) :
  HG.wp C (aT aeJ.res (aD (.int .i64 (cC (val xs):Nat)))) (PF.args [aF xs]) .nil:=by
 simp only[go_sem,reduceCtorEq,HG,aEG,aEH,aeJ]
 refine aA hlx Ev ?_
 simp only[go_sem,γ,aEI]
 have bx:=eU hx
 by_cases c1:nl (val xs)=0
 ·simp only[go_sem,bO (show ((nl (val xs):Nat):Int)=0 by omega),aEJ]
  refine aM (.inr rfl) Ev ?_
  have:val xs=0:=gJ.1 c1
  simp[aV,this,iV]
 obtain⟨n,hn⟩:∃ n,nl (val xs)=n+1:=⟨nl (val xs)-1,by omega⟩
 obtain⟨t,ht,ht0⟩:=aJB hx hn
 have htl:t<4294967296:=hx t (bMK ht)
 have hnl:n<xs.length:=by omega
 have hv:val xs=val (xs.take n)+4294967296 ^ n*t:=by
  have e:=jI hx
  have:=aS (val xs)
  have hg:xs[n]=t:=by rw[bKD hnl] at ht; exact bMN.inj ht
  rw[← e,hn,bLK hnl,hg,fF,bKL,bLY Om] at this
  simp only[val,Nat.mul_zero,bLL] at this
  exact this.symm
 have hb:cC (val xs)=32*n+cC t:=by
  have h3:=eN (hx.take n)
  rw[bKL,bLY Om] at h3
  rw[hv,show (4294967296:Nat) ^ n=2 ^ (32*n) by rw[Nat.pow_mul]] at *
  exact ayA h3 ht0
 have bIC:(aJ xs)[n]?=some [.int .u32 (t:Nat)]:=by
  rw[bK xs hnl]
  rw[bKD hnl] at ht
  rw[bMN.inj ht]
 have e1:IntKind.i64.wrap (((nl (val xs):Nat):Int)-1)=(n:Int):=by rw[wrap_i64 Om Om]; omega
 have e2:IntKind.i64.wrap ((n:Int)*32)=((32*n:Nat):Int):=by rw[wrap_i64 Om Om]; omega
 simp only[go_sem,γ,reduceCtorEq,bB (show ((nl (val xs):Nat):Int)≠0 by omega),aEK,aEL,e1,e2,bIC]
 refine wp_loop (α:=Nat × Nat) (fun a=>aEE a.1 a.2) (fun _=>.nil) (fun a=>a.1+cC a.2=32*n+cC t∧a.2<4294967296) (fun a=>a.2) (32*n,t) ⟨rfl,htl⟩ ?_ PH.nil_le ?_
 ·unfold aEE
  exact Lq
 rintro⟨k,v⟩ ⟨hk,hlt⟩
 simp only at hk hlt
 have hk32:cC t≤32:=(kG t 32).2 htl
 simp only[go_sem,γ,aEF,aEM,aEE]
 by_cases c2:(v:Int)>0
 ·have hv0:v≠0:=by omega
  have hsh:PV.bin .shr (.int .u32 (v:Int)) (.int .u64 1)=some (.int .u32 ((v/2:Nat):Int)):=by
   show shift .shr .u32 (v:Int) 1=_
   unfold shift
   rw[if_neg (by decide)]
   simp only
   have:min (Int.toNat 1) IntKind.u32.bits=1:=by decide
   rw[this,show (2:Int) ^ 1=2 by decide,Int.fdiv_eq_ediv_of_nonneg _ (by decide)]
   rfl
  have hsh':shift .shr .u32 (v:Int) 1=some (.int .u32 ((v/2:Nat):Int)):=hsh
  simp only[go_sem,γ,c2,aEN,aEO,hsh,hsh',wZz k]
  refine aH (k+1,v/2) ⟨?_,?_⟩ (Nat.div_lt_self Om (by decide)) ?_ PH.nil_le
  ·have:=mV hv0
   simp only; omega
  ·simp only; omega
  ·exact Lq
 ·have:v=0:=by omega
  subst this
  simp only[go_sem,γ,c2,aqB]
  refine aM (.inr rfl) Ev ?_
  rw[iV] at hk
  simp only[aV,PV.int.injEq,true_and]
  omega
structure oV (C:Ctx):Prop where
 length:∀ xs,Lim xs→xs.length≤35184372087808→aE C 138 [aF xs] .nil (aD (.int .i64 (nl (val xs):Nat)))
 large:∀ xs,Lim xs→xs.length≤35184372087808→aE C 137 [aF xs] .nil (aD (.bool (decide (nl (val xs)>512))))
 sized:∀ xs,Lim xs→xs.length≤35184372087808→aE C 141 [aF xs] .nil (aD (szV (val xs)))
 trim:∀ xs,Lim xs→xs.length≤35184372087808→aE C 135 [aF xs] .nil (aD (aF (aG (val xs))))
 make:∀ v:Nat,v<18446744073709551616→aE C 132 [.int .u64 v] .nil (aD (aF (aG v)))
 cmp:∀ xs ys,Lim xs→Lim ys→xs.length≤35184372087808→ys.length≤35184372087808→aE C 129 [aF xs,aF ys] .nil (aD (.int .i64 (dB (val xs) (val ys))))
def gW:PV→List Nat
 | .sl _ rows=>rows.map fun r=>match r with | [.int _ n]=>n.toNat | _=>0
 | _=>[]
theorem dX (xs:List Nat):gW (aF xs)=xs:=by
 simp[gW,List.map_map,Function.comp_def]
def a1N:Spec:=fun name vs=>match name,vs with
 | 138,[x]=>some ([],fun _=>aD (.int .i64 (nl (val (gW x)):Nat)))
 | _,_=>none
theorem mC (xs:List Nat):a1N 138 [aF xs]=some ([],fun _=>aD (.int .i64 (nl (val xs):Nat))):=by
 show some _=_; rw[dX]
theorem wD (P:List Nat) (k v:Nat):(P++bJW (k+1) 0).set P.length v=(P++[v])++bJW k 0:=by
 rw[bMZ _ _ (bJV _),bMI,List.replicate_succ,List.set_cons_zero,bKU]
 rfl
theorem eV (L:List Nat) (i v:Nat):(aJ L).set i [.int .u32 (v:Int)]=aJ (L.set i v):=by
 unfold aJ; rw[List.map_set]
theorem iH (P:List Nat) (v:Nat):val (P++[v])=val P+4294967296 ^ P.length*v:=by
 rw[fF]; simp[val]
theorem bW (xs:List Nat) {i:Nat} (h:i<xs.length):val (xs.take (i+1))=val (xs.take i)+4294967296 ^ i*xs[i]:=by
 rw[bLK h,iH,bKL,bLY Om]
theorem uW {v:Nat}:shift .shr .u64 (v:Int) 32=some (.int .u64 ((v/4294967296:Nat):Int)):=by
 unfold shift
 rw[if_neg (by decide)]
 simp only
 have:min (Int.toNat 32) IntKind.u64.bits=32:=by decide
 rw[this,show (2:Int) ^ 32=4294967296 by decide,Int.fdiv_eq_ediv_of_nonneg _ (by decide)]
 rfl
theorem eQ {a b:Nat} (h:a+b<18446744073709551616):IntKind.u64.wrap ((a:Int)+(b:Int))=((a+b:Nat):Int):=by
 rw[wrap_u64 Om Om]; omega
theorem bF {a:Nat} (h:a<18446744073709551616):IntKind.u64.wrap (a:Int)=(a:Int):=wrap_u64 Om Om
def aeI (a b:List Nat) (o i c:Nat):PF:=(((((((PF.nil.set 0 (aF a)).set 1 (aF b)).set 6 (.osl o 1 0 (a.length+1))).set 7 (.int .u64 c)).set 35 (.int .i64 (a.length:Nat))).set 34 (aF a)).set 36 (.int .i64 i))
theorem apZ {C:Ctx} (L:oV C) (a b:List Nat) (ha:Lim a) (hb:Lim b) (hl:b.length≤a.length) (h1:a.length≤1000) (F:PF) (f0:F 0=some (aF a)) (f1:F 1=some (aF b)) :
  aC.wp C (.seq (.region alV) (.seq (.region alW) (.seq (.seq (.region alX) (.block 0 (.loop XW))) (.seq (.region YB) (.seq (.region YC) .ret))))) (aT [.tmp 4,.tmp 5] (bY (szV (val a+val b)))) F .nil:=by
 have hlen:IntKind.i64.wrap ((a.length:Int)+1)=((a.length+1:Nat):Int):=dH Om
 have hm1:((a.length+1:Nat):Int)*((4:Nat):Int)≤140737488355328:=by omega
 have hm2:((a.length+1:Nat):Int)≤9223372036854775807:=by omega
 have hz:bJW (a.length+1) [PV.int .u32 0]=aJ ([]++bJW (a.length+1) 0):=by
  simp[aJ]
 simp only[go_sem,γ,alV,f0,hlen,hm1,hm2,hz]
 refine aR fun o ho=>?_
 simp only[go_sem,γ,reduceCtorEq,alW,alX,f0]
 refine wp_loop (α:=List Nat × Nat × Nat) (fun s=>aeI a b s.2.2 s.1.length s.2.1) (fun s=>PH.nil.set s.2.2 (.rows 1 (aJ (s.1++bJW (a.length+1-s.1.length) 0))))
  (fun s=>s.1.length≤a.length∧Lim s.1∧s.2.1≤1∧val s.1+4294967296 ^ s.1.length*s.2.1=val (a.take s.1.length)+val (b.take s.1.length)) (fun s=>a.length-s.1.length) ([],0,o) ⟨by simp,by simp[Lim],by simp,by simp[val]⟩ ?_ ?_ ?_
 ·unfold aeI
  exact Lq
 ·exact PH.aI PH.nil_le (by simp only[go_sem,bMD])
 rintro⟨P,c,q⟩ ⟨hP,bIM,hc,bII⟩
 simp only at hP bIM hc bII
 simp only[go_sem,γ,reduceCtorEq,XW,aSL,aeI]
 by_cases c1:P.length<a.length
 ·have c1':(P.length:Int)<(a.length:Nat):=by omega
  have hai:=ha _ (bJX c1)
  obtain⟨k,hk⟩:∃ k,a.length+1-P.length=k+1:=⟨a.length-P.length,by omega⟩
  have hin:(aJ (P++bJW (k+1) 0))[P.length]?=some [.int .u32 ((0:Nat):Int)]:=by
   rw[bK _ (by simp)]; simp
  have hlast:a.length+1-(P.length+1)=k:=by omega
  have c2':(P.length:Int)<((a.length+1:Nat):Int):=by omega
  have fin:∀ (t:Nat) (F':PF) (H':PH),t<2*4294967296→val P+4294967296 ^ P.length*t=val (a.take (P.length+1))+val (b.take (P.length+1)) →
    F' 0=some (aF a)→F' 1=some (aF b)→F' 6=some (.osl q 1 0 (a.length+1))→F' 7=some (.int .u64 (t:Nat))→F' 8=some (.int .i64 P.length)→F' 34=some (aF a)→F' 35=some (.int .i64 (a.length:Nat))→F' 36=some (.int .i64 P.length) →
    H' q=some (.rows 1 (aJ (P++bJW (k+1) 0)))→∀ K:cN,(∀ P' c' F2 H2,P'.length=P.length+1→Lim P'→c'≤1→val P'+4294967296 ^ P'.length*c'=val (a.take (P.length+1))+val (b.take (P.length+1))→(aeI a b q P'.length c').le F2→H2 q=some (.rows 1 (aJ (P'++bJW k 0)))→K .normal F2 H2) →
    aC.wp C (.seq (.region XY) (.region XZ)) (dW 1 (iD C (aC.wp C (.region YA)) K)) F' H':=by
   intro t F' H' ht hv g0 g1 g6 g7 g8 g34 g35 g36 gH K hK
   have bIC:(aJ (P++bJW (k+1) 0)).set P.length [.int .u32 ((t%4294967296:Nat):Int)]=aJ ((P++[t%4294967296])++bJW k 0):=by
    rw[eV,wD]
   simp only[go_sem,γ,XY,g6,g8,g7,cA,c2',gH,hin,bIC,XZ,uW,YA,g36,dH (Om:P.length<9223372036854775807)]
   refine hK (P++[t%4294967296]) (t/4294967296) _ _ (by simp) (bIM.app fun x hx=>by simp at hx; subst hx; exact bLJ _ (by decide)) Om ?_ ?_ Sq
   ·rw[iH,bKA,bKH,bLN,bKP,bMG,← bKG,Nat.mod_add_div]
    exact hv
   ·unfold aeI
    rw[bKA,bKH]
    refine PF.aI (PF.aI (PF.aI (PF.aI (PF.aI (PF.aI (PF.aI PF.nil_le ?_) ?_) ?_) ?_) ?_) ?_) ?_<;>simp only[go_sem,γ,reduceCtorEq,g0,g1,g6,g34,g35]
  have hta:=bW a c1
  have ea:IntKind.u64.wrap ((a[P.length]:Nat):Int)=((a[P.length]:Nat):Int):=bF Om
  have es:IntKind.u64.wrap ((c:Nat)+((a[P.length]:Nat):Int))=((c+a[P.length]:Nat):Int):=eQ Om
  simp only[go_sem,γ,reduceCtorEq,c1',aEA,aEB,bK a c1,ea,es,aEC]
  by_cases c3:P.length<b.length
  ·have c3':(P.length:Int)<(b.length:Nat):=by omega
   have hbi:=hb _ (bJX c3)
   have htb:=bW b c3
   have eb:IntKind.u64.wrap ((b[P.length]:Nat):Int)=((b[P.length]:Nat):Int):=bF Om
   have es2:IntKind.u64.wrap (((c+a[P.length]:Nat):Int)+((b[P.length]:Nat):Int))=((c+a[P.length]+b[P.length]:Nat):Int):=eQ Om
   simp only[go_sem,γ,reduceCtorEq,c3',aED,bK b c3,eb,es2]
   refine fin (c+a[P.length]+b[P.length]) _ _ Om ?_ ?_ ?_ ?_ ?_ ?_ ?_ ?_ ?_ ?_ _ ?_
   ·rw[hta,htb,bKG,bKG]; omega
   any_goals simp only[go_sem,γ,reduceCtorEq,hk]
   intro P' c' F2 H2 e1 e2 e3 e4 e5 e6
   rw[← e1] at e4
   refine aH (P',c',q) ⟨by simp only; omega,e2,e3,e4⟩ (by simp only; omega) e5 (PH.aI PH.nil_le ?_)
   simp only
   rw[e1,hlast]; exact e6
  ·have c3':¬ (P.length:Int)<(b.length:Nat):=by omega
   have htb:val (b.take (P.length+1))=val (b.take P.length):=by rw[bKK Om,bKK Om]
   simp only[go_sem,c3']
   refine fin (c+a[P.length]) _ _ Om ?_ ?_ ?_ ?_ ?_ ?_ ?_ ?_ ?_ ?_ _ ?_
   ·rw[hta,htb,bKG]; omega
   any_goals simp only[go_sem,γ,reduceCtorEq,hk]
   intro P' c' F2 H2 e1 e2 e3 e4 e5 e6
   rw[← e1] at e4
   refine aH (P',c',q) ⟨by simp only; omega,e2,e3,e4⟩ (by simp only; omega) e5 (PH.aI PH.nil_le ?_)
   simp only
   rw[e1,hlast]; exact e6
 ·have e:P.length=a.length:=by omega
  have c1':¬ (P.length:Int)<(a.length:Nat):=by omega
  have hk:bJW (a.length+1-P.length) 0=[0]:=by rw[show a.length+1-P.length=1 by omega]; rfl
  have hin:(aJ (P++[0]))[a.length]?=some [.int .u32 ((0:Nat):Int)]:=by
   rw[bK _ (by simp; omega)]
   simp[e]
  have bIC:(aJ (P++[0])).set a.length [.int .u32 ((c%4294967296:Nat):Int)]=aJ (P++[c]):=by
   have:=wD P 0 (c%4294967296)
   simp only[List.replicate_zero,bLM,bKN,List.replicate_one] at this
   rw[← e,eV,this,bLE Om]
  have c2':(a.length:Int)<((a.length+1:Nat):Int):=by omega
  have hV:val (P++[c])=val a+val b:=by
   rw[iH,bII,e,bKS,bKK hl]
  have hLc:Lim (P++[c]):=bIM.app fun x hx=>by simp at hx; omega
  simp only[go_sem,γ,reduceCtorEq,c1',YB,cA,hk,hin,c2',bIC,YC]
  have hs:=L.sized _ hLc (by simp; omega)
  rw[hV] at hs
  refine oC (o:=q) (s:=1) (k:=a.length+1) (rs:=aJ (P++[c])) (v:=szV (val a+val b)) ?_ rfl Sq (by rw[bT]; simp; omega) ?_
  ·rw[bKK (by rw[bT]; simp; omega)]; exact hs
  ·simp only[go_sem,γ,reduceCtorEq,szV]
   exact aX (.inr rfl) .nil rfl PH.nil_le ⟨.refl _,rfl⟩
def opV (big:Bool) (n:Nat):PV:=if big then .tup [aF [],.int .i64 2] else szV n
def dR (a b:Nat):Bool:=decide (nl a>512)||decide (nl b>512)
theorem eF {res:List dQ} {F:PF} {H:PH} {e:Int} (h:dQ.evs F H res=some [.aB,.int .i64 e]):aT res (bY (.tup [aF [],.int .i64 e])) .ret F H:=by
 refine aX (.inr rfl) .nil h PH.nil_le ⟨?_,rfl⟩
 refine .tup rfl fun j p q hp hq=>?_
 match j with
 | 0=>simp at hp hq; subst hp; subst hq; exact .nil 1
 | 1=>simp at hp hq; subst hp; subst hq; exact .refl _
 | j+2=>simp at hp
theorem aZ (n:Nat):(aG n).length=nl n:=rfl
theorem gY {xs:List Nat} (h:Lim xs):(xs.map fun (n:Nat)=>[PV.int .u32 (n:Int)]).take (nl (val xs))=(aG (val xs)).map fun (n:Nat)=>[PV.int .u32 (n:Int)]:=by
 rw[← List.map_take,jI h]
theorem bnT {C:Ctx} (L:oV C) (a b:List Nat) (ha:Lim a) (hb:Lim b) (la:a.length≤35184372087808) (lb:b.length≤35184372087808) :
  NJ.wp C (aT aDZ.res (bY (opV (dR (val a) (val b)) (val a+val b)))) (PF.args [aF a,aF b]) .nil:=by
 simp only[go_sem,reduceCtorEq,NJ,aSG,aSH,aDZ]
 refine aA (L.large a ha la) rfl ?_
 by_cases c1:nl (val a)>512
 ·simp only[go_sem,γ,c1,alU]
  rw[show opV (dR (val a) (val b)) (val a+val b)=.tup [aF [],.int .i64 2] by simp[opV,dR,c1]]
  exact eF rfl
 simp only[go_sem,γ,c1]
 refine aA (L.large b hb lb) rfl ?_
 by_cases c2:nl (val b)>512
 ·simp only[go_sem,γ,reduceCtorEq,c2,alU]
  rw[show opV (dR (val a) (val b)) (val a+val b)=.tup [aF [],.int .i64 2] by simp[opV,dR,c2]]
  exact eF rfl
 have e:opV (dR (val a) (val b)) (val a+val b)=szV (val a+val b):=by simp[opV,dR,c1,c2]
 rw[e]
 simp only[go_sem,γ,reduceCtorEq,c2]
 refine bR .nil a1N PH.nil_le ?_
 simp only[go_sem,reduceCtorEq,aSI]
 have h1:=eU ha
 have h2:=eU hb
 have h1':((nl (val a):Nat):Int)≤(a.length:Nat):=by omega
 have h2':((nl (val b):Nat):Int)≤(b.length:Nat):=by omega
 refine bJ (mC a) (L.length a ha la) rfl PH.nil_le ?_
 simp only[go_sem,ν,γ,reduceCtorEq,h1',or_true,bKW,gY ha]
 refine bJ (mC b) (L.length b hb lb) rfl PH.nil_le ?_
 simp only[go_sem,ν,γ,reduceCtorEq,h2',or_true,bKW,gY hb,aSJ,aZ]
 have va:=aS (val a)
 have vb:=aS (val b)
 by_cases c3:nl (val a)<nl (val b)
 ·have c3':((nl (val a):Nat):Int)<(nl (val b):Nat):=by omega
  simp only[go_sem,γ,reduceCtorEq,c3',aSK]
  have:=apZ L (aG (val b)) (aG (val a)) (aU _) (aU _) (by rw[aZ,aZ]; omega) (by rw[aZ]; omega)
  rw[va,vb,Nat.add_comm] at this
  exact this _ rfl rfl
 ·have c3':¬ ((nl (val a):Nat):Int)<(nl (val b):Nat):=by omega
  simp only[go_sem,c3']
  have:=apZ L (aG (val a)) (aG (val b)) (aU _) (aU _) (by rw[aZ,aZ]; omega) (by rw[aZ]; omega)
  rw[va,vb] at this
  exact this _ rfl rfl
theorem fB (n:Int):IntKind.u64.wrap n=n%18446744073709551616:=by simp[IntKind.wrap,IntKind.bits,IntKind.signed]
theorem WB (n:Int):IntKind.u32.wrap n=n%4294967296:=by simp[IntKind.wrap,IntKind.bits,IntKind.signed]
theorem a2X {v:Int}:shift .shr .u64 v 63=some (.int .u64 (v/9223372036854775808)):=by
 unfold shift
 rw[if_neg (by decide)]
 simp only
 have:min (Int.toNat 63) IntKind.u64.bits=63:=by decide
 rw[this,show (2:Int) ^ 63=9223372036854775808 by decide,Int.fdiv_eq_ediv_of_nonneg _ (by decide)]
def PQ (a bor b:Nat):Nat:=(a+4294967296-bor-b)%4294967296
def YZ (a bor b:Nat):Nat:=if a<bor+b then 1 else 0
theorem aIR {a bor b:Nat} (ha:a<4294967296) (hb:b<4294967296) (hc:bor≤1) (v:Int) (hv:v=((a:Int)-bor-b)%18446744073709551616) :
  IntKind.u32.wrap v=((PQ a bor b:Nat):Int)∧v/9223372036854775808=((YZ a bor b:Nat):Int)∧a+4294967296*YZ a bor b=PQ a bor b+b+bor∧PQ a bor b<4294967296:=by
 rw[WB]
 unfold PQ YZ
 split<;>omega
def aeY (a b:List Nat) (o i c:Nat):PF:=(((((((PF.nil.set 0 (aF a)).set 1 (aF b)).set 6 (.osl o 1 0 a.length)).set 7 (.int .u64 c)).set 33 (aF a)).set 34 (.int .i64 (a.length:Nat))).set 35 (.int .i64 i))
theorem a8H {C:Ctx} (L:oV C) (a b:List Nat) (ha:Lim a) (hb:Lim b) (hle:val b≤val a) (hl:b.length≤a.length) (h1:a.length≤1000) (F:PF) (f0:F 0=some (aF a)) (f1:F 1=some (aF b)) :
  aC.wp C (.seq (.region amJ) (.seq (.region amK) (.seq (.seq (.region amL) (.block 1 (.loop YJ))) (.seq (.region YN) .ret)))) (aT [.tmp 4,.tmp 5] (bY (szV (val a-val b)))) F .nil:=by
 have hm1:((a.length:Nat):Int)*((4:Nat):Int)≤140737488355328:=by omega
 have hm2:((a.length:Nat):Int)≤9223372036854775807:=by omega
 have hz:bJW a.length [PV.int .u32 0]=aJ ([]++bJW a.length 0):=by
  simp[aJ]
 simp only[go_sem,γ,amJ,f0,hm1,hm2,hz]
 refine aR fun o ho=>?_
 simp only[go_sem,γ,reduceCtorEq,amK,amL,f0]
 refine wp_loop (α:=List Nat × Nat × Nat) (fun s=>aeY a b s.2.2 s.1.length s.2.1) (fun s=>PH.nil.set s.2.2 (.rows 1 (aJ (s.1++bJW (a.length-s.1.length) 0))))
  (fun s=>s.1.length≤a.length∧Lim s.1∧s.2.1≤1∧val (a.take s.1.length)+4294967296 ^ s.1.length*s.2.1=val s.1+val (b.take s.1.length)) (fun s=>a.length-s.1.length) ([],0,o) ⟨by simp,by simp[Lim],by simp,by simp[val]⟩ ?_ ?_ ?_
 ·unfold aeY
  exact Lq
 ·exact PH.aI PH.nil_le (by simp only[go_sem,bMD])
 rintro⟨P,c,q⟩ ⟨hP,bIM,hc,bII⟩
 simp only at hP bIM hc bII
 simp only[go_sem,γ,reduceCtorEq,YJ,aTU,aeY]
 by_cases c1:P.length<a.length
 ·have c1':(P.length:Int)<(a.length:Nat):=by omega
  have hai:=ha _ (bJX c1)
  obtain⟨k,hk⟩:∃ k,a.length-P.length=k+1:=⟨a.length-P.length-1,by omega⟩
  have hin:(aJ (P++bJW (k+1) 0))[P.length]?=some [.int .u32 ((0:Nat):Int)]:=by
   rw[bK _ (by simp)]; simp
  have hlast:a.length-(P.length+1)=k:=by omega
  have hta:=bW a c1
  have fin:∀ (t:Nat) (v:Int) (F':PF) (H':PH),t<4294967296→v=((a[P.length]:Int)-c-t)%18446744073709551616→val (b.take (P.length+1))=val (b.take P.length)+4294967296 ^ P.length*t →
    F' 0=some (aF a)→F' 1=some (aF b)→F' 6=some (.osl q 1 0 a.length)→F' 9=some (.int .u64 v)→F' 8=some (.int .i64 P.length)→F' 33=some (aF a)→F' 34=some (.int .i64 (a.length:Nat))→F' 35=some (.int .i64 P.length) →
    H' q=some (.rows 1 (aJ (P++bJW (k+1) 0)))→∀ K:cN,(∀ P' c' F2 H2,P'.length=P.length+1→Lim P'→c'≤1→val (a.take (P.length+1))+4294967296 ^ P'.length*c'=val P'+val (b.take (P.length+1))→(aeY a b q P'.length c').le F2→H2 q=some (.rows 1 (aJ (P'++bJW k 0)))→K .normal F2 H2) →
    aC.wp C (.seq (.region YK) (.region YL)) (dW 2 (iD C (aC.wp C (.region YM)) K)) F' H':=by
   intro t v F' H' ht hv htb g0 g1 g6 g9 g8 g33 g34 g35 gH K hK
   obtain⟨e1,e2,e3,e4⟩:=aIR hai ht hc v hv
   have bIC:(aJ (P++bJW (k+1) 0)).set P.length [.int .u32 ((PQ a[P.length] c t:Nat):Int)]=aJ ((P++[PQ a[P.length] c t])++bJW k 0):=by
    rw[eV,wD]
   simp only[go_sem,γ,YK,g6,g8,g9,e1,c1',gH,hin,bIC,YL,a2X,e2,YM,g35,dH (Om:P.length<9223372036854775807)]
   refine hK (P++[PQ a[P.length] c t]) (YZ a[P.length] c t) _ _ (by simp) (bIM.app fun x hx=>by simp at hx; subst hx; exact e4) (by unfold YZ; split<;>omega) ?_ ?_ Sq
   ·rw[iH,bKA,bKH,bLN,bKP,hta,htb,bMG,← bKG,e3,bKG,bKG]
    omega
   ·unfold aeY
    rw[bKA,bKH]
    refine PF.aI (PF.aI (PF.aI (PF.aI (PF.aI (PF.aI (PF.aI PF.nil_le ?_) ?_) ?_) ?_) ?_) ?_) ?_<;>simp only[go_sem,γ,reduceCtorEq,g0,g1,g6,g33,g34]
  have ea:IntKind.u64.wrap ((a[P.length]:Nat):Int)=((a[P.length]:Nat):Int):=bF Om
  simp only[go_sem,γ,reduceCtorEq,c1',aFO,aFP,bK a c1,ea,aFQ]
  by_cases c3:P.length<b.length
  ·have c3':(P.length:Int)<(b.length:Nat):=by omega
   have hbi:=hb _ (bJX c3)
   have htb:=bW b c3
   have eb:IntKind.u64.wrap ((b[P.length]:Nat):Int)=((b[P.length]:Nat):Int):=bF Om
   simp only[go_sem,γ,reduceCtorEq,c3',aFR,bK b c3,eb]
   refine fin b[P.length] (IntKind.u64.wrap (IntKind.u64.wrap ((a[P.length]:Int)-(c:Int))-(b[P.length]:Int))) _ _ hbi (by rw[fB,fB]; omega) htb ?_ ?_ ?_ ?_ ?_ ?_ ?_ ?_ ?_ _ ?_
   any_goals simp only[go_sem,γ,reduceCtorEq,hk]
   intro P' c' F2 H2 e1 e2 e3 e4 e5 e6
   rw[← e1] at e4
   refine aH (P',c',q) ⟨by simp only; omega,e2,e3,e4⟩ (by simp only; omega) e5 (PH.aI PH.nil_le ?_)
   simp only
   rw[e1,hlast]; exact e6
  ·have c3':¬ (P.length:Int)<(b.length:Nat):=by omega
   have htb:val (b.take (P.length+1))=val (b.take P.length)+4294967296 ^ P.length*0:=by rw[bKK Om,bKK Om]; simp
   simp only[go_sem,c3']
   refine fin 0 (IntKind.u64.wrap ((a[P.length]:Int)-(c:Int))) _ _ (by decide) (by rw[fB]; omega) htb ?_ ?_ ?_ ?_ ?_ ?_ ?_ ?_ ?_ _ ?_
   any_goals simp only[go_sem,γ,reduceCtorEq,hk]
   intro P' c' F2 H2 e1 e2 e3 e4 e5 e6
   rw[← e1] at e4
   refine aH (P',c',q) ⟨by simp only; omega,e2,e3,e4⟩ (by simp only; omega) e5 (PH.aI PH.nil_le ?_)
   simp only
   rw[e1,hlast]; exact e6
 ·have e:P.length=a.length:=by omega
  have c1':¬ (P.length:Int)<(a.length:Nat):=by omega
  have hk:bJW (a.length-P.length) 0=[]:=by rw[show a.length-P.length=0 by omega]; rfl
  have hV:val P=val a-val b:=by
   rw[e,bKS,bKK hl] at bII
   have hlt:=eN bIM
   rw[e] at hlt
   rcases bMT c with h | h
   ·subst h; omega
   ·have:c=1:=by omega
    subst this; omega
  simp only[go_sem,γ,reduceCtorEq,c1',hk,bLM,YN]
  have hs:=L.sized _ bIM Om
  rw[hV] at hs
  refine oC (o:=q) (s:=1) (k:=a.length) (rs:=aJ P) (v:=szV (val a-val b)) ?_ rfl Sq (by rw[bT]; omega) ?_
  ·rw[bKK (by rw[bT]; omega)]; exact hs
  ·simp only[go_sem,γ,reduceCtorEq,szV]
   exact aX (.inr rfl) .nil rfl PH.nil_le ⟨.refl _,rfl⟩
def pH (a b:Nat):PV:=if dR a b then .tup [aF [],.int .i64 2] else if a<b then .tup [aF [],.int .i64 4] else szV (a-b)
theorem boE {C:Ctx} (L:oV C) (a b:List Nat) (ha:Lim a) (hb:Lim b) (la:a.length≤35184372087808) (lb:b.length≤35184372087808) :
  NX.wp C (aT aFN.res (bY (pH (val a) (val b)))) (PF.args [aF a,aF b]) .nil:=by
 simp only[go_sem,reduceCtorEq,NX,aTP,aTQ,aFN]
 refine aA (L.large a ha la) rfl ?_
 by_cases c1:nl (val a)>512
 ·simp only[go_sem,γ,c1,amI]
  rw[show pH (val a) (val b)=.tup [aF [],.int .i64 2] by simp[pH,dR,c1]]
  exact eF rfl
 simp only[go_sem,γ,c1]
 refine aA (L.large b hb lb) rfl ?_
 by_cases c2:nl (val b)>512
 ·simp only[go_sem,γ,reduceCtorEq,c2,amI]
  rw[show pH (val a) (val b)=.tup [aF [],.int .i64 2] by simp[pH,dR,c2]]
  exact eF rfl
 simp only[go_sem,γ,reduceCtorEq,c2,aTR]
 refine aA (L.cmp a b ha hb la lb) rfl ?_
 by_cases c3:val a<val b
 ·have hc:dB (val a) (val b)<0:=by simp[dB,c3]
  simp only[go_sem,γ,hc,aTS]
  rw[show pH (val a) (val b)=.tup [aF [],.int .i64 4] by simp[pH,dR,c1,c2,c3]]
  exact eF rfl
 have hc:¬ dB (val a) (val b)<0:=by
  unfold dB
  rw[if_neg c3]
  split<;>decide
 rw[show pH (val a) (val b)=szV (val a-val b) by simp[pH,dR,c1,c2,c3]]
 simp only[go_sem,γ,hc]
 refine bR .nil a1N PH.nil_le ?_
 simp only[go_sem,reduceCtorEq,aTT]
 have h1:=eU ha
 have h2:=eU hb
 have h1':((nl (val a):Nat):Int)≤(a.length:Nat):=by omega
 have h2':((nl (val b):Nat):Int)≤(b.length:Nat):=by omega
 refine bJ (mC a) (L.length a ha la) rfl PH.nil_le ?_
 simp only[go_sem,ν,γ,reduceCtorEq,h1',or_true,bKW,gY ha]
 refine bJ (mC b) (L.length b hb lb) rfl PH.nil_le ?_
 simp only[go_sem,ν,γ,reduceCtorEq,h2',or_true,bKW,gY hb]
 have va:=aS (val a)
 have vb:=aS (val b)
 have hm:=fA (Om:val b≤val a)
 have:=a8H L (aG (val a)) (aG (val b)) (aU _) (aU _) Om (by rw[aZ,aZ]; omega) (by rw[aZ]; omega)
 rw[va,vb] at this
 exact this _ rfl rfl
end Go.PM
namespace Go.Na
def dN:Nat→Nat→List Nat
 | 0,_=>[]
 | k+1,n=>(n%4294967296)::dN k (n/4294967296)
theorem jV:∀ k n,(dN k n).length=k
 | 0,_=>rfl
 | k+1,n=>by simp[dN,jV k]
theorem FL {xs:List Nat} (h:Lim xs):dN xs.length (val xs)=xs:=by
 induction xs with
 | nil=>rfl
 | cons x xs ih =>
  have hx:=h x (by simp)
  have e1:(x+4294967296*val xs)%4294967296=x:=by omega
  have e2:(x+4294967296*val xs)/4294967296=val xs:=by omega
  simp only[bLU,dN,val]
  rw[e1,e2,ih fun y hy=>h y (by simp[hy])]
theorem kT:∀ k n,Lim (dN k n)
 | 0,_=>fun x hx=>by cases hx
 | k+1,n=>fun x hx=>by
  simp only[dN,bKJ] at hx
  rcases hx with rfl | hx
  ·exact bLJ _ (by decide)
  ·exact kT k _ x hx
theorem xR:∀ k n,val (dN k n)=n%4294967296 ^ k
 | 0,n=>by simp[dN,val,Nat.mod_one]
 | k+1,n=>by
  simp only[dN,val,xR k]
  rw[bLN,bKT (4294967296 ^ k) 4294967296,Nat.mod_mul]
theorem mE {k n:Nat} (h:n<4294967296 ^ k):val (dN k n)=n:=by rw[xR,bLE h]
end Go.Na
namespace Go.PM
open Go Go.Na
theorem buS {a b:Nat} (ha:a<18446744073709551616) (hb:b<18446744073709551616):(BitVec.ofInt 64 (a:Int) ||| BitVec.ofInt 64 (b:Int)).toNat=a ||| b:=by
 rw[BitVec.ofInt_natCast,BitVec.ofInt_natCast,BitVec.toNat_or,BitVec.toNat_ofNat,BitVec.toNat_ofNat,bLE (by simpa using ha),bLE (by simpa using hb)]
theorem aGB {c x s:Nat} (hc:c<2 ^ s) (h:c+2 ^ s*x<18446744073709551616):c ||| (2 ^ s*x)=c+2 ^ s*x:=by
 rw[Nat.or_comm,← Nat.two_pow_add_eq_or_of_lt hc,Nat.add_comm]
theorem orI {a b n:Nat} (ha:a<18446744073709551616) (hb:b<18446744073709551616) (h:a ||| b=n) (hn:n<18446744073709551616):jT .or .u64 (a:Int) (b:Int)=some (.int .u64 (n:Int)):=by
 show some (PV.int .u64 (IntKind.u64.wrap (((BitVec.ofInt 64 (a:Int) ||| BitVec.ofInt 64 (b:Int)).toNat:Nat):Int)))=_
 rw[buS ha hb,h,bF hn]
theorem ID {x s:Nat} (hs:s≤64) (h:x*2 ^ s<18446744073709551616):shift .shl .u64 (x:Int) (s:Int)=some (.int .u64 ((2 ^ s*x:Nat):Int)):=by
 unfold shift
 rw[if_neg Om]
 simp only
 have:min (Int.toNat (s:Int)) IntKind.u64.bits=s:=by
  rw[show IntKind.u64.bits=64 from rfl]; omega
 rw[this,show (x:Int)*2 ^ s=((x*2 ^ s:Nat):Int) by simp,bF h,bKT]
def bgX (a:List Nat) (s o i c:Nat):PF:=(((((((PF.nil.set 0 (aF a)).set 1 (.int .u64 s)).set 5 (.osl o 1 0 (a.length+1))).set 6 (.int .u64 c)).set 13 (aF a)).set 14 (.int .i64 (a.length:Nat))).set 15 (.int .i64 i))
def upR (a:List Nat) (s:Nat) (r:PV) (H:PH):Prop:=∃ o,r=.osl o 1 0 (a.length+1)∧H=PH.nil.set o (.rows 1 (aJ (dN (a.length+1) (val a*2 ^ s))))
theorem bsC {C:Ctx} (a:List Nat) (s:Nat) (ha:Lim a) (hs:s<32) (h1:a.length≤1000):YO.wp C (aT nup.res (upR a s)) (PF.args [aF a,.int .u64 s]) .nil:=by
 have hlen:IntKind.i64.wrap ((a.length:Int)+1)=((a.length+1:Nat):Int):=dH Om
 have hm1:((a.length+1:Nat):Int)*((4:Nat):Int)≤140737488355328:=by omega
 have hm2:((a.length+1:Nat):Int)≤9223372036854775807:=by omega
 have hz:bJW (a.length+1) [PV.int .u32 0]=aJ ([]++bJW (a.length+1) 0):=by
  simp[aJ]
 have h2s:2 ^ s≤2147483648:=Nat.pow_le_pow_right (show 0<2 by decide) (Om:s≤31)
 have h2s0:0<2 ^ s:=bMM (by decide)
 simp only[go_sem,γ,reduceCtorEq,YO,a8I,a8J,nup,hlen,hm1,hm2,hz]
 refine aR fun o ho=>?_
 simp only[go_sem,γ,reduceCtorEq,a8K,a8L]
 refine wp_loop (α:=List Nat × Nat × Nat) (fun t=>bgX a s t.2.2 t.1.length t.2.1) (fun t=>PH.nil.set t.2.2 (.rows 1 (aJ (t.1++bJW (a.length+1-t.1.length) 0))))
  (fun t=>t.1.length≤a.length∧Lim t.1∧t.2.1<2 ^ s∧val t.1+4294967296 ^ t.1.length*t.2.1=val (a.take t.1.length)*2 ^ s) (fun t=>a.length-t.1.length) ([],0,o) ⟨by simp,by simp[Lim],h2s0,by simp[val]⟩ ?_ ?_ ?_
 ·unfold bgX
  exact Lq
 ·exact PH.aI PH.nil_le (by simp only[go_sem,bMD])
 rintro⟨P,c,q⟩ ⟨hP,bIM,hc,bII⟩
 simp only at hP bIM hc bII
 simp only[go_sem,γ,reduceCtorEq,aTV,a8M,bgX]
 by_cases c1:P.length<a.length
 ·have c1':(P.length:Int)<(a.length:Nat):=by omega
  have hai:=ha _ (bJX c1)
  obtain⟨k,hk⟩:∃ k,a.length+1-P.length=k+1:=⟨a.length-P.length,by omega⟩
  have hin:(aJ (P++bJW (k+1) 0))[P.length]?=some [.int .u32 ((0:Nat):Int)]:=by
   rw[bK _ (by simp)]; simp
  have hlast:a.length+1-(P.length+1)=k:=by omega
  have c2':(P.length:Int)<((a.length+1:Nat):Int):=by omega
  have hta:=bW a c1
  generalize hx:a[P.length]=x at *
  have hxs:x*2 ^ s≤4294967295*2147483648:=Nat.mul_le_mul Om h2s
  have ex:IntKind.u64.wrap ((x:Nat):Int)=((x:Nat):Int):=bF Om
  have hxs':2 ^ s*x=x*2 ^ s:=bKT _ _
  have esh:shift .shl .u64 (x:Int) (s:Int)=some (.int .u64 ((2 ^ s*x:Nat):Int)):=ID Om Om
  have eor:=orI (a:=c) (b:=2 ^ s*x) (n:=c+2 ^ s*x) Om Om (aGB hc Om) Om
  have hdig:(c+2 ^ s*x)/4294967296<2 ^ s:=by
   rw[bMP (by decide)]
   have:2 ^ s*(x+1)≤2 ^ s*4294967296:=bLZ _ Om
   rw[bKG,Nat.mul_one] at this
   omega
  have bIC:(aJ (P++bJW (k+1) 0)).set P.length [.int .u32 (((c+2 ^ s*x)%4294967296:Nat):Int)]=aJ ((P++[(c+2 ^ s*x)%4294967296])++bJW k 0):=by
   rw[eV,wD]
  have hax:(aJ a)[P.length]?=some [.int .u32 ((x:Nat):Int)]:=by rw[bK a c1,hx]
  simp only[go_sem,γ,reduceCtorEq,c1',a8N,a8O,hax,ex,esh,eor,a8P,cA,hk,c2',hin,bIC,a8Q,uW,a8R,dH (Om:P.length<9223372036854775807)]
  refine aH (P++[(c+2 ^ s*x)%4294967296],(c+2 ^ s*x)/4294967296,q) ⟨by simp; omega,bIM.app fun y hy=>by simp at hy; subst hy; exact bLJ _ (by decide),hdig,?_⟩ (by simp; omega) ?_ (PH.aI PH.nil_le ?_)
  ·simp only
   rw[iH,bKA,bKH,bLN,bKP,bMG,← bKG,Nat.mod_add_div,hta,bKG,bKY,← bMG,bII,hxs',bKP]
  ·simp only
   rw[bKA,bKH]
   exact Lq
  ·simp only
   rw[bKA,bKH,hlast]
   simp only[go_sem]
 ·have e:P.length=a.length:=by omega
  have c1':¬ (P.length:Int)<(a.length:Nat):=by omega
  have hk:bJW (a.length+1-P.length) 0=[0]:=by rw[show a.length+1-P.length=1 by omega]; rfl
  have hin:(aJ (P++[0]))[a.length]?=some [.int .u32 ((0:Nat):Int)]:=by
   rw[bK _ (by simp; omega)]
   simp[e]
  have bIC:(aJ (P++[0])).set a.length [.int .u32 ((c%4294967296:Nat):Int)]=aJ (P++[c]):=by
   have:=wD P 0 (c%4294967296)
   simp only[List.replicate_zero,bLM,bKN,List.replicate_one] at this
   rw[← e,eV,this,bLE Om]
  have c2':(a.length:Int)<((a.length+1:Nat):Int):=by omega
  have hV:val (P++[c])=val a*2 ^ s:=by
   rw[iH,bII,e,bKS]
  have hLc:Lim (P++[c]):=bIM.app fun x hx=>by simp at hx; omega
  have hD:dN (a.length+1) (val a*2 ^ s)=P++[c]:=by
   have:=FL hLc
   rw[hV,bKA,bKH,e] at this
   exact this
  simp only[go_sem,γ,reduceCtorEq,c1',aTW,cA,hk,hin,c2',bIC,aTX]
  exact aX (vs:=[.osl q 1 0 (a.length+1)]) (.inr rfl) (PH.nil.set q (.rows 1 (aJ (P++[c])))) Ev (PH.aI PH.nil_le Sq) ⟨q,rfl,by rw[hD]⟩
def amH (a:List Nat) (d o k r:Nat):PF:=(((((PF.nil.set 0 (aF a)).set 1 (.int .u32 d)).set 6 (.osl o 1 0 a.length)).set 7 (.int .u64 r)).set 8 (.int .i64 ((k:Int)-1)))
theorem a8D {C:Ctx} (L:oV C) (a:List Nat) (d:Nat) (ha:Lim a) (hd0:0<d) (hd:d<4294967296) (h1:a.length≤1000) :
  BA.wp C (aT NV.res (aD (.tup [aF (aG (val a/d)),.int .u32 ((val a%d:Nat):Int)]))) (PF.args [aF a,.int .u32 d]) .nil:=by
 have hm1:((a.length:Nat):Int)*((4:Nat):Int)≤140737488355328:=by omega
 have hm2:((a.length:Nat):Int)≤9223372036854775807:=by omega
 have hz:bJW a.length [PV.int .u32 0]=aJ (bJW a.length 0++[]):=by
  simp[aJ]
 simp only[go_sem,γ,reduceCtorEq,BA,aqG,aqH,NV,hm1,hm2,hz]
 refine aR fun o ho=>?_
 simp only[go_sem,γ,reduceCtorEq,aqI,aqJ]
 refine wp_loop (α:=Nat × List Nat × Nat × Nat) (fun t=>amH a d t.2.2.2 t.1 t.2.2.1) (fun t=>PH.nil.set t.2.2.2 (.rows 1 (aJ (bJW t.1 0++t.2.1))))
  (fun t=>t.1+t.2.1.length=a.length∧Lim t.2.1∧t.2.2.1<d∧val t.2.1*d+t.2.2.1=val (a.drop t.1)) (fun t=>t.1) (a.length,[],0,o) ⟨by simp,by simp[Lim],hd0,by simp[val]⟩ ?_ ?_ ?_
 ·unfold amH
  (repeat' (first|exact PF.nil_le|refine PF.aI ?_ ?_))<;>first|(simp only[go_sem,γ,reduceCtorEq,wrap_i64 (Om:-9223372036854775808≤((a.length:Nat):Int)-1) (Om:((a.length:Nat):Int)-1≤9223372036854775807)]<;>rfl)|rfl
 ·exact PH.aI PH.nil_le Sq
 rintro⟨k,S,r,q⟩ ⟨hk,bIM,hr,bII⟩
 simp only at hk bIM hr bII
 simp only[go_sem,γ,reduceCtorEq,aqF,aqK,amH]
 by_cases h0:0<k
 ·obtain⟨m,rfl⟩:∃ m,k=m+1:=⟨k-1,by omega⟩
  have hzz:((m+1:Nat):Int)-1=(m:Int):=by omega
  have hge:(m:Int)≥0:=by omega
  have hml:m<a.length:=by omega
  have hlt:(m:Int)<(a.length:Nat):=by omega
  have hai:=ha _ (bJX hml)
  have hdrop:val (a.drop m)=a[m]+4294967296*val (a.drop (m+1)):=by rw[bLP hml]; rfl
  generalize hx:a[m]=x at *
  have hax:(aJ a)[m]?=some [.int .u32 ((x:Nat):Int)]:=by rw[bK a hml,hx]
  have ex:IntKind.u64.wrap ((x:Nat):Int)=((x:Nat):Int):=bF Om
  have ed:IntKind.u64.wrap ((d:Nat):Int)=((d:Nat):Int):=bF Om
  have esh:shift .shl .u64 (r:Int) 32=some (.int .u64 ((2 ^ 32*r:Nat):Int)):=ID (s:=32) Om Om
  have e32:(2:Nat) ^ 32=4294967296:=by decide
  have eor:=orI (a:=2 ^ 32*r) (b:=x) (n:=2 ^ 32*r+x) Om Om (Nat.two_pow_add_eq_or_of_lt Om r).symm Om
  rw[e32] at esh eor
  have hq:(4294967296*r+x)/d<4294967296:=by
   rw[bMP hd0]
   have:4294967296*(r+1)≤4294967296*d:=bLZ _ hr
   omega
  have hdd:¬ ((d:Nat):Int)=0:=by omega
  have equo:IntKind.u64.wrap (Int.tdiv ((4294967296*r+x:Nat):Int) ((d:Nat):Int))=(((4294967296*r+x)/d:Nat):Int):=by
   rw[show Int.tdiv ((4294967296*r+x:Nat):Int) ((d:Nat):Int)=(((4294967296*r+x)/d:Nat):Int) from rfl]
   exact bF Om
  have erem:Int.tmod ((4294967296*r+x:Nat):Int) ((d:Nat):Int)=(((4294967296*r+x)%d:Nat):Int):=rfl
  have ec:IntKind.u32.wrap (((4294967296*r+x)/d:Nat):Int)=(((4294967296*r+x)/d:Nat):Int):=by rw[cA,bLE hq]
  have bJO:bJW (m+1) 0++S=bJW m 0++(0::S):=by
   rw[List.replicate_succ',bKU]; rfl
  have hin:(aJ (bJW m 0++(0::S)))[m]?=some [.int .u32 ((0:Nat):Int)]:=by
   rw[bK _ (by simp)]; simp
  have bIC:(aJ (bJW m 0++(0::S))).set m [.int .u32 (((4294967296*r+x)/d:Nat):Int)]=aJ (bJW m 0++(((4294967296*r+x)/d)::S)):=by
   rw[eV,bMZ _ _ (by simp)]; simp
  simp only[go_sem,γ,reduceCtorEq,hzz,hge,aqL,esh,hax,ex,eor,aqM,ed,hdd,equo,ec,hlt,bJO,hin,bIC,aqN,erem,aqO]
  refine aH (m,((4294967296*r+x)/d)::S,(4294967296*r+x)%d,q) ⟨by simp only[bLU]; omega,fun y hy=>?_,bLJ _ hd0,?_⟩ (by simp only; omega) ?_ (PH.aI PH.nil_le Sq)
  ·rw[bKJ] at hy
   rcases hy with rfl | hy
   ·exact hq
   ·exact bIM y hy
  ·simp only[val]
   rw[hdrop,← bII,bKY,bKG,bKP]
   have:=bNA (4294967296*r+x) d
   rw[bKT d] at this
   omega
  ·(repeat' (first|exact PF.nil_le|refine PF.aI ?_ ?_))<;>first|(simp only[go_sem,γ,reduceCtorEq,wrap_i64 (Om:-9223372036854775808≤(m:Int)-1) (Om:(m:Int)-1≤9223372036854775807)]<;>rfl)|rfl
 ·have:k=0:=by omega
  subst this
  have hzz:¬ ((0:Nat):Int)-1≥0:=by decide
  rw[bKW] at bII
  have hS:S.length=a.length:=by omega
  have hq:val S=val a/d:=by
   rw[← bII,bKT,Nat.mul_add_div hd0,bNB hr,bLL]
  have hrm:r=val a%d:=by rw[← bII,bKT,Nat.mul_add_mod,bLE hr]
  have hn0:bJW 0 0++S=S:=by simp
  simp only[go_sem,υ,γ,reduceCtorEq,hzz,aeX,bML]
  have hl:=L.length S bIM Om
  have hnl:=eU bIM
  have hc:((nl (val S):Nat):Int)≤(S.length:Nat):=by omega
  refine oC (o:=q) (s:=1) (k:=a.length) (rs:=aJ S) (v:=.int .i64 (nl (val S):Nat)) ?_ Sq Sq (by rw[bT]; omega) ?_
  ·rw[bKK (by rw[bT]; omega)]; exact hl
  ·have hfz:PV.frz q 1 (aJ S) (.osl q 1 0 a.length)=aF S:=by
    have:0+a.length≤(aJ S).length:=by rw[bT]; omega
    simp only[PV.frz,PV.rO,PV.dC,if_true,true_and,if_pos this,bKW]
    rw[bKK (by rw[bT]; omega)]
   have hfi:∀ n:Int,∀ k,PV.frz q 1 (aJ S) (.int k n)=.int k n:=fun _ _=>rfl
   have er:IntKind.u32.wrap ((r:Nat):Int)=((r:Nat):Int):=by rw[cA,bLE Om]
   simp only[go_sem,ν,γ,reduceCtorEq,hfz,hfi,hc,or_true,bKW,gY bIM,er]
   refine aX (vs:=[aF (aG (val S)),.int .u32 ((r:Nat):Int)]) (.inr rfl) .nil Ev PH.nil_le ⟨?_,rfl⟩
   simp only[aV,← hq,← hrm]
end Go.PM
namespace Go.Na
theorem DW {L:List Nat} {i:Nat} (h:i<L.length) (v:Nat):val (L.set i v)+4294967296 ^ i*L[i]=val L+4294967296 ^ i*v:=by
 have h':i<(L.set i v).length:=by rw[bLQ]; exact h
 rw[pX L h,pX (L.set i v) h',List.getElem_set_self,List.take_set_of_le (bJV _),List.drop_set_of_lt Om,bKG,bKG]
 omega
theorem ajH {L:List Nat} {i:Nat} (h:∀ (j x:Nat),i≤j→L[j]?=some x→x=0) (k v:Nat) (hk:k<i):∀ (j x:Nat),i≤j→(L.set k v)[j]?=some x→x=0:=fun j x hj hx=>by
 rw[List.getElem?_set_ne Om] at hx
 exact h j x hj hx
end Go.Na
namespace Go.PM
open Go Go.Na
def jN (a b:List Nat) (o i:Nat):PF:=((((((PF.nil.set 0 (aF a)).set 1 (aF b)).set 6 (.osl o 1 0 (a.length+b.length))).set 32 (aF a)).set 33 (.int .i64 (a.length:Nat))).set 34 (.int .i64 i))
def a1X (a b:List Nat) (o i x c j:Nat):PF:=((((((((((((PF.nil.set 0 (aF a)).set 1 (aF b)).set 6 (.osl o 1 0 (a.length+b.length))).set 32 (aF a)).set 33 (.int .i64 (a.length:Nat))).set 34 (.int .i64 i)).set 7 (.int .i64 i)).set 8 (.int .u32 x)).set 9 (.int .u64 c)).set 39 (aF b)).set 40 (.int .i64 (b.length:Nat))).set 41 (.int .i64 j))
structure CR (a b L:List Nat) (i:Nat):Prop where
 len:L.length=a.length+b.length
 lim:Lim L
 v:val L=val (a.take i)*val b
 z:∀ j x,i+b.length≤j→L[j]?=some x→x=0
theorem aSF {x y:Nat} (hx:x<4294967296) (hy:y<4294967296):IntKind.u64.wrap ((x:Int)*(y:Int))=((x*y:Nat):Int):=by
 have:x*y≤4294967295*4294967295:=Nat.mul_le_mul Om Om
 rw[show (x:Int)*(y:Int)=((x*y:Nat):Int) by simp]
 exact bF Om
theorem fQ {a b:Nat} (h:a+b≤9223372036854775807):IntKind.i64.wrap ((a:Int)+(b:Int))=((a+b:Nat):Int):=by
 rw[wrap_i64 Om Om]; omega
theorem bgU {C:Ctx} (a b:List Nat) (ha:Lim a) (hb:Lim b) (h1:a.length≤1000) (h2:b.length≤1000) (L:List Nat) (i:Nat) (hi:i<a.length) (hI:CR a b L i) (q:Nat) (K:cN) (F:PF) (H:PH) (hF:(jN a b q i).le F) (hH:H q=some (.rows 1 (aJ L)))
  (hK:∀ L' F' H',CR a b L' (i+1)→(jN a b q i).le F'→H' q=some (.rows 1 (aJ L'))→K .normal F' H') :
  aC.wp C (.block 1 (.seq (.region amE) (.seq (.region amF) (.seq (.seq (.region amG) (.block 2 (.loop YF))) (.region YH))))) K F H:=by
 have f0:=hF 0 _ (by unfold jN; simp only[go_sem,reduceCtorEq]; rfl)
 have f1:=hF 1 _ (by unfold jN; simp only[go_sem,γ,reduceCtorEq]; rfl)
 have f6:=hF 6 _ (by unfold jN; simp only[go_sem,γ,reduceCtorEq]; rfl)
 have f32:=hF 32 _ (by unfold jN; simp only[go_sem,γ,reduceCtorEq]; rfl)
 have f33:=hF 33 _ (by unfold jN; simp only[go_sem,γ,reduceCtorEq]; rfl)
 have f34:=hF 34 _ (by unfold jN; simp only[go_sem,γ,reduceCtorEq]; rfl)
 have hx:=ha _ (bJX hi)
 have hta:=bW a hi
 generalize hxe:a[i]=x at *
 have hax:(aJ a)[i]?=some [.int .u32 ((x:Nat):Int)]:=by rw[bK a hi,hxe]
 simp only[go_sem,γ,amE,amF,amG,f32,f34,f1,hax]
 refine wp_loop (α:=List Nat × Nat × Nat) (fun t=>a1X a b q i x t.2.1 t.2.2) (fun t=>PH.nil.set q (.rows 1 (aJ t.1)))
  (fun t=>t.2.2≤b.length∧t.1.length=a.length+b.length∧Lim t.1∧t.2.1<4294967296∧val t.1+4294967296 ^ (i+t.2.2)*t.2.1=val (a.take i)*val b+4294967296 ^ i*(x*val (b.take t.2.2))∧∀ j y,i+b.length≤j→t.1[j]?=some y→y=0) (fun t=>b.length-t.2.2) (L,0,0)
  ⟨by simp,hI.len,hI.lim,by simp,by simp[val,hI.v],hI.z⟩ ?_ (PH.aI PH.nil_le hH) ?_
 ·unfold a1X
  exact Lq
 rintro⟨M,c,j⟩ ⟨hj,hM,bIM,hc,bII,hz⟩
 simp only at hj hM bIM hc bII hz
 simp only[go_sem,γ,reduceCtorEq,YF,aFF,a1X]
 by_cases c1:j<b.length
 ·have c1':(j:Int)<(b.length:Nat):=by omega
  have hy:=hb _ (bJX c1)
  have htb:=bW b c1
  generalize hye:b[j]=y at *
  have hby:(aJ b)[j]?=some [.int .u32 ((y:Nat):Int)]:=by rw[bK b c1,hye]
  have hij:i+j<M.length:=by omega
  have hz0:=bIM _ (bJX hij)
  have bJM:=DW hij
  generalize hze:M[i+j]=z at *
  have hMz:(aJ M)[i+j]?=some [.int .u32 ((z:Nat):Int)]:=by rw[bK M hij,hze]
  have ex:IntKind.u64.wrap ((x:Nat):Int)=((x:Nat):Int):=bF Om
  have ey:IntKind.u64.wrap ((y:Nat):Int)=((y:Nat):Int):=bF Om
  have ez:IntKind.u64.wrap ((z:Nat):Int)=((z:Nat):Int):=bF Om
  have em:=aSF hx hy
  have hxy:x*y≤4294967295*4294967295:=Nat.mul_le_mul Om Om
  have e1:IntKind.u64.wrap (((x*y:Nat):Int)+(z:Int))=((x*y+z:Nat):Int):=eQ Om
  have e2:IntKind.u64.wrap ((c:Int)+((x*y+z:Nat):Int))=((c+(x*y+z):Nat):Int):=eQ Om
  have eij:IntKind.i64.wrap ((i:Int)+(j:Int))=((i+j:Nat):Int):=fQ Om
  have hlt:((i+j:Nat):Int)<((a.length+b.length:Nat):Int):=by omega
  generalize ht:c+(x*y+z)=t at *
  have htt:t<4294967296*4294967296:=by omega
  have bIC:(aJ M).set (i+j) [.int .u32 ((t%4294967296:Nat):Int)]=aJ (M.set (i+j) (t%4294967296)):=eV M (i+j) _
  simp only[go_sem,γ,reduceCtorEq,c1',aFG,hby,aFH,ex,ey,em,eij,hlt,hMz,ez,e1,e2,aFI,cA,bIC,aFJ,uW,aFK,wZz j]
  refine aH (M.set (i+j) (t%4294967296),t/4294967296,j+1) ⟨by simp only; omega,by simp only[bLQ]; exact hM,bIM.set _ (bLJ _ (by decide)),by simp only; omega,?_,ajH hz _ _ Om⟩ (by simp only; omega) ?_ (PH.aI PH.nil_le Sq)
  ·simp only
   have h3:=bJM (t%4294967296)
   have h4:4294967296 ^ (i+(j+1))*(t/4294967296)+4294967296 ^ (i+j)*(t%4294967296)=4294967296 ^ (i+j)*t:=by
    rw[← bMG,bLN,bKP,← bKG,bNA]
   have h5:4294967296 ^ (i+j)*t=4294967296 ^ (i+j)*c+(4294967296 ^ (i+j)*(x*y)+4294967296 ^ (i+j)*z):=by rw[← ht,bKG,bKG]
   have h6:4294967296 ^ i*(x*val (b.take (j+1)))=4294967296 ^ i*(x*val (b.take j))+4294967296 ^ (i+j)*(x*y):=by
    rw[htb,bKG,bKG,Nat.pow_add]
    congr 1
    rw[Nat.mul_left_comm x,bKP]
   omega
  ·exact Lq
 ·have he:j=b.length:=by omega
  have c1':¬ (j:Int)<(b.length:Nat):=by omega
  subst he
  have hij:i+b.length<M.length:=by omega
  have hz0:M[i+b.length]=0:=hz _ _ (bJV _) (bKD hij)
  have bJM:=DW hij
  have hMz:(aJ M)[i+b.length]?=some [.int .u32 ((0:Nat):Int)]:=by rw[bK M hij,hz0]
  have eij:IntKind.i64.wrap ((i:Int)+((b.length:Nat):Int))=((i+b.length:Nat):Int):=fQ Om
  have hlt:((i+b.length:Nat):Int)<((a.length+b.length:Nat):Int):=by omega
  have bIC:(aJ M).set (i+b.length) [.int .u32 ((c%4294967296:Nat):Int)]=aJ (M.set (i+b.length) c):=by
   rw[bLE hc]; exact eV M _ _
  simp only[go_sem,γ,reduceCtorEq,c1',YH,eij,cA,hlt,hMz,bIC]
  refine hK (M.set (i+b.length) c) _ _ ⟨by rw[bLQ]; exact hM,bIM.set _ hc,?_,fun j y hj hy=>?_⟩ (by unfold jN; exact Lq) Sq
  ·have h3:=bJM c
   rw[hz0,Nat.mul_zero,bLL] at h3
   rw[h3,bII,bKS,hta,bKY,bKP]
  ·rw[List.getElem?_set_ne Om] at hy
   exact hz j y Om hy
theorem a8C {C:Ctx} (L:oV C) (a b:List Nat) (ha:Lim a) (hb:Lim b) (h1:a.length≤1000) (h2:b.length≤1000) (F:PF) (f0:F 0=some (aF a)) (f1:F 1=some (aF b)) :
  aC.wp C (.seq (.region amC) (.seq (.seq (.region amD) (.block 0 (.loop YG))) (.seq (.region YI) .ret))) (aT [.tmp 4,.tmp 5] (bY (szV (val a*val b)))) F .nil:=by
 have hlen:IntKind.i64.wrap (((a.length:Nat):Int)+((b.length:Nat):Int))=((a.length+b.length:Nat):Int):=fQ Om
 have hm1:((a.length+b.length:Nat):Int)*((4:Nat):Int)≤140737488355328:=by omega
 have hm2:((a.length+b.length:Nat):Int)≤9223372036854775807:=by omega
 have hz:bJW (a.length+b.length) [PV.int .u32 0]=aJ (bJW (a.length+b.length) 0):=by
  simp[aJ]
 simp only[go_sem,γ,amC,f0,f1,hlen,hm1,hm2,hz]
 refine aR fun o ho=>?_
 simp only[go_sem,γ,reduceCtorEq,amD,f0]
 refine wp_loop (α:=List Nat × Nat) (fun t=>jN a b o t.2) (fun t=>PH.nil.set o (.rows 1 (aJ t.1))) (fun t=>t.2≤a.length∧CR a b t.1 t.2) (fun t=>a.length-t.2) (bJW (a.length+b.length) 0,0)
  ⟨by simp,by simp,tH _,by simp[val,qE],fun j x _ hx=>by rw[List.getElem?_replicate] at hx; split at hx<;>simp_all⟩ ?_ (PH.aI PH.nil_le Sq) ?_
 ·unfold jN
  exact Lq
 rintro⟨M,i⟩ ⟨hi,hI⟩
 simp only at hi hI
 simp only[go_sem,γ,reduceCtorEq,YG,aTO,jN]
 by_cases c1:i<a.length
 ·have c1':(i:Int)<(a.length:Nat):=by omega
  have key:=bgU (C:=C) a b ha hb h1 h2 M i c1 hI o
  simp only[go_sem] at key
  simp only[go_sem,c1']
  refine key _ _ _ (by unfold jN; exact Lq) Sq ?_
  intro L' F' H' hI' hF' hH'
  have g34:=hF' 34 _ (by unfold jN; simp only[go_sem,γ,reduceCtorEq]; rfl)
  have g0:=hF' 0 _ (by unfold jN; simp only[go_sem,reduceCtorEq]; rfl)
  have g1:=hF' 1 _ (by unfold jN; simp only[go_sem,γ,reduceCtorEq]; rfl)
  have g6:=hF' 6 _ (by unfold jN; simp only[go_sem,γ,reduceCtorEq]; rfl)
  have g32:=hF' 32 _ (by unfold jN; simp only[go_sem,γ,reduceCtorEq]; rfl)
  have g33:=hF' 33 _ (by unfold jN; simp only[go_sem,γ,reduceCtorEq]; rfl)
  simp only[go_sem,aFL,g34,wZz i]
  refine aH (L',i+1) ⟨by simp only; omega,hI'⟩ (by simp only; omega) ?_ (PH.aI PH.nil_le hH')
  exact Lq
 ·have he:i=a.length:=by omega
  subst he
  have c1':¬ ((a.length:Nat):Int)<(a.length:Nat):=by omega
  have hV:val M=val a*val b:=by rw[hI.v,bKS]
  simp only[go_sem,γ,reduceCtorEq,YI]
  have hs:=L.sized _ hI.lim (by rw[hI.len]; omega)
  rw[hV] at hs
  refine oC (o:=o) (s:=1) (k:=a.length+b.length) (rs:=aJ M) (v:=szV (val a*val b)) ?_ rfl Sq (by rw[bT,hI.len]; exact bJV _) ?_
  ·rw[bKK (by rw[bT,hI.len]; exact bJV _)]; exact hs
  ·simp only[go_sem,γ,reduceCtorEq,szV]
   exact aX (.inr rfl) .nil rfl PH.nil_le ⟨.refl _,rfl⟩
theorem boC {C:Ctx} (L:oV C) (a b:List Nat) (ha:Lim a) (hb:Lim b) (la:a.length≤35184372087808) (lb:b.length≤35184372087808) :
  NQ.wp C (aT aFE.res (bY (opV (dR (val a) (val b)) (val a*val b)))) (PF.args [aF a,aF b]) .nil:=by
 simp only[go_sem,reduceCtorEq,NQ,aTL,aTM,aFE]
 refine aA (L.large a ha la) rfl ?_
 by_cases c1:nl (val a)>512
 ·simp only[go_sem,γ,c1,amB]
  rw[show opV (dR (val a) (val b)) (val a*val b)=.tup [aF [],.int .i64 2] by simp[opV,dR,c1]]
  exact eF rfl
 simp only[go_sem,γ,c1]
 refine aA (L.large b hb lb) rfl ?_
 by_cases c2:nl (val b)>512
 ·simp only[go_sem,γ,reduceCtorEq,c2,amB]
  rw[show opV (dR (val a) (val b)) (val a*val b)=.tup [aF [],.int .i64 2] by simp[opV,dR,c2]]
  exact eF rfl
 have e:opV (dR (val a) (val b)) (val a*val b)=szV (val a*val b):=by simp[opV,dR,c1,c2]
 rw[e]
 simp only[go_sem,γ,reduceCtorEq,c2]
 refine bR .nil a1N PH.nil_le ?_
 simp only[go_sem,reduceCtorEq,aTN]
 have h1:=eU ha
 have h2:=eU hb
 have h1':((nl (val a):Nat):Int)≤(a.length:Nat):=by omega
 have h2':((nl (val b):Nat):Int)≤(b.length:Nat):=by omega
 refine bJ (mC a) (L.length a ha la) rfl PH.nil_le ?_
 simp only[go_sem,ν,γ,reduceCtorEq,h1',or_true,bKW,gY ha]
 refine bJ (mC b) (L.length b hb lb) rfl PH.nil_le ?_
 simp only[go_sem,ν,γ,reduceCtorEq,h2',or_true,bKW,gY hb]
 have va:=aS (val a)
 have vb:=aS (val b)
 have:=a8C L (aG (val a)) (aG (val b)) (aU _) (aU _) (by rw[aZ]; omega) (by rw[aZ]; omega)
 rw[va,vb] at this
 have:=fun F f0 f1=>this F f0 f1
 simp only[go_sem] at this
 exact this _ rfl rfl
open Go Go.Na
theorem afQ {A P W Z:List Nat} {i:Nat} (hP:P.length=i) (hi:i<W.length):(aJ (A++(P++W.drop i)++Z))[A.length+i]?=some [.int .u32 ((W[i]:Nat):Int)]:=by
 have hl:A.length+i<(A++(P++W.drop i)++Z).length:=by simp; omega
 rw[bK _ hl]
 congr 4
 rw[List.getElem_append_left (by simp; omega),List.getElem_append_right Om,List.getElem_append_right Om,List.getElem_drop]
 congr 1
 omega
theorem DQ {A P W Z:List Nat} {i:Nat} (hP:P.length=i) (hi:i<W.length) (v:Nat):(aJ (A++(P++W.drop i)++Z)).set (A.length+i) [.int .u32 (v:Int)]=aJ (A++((P++[v])++W.drop (i+1))++Z):=by
 rw[eV]
 congr 1
 rw[List.set_append_left _ _ (by simp; omega),bMZ _ _ Om,bMZ _ _ Om,bLP hi]
 rw[show A.length+i-A.length-P.length=0 by omega,List.set_cons_zero]
 simp
theorem beA {t:Nat} (h:t<18446744073709551616):jT .and .u64 (t:Int) 4294967295=some (.int .u64 ((t%4294967296:Nat):Int)):=by
 show some (PV.int .u64 (IntKind.u64.wrap (((BitVec.ofInt 64 (t:Int) &&& BitVec.ofInt 64 (4294967295:Int)).toNat:Nat):Int)))=_
 have e:BitVec.ofInt 64 (4294967295:Int)=BitVec.ofNat 64 4294967295:=by rfl
 rw[e,BitVec.ofInt_natCast,BitVec.toNat_and,BitVec.toNat_ofNat,BitVec.toNat_ofNat,bLE (by simpa using h)]
 have e2:(4294967295:Nat)%2 ^ 64=2 ^ 32-1:=by decide
 rw[e2,Nat.and_two_pow_sub_one_eq_mod]
 rw[bF (Nat.lt_of_lt_of_le (bLJ _ (by decide)) (by decide))]
theorem beF {c f x:Nat} (hc:c<4294967296) (hf:f≤4294967296) (hx:x<4294967296):c+f*x<18446744073709551616∧(c+f*x)/4294967296<4294967296∧f*x≤4294967296*4294967295:=by
 have:f*x≤4294967296*4294967295:=Nat.mul_le_mul hf Om
 refine⟨by omega,?_,this⟩
 omega
def aFS (v:List Nat) (j o i c b:Nat) (f:Nat):PF:=((((((((PF.nil.set 0 (.osl o 1 j (v.length+1))).set 1 (aF v)).set 2 (.int .u64 f)).set 7 (.int .u64 c)).set 8 (.int .u64 b)).set 13 (aF v)).set 14 (.int .i64 (v.length:Nat))).set 15 (.int .i64 i))
def II (n w m:Nat):Nat:=if w<m then w+4294967296 ^ n-m else w-m
theorem aFT {C:Ctx} (A W Z v:List Nat) (f:Nat) (hW:Lim W) (hv:Lim v) (hl:W.length=v.length+1) (h1:A.length+v.length≤100000) (hf:f≤4294967296) (bJE:val v*f≤val W+4294967296 ^ (v.length+1)) (o:Nat) :
  rV.wp C (aT tK.res (fun r H'=>r=.bool (decide (val W<val v*f))∧H'=PH.nil.set o (.rows 1 (aJ (A++dN (v.length+1) (II (v.length+1) (val W) (val v*f))++Z)))))
   (PF.args [.osl o 1 A.length (v.length+1),aF v,.int .u64 f]) (PH.nil.set o (.rows 1 (aJ (A++W++Z)))):=by
 simp only[go_sem,γ,rV,NY,NZ,OA,tK]
 refine wp_loop (α:=List Nat × Nat × Nat) (fun t=>aFS v A.length o t.1.length t.2.1 t.2.2 f) (fun t=>PH.nil.set o (.rows 1 (aJ (A++(t.1++W.drop t.1.length)++Z))))
  (fun t=>t.1.length≤v.length∧Lim t.1∧t.2.1<4294967296∧t.2.2≤1∧val (W.take t.1.length)+4294967296 ^ t.1.length*t.2.2+4294967296 ^ t.1.length*t.2.1=val t.1+val (v.take t.1.length)*f) (fun t=>v.length-t.1.length) ([],0,0)
  ⟨by simp,by simp[Lim],by simp,by simp,by simp[val]⟩ ?_ (PH.aI PH.nil_le (by simp only[go_sem,bMD,bKW,bML])) ?_
 ·unfold aFS
  exact Lq
 rintro⟨P,c,b⟩ ⟨hP,bIM,hc,hb,bII⟩
 simp only at hP bIM hc hb bII
 simp only[go_sem,γ,reduceCtorEq,KX,OB,aFS]
 by_cases c1:P.length<v.length
 ·have c1':(P.length:Int)<(v.length:Nat):=by omega
  have c2:P.length<W.length:=by omega
  have c2':(P.length:Int)<((v.length+1:Nat):Int):=by omega
  have hx:=hv _ (bJX c1)
  have hw:=hW _ (bJX c2)
  have htv:=bW v c1
  have htw:=bW W c2
  have hat:=afQ (A:=A) (Z:=Z) (P:=P) rfl c2
  have bJM:=DQ (A:=A) (Z:=Z) (P:=P) rfl c2
  generalize hxe:v[P.length]=x at *
  generalize hwe:W[P.length]=y at *
  have hvx:(aJ v)[P.length]?=some [.int .u32 ((x:Nat):Int)]:=by rw[bK v c1,hxe]
  obtain⟨k1,k2,k3⟩:=beF hc hf hx
  have ex:IntKind.u64.wrap ((x:Nat):Int)=((x:Nat):Int):=bF Om
  have ey:IntKind.u64.wrap ((y:Nat):Int)=((y:Nat):Int):=bF Om
  have em:IntKind.u64.wrap ((f:Int)*(x:Int))=((f*x:Nat):Int):=by
   rw[show (f:Int)*(x:Int)=((f*x:Nat):Int) by simp]
   exact bF Om
  have hlt64:c+f*x<18446744073709551616:=k1
  have ea:IntKind.u64.wrap ((c:Int)+((f*x:Nat):Int))=((c+f*x:Nat):Int):=eQ hlt64
  have eand:=beA hlt64
  have hvt:val (v.take (P.length+1))*f=val (v.take P.length)*f+4294967296 ^ P.length*(f*x):=by rw[htv,bKY,bKP,bKT x f]
  generalize f*x=fx at *
  have hmod:(c+fx)%4294967296<4294967296:=bLJ _ (by decide)
  obtain⟨s1,s2,s3,s4⟩:=aIR (a:=y) (bor:=b) (b:=(c+fx)%4294967296) hw hmod hb (IntKind.u64.wrap (IntKind.u64.wrap ((y:Int)-(((c+fx)%4294967296:Nat):Int))-(b:Int))) (by rw[fB,fB]; omega)
  generalize hd:PQ y b ((c+fx)%4294967296)=d at *
  generalize hbb:YZ y b ((c+fx)%4294967296)=b' at *
  have hb':b'≤1:=by rw[← hbb]; unfold YZ; split<;>omega
  have hs:=bJM d
  simp only[go_sem,γ,reduceCtorEq,c1',OC,hvx,OD,ex,em,ea,OE,c2',hat,ey,eand,OF,s1,hs,OG,a2X,s2,OH,uW,KY,dH (Om:P.length<9223372036854775807)]
  refine aH (P++[d],(c+fx)/4294967296,b') ⟨by simp; omega,bIM.app fun z hz=>by simp at hz; omega,k2,hb',?_⟩ (by simp; omega) ?_ (PH.aI PH.nil_le ?_)
  ·simp only
   rw[bKA,bKH,iH,htw,hvt,bLN,bKP,bKP]
   have h4:4294967296 ^ P.length*y+4294967296 ^ P.length*(4294967296*b')=4294967296 ^ P.length*d+4294967296 ^ P.length*((c+fx)%4294967296)+4294967296 ^ P.length*b:=by
    rw[← bKG,s3,bKG,bKG]
   have h5:4294967296 ^ P.length*(4294967296*((c+fx)/4294967296))+4294967296 ^ P.length*((c+fx)%4294967296)=4294967296 ^ P.length*c+4294967296 ^ P.length*fx:=by
    rw[← bKG,bNA,bKG]
   omega
  ·simp only
   rw[bKA,bKH]
   exact Lq
  ·simp only
   rw[bKA,bKH]
   simp only[go_sem]
 ·have e:P.length=v.length:=by omega
  have c1':¬ (P.length:Int)<(v.length:Nat):=by omega
  have c2:v.length<W.length:=by omega
  have c2':((v.length:Nat):Int)<((v.length+1:Nat):Int):=by omega
  have hw:=hW _ (bJX c2)
  have htw:=bW W c2
  have hat:=afQ (A:=A) (Z:=Z) (P:=P) e c2
  have bJM:=DQ (A:=A) (Z:=Z) (P:=P) e c2
  have hWall:val (W.take (v.length+1))=val W:=by rw[bKK Om]
  generalize hwe:W[v.length]=y at *
  have ey:IntKind.u64.wrap ((y:Nat):Int)=((y:Nat):Int):=bF Om
  have hP':=eN bIM
  rw[e] at bII hP'
  rw[bKS] at bII
  rw[hWall] at htw
  have hpow:4294967296 ^ (v.length+1)=4294967296 ^ v.length*4294967296:=bLN _ _
  have key:val W+4294967296 ^ v.length*(b+c)=val P+val v*f+4294967296 ^ v.length*y:=by rw[htw,bKG]; omega
  have hbc:b+c≤y+4294967296:=by
   rcases bKM (y+4294967296) (b+c) with h | h
   ·exfalso
    have:4294967296 ^ v.length*(y+4294967296+1)≤4294967296 ^ v.length*(b+c):=bLZ _ h
    rw[bKG,bKG,Nat.mul_one] at this
    omega
   ·exact h
  have hlast:∃ d k:Nat,d<4294967296∧k≤1∧y+4294967296*k=d+(b+c)∧IntKind.u32.wrap (IntKind.u64.wrap (IntKind.u64.wrap ((y:Int)-(c:Int))-(b:Int)))=(d:Int)∧((IntKind.u64.wrap (IntKind.u64.wrap ((y:Int)-(c:Int))-(b:Int))/9223372036854775808==1)=decide (k=1)):=by
   rw[WB,fB,fB]
   by_cases h:y<b+c
   ·refine⟨y+4294967296-(b+c),1,by omega,by omega,by omega,by omega,?_⟩
    simp only[decide_true]
    exact bO Om
   ·refine⟨y-(b+c),0,by omega,by omega,by omega,by omega,?_⟩
    exact bB Om
  obtain⟨d,k,hd,hk,hy,w1,w2⟩:=hlast
  have hs:=bJM d
  have hN:val (P++[d])+val v*f=val W+4294967296 ^ (v.length+1)*k:=by
   have:4294967296 ^ v.length*y+4294967296 ^ v.length*(4294967296*k)=4294967296 ^ v.length*d+4294967296 ^ v.length*(b+c):=by rw[← bKG,hy,bKG]
   rw[iH,e,hpow,bKP]
   omega
  have hLd:Lim (P++[d]):=bIM.app fun z hz=>by simp at hz; omega
  have hdl:=eN hLd
  rw[bKA,bKH,e] at hdl
  have hk1:decide (k=1)=decide (val W<val v*f):=by
   congr 1
   apply propext
   constructor
   ·intro h; subst h; omega
   ·intro h
    rcases bMT k with h0 | h0
    ·subst h0; omega
    ·omega
  have hval':II (v.length+1) (val W) (val v*f)=val (P++[d]):=by
   unfold II
   split
   ·rename_i h
    have:k=1:=by simpa [h] using hk1
    subst this; omega
   ·rename_i h
    have:k=0:=by
     have:¬ k=1:=by simpa [h] using hk1
     omega
    subst this; omega
  have hD:dN (v.length+1) (II (v.length+1) (val W) (val v*f))=P++[d]:=by
   have:=FL hLd
   rw[bKA,bKH,e] at this
   rw[hval',this]
  have hdr:W.drop (v.length+1)=[]:=bNF Om
  simp only[go_sem,γ,reduceCtorEq,c1',KZ,e,c2',hat,ey,LC,w1,hs,LD,a2X,w2,hk1]
  refine aX (vs:=[.bool (decide (val W<val v*f))]) (.inr rfl) (PH.nil.set o (.rows 1 (aJ (A++(P++[d]++W.drop (v.length+1))++Z)))) rfl (PH.aI PH.nil_le Sq) ⟨rfl,?_⟩
  rw[hD,hdr,bLM]
end Go.PM
namespace Go.Na
theorem aSC {xs ys:List Nat} (hx:Lim xs) (hy:Lim ys) (hl:xs.length=ys.length) (hv:val xs=val ys):xs=ys:=by
 rw[← FL hx,← FL hy,hl,hv]
theorem blK {k n:Nat} {xs:List Nat} (hx:Lim xs) (hl:xs.length=k) (hv:val xs=n%4294967296 ^ k):dN k n=xs :=
 aSC (kT k n) hx (by rw[jV,hl]) (by rw[xR,hv])
end Go.Na
namespace Go.PM
open Go Go.Na
def aFM (v:List Nat) (j o i c:Nat):PF:=((((((PF.nil.set 0 (.osl o 1 j (v.length+1))).set 1 (aF v)).set 4 (.int .u64 c)).set 7 (aF v)).set 8 (.int .i64 (v.length:Nat))).set 9 (.int .i64 i))
theorem aNW {C:Ctx} (A W Z v:List Nat) (hW:Lim W) (hv:Lim v) (hl:W.length=v.length+1) (h1:A.length+v.length≤100000) (o:Nat) :
  uC.wp C (aT xF.res (fun r H'=>r=.tup []∧H'=PH.nil.set o (.rows 1 (aJ (A++dN (v.length+1) (val W+val v)++Z)))))
   (PF.args [.osl o 1 A.length (v.length+1),aF v]) (PH.nil.set o (.rows 1 (aJ (A++W++Z)))):=by
 simp only[go_sem,γ,uC,UV,UW,xF]
 refine wp_loop (α:=List Nat × Nat) (fun t=>aFM v A.length o t.1.length t.2) (fun t=>PH.nil.set o (.rows 1 (aJ (A++(t.1++W.drop t.1.length)++Z))))
  (fun t=>t.1.length≤v.length∧Lim t.1∧t.2≤1∧val (W.take t.1.length)+val (v.take t.1.length)=val t.1+4294967296 ^ t.1.length*t.2) (fun t=>v.length-t.1.length) ([],0)
  ⟨by simp,by simp[Lim],by simp,by simp[val]⟩ ?_ (PH.aI PH.nil_le (by simp only[go_sem,bMD,bKW,bML])) ?_
 ·unfold aFM
  exact Lq
 rintro⟨P,c⟩ ⟨hP,bIM,hc,bII⟩
 simp only at hP bIM hc bII
 simp only[go_sem,γ,reduceCtorEq,UU,UX,aFM]
 by_cases c1:P.length<v.length
 ·have c1':(P.length:Int)<(v.length:Nat):=by omega
  have c2:P.length<W.length:=by omega
  have c2':(P.length:Int)<((v.length+1:Nat):Int):=by omega
  have hx:=hv _ (bJX c1)
  have hw:=hW _ (bJX c2)
  have htv:=bW v c1
  have htw:=bW W c2
  have hat:=afQ (A:=A) (Z:=Z) (P:=P) rfl c2
  have bJM:=DQ (A:=A) (Z:=Z) (P:=P) rfl c2
  generalize hxe:v[P.length]=x at *
  generalize hwe:W[P.length]=y at *
  have hvx:(aJ v)[P.length]?=some [.int .u32 ((x:Nat):Int)]:=by rw[bK v c1,hxe]
  have ex:IntKind.u64.wrap ((x:Nat):Int)=((x:Nat):Int):=bF Om
  have ey:IntKind.u64.wrap ((y:Nat):Int)=((y:Nat):Int):=bF Om
  have e1:IntKind.u64.wrap ((y:Int)+(x:Int))=((y+x:Nat):Int):=eQ Om
  have e2:IntKind.u64.wrap ((c:Int)+((y+x:Nat):Int))=((c+(y+x):Nat):Int):=eQ Om
  have hs:=bJM ((c+(y+x))%4294967296)
  simp only[go_sem,γ,reduceCtorEq,c1',UY,hvx,UZ,c2',hat,ex,ey,e1,e2,VA,cA,hs,VB,uW,VC,dH (Om:P.length<9223372036854775807)]
  refine aH (P++[(c+(y+x))%4294967296],(c+(y+x))/4294967296) ⟨by simp; omega,bIM.app fun z hz=>by simp at hz; subst hz; exact bLJ _ (by decide),by simp only; omega,?_⟩ (by simp; omega) ?_ (PH.aI PH.nil_le ?_)
  ·simp only
   rw[bKA,bKH,iH,htw,htv,bLN,bKP]
   have h5:4294967296 ^ P.length*(4294967296*((c+(y+x))/4294967296))+4294967296 ^ P.length*((c+(y+x))%4294967296)=4294967296 ^ P.length*c+(4294967296 ^ P.length*y+4294967296 ^ P.length*x):=by
    rw[← bKG,bNA,bKG,bKG]
   omega
  ·simp only
   rw[bKA,bKH]
   exact Lq
  ·simp only
   rw[bKA,bKH]
   simp only[go_sem]
 ·have e:P.length=v.length:=by omega
  have c1':¬ (P.length:Int)<(v.length:Nat):=by omega
  have c2:v.length<W.length:=by omega
  have c2':((v.length:Nat):Int)<((v.length+1:Nat):Int):=by omega
  have hw:=hW _ (bJX c2)
  have htw:=bW W c2
  have hat:=afQ (A:=A) (Z:=Z) (P:=P) e c2
  have bJM:=DQ (A:=A) (Z:=Z) (P:=P) e c2
  have hWall:val (W.take (v.length+1))=val W:=by rw[bKK Om]
  generalize hwe:W[v.length]=y at *
  have hP':=eN bIM
  rw[e] at bII hP'
  rw[bKS] at bII
  rw[hWall] at htw
  have ec:IntKind.u32.wrap ((c:Nat):Int)=((c:Nat):Int):=by rw[cA,bLE Om]
  have ey:IntKind.u32.wrap ((y:Int)+(c:Int))=(((y+c)%4294967296:Nat):Int):=by
   rw[show (y:Int)+(c:Int)=((y+c:Nat):Int) by omega,cA]
  have hs:=bJM ((y+c)%4294967296)
  have hLd:Lim (P++[(y+c)%4294967296]):=bIM.app fun z hz=>by simp at hz; subst hz; exact bLJ _ (by decide)
  have hdl:=eN hLd
  rw[bKA,bKH,e] at hdl
  have hD:dN (v.length+1) (val W+val v)=P++[(y+c)%4294967296]:=by
   refine blK hLd (by rw[bKA,bKH,e]) ?_
   have:val W+val v=val (P++[(y+c)%4294967296])+4294967296 ^ (v.length+1)*((y+c)/4294967296):=by
    rw[iH,e,bLN,bKP,bMG,← bKG,Nat.mod_add_div,bKG]
    omega
   rw[this,Nat.add_mul_mod_self_left,bLE hdl]
  have hdr:W.drop (v.length+1)=[]:=bNF Om
  simp only[go_sem,γ,reduceCtorEq,c1',VD,e,c2',hat,ec,ey,hs]
  refine aX (vs:=[]) (.inl rfl) (PH.nil.set o (.rows 1 (aJ (A++(P++[(y+c)%4294967296]++W.drop (v.length+1))++Z)))) rfl (PH.aI PH.nil_le Sq) ⟨rfl,?_⟩
  rw[hD,hdr,bLM]
def a1U (o n:Nat) (len:Nat):PF:=((PF.nil.set 0 (.osl o 1 0 len)).set 3 (.int .i64 n))
theorem aNU {C:Ctx} (xs:List Nat) (hx:Lim xs) (hl:xs.length≤35184372087808) (o:Nat):mY.wp C (aT rU.res (fun r H'=>r=.int .i64 (nl (val xs):Nat)∧H'=PH.nil.set o (.rows 1 (aJ xs)))) (PF.args [.osl o 1 0 xs.length]) (PH.nil.set o (.rows 1 (aJ xs))):=by
 simp only[go_sem,γ,reduceCtorEq,mY,HI,HJ,rU]
 refine wp_loop (α:=Nat) (fun n=>a1U o n xs.length) (fun _=>PH.nil.set o (.rows 1 (aJ xs))) (fun n=>n≤xs.length∧∀ j x,n≤j→xs[j]?=some x→x=0) (fun n=>n) xs.length ⟨bJV _,fun j x h e=>by rw[bLG h] at e; cases e⟩ ?_ PH.le_refl ?_
 ·unfold a1U
  exact Lq
 rintro n ⟨hn,hz⟩
 have out:(∀ x,0<n→xs[n-1]?=some x→x≠0)→nl (val xs)=n:=fun h=>aVN hx hn hz h
 simp only[go_sem,γ,reduceCtorEq,HH,HK,a1U]
 by_cases h0:(n:Int)>0
 ·have hp:0<n:=by omega
  have hi:=bK xs (Om:n-1<xs.length)
  have hlt:((n-1:Nat):Int)<(xs.length:Nat):=by omega
  simp only[go_sem,γ,reduceCtorEq,h0,tR (Om:n≤9223372036854775807) hp,hi,hlt]
  by_cases hz0:xs[n-1]=0
  ·simp only[go_sem,γ,reduceCtorEq,bO (Om:((xs[n-1]:Nat):Int)=0),HL,tR (Om:n≤9223372036854775807) hp]
   refine aH (n-1) ⟨by omega,fun j x hj he=>?_⟩ Om ?_ PH.le_refl
   ·rcases bKM j n with h | h
    ·have:j=n-1:=by omega
     subst this
     rw[bKD Om] at he
     cases he; exact hz0
    ·exact hz j x h he
   ·exact Lq
  ·simp only[go_sem,γ,reduceCtorEq,bB (Om:((xs[n-1]:Nat):Int)≠0),qX]
   refine aX (.inr rfl) _ rfl PH.le_refl ⟨?_,rfl⟩
   rw[out fun x _ he=>by rw[bKD Om] at he; cases he; exact hz0]
   rfl
 ·simp only[go_sem,γ,reduceCtorEq,h0,qX]
  refine aX (.inr rfl) _ rfl PH.le_refl ⟨?_,rfl⟩
  rw[out fun x h=>by omega]
  rfl
end Go.PM
namespace Go.Na
structure Kn (V W top next Vr head u2 Wr p:Nat):Prop where
 hV:V=top*(4294967296*p)+next*p+Vr
 hW:W=head*(4294967296*p)+u2*p+Wr
 hVr:Vr<p
 hWr:Wr<p
 htop:2147483648≤top
 bIR:next<4294967296
 hu2:u2<4294967296
 hlt:W<V*4294967296
section
variable {V W top next Vr head u2 Wr p:Nat}
theorem Kn.low (K:Kn V W top next Vr head u2 Wr p):next*p+Vr<4294967296*p∧u2*p+Wr<4294967296*p:=by
 have h1:(next+1)*p≤4294967296*p:=bLA _ K.bIR
 have h2:(u2+1)*p≤4294967296*p:=bLA _ K.hu2
 rw[bKY,Nat.one_mul] at h1 h2
 have:=K.hVr
 have:=K.hWr
 omega
theorem Kn.axH (K:Kn V W top next Vr head u2 Wr p):0<V∧4294967296*p≤V∧0<p:=by
 have:=K.hVr
 have h:1*(4294967296*p)≤top*(4294967296*p):=bLA _ (by have:=K.htop; omega)
 have:=K.hV
 omega
theorem Kn.bsG (K:Kn V W top next Vr head u2 Wr p):W/V<4294967296:=by
 rw[bMP K.axH.1,bKT]; exact K.hlt
theorem Kn.g0 (K:Kn V W top next Vr head u2 Wr p):W/V≤head/top:=by
 have ht:0<top:=by have:=K.htop; omega
 rw[Nat.le_div_iff_mul_le ht]
 have h1:W/V*V≤W:=Nat.div_mul_le_self W V
 have h2:W/V*(top*(4294967296*p))≤W/V*V:=bLZ _ (by have:=K.hV; omega)
 have h3:=K.low.2
 have h4:=K.hW
 have h5:(W/V*top)*(4294967296*p)<(head+1)*(4294967296*p):=by
  rw[bKP,bKY,Nat.one_mul]; omega
 have:=Nat.lt_of_mul_lt_mul_right h5
 omega
theorem Kn.g1 (K:Kn V W top next Vr head u2 Wr p) {g r:Nat} (hg:g*top+r=head) (hq:W/V≤g) (h:g≥4294967296∨g*next>r*4294967296+u2):1≤g∧W/V≤g-1:=by
 have hql:=K.bsG
 have hdiv:=Nat.div_mul_le_self W V
 generalize W/V=Q at *
 rcases h with h | h
 ·omega
 ·have hne:Q≠g:=by
   intro e
   have h1:g*V≤W:=by rw[← e]; exact hdiv
   have h2:g*V=g*top*(4294967296*p)+g*next*p+g*Vr:=by rw[K.hV,bKG,bKG,bKP,bKP]
   have h3:(r*4294967296+u2+1)*p≤g*next*p:=bLA _ h
   rw[bKY,bKY,Nat.one_mul,bKP r] at h3
   have h4:g*top*(4294967296*p)+r*(4294967296*p)=head*(4294967296*p):=by rw[← bKY,hg]
   have:=K.hW
   have:=K.hWr
   omega
  omega
theorem Kn.g2 (K:Kn V W top next Vr head u2 Wr p) {g r:Nat} (hg:g*top+r=head) (hl:g≤4294967296) (h:g*next≤r*4294967296+u2):g≤W/V+1:=by
 rcases bMT g with e | e
 ·rw[e]; exact bKF _
 have h2:g*V=g*top*(4294967296*p)+g*next*p+g*Vr:=by rw[K.hV,bKG,bKG,bKP,bKP]
 have h3:g*next*p≤(r*4294967296+u2)*p:=bLA _ h
 rw[bKY,bKP r] at h3
 have h4:g*top*(4294967296*p)+r*(4294967296*p)=head*(4294967296*p):=by rw[← bKY,hg]
 have h5:g*Vr≤4294967296*Vr:=bLA _ hl
 have h6:4294967296*(Vr+1)≤4294967296*p:=bLZ _ K.hVr
 have hV:=K.axH
 have hW:=K.hW
 have h7:(g-1)*V≤W:=by
  have:g*V=(g-1)*V+V:=by
   obtain⟨k,rfl⟩:∃ k,g=k+1:=⟨g-1,by omega⟩
   rw[bKY,Nat.one_mul]; rfl
  omega
 have:=(Nat.le_div_iff_mul_le hV.1).2 h7
 generalize W/V=Q at *
 clear h2 h3 h4 h5 h7
 omega
theorem Kn.g3 (K:Kn V W top next Vr head u2 Wr p) {g r:Nat} (hg:g*top+r=head) (hl:g≤4294967296) (hr:4294967296≤r):g≤W/V+1:=by
 have hlow:=K.low.1
 have hV:=K.axH
 have h2:g*V=g*top*(4294967296*p)+g*(next*p+Vr):=by rw[K.hV,bMG,bKG,bKP]
 have h3:g*(next*p+Vr)≤4294967296*(4294967296*p):=Nat.mul_le_mul hl Om
 have h4:g*top*(4294967296*p)+r*(4294967296*p)=head*(4294967296*p):=by rw[← bKY,hg]
 have h5:4294967296*(4294967296*p)≤r*(4294967296*p):=bLA _ hr
 have hW:=K.hW
 have h7:g*V≤W:=by omega
 have:=(Nat.le_div_iff_mul_le hV.1).2 h7
 generalize W/V=Q at *
 clear h2 h3 h4 h5 h7
 omega
theorem Kn.g4 (K:Kn V W top next Vr head u2 Wr p):head/top≤4294967296+1:=by
 have hlow:=K.low.1
 have hV:=K.axH
 have hW:=K.hW
 have hlt:=K.hlt
 have ht:=K.htop
 have h1:head<(top+1)*4294967296:=by
  have h2:V<(top+1)*(4294967296*p):=by rw[K.hV,bKY,Nat.one_mul]; omega
  have h3:V*4294967296≤(top+1)*(4294967296*p)*4294967296:=bLA _ (Nat.le_of_lt h2)
  have h4:head*(4294967296*p)<(top+1)*4294967296*(4294967296*p):=by
   have:(top+1)*(4294967296*p)*4294967296=(top+1)*4294967296*(4294967296*p):=by rw[bKP,bKT (4294967296*p) 4294967296,← bKP]
   omega
  exact Nat.lt_of_mul_lt_mul_right h4
 have h5:head/top<4294967296+2:=by
  rw[bMP Om]
  omega
 omega
end
theorem tC:∀ (k n:Nat),dN (k+1) n=dN k n++[n/4294967296 ^ k%4294967296]
 | 0,n=>by simp[dN]
 | k+1,n=>by
  show (n%4294967296)::dN (k+1) (n/4294967296)=(n%4294967296)::dN k (n/4294967296)++[n/4294967296 ^ (k+1)%4294967296]
  rw[tC k (n/4294967296),Nat.div_div_eq_div_mul,bLN,bKT 4294967296]
  rfl
theorem sG {xs:List Nat} (h:Lim xs):∀ {k:Nat},k≤xs.length→val (xs.drop k)=val xs/4294967296 ^ k:=by
 intro k hk
 have e:val xs=val (xs.take k)+4294967296 ^ k*val (xs.drop k):=by
  conv=>lhs; rw[← bMF k xs,fF,bKL,bLY hk]
 have hl:=eN (h.take k)
 rw[bKL,bLY hk] at hl
 rw[e,Nat.add_mul_div_left _ _ (bMM (by decide)),bNB hl,bKN]
theorem VI {R s i u0 u1 X:Nat} (hs:s<32) (h:R/4294967296 ^ i=u0+4294967296*(u1+4294967296*X)):(R/2 ^ s)/4294967296 ^ i%4294967296=(4294967296*u1+u0)/2 ^ s%4294967296:=by
 rw[Nat.div_div_eq_div_mul,bKT (2 ^ s),← Nat.div_div_eq_div_mul,h]
 have hp:4294967296*4294967296=2 ^ s*(2 ^ (32-s)*4294967296):=by
  rw[← bKP,← Nat.pow_add,show s+(32-s)=32 by omega]
 have e:u0+4294967296*(u1+4294967296*X)=(4294967296*u1+u0)+2 ^ s*(2 ^ (32-s)*X*4294967296):=by
  have:4294967296*(4294967296*X)=2 ^ s*(2 ^ (32-s)*X*4294967296):=by
   rw[← bKP,hp,bKP,bKP,bKP,bKT 4294967296 X]
  rw[bKG,this]; omega
 rw[e,Nat.add_mul_div_left _ _ (bMM (by decide)),Nat.add_mul_mod_self_right]
end Go.Na
namespace Go.PM
open Go Go.Na
theorem boY {A W Z:List Nat} {i:Nat} (hi:i<W.length):(aJ (A++W++Z))[A.length+i]?=some [.int .u32 ((W[i]:Nat):Int)]:=by
 have hl:A.length+i<(A++W++Z).length:=by simp; omega
 rw[bK _ hl]
 congr 4
 rw[List.getElem_append_left (by simp; omega),List.getElem_append_right Om]
 congr 1
 omega
def dF (u v:PV) (n:Nat) (q:PV) (top next j s:Nat):PF:=((((((((PF.nil.set 8 (.int .u64 s)).set 9 (u)).set 10 (v)).set 11 (.int .i64 n)).set 12 (q)).set 13 (.int .u64 top)).set 14 (.int .u64 next)).set 15 (.int .i64 j))
def dG (u v:PV) (n:Nat) (q:PV) (top next j s g r:Nat):PF:=((((((((((PF.nil.set 8 (.int .u64 s)).set 9 (u)).set 10 (v)).set 11 (.int .i64 n)).set 12 (q)).set 13 (.int .u64 top)).set 14 (.int .u64 next)).set 15 (.int .i64 j)).set 17 (.int .u64 g)).set 18 (.int .u64 r))
theorem awB {C:Ctx} {V Wv top next Vr head u2 Wr p:Nat} (Kk:Kn V Wv top next Vr head u2 Wr p) (htop:top<4294967296) (o lu m j s:Nat) (v q:PV) (hjm:j+m+2<lu) (hlu:lu≤100000) (U:List Nat) (hU:(aJ U)[j+m]?=some [.int .u32 (u2:Nat)]) (K:cN) (F:PF) (H:PH)
  (hF:(dG (.osl o 1 0 lu) v (m+2) q top next j s (head/top) (head%top)).le F) (hH:H o=some (.rows 1 (aJ U)))
  (hK:∀ g r F',Wv/V≤g→g≤Wv/V+1→g≤4294967296→(dG (.osl o 1 0 lu) v (m+2) q top next j s g r).le F'→K .normal F' H) :
  aC.wp C (.block 4 (.loop sO)) K F H:=by
 have ht0:0<top:=by have:=Kk.htop; omega
 have hn:=Kk.bIR
 have hu2:=Kk.hu2
 simp only[go_sem]
 refine wp_loop (α:=Nat × Nat) (fun t=>dG (.osl o 1 0 lu) v (m+2) q top next j s t.1 t.2) (fun _=>H) (fun t=>t.1*top+t.2=head∧Wv/V≤t.1∧t.1≤4294967296+1∧t.2<4294967296) (fun t=>t.1) (head/top,head%top)
  ⟨by simp only; rw[bKT]; exact bNA head top,Kk.g0,Kk.g4,Nat.lt_trans (bLJ _ ht0) htop⟩ hF PH.le_refl ?_
 rintro⟨g,r⟩ ⟨hg,hq,hgl,hr⟩
 simp only at hg hq hgl hr
 have e1:IntKind.i64.wrap ((j:Int)+((m+2:Nat):Int))=((j+(m+2):Nat):Int):=fQ Om
 have e2:IntKind.i64.wrap (((j+(m+2):Nat):Int)-2)=((j+m:Nat):Int):=by rw[wrap_i64 Om Om]; omega
 have hlt:((j+m:Nat):Int)<(lu:Nat):=by omega
 have eu2:IntKind.u64.wrap ((u2:Nat):Int)=((u2:Nat):Int):=bF Om
 have esh:shift .shl .u64 (r:Int) 32=some (.int .u64 ((2 ^ 32*r:Nat):Int)):=ID (s:=32) Om Om
 have e32:(2:Nat) ^ 32=4294967296:=by decide
 have eor:=orI (a:=2 ^ 32*r) (b:=u2) (n:=2 ^ 32*r+u2) Om Om (Nat.two_pow_add_eq_or_of_lt Om r).symm Om
 rw[e32] at esh eor
 have more:(g≥4294967296∨g*next>r*4294967296+u2)→∀ F':PF,(dG (.osl o 1 0 lu) v (m+2) q top next j s g r).le F'→aC.wp C (.block 5 (.seq (.region AQ) (.seq (.region AR) (.seq (.region AS) (.cond (.tmp 136) (.exit 4) .skip)))))
   (eE (fun t:Nat × Nat=>dG (.osl o 1 0 lu) v (m+2) q top next j s t.1 t.2) (fun _=>H) (fun t=>t.1*top+t.2=head∧Wv/V≤t.1∧t.1≤4294967296+1∧t.2<4294967296) (fun t=>t.1) g (dW 4 K)) F' H:=by
  intro hc F' hF'
  obtain⟨g1,g2⟩:=Kk.g1 hg hq hc
  have f8:=hF' 8 _ (by unfold dG; simp only[go_sem,γ]; rfl)
  have f9:=hF' 9 _ (by unfold dG; simp only[go_sem,γ]; rfl)
  have f10:=hF' 10 _ (by unfold dG; simp only[go_sem,γ]; rfl)
  have f11:=hF' 11 _ (by unfold dG; simp only[go_sem,γ]; rfl)
  have f12:=hF' 12 _ (by unfold dG; simp only[go_sem,γ]; rfl)
  have f13:=hF' 13 _ (by unfold dG; simp only[go_sem,γ]; rfl)
  have f14:=hF' 14 _ (by unfold dG; simp only[go_sem,γ]; rfl)
  have f15:=hF' 15 _ (by unfold dG; simp only[go_sem,γ]; rfl)
  have f17:=hF' 17 _ (by unfold dG; simp only[go_sem,γ]; rfl)
  have f18:=hF' 18 _ (by unfold dG; simp only[go_sem,γ]; rfl)
  have w1:IntKind.u64.wrap ((g:Int)-1)=((g-1:Nat):Int):=by rw[wrap_u64 Om Om]; omega
  have w2:IntKind.u64.wrap ((r:Int)+(top:Int))=((r+top:Nat):Int):=eQ Om
  have hg':(g-1)*top+(r+top)=head:=by
   obtain⟨k,rfl⟩:∃ k,g=k+1:=⟨g-1,by omega⟩
   rw[bKY,Nat.one_mul] at hg
   simp only[Nat.add_sub_cancel]
   omega
  simp only[go_sem,δ,γ,AQ,AR,AS,f17,f18,f13,w1,w2]
  by_cases c:r+top≥4294967296
  ·have c':((r+top:Nat):Int)≥4294967296:=by omega
   simp only[go_sem,γ,c']
   refine hK (g-1) (r+top) _ g2 (Kk.g3 hg' Om c) Om ?_
   unfold dG
   exact Lq
  ·have c':¬ ((r+top:Nat):Int)≥4294967296:=by omega
   simp only[go_sem,c']
   refine aH (g-1,r+top) ⟨hg',g2,by simp only; omega,by simp only; omega⟩ (by simp only; omega) ?_ PH.le_refl
   unfold dG
   exact Lq
 simp only[go_sem,δ,γ,sO,UN,dG]
 by_cases c1:g≥4294967296
 ·have c1':(g:Int)≥4294967296:=by omega
  simp only[go_sem,γ,c1']
  have:=more (.inl c1)
  simp only[go_sem,δ,dG] at this
  refine this _ ?_
  exact Lq
 ·have c1':¬ (g:Int)≥4294967296:=by omega
  have hgn:g*next≤4294967295*4294967295:=Nat.mul_le_mul Om Om
  have em:IntKind.u64.wrap ((g:Int)*(next:Int))=((g*next:Nat):Int):=by
   rw[show (g:Int)*(next:Int)=((g*next:Nat):Int) by simp]
   exact bF Om
  simp only[go_sem,γ,reduceCtorEq,c1',em,esh,e1,e2,hlt,hH,hU,eu2,eor]
  by_cases c2:g*next>r*4294967296+u2
  ·have c2':((g*next:Nat):Int)>((4294967296*r+u2:Nat):Int):=by omega
   simp only[go_sem,c2']
   have:=more (.inr c2)
   simp only[go_sem,δ,dG] at this
   refine this _ ?_
   exact Lq
  ·have c2':¬ ((g*next:Nat):Int)>((4294967296*r+u2:Nat):Int):=by omega
   simp only[go_sem,c2']
   refine hK g r _ hq (Kk.g2 hg Om Om) Om ?_
   unfold dG
   exact Lq
end Go.PM
namespace Go.Na
theorem bvM {W v:List Nat} {m:Nat} (hW:Lim W) (hv:Lim v) (hlv:v.length=m+2) (hlW:W.length=m+3) (ht:2147483648≤v[m+1]) (hlt:val W<val v*4294967296) :
  Kn (val v) (val W) (v[m+1]) (v[m]) (val (v.take m)) (W[m+2]*4294967296+W[m+1]) (W[m]) (val (W.take m)) (4294967296 ^ m):=by
 have e1:val v=val (v.take m)+4294967296 ^ m*(v[m]+4294967296*v[m+1]):=by
  rw[pX v (Om:m<v.length)]
  congr 4
  have:v.drop (m+1)=[v[m+1]]:=by
   rw[bLP Om,bNF Om]
  rw[this]; simp[val]
 have e2:val W=val (W.take m)+4294967296 ^ m*(W[m]+4294967296*(W[m+1]+4294967296*W[m+2])):=by
  rw[pX W (Om:m<W.length)]
  congr 4
  have:W.drop (m+1)=[W[m+1],W[m+2]]:=by
   rw[bLP Om,bLP Om,bNF Om]
  rw[this]; simp[val]
 have l1:=eN (hv.take m)
 have l2:=eN (hW.take m)
 rw[bKL,bLY Om] at l1 l2
 refine⟨?_,?_,l1,l2,ht,hv _ (bJX _),hW _ (bJX _),hlt⟩
 ·rw[e1,bKG,bKT (4294967296 ^ m) (v[m]),← bKP (4294967296 ^ m),bKT (4294967296 ^ m*4294967296),bKT (4294967296 ^ m) 4294967296]
  omega
 ·rw[e2,bKG,bKT (4294967296 ^ m) (W[m]),← bKP (4294967296 ^ m),bKT (4294967296 ^ m*4294967296),bKT (4294967296 ^ m) 4294967296,bKT (W[m+2]),Nat.add_comm (4294967296*W[m+2])]
  omega
end Go.Na
namespace Go.PM
open Go Go.Na
structure awI (C:Ctx):Prop where
 subtract:∀ (A W Z v:List Nat) (f o:Nat),Lim W→Lim v→W.length=v.length+1→A.length+v.length≤100000→f≤4294967296→val v*f≤val W+4294967296 ^ (v.length+1) →
  aE C 142 [.osl o 1 A.length (v.length+1),aF v,.int .u64 f] (PH.nil.set o (.rows 1 (aJ (A++W++Z)))) (fun r H'=>r=.bool (decide (val W<val v*f))∧H'=PH.nil.set o (.rows 1 (aJ (A++dN (v.length+1) (II (v.length+1) (val W) (val v*f))++Z))))
 restore:∀ (A W Z v:List Nat) (o:Nat),Lim W→Lim v→W.length=v.length+1→A.length+v.length≤100000 →
  aE C 139 [.osl o 1 A.length (v.length+1),aF v] (PH.nil.set o (.rows 1 (aJ (A++W++Z)))) (fun r H'=>r=.tup []∧H'=PH.nil.set o (.rows 1 (aJ (A++dN (v.length+1) (val W+val v)++Z))))
theorem ayM (k n:Nat):dN k (n%4294967296 ^ k)=dN k n :=
 aSC (kT _ _) (kT _ _) (by rw[jV,jV]) (by rw[xR,xR,Nat.mod_mod])
theorem awA {C:Ctx} (D:awI C) (A W Z v Q:List Nat) (m o oq lu s:Nat) (hne:oq≠o) (hW:Lim W) (hv:Lim v) (hlv:v.length=m+2) (hlW:W.length=m+3) (ht:2147483648≤v[m+1]) (hlt:val W<val v*4294967296)
  (hlu:lu=A.length+(m+3)+Z.length) (bJK:lu≤10000) (hjq:A.length<Q.length) (K:cN) (F:PF) (H:PH) (hF:(dF (.osl o 1 0 lu) (aF v) (m+2) (.osl oq 1 0 Q.length) (v[m+1]) (v[m]) A.length s).le F)
  (hH:H o=some (.rows 1 (aJ (A++W++Z)))) (hHq:H oq=some (.rows 1 (aJ Q)))
  (hK:∀ F' H',(dF (.osl o 1 0 lu) (aF v) (m+2) (.osl oq 1 0 Q.length) (v[m+1]) (v[m]) A.length s).le F'→H' o=some (.rows 1 (aJ (A++dN (m+3) (val W%val v)++Z)))→H' oq=some (.rows 1 (aJ (Q.set A.length (val W/val v))))→K .normal F' H') :
  aC.wp C (.block 3 (.seq (.draw AO) (.seq (.draw AP) (.seq (.block 4 (.loop sO)) (.seq (.seq (.region AU) (.cond (.tmp 146) (.seq (.region AV) (.region AW)) .skip)) (.region sP)))))) K F H:=by
 have Kk:=bvM hW hv hlv hlW ht hlt
 have hgetU:∀ i (h:i<W.length),(aJ (A++W++Z))[A.length+i]?=some [.int .u32 ((W[i]:Nat):Int)]:=fun i h=>boY h
 have g0:=hgetU (m+2) Om
 have g1:=hgetU (m+1) Om
 have g2:=hgetU m Om
 have hq:=Kk.bsG
 have htop:v[m+1]<4294967296:=hv _ (bJX _)
 have hu0:=hW _ (bJX (Om:m+2<W.length))
 have hu1:=hW _ (bJX (Om:m+1<W.length))
 have hVpos:=Kk.axH.1
 generalize hte:v[m+1]=top at *
 generalize hnx:v[m]=next at *
 generalize hw0:W[m+2]=u0 at *
 generalize hw1:W[m+1]=u1 at *
 generalize hw2:W[m]=u2 at *
 have f8:=hF 8 _ (by unfold dF; simp only[go_sem,γ]; rfl)
 have f9:=hF 9 _ (by unfold dF; simp only[go_sem,γ]; rfl)
 have f10:=hF 10 _ (by unfold dF; simp only[go_sem,γ]; rfl)
 have f11:=hF 11 _ (by unfold dF; simp only[go_sem,γ]; rfl)
 have f12:=hF 12 _ (by unfold dF; simp only[go_sem,γ]; rfl)
 have f13:=hF 13 _ (by unfold dF; simp only[go_sem,γ]; rfl)
 have f14:=hF 14 _ (by unfold dF; simp only[go_sem,γ]; rfl)
 have f15:=hF 15 _ (by unfold dF; simp only[go_sem,γ]; rfl)
 have e1:IntKind.i64.wrap ((A.length:Int)+((m+2:Nat):Int))=((A.length+(m+2):Nat):Int):=fQ Om
 have e2:IntKind.i64.wrap (((A.length+(m+2):Nat):Int)-1)=((A.length+(m+1):Nat):Int):=by rw[wrap_i64 Om Om]; omega
 have c0:((A.length+(m+2):Nat):Int)<(lu:Nat):=by omega
 have c1:((A.length+(m+1):Nat):Int)<(lu:Nat):=by omega
 have eu0:IntKind.u64.wrap ((u0:Nat):Int)=((u0:Nat):Int):=bF Om
 have eu1:IntKind.u64.wrap ((u1:Nat):Int)=((u1:Nat):Int):=bF Om
 have esh:shift .shl .u64 (u0:Int) 32=some (.int .u64 ((2 ^ 32*u0:Nat):Int)):=ID (s:=32) Om Om
 have e32:(2:Nat) ^ 32=4294967296:=by decide
 have eor:=orI (a:=2 ^ 32*u0) (b:=u1) (n:=2 ^ 32*u0+u1) Om Om (Nat.two_pow_add_eq_or_of_lt Om u0).symm Om
 rw[e32] at esh eor
 have hcm:4294967296*u0+u1=u0*4294967296+u1:=by omega
 rw[hcm] at eor
 simp only[go_sem]
 refine bR H eG PH.le_refl ?_
 simp only[go_sem,γ,reduceCtorEq,AO,f9,f15,f11,e1,e2,c0,c1,hH,g0,g1,eu0,eu1,esh,eor]
 refine bR H eG PH.le_refl ?_
 have ht0:0<top:=by omega
 have htz:¬ ((top:Nat):Int)=0:=by omega
 generalize hhd:u0*4294967296+u1=head at *
 have equo:IntKind.u64.wrap (Int.tdiv ((head:Nat):Int) ((top:Nat):Int))=((head/top:Nat):Int):=by
  rw[show Int.tdiv ((head:Nat):Int) ((top:Nat):Int)=((head/top:Nat):Int) from rfl]
  exact bF (by have:=Kk.g4; omega)
 have erem:Int.tmod ((head:Nat):Int) ((top:Nat):Int)=((head%top:Nat):Int):=rfl
 simp only[go_sem,γ,AP,f13,htz,equo,erem]
 have guess:=awB (C:=C) Kk htop o lu m A.length s (aF v) (.osl oq 1 0 Q.length) Om Om (A++W++Z) g2
 simp only[go_sem] at guess
 refine guess _ _ H ?_ hH ?_
 ·unfold dG
  refine PF.aI (PF.aI (PF.aI (PF.aI (PF.aI (PF.aI (PF.aI (PF.aI (PF.aI (PF.aI PF.nil_le ?_) ?_) ?_) ?_) ?_) ?_) ?_) ?_) ?_) ?_<;>simp only[go_sem,γ,f8,f9,f10,f11,f12,f13,f14,f15]
 clear guess
 intro g r F' q1 q2 q3 hF'
 have h8:=hF' 8 _ (by unfold dG; simp only[go_sem,γ]; rfl)
 have h9:=hF' 9 _ (by unfold dG; simp only[go_sem,γ]; rfl)
 have h10:=hF' 10 _ (by unfold dG; simp only[go_sem,γ]; rfl)
 have h11:=hF' 11 _ (by unfold dG; simp only[go_sem,γ]; rfl)
 have h12:=hF' 12 _ (by unfold dG; simp only[go_sem,γ]; rfl)
 have h13:=hF' 13 _ (by unfold dG; simp only[go_sem,γ]; rfl)
 have h14:=hF' 14 _ (by unfold dG; simp only[go_sem,γ]; rfl)
 have h15:=hF' 15 _ (by unfold dG; simp only[go_sem,γ]; rfl)
 have h17:=hF' 17 _ (by unfold dG; simp only[go_sem,γ]; rfl)
 have e3:IntKind.i64.wrap (((A.length+(m+2):Nat):Int)+1)=((A.length+(m+3):Nat):Int):=by rw[wrap_i64 Om Om]; omega
 have c3:((A.length:Nat):Int)≤((A.length+(m+3):Nat):Int):=by omega
 have c4:((A.length+(m+3):Nat):Int)≤(lu:Nat):=by omega
 have e4:A.length+(m+3)-A.length=v.length+1:=by omega
 have hvl:v.length+1=m+3:=by omega
 have hdm:val v*(val W/val v)+val W%val v=val W:=bNA _ _
 have hWlt:=eN hW
 rw[hlW] at hWlt
 have hmodlt:val W%val v<val v:=bLJ _ hVpos
 have hvlt:=eN hv
 rw[hlv] at hvlt
 have hpow:4294967296 ^ (m+3)=4294967296 ^ (m+2)*4294967296:=bLN _ _
 generalize hQd:val W/val v=qd at *
 generalize hRd:val W%val v=rd at *
 have hfin:∀ (F2:PF) (H2:PH),F2 8=some (.int .u64 s)→F2 9=some (.osl o 1 0 lu)→F2 10=some (aF v)→F2 11=some (.int .i64 ((m+2:Nat):Int))→F2 12=some (.osl oq 1 0 Q.length)→F2 13=some (.int .u64 top)→F2 14=some (.int .u64 next)→F2 15=some (.int .i64 A.length)→F2 17=some (.int .u64 qd) →
   H2 o=some (.rows 1 (aJ (A++dN (m+3) rd++Z)))→H2 oq=some (.rows 1 (aJ Q))→aC.wp C (.region sP) (dW 3 K) F2 H2:=by
  intro F2 H2 k8 k9 k10 k11 k12 k13 k14 k15 k17 kH kQ
  have hqr:(aJ Q)[A.length]?=some [.int .u32 ((Q[A.length]:Nat):Int)]:=bK Q hjq
  have hlq:((A.length:Nat):Int)<(Q.length:Nat):=by omega
  have eq:IntKind.u32.wrap ((qd:Nat):Int)=((qd:Nat):Int):=by rw[cA,bLE hq]
  have bIC:=eV Q A.length qd
  have bIU:¬ o=oq:=fun h=>hne h.symm
  simp only[go_sem,γ,sP,k12,k15,k17,eq,hlq,kQ,hqr,bIC]
  refine hK _ _ ?_ (by simp only[go_sem,bIU,kH]) Sq
  unfold dF
  refine PF.aI (PF.aI (PF.aI (PF.aI (PF.aI (PF.aI (PF.aI (PF.aI PF.nil_le ?_) ?_) ?_) ?_) ?_) ?_) ?_) ?_<;>simp only[go_sem,γ,k8,k9,k10,k11,k12,k13,k14,k15]
 have hle:(PH.nil.set o (.rows 1 (aJ (A++W++Z)))).le H:=PH.aI PH.nil_le hH
 have bJE:val v*g≤val W+4294967296 ^ (v.length+1):=by
  have:val v*g≤val v*(qd+1):=bLZ _ q2
  rw[bKG,Nat.mul_one] at this
  rw[hvl,hpow]; omega
 simp only[go_sem,γ,reduceCtorEq,AU,h9,h15,h11,e1,e3,c3,c4,e4,h10,h17]
 refine eR (D.subtract A W Z v g o hW hv Om Om q3 bJE) rfl hle ?_
 rintro rr H' ⟨rfl,rfl⟩ -
 rw[PH.lG]
 by_cases hgq:g=qd
 ·subst hgq
  have hneg:¬ val W<val v*g:=by omega
  have hN:II (v.length+1) (val W) (val v*g)=rd:=by unfold II; rw[if_neg hneg]; omega
  rw[hN,hvl]
  simp only[go_sem,γ,hneg]
  have:=hfin
  simp only[go_sem] at this
  refine this _ _ ?_ ?_ ?_ ?_ ?_ ?_ ?_ ?_ ?_ ?_ ?_<;>simp only[go_sem,γ,h8,h9,h10,h11,h12,h13,h14,h15,h17,hne,hHq]
 ·have hg1:g=qd+1:=by omega
  subst hg1
  rw[bKG,Nat.mul_one]
  have hneg:val W<val v*qd+val v:=by omega
  have hN:II (v.length+1) (val W) (val v*qd+val v)=rd+4294967296 ^ (m+3)-val v:=by unfold II; rw[if_pos hneg,hvl]; omega
  rw[hN]
  have w1:IntKind.u64.wrap (((qd+1:Nat):Int)-1)=((qd:Nat):Int):=by rw[wrap_u64 Om Om]; omega
  simp only[go_sem,γ,reduceCtorEq,hneg,AV,h17,w1,AW,h9,h15,h11,e1,e3,c3,c4,e4,h10]
  have hD':val (dN (v.length+1) (rd+4294967296 ^ (m+3)-val v))=rd+4294967296 ^ (m+3)-val v:=mE (by rw[hvl]; omega)
  refine eR (D.restore A (dN (v.length+1) (rd+4294967296 ^ (m+3)-val v)) Z v o (kT _ _) hv (jV _ _) Om) rfl (PH.aI PH.nil_le Sq) ?_
  rintro rr H' ⟨rfl,rfl⟩ -
  rw[PH.lG,PH.set_set,hD']
  have hfinal:dN (v.length+1) (rd+4294967296 ^ (m+3)-val v+val v)=dN (m+3) rd:=by
   rw[hvl,← ayM (m+3) (rd+4294967296 ^ (m+3)-val v+val v)]
   rw[show rd+4294967296 ^ (m+3)-val v+val v=rd+4294967296 ^ (m+3) by omega,Nat.add_mod_right,ayM]
  rw[hfinal]
  simp only[go_sem]
  have:=hfin
  simp only[go_sem] at this
  refine this _ _ ?_ ?_ ?_ ?_ ?_ ?_ ?_ ?_ ?_ ?_ ?_<;>simp only[go_sem,γ,h8,h9,h10,h11,h12,h13,h14,h15,hne,hHq]
open Go
section
variable {C:Ctx} {K:cN} {F:PF} {H Hs:PH} {S:Spec}
theorem aPA {name:Nat} {vs:List PV} {R:PV→PH→Prop} {args:List aP} {st:Bool} {d:Option Nat} {K:PF→PH→Prop} (hS:S name vs=some ([],fun _=>R)) (h:aE C name vs .nil R) (ha:aP.evs F args=some vs)
  (hex:∀ G:PH,∃ r H',R r H'∧kJ G .nil H') (hk:∀ r H',R r H'→kJ H .nil H'→Hs.le (H.eJ .nil H')∧K (F.put d r) (H.eJ .nil H')):dOp C Hs S st (.call name args) d K F H:=by
 refine⟨vs,[],fun _=>R,ha,hS,fun o ho=>by simp at ho,by rw[rX]; exact h,fun G=>?_,fun r H' hr ha=>?_⟩
 ·obtain⟨r,H',h1,h2⟩:=hex G
  exact⟨r,H',h1,fun o x hx hn=>h2 o x hx (by simp[PH.nil])⟩
 ·rw[rX] at ha ⊢
  exact hk r H' hr ha
theorem PH.OL (H0:PH) (h:H0.le H):H.eJ H0 H0=H:=PH.ext fun q=>by
 rw[mD]
 cases e:H0 q with
 | none=>rfl
 | some x=>exact (h q x e).symm
theorem YP {o:Nat} {x:cP} (h:H o=some x):H.only [o]=PH.nil.set o x:=PH.ext fun q=>by
 rw[pR,bS]
 by_cases e:q=o
 ·subst e; simp[h]
 ·simp[e,alO]
theorem WN {name o:Nat} {x:cP} {vs:List PV} {v:PV} {R:PH→PV→PH→Prop} {args:List aP} {st:Bool} {d:Option Nat} {K:PF→PH→Prop} (hS:S name vs=some ([o],R)) (ho:H o=some x)
  (h:aE C name vs (PH.nil.set o x) (fun r H'=>r=v∧H'=PH.nil.set o x)) (hR1:R (PH.nil.set o x) v (PH.nil.set o x)) (hR2:∀ r H',R (PH.nil.set o x) r H'→r=v∧H'=PH.nil.set o x) (ha:aP.evs F args=some vs) (hle:Hs.le H) (hk:K (F.put d v) H) :
  dOp C Hs S st (.call name args) d K F H:=by
 have e:=YP ho
 refine⟨vs,[o],_,ha,hS,fun q hq=>?_,?_,fun G=>⟨v,_,by rw[e]; exact hR1,fun q y hy hn=>?_⟩,fun r H' hr _=>?_⟩
 ·simp at hq; subst hq; exact⟨x,ho⟩
 ·rw[e]
  exact h.post fun r H' hr=>⟨r,.refl _,by rw[hr.1,hr.2]; exact hR1⟩
 ·rw[e] at hn; rw[hy] at hn; cases hn
 ·rw[e] at hr
  obtain⟨rfl,rfl⟩:=hR2 r H' hr
  rw[e,PH.OL _ (by rw[← e]; exact SO H [o])]
  exact⟨hle,hk⟩
theorem aON {c:aC} {α:Type} (Fs:α→PF) (Hs:α→PH) (Pr:α→Prop) (m:α→Nat) (a0:α) (o:Nat) {s:Nat} {rs:List (List PV)} (ho:H o=some (.rows s rs)) (h0:Pr a0) (hF:(Fs a0).le (F.frz o s rs)) (hH:(Hs a0).le (H.frz o s rs))
  (hb:∀ a,Pr a→c.wp C (eE Fs Hs Pr m (m a) K) (Fs a) (Hs a)):aC.wp C (.loop c) K F H :=
 ⟨α,Fs,Hs,Pr,m,a0,_,_,.step o ho (.refl _ _),h0,hF,hH,hb⟩
@[go_sem] theorem vW (o s:Nat) (rs:List (List PV)) (q:Nat):(H.frz o s rs) q=if q=o then none else (H q).map (cP.frz o s rs):=(rfl)
theorem a9N {t u o1 o2 s1 s2 k1 k2:Nat} {rs1 rs2:List (List PV)} {R:PV→PH→Prop} {e:lJ} (he:e=.normal∨e=.ret) (hne:o1≠o2) (h1:F t=some (.osl o1 s1 0 k1)) (h2:F u=some (.osl o2 s2 0 k2)) (ho1:H o1=some (.rows s1 rs1)) (ho2:H o2=some (.rows s2 rs2))
  (hk1:k1≤rs1.length) (hk2:k2≤rs2.length) (hp2:rs2.map (fun r=>r.map (PV.dC o1 s1 rs1))=rs2) (hp1:(rs1.take k1)=rs1.take k1) (hR:R (.tup [.sl s1 (rs1.take k1),.sl s2 (rs2.take k2)]) .nil):aT [.tmp t,.tmp u] R e F H:=by
 have key:∃ vs,dQ.evs F H [.tmp t,.tmp u]=some vs∧∃ F1 H1 H2,iW (PF.nil.set 0 (aV vs)) H F1 H1∧H2.le H1∧∃ w,F1 0=some w∧R w H2:=by
  have bIU:o2≠o1:=fun h=>hne h.symm
  have e2:(H.frz o1 s1 rs1) o2=some (.rows s2 rs2):=by rw[vW,if_neg bIU,ho2]; simp only[bLF,cP.frz,hp2]
  refine⟨[.osl o1 s1 0 k1,.osl o2 s2 0 k2],by rw[kX,nY,h1,kX,nY,h2,pV],_,_,.nil,.step o1 ho1 (.step o2 e2 (.refl _ _)),PH.nil_le,_,?_,hR⟩
  have a1:0+k1≤rs1.length:=by omega
  have a2:0+k2≤rs2.length:=by omega
  simp only[PF.frz,nA,if_true,aV,bLF,PV.frz,PV.rO,PV.dC,bLX,List.map_nil,true_and,if_pos a1,if_pos a2,bKW,if_neg bIU]
 rcases he with rfl | rfl<;>exact key
end
end Go.PM
namespace Go.Na
structure mR (U0 V n lu lq:Nat) (k:Nat) (U Q:List Nat):Prop where
 lu':U.length=lu
 lq':Q.length=lq
 limU:Lim U
 limQ:Lim Q
 v:val U+val Q*V=U0
 r:val (U.drop k)<V
 z:∀ i x,i<k→Q[i]?=some x→x=0
theorem ayN {U0 V n lu lq j:Nat} {U Q:List Nat} (h:mR U0 V n lu lq (j+1) U Q) (hV:V<4294967296 ^ n) (hj:j<lq) (hl:lu=lq+n) :
  val ((U.drop j).take (n+1))<V*4294967296∧mR U0 V n lu lq j (U.take j++dN (n+1) (val ((U.drop j).take (n+1))%V)++U.drop (j+(n+1))) (Q.set j (val ((U.drop j).take (n+1))/V)):=by
 have hlu:=h.lu'
 have hlq:=h.lq'
 have hVpos:0<V:=by have:=h.r; omega
 have hju:j<U.length:=by omega
 have e1:val (U.drop j)=U[j]+4294967296*val (U.drop (j+1)):=by rw[bLP hju]; rfl
 have hUj:=h.limU _ (bJX hju)
 have hlt:val (U.drop j)<V*4294967296:=by have:=h.r; omega
 have hlW:((U.drop j).take (n+1)).length=n+1:=by rw[bKL,bLV]; omega
 have e2:val (U.drop j)=val ((U.drop j).take (n+1))+4294967296 ^ (n+1)*val (U.drop (j+(n+1))):=by
  conv=>lhs; rw[← bMF (n+1) (U.drop j),fF,hlW,List.drop_drop]
 have hpow:4294967296 ^ (n+1)=4294967296 ^ n*4294967296:=bLN _ _
 have hVB:V*4294967296≤4294967296 ^ n*4294967296:=bLA _ (Nat.le_of_lt hV)
 have hZ:val (U.drop (j+(n+1)))=0:=by
  rcases bMT (val (U.drop (j+(n+1)))) with h0 | h0
  ·exact h0
  ·have:=bLZ (4294967296 ^ (n+1)) h0
   omega
 rw[hZ,Nat.mul_zero,bLL] at e2
 generalize hW:val ((U.drop j).take (n+1))=W at *
 have e3:val U=val (U.take j)+4294967296 ^ j*W:=by
  conv=>lhs; rw[← bMF j U,fF,bKL,bLY Om,e2]
 have hmod:W%V<V:=bLJ _ hVpos
 have hdm:V*(W/V)+W%V=W:=bNA _ _
 have hqB:W/V<4294967296:=by rw[bMP hVpos,bKT]; omega
 have hD:val (dN (n+1) (W%V))=W%V:=mE Om
 have hQj:Q[j]=0:=h.z j _ Om (bKD Om)
 have bJM:=DW (Om:j<Q.length) (W/V)
 rw[hQj,Nat.mul_zero,bLL] at bJM
 have bHW:(U.take j).length=j:=by rw[bKL]; omega
 refine⟨by omega,?_,?_,?_,?_,?_,?_,?_⟩
 ·simp only[bKA,jV,bLV,bKL]; omega
 ·rw[bLQ]; exact hlq
 ·exact ((h.limU.take j).app (kT _ _)).app (h.limU.drop _)
 ·exact h.limQ.set _ hqB
 ·rw[bKU,fF,fF,bHW,hD,jV,hZ,Nat.mul_zero,bLL,bJM]
  have:=h.v
  have h5:(val Q+4294967296 ^ j*(W/V))*V=val Q*V+4294967296 ^ j*(V*(W/V)):=by
   rw[bKY,bKP,bKT (W/V) V]
  have h6:4294967296 ^ j*W=4294967296 ^ j*(V*(W/V))+4294967296 ^ j*(W%V):=by rw[← bKG,hdm]
  omega
 ·rw[bKU,List.drop_append_of_le_length Om,bNF Om,bML,fF,hD,hZ,Nat.mul_zero,bLL]
  exact hmod
 ·intro i x hi hx
  rw[List.getElem?_set_ne Om] at hx
  exact h.z i x Om hx
end Go.Na
namespace Go.PM
open Go Go.Na
def dI (u v:PV) (n:Nat) (q:PV) (top next s:Nat) (j:Int):PF:=((((((((PF.nil.set 8 (.int .u64 s)).set 9 (u)).set 10 (v)).set 11 (.int .i64 n)).set 12 (q)).set 13 (.int .u64 top)).set 14 (.int .u64 next)).set 15 (.int .i64 j))
theorem pO (o s:Nat) (rs:List (List PV)) (L:List Nat):(aJ L).map (fun r=>r.map (PV.dC o s rs))=aJ L:=by
 unfold aJ
 rw[List.map_map]
 rfl
theorem aEX {C:Ctx} (D:awI C) (U0 m lu lq o o2 oq s:Nat) (v vfull:List Nat) (h2:o2≠o) (h3:oq≠o) (h4:oq≠o2) (hv:Lim v) (hlv:v.length=m+2) (hvf:(aJ vfull).take (m+2)=aJ v) (hvl:m+2≤vfull.length) (ht:2147483648≤v[m+1])
  (hlu:lu=lq+(m+2)) (bJK:lu≤10000) (U:List Nat) (hI:mR U0 (val v) (m+2) lu lq lq U (bJW lq 0)) (K:cN) (F:PF) (H:PH)
  (hF:(dI (.osl o 1 0 lu) (.osl o2 1 0 (m+2)) (m+2) (.osl oq 1 0 lq) (v[m+1]) (v[m]) s ((lq:Int)-1)).le F) (hH:H o=some (.rows 1 (aJ U))) (hHv:H o2=some (.rows 1 (aJ vfull))) (hHq:H oq=some (.rows 1 (aJ (bJW lq 0))))
  (hK:∀ U' Q' F',mR U0 (val v) (m+2) lu lq 0 U' Q'→(dI (.osl o 1 0 lu) (aF v) (m+2) (.osl oq 1 0 lq) (v[m+1]) (v[m]) s (-1)).le F'→K .normal F' ((PH.nil.set o (.rows 1 (aJ U'))).set oq (.rows 1 (aJ Q')))) :
  aC.wp C (.block 2 (.loop AM)) K F H:=by
 have f8:=hF 8 _ (by unfold dI; simp only[go_sem,γ]; rfl)
 have f9:=hF 9 _ (by unfold dI; simp only[go_sem,γ]; rfl)
 have f10:=hF 10 _ (by unfold dI; simp only[go_sem,γ]; rfl)
 have f11:=hF 11 _ (by unfold dI; simp only[go_sem,γ]; rfl)
 have f12:=hF 12 _ (by unfold dI; simp only[go_sem,γ]; rfl)
 have f13:=hF 13 _ (by unfold dI; simp only[go_sem,γ]; rfl)
 have f14:=hF 14 _ (by unfold dI; simp only[go_sem,γ]; rfl)
 have f15:=hF 15 _ (by unfold dI; simp only[go_sem,γ]; rfl)
 have hne2:¬ o=o2:=fun h=>h2 h.symm
 have hne4:¬ oq=o2:=h4
 have hne3:¬ o=oq:=fun h=>h3 h.symm
 have hfi:∀ (k:IntKind) (n:Int),PV.frz o2 1 (aJ vfull) (.int k n)=.int k n:=fun _ _=>rfl
 have hfu:∀ l,PV.frz o2 1 (aJ vfull) (.osl o 1 0 l)=.osl o 1 0 l:=fun l=>by simp only[PV.frz,PV.rO,PV.dC,if_neg hne2]
 have hfq:∀ l,PV.frz o2 1 (aJ vfull) (.osl oq 1 0 l)=.osl oq 1 0 l:=fun l=>by simp only[PV.frz,PV.rO,PV.dC,if_neg hne4]
 have hfv:PV.frz o2 1 (aJ vfull) (.osl o2 1 0 (m+2))=aF v:=by
  have:0+(m+2)≤(aJ vfull).length:=by rw[bT]; omega
  simp only[PV.frz,PV.rO,PV.dC,if_true,true_and,if_pos this,bKW,hvf]
 simp only[go_sem]
 refine aON (α:=Nat × List Nat × List Nat) (fun t=>dI (.osl o 1 0 lu) (aF v) (m+2) (.osl oq 1 0 lq) (v[m+1]) (v[m]) s ((t.1:Int)-1)) (fun t=>(PH.nil.set o (.rows 1 (aJ t.2.1))).set oq (.rows 1 (aJ t.2.2)))
  (fun t=>t.1≤lq∧mR U0 (val v) (m+2) lu lq t.1 t.2.1 t.2.2) (fun t=>t.1) (lq,U,bJW lq 0) o2 hHv ⟨bJV _,hI⟩ ?_ ?_ ?_
 ·unfold dI
  refine PF.aI (PF.aI (PF.aI (PF.aI (PF.aI (PF.aI (PF.aI (PF.aI PF.nil_le ?_) ?_) ?_) ?_) ?_) ?_) ?_) ?_<;>simp only[go_sem,f8,f9,f10,f11,f12,f13,f14,f15,hfi,hfu,hfq,hfv]
 ·refine PH.aI (PH.aI PH.nil_le ?_) ?_
  ·simp only[go_sem,hne2,hH,cP.frz,pO]
  ·simp only[go_sem,hne4,hHq,cP.frz,pO]
 rintro⟨k,U,Q⟩ ⟨hk,hI⟩
 simp only at hk hI
 simp only[go_sem,γ,AM,UM,dI]
 by_cases h0:0<k
 ·obtain⟨j,rfl⟩:∃ j,k=j+1:=⟨k-1,by omega⟩
  have hz:((j+1:Nat):Int)-1=(j:Int):=by omega
  have hge:(j:Int)≥0:=by omega
  have hVlt:val v<4294967296 ^ (m+2):=by have:=eN hv; rw[hlv] at this; exact this
  obtain⟨hlt,hI'⟩:=ayN hI hVlt Om hlu
  have hUl:=hI.lu'
  have hQl:=hI.lq'
  have hA:(U.take j).length=j:=by rw[bKL]; omega
  have hWl:((U.drop j).take (m+3)).length=m+3:=by rw[bKL,bLV]; omega
  have hsplit:U.take j++(U.drop j).take (m+3)++U.drop (j+(m+3))=U:=by
   rw[bKU,← List.drop_drop,bMF,bMF]
  have hZl:(U.drop (j+(m+3))).length=lu-(j+(m+3)):=by rw[bLV,hUl]
  have key:=awA (C:=C) D (U.take j) ((U.drop j).take (m+3)) (U.drop (j+(m+3))) v Q m o oq lu s h3 ((hI.limU.drop _).take _) hv hlv hWl ht hlt (by rw[hA,hZl]; omega) bJK (by rw[hA]; omega)
  rw[hA,hsplit,hQl] at key
  have e15:IntKind.i64.wrap ((j:Int)-1)=(j:Int)-1:=wrap_i64 Om Om
  simp only[go_sem,hz,hge]
  simp only[go_sem] at key
  refine key _ _ _ ?_ (by simp only[go_sem,hne3]) Sq ?_
  ·unfold dF
   exact Lq
  ·intro F' H' hF' hH' hHq'
   have g8:=hF' 8 _ (by unfold dF; simp only[go_sem,γ]; rfl)
   have g9:=hF' 9 _ (by unfold dF; simp only[go_sem,γ]; rfl)
   have g10:=hF' 10 _ (by unfold dF; simp only[go_sem,γ]; rfl)
   have g11:=hF' 11 _ (by unfold dF; simp only[go_sem,γ]; rfl)
   have g12:=hF' 12 _ (by unfold dF; simp only[go_sem,γ]; rfl)
   have g13:=hF' 13 _ (by unfold dF; simp only[go_sem,γ]; rfl)
   have g14:=hF' 14 _ (by unfold dF; simp only[go_sem,γ]; rfl)
   have g15:=hF' 15 _ (by unfold dF; simp only[go_sem,γ]; rfl)
   simp only[go_sem,γ,UO,g15,e15]
   refine aH (j,_,_) ⟨by simp only; omega,hI'⟩ (by simp only; omega) ?_ (PH.aI (PH.aI PH.nil_le hH') hHq')
   refine PF.aI (PF.aI (PF.aI (PF.aI (PF.aI (PF.aI (PF.aI (PF.aI PF.nil_le ?_) ?_) ?_) ?_) ?_) ?_) ?_) ?_<;>simp only[go_sem,γ,g8,g9,g10,g11,g12,g13,g14]
 ·have:k=0:=by omega
  subst this
  have hz:¬ ((0:Nat):Int)-1≥0:=by decide
  simp only[go_sem,hz]
  refine hK U Q _ hI ?_
  unfold dI
  (repeat' (first|exact PF.nil_le|refine PF.aI ?_ ?_))<;>first|(simp only[go_sem,ο,γ,show ((0:Nat):Int)-1=-1 from rfl]<;>rfl)|rfl
open Go Go.Na
def rFr (o lu oq lq or n s i:Nat):PF:=((((((PF.nil.set 8 (.int .u64 s)).set 9 (.osl o 1 0 lu)).set 12 (.osl oq 1 0 lq)).set 19 (.osl or 1 0 n)).set 166 (.int .i64 n)).set 167 (.int .i64 i))
theorem bsT {x s:Nat} (hs:s≤64):shift .shr .u64 (x:Int) (s:Int)=some (.int .u64 ((x/2 ^ s:Nat):Int)):=by
 unfold shift
 rw[if_neg Om]
 simp only
 have:min (Int.toNat (s:Int)) IntKind.u64.bits=s:=by
  rw[show IntKind.u64.bits=64 from rfl]; omega
 rw[this,Int.fdiv_eq_ediv_of_nonneg _ (by exact_mod_cast bKF _)]
 norm_cast
theorem aEY {C:Ctx} (o lu oq lq n s:Nat) (U Q:List Nat) (hs:s<32) (h3:oq≠o) (hU:Lim U) (hl:U.length=lu) (hn:n<lu) (bJK:lu≤10000) (K:cN) (F:PF)
  (f8:F 8=some (.int .u64 s)) (f9:F 9=some (.osl o 1 0 lu)) (f11:F 11=some (.int .i64 n)) (f12:F 12=some (.osl oq 1 0 lq))
  (hK:∀ or F' H',or≠o→or≠oq→(rFr o lu oq lq or n s n).le F'→H' oq=some (.rows 1 (aJ Q))→H' or=some (.rows 1 (aJ (dN n (val U/2 ^ s))))→K .normal F' H') :
  aC.wp C (.seq (.region AX) (.seq (.region AY) (.block 6 (.loop AN)))) K F ((PH.nil.set o (.rows 1 (aJ U))).set oq (.rows 1 (aJ Q))):=by
 have hm1:((n:Nat):Int)*((4:Nat):Int)≤140737488355328:=by omega
 have hm2:((n:Nat):Int)≤9223372036854775807:=by omega
 have hz:bJW n [PV.int .u32 0]=aJ ([]++bJW n 0):=by
  simp[aJ]
 simp only[go_sem,AX,f11,hm1,hm2,hz]
 refine aR fun or hor=>?_
 have n1:¬ or=oq:=(cW.1 hor).1
 have n2:¬ or=o:=(cW.1 (cW.1 hor).2).1
 have n1':¬ oq=or:=fun h=>n1 h.symm
 have n2':¬ o=or:=fun h=>n2 h.symm
 have n3:¬ oq=o:=h3
 have n3':¬ o=oq:=fun h=>n3 h.symm
 simp only[go_sem,γ,AY]
 refine wp_loop (α:=List Nat) (fun P=>rFr o lu oq lq or n s P.length) (fun P=>((PH.nil.set o (.rows 1 (aJ U))).set oq (.rows 1 (aJ Q))).set or (.rows 1 (aJ (P++bJW (n-P.length) 0)))) (fun P=>P.length≤n∧P=dN P.length (val U/2 ^ s)) (fun P=>n-P.length) []
  ⟨by simp,rfl⟩ ?_ ?_ ?_
 ·unfold rFr
  exact Lq
 ·refine PH.aI (PH.aI (PH.aI PH.nil_le ?_) ?_) ?_<;>simp only[go_sem,n1,n1',n2,n2',n3,n3',bMD]
 rintro P ⟨hP,hD⟩
 simp only[go_sem,γ,AN,UP,rFr]
 by_cases c1:P.length<n
 ·have c1':(P.length:Int)<(n:Nat):=by omega
  obtain⟨k,hk⟩:∃ k,n-P.length=k+1:=⟨n-P.length-1,by omega⟩
  have hin:(aJ (P++bJW (k+1) 0))[P.length]?=some [.int .u32 ((0:Nat):Int)]:=by
   rw[bK _ (by simp)]; simp
  have a0:P.length<U.length:=by omega
  have a1:P.length+1<U.length:=by omega
  have b0:(P.length:Int)<(lu:Nat):=by omega
  have b1:((P.length+1:Nat):Int)<(lu:Nat):=by omega
  have hu0:=hU _ (bJX a0)
  have hu1:=hU _ (bJX a1)
  have e:val U/4294967296 ^ P.length=U[P.length]+4294967296*(U[P.length+1]+4294967296*val (U.drop (P.length+2))):=by
   rw[← sG hU Om,bLP a0,bLP a1]
   rfl
  have hdig:=VI hs e
  have g0:=bK U a0
  have g1:=bK U a1
  generalize hx0:U[P.length]=u0 at *
  generalize hx1:U[P.length+1]=u1 at *
  have e1:IntKind.i64.wrap ((P.length:Int)+1)=((P.length+1:Nat):Int):=dH Om
  have eu0:IntKind.u64.wrap ((u0:Nat):Int)=((u0:Nat):Int):=bF Om
  have eu1:IntKind.u64.wrap ((u1:Nat):Int)=((u1:Nat):Int):=bF Om
  have esh:shift .shl .u64 (u1:Int) 32=some (.int .u64 ((2 ^ 32*u1:Nat):Int)):=ID (s:=32) Om Om
  have e32:(2:Nat) ^ 32=4294967296:=by decide
  have eor:=orI (a:=2 ^ 32*u1) (b:=u0) (n:=2 ^ 32*u1+u0) Om Om (Nat.two_pow_add_eq_or_of_lt Om u1).symm Om
  rw[e32] at esh eor
  have eshr:=bsT (x:=4294967296*u1+u0) (s:=s) Om
  have bIC:(aJ (P++bJW (k+1) 0)).set P.length [.int .u32 (((4294967296*u1+u0)/2 ^ s%4294967296:Nat):Int)]=aJ ((P++[(4294967296*u1+u0)/2 ^ s%4294967296])++bJW k 0):=by
   rw[eV,wD]
  simp only[go_sem,γ,c1',UQ]
  refine bR .nil eG PH.nil_le ?_
  simp only[go_sem,γ,reduceCtorEq,UR,c1',e1,b0,b1,n2',n3',g0,g1,eu0,eu1,esh,eor,eshr,cA,hk,hin,bIC]
  refine⟨PH.nil_le,?_⟩
  simp only[go_sem,γ,US,e1]
  refine aH (P++[(4294967296*u1+u0)/2 ^ s%4294967296]) ⟨by simp; omega,?_⟩ (by simp; omega) ?_ (PH.aI (PH.aI (PH.aI PH.nil_le ?_) ?_) ?_)
  ·rw[bKA,bKH,tC,← hD,hdig]
  ·rw[bKA,bKH]
   exact Lq
  ·simp only[go_sem,n2',n3']
  ·simp only[go_sem,n1']
  ·rw[bKA,bKH,show n-(P.length+1)=k by omega]
   simp only[go_sem]
 ·have e:P.length=n:=by omega
  have c1':¬ (P.length:Int)<(n:Nat):=by omega
  have bJO:bJW (n-P.length) 0=[]:=by rw[show n-P.length=0 by omega]; rfl
  rw[e] at hD
  simp only[go_sem,c1',bJO,bLM]
  refine hK or _ _ n2 n1 ?_ (by simp only[go_sem,n1']) (by simp only[go_sem]; rw[← hD])
  unfold rFr
  rw[e]
  exact Lq
structure awZ (C:Ctx):Prop where
 L:oV C
 D:awI C
 up:∀ (a:List Nat) (s:Nat),Lim a→s<32→a.length≤1000→aE C 143 [aF a,.int .u64 s] .nil (upR a s)
 short:∀ (a:List Nat) (d:Nat),Lim a→0<d→d<4294967296→a.length≤1000→aE C 140 [aF a,.int .u32 d] .nil (aD (.tup [aF (aG (val a/d)),.int .u32 ((val a%d:Nat):Int)]))
 lengthO:∀ (xs:List Nat) (o:Nat),Lim xs→xs.length≤35184372087808→aE C 138 [.osl o 1 0 xs.length] (PH.nil.set o (.rows 1 (aJ xs))) (fun r H'=>r=.int .i64 (nl (val xs):Nat)∧H'=PH.nil.set o (.rows 1 (aJ xs)))
def beP:Spec:=fun name vs=>match name,vs with
 | 143,[x,.int _ s]=>some ([],fun _=>upR (gW x) s.toNat)
 | 138,[.osl q _ _ _]=>some ([q],fun H0 r H'=>H'=H0∧∀ xs,Lim xs→H0 q=some (.rows 1 (aJ xs))→r=.int .i64 (nl (val xs):Nat))
 | _,_=>none
theorem aPH (a:List Nat) (s:Nat):beP 143 [aF a,.int .u64 s]=some ([],fun _=>upR a s):=by
 show some _=_; rw[dX,bMX]
theorem aKH (a:List Nat) (s:Nat):∀ G:PH,∃ r H',upR a s r H'∧kJ G .nil H':=fun G=>by
 obtain⟨o,ho⟩:=G.fresh
 refine⟨_,_,⟨o,rfl,rfl⟩,fun q x hx _=>?_⟩
 rw[bS] at hx
 split at hx
 ·rename_i e; subst e; exact ho
 ·cases hx
theorem NU {xs ys:List Nat} (h:aJ xs=aJ ys):xs=ys:=by
 have:=congrArg gW (show aF xs=aF ys by show PV.sl 1 (aJ xs)=PV.sl 1 (aJ ys); rw[h])
 rwa [dX,dX] at this
theorem arT (q:Nat) (L:List Nat):(PH.nil.set q (.rows 1 (aJ L)))=(PH.nil.set q (.rows 1 (aJ L)))∧∀ xs,Lim xs→(PH.nil.set q (.rows 1 (aJ L))) q=some (.rows 1 (aJ xs))→(PV.int .i64 (nl (val L):Nat))=.int .i64 (nl (val xs):Nat):=by
 refine⟨rfl,fun xs hx e=>?_⟩
 rw[fN] at e
 have:aJ L=aJ xs:=(cP.rows.inj (bMN.inj e)).2
 rw[NU this]
def oG (A B:Nat):PV:=.tup [aF (aG (A/B)),aF (aG (A%B))]
def a1P (a b:List Nat) (s:Nat):PF:=(((PF.nil.set 0 (aF a)).set 1 (aF b)).set 8 (.int .u64 s))
theorem bpA {x s:Nat} (hs:s≤31) (h:x*2 ^ s<4294967296):shift .shl .u32 (x:Int) (s:Int)=some (.int .u32 ((x*2 ^ s:Nat):Int)):=by
 unfold shift
 rw[if_neg Om]
 simp only
 have:min (Int.toNat (s:Int)) IntKind.u32.bits=s:=by
  rw[show IntKind.u32.bits=32 from rfl]; omega
 rw[this,show (x:Int)*2 ^ s=((x*2 ^ s:Nat):Int) by simp,cA,bLE h]
theorem aMO {n i x:Nat} (hx:(bJW n 0)[i]?=some x):x=0:=by
 have:=bMK hx
 rw[List.mem_replicate] at this
 exact this.2
theorem a1R {C:Ctx} (Lb:awZ C) (A B:Nat) (hB:B≠0) (hA:nl A≤900) (hBl:nl B≤900) :
  xD.wp C (aT DK.res (bY (oG A B))) (PF.args [aF (aG A),aF (aG B)]) .nil:=by
 have LA:=aU A
 have LB:=aU B
 have vA:=aS A
 have vB:=aS B
 have lA:(aG A).length=nl A:=rfl
 have lB:(aG B).length=nl B:=rfl
 simp only[go_sem,γ,reduceCtorEq,xD,aeL,aeM,DK]
 refine aA (Lb.L.cmp _ _ LA LB Om Om) rfl ?_
 rw[vA,vB]
 by_cases c1:A<B
 ·have hc:dB A B<0:=by simp[dB,c1]
  simp only[go_sem,γ,reduceCtorEq,hc,aeN]
  refine aA (Lb.L.trim _ LA Om) rfl ?_
  rw[vA]
  simp only[go_sem,γ]
  refine aX (vs:=[.aB,aF (aG A)]) (.inr rfl) .nil rfl PH.nil_le ⟨?_,rfl⟩
  rw[oG,bNB c1,bLE c1,eW]
  refine .tup rfl fun j p q hp hq=>?_
  match j with
  | 0=>simp at hp hq; subst hp; subst hq; exact .nil 1
  | 1=>simp at hp hq; subst hp; subst hq; exact .refl _
  | j+2=>simp at hp
 have hc:¬ dB A B<0:=by
  unfold dB
  rw[if_neg c1]
  split<;>decide
 have hB0:0<B:=bMB hB
 have hnB:nl B≠0:=fun h=>hB (gJ.1 h)
 simp only[go_sem,γ,hc,aeO]
 by_cases c2:nl B=1
 ·have hBB:B<4294967296:=by have:=(gT B 1).1 Om; simpa using this
  have hlb:aG B=[B]:=mB hB hBB
  have hr:A%B<B:=bLJ _ hB0
  have ew:IntKind.u64.wrap ((A%B:Nat):Int)=((A%B:Nat):Int):=bF Om
  rw[hlb]
  have hsh:=Lb.short (aG A) B LA hB0 hBB Om
  rw[vA] at hsh
  simp only[go_sem,ν,γ,reduceCtorEq,show (((1:Nat):Int)==1)=true from rfl,aeP]
  refine aA hsh rfl ?_
  simp only[go_sem,γ,aeQ,ew]
  refine aA (Lb.L.make (A%B) Om) rfl ?_
  simp only[go_sem,γ]
  exact aX (vs:=[aF (aG (A/B)),aF (aG (A%B))]) (.inr rfl) .nil rfl PH.nil_le ⟨.refl _,rfl⟩
 obtain⟨m,hm⟩:∃ m,nl B=m+2:=⟨nl B-2,by omega⟩
 have hAB:nl B≤nl A:=fA Om
 obtain⟨bt,hbt,hbt0⟩:=aJB LB (n:=m+1) (by rw[vB]; exact hm)
 have hml:m+1<(aG B).length:=by omega
 have hbtl:bt<4294967296:=LB bt (bMK hbt)
 have hBv:B=val ((aG B).take (m+1))+4294967296 ^ (m+1)*bt:=by
  have h1:=bW (aG B) hml
  rw[bKK Om,vB] at h1
  rw[bKD hml] at hbt
  rw[bMN.inj hbt] at h1
  exact h1
 have hBlow:=eN (LB.take (m+1))
 rw[bKL,bLY Om] at hBlow
 have bIC:(aJ (aG B))[m+1]?=some [.int .u32 ((bt:Nat):Int)]:=by
  rw[bK _ hml]
  rw[bKD hml] at hbt
  rw[bMN.inj hbt]
 have i1:IntKind.i64.wrap ((((aG B).length:Nat):Int)-1)=((m+1:Nat):Int):=by rw[wrap_i64 Om Om]; omega
 have hne1:¬ (((aG B).length:Nat):Int)=1:=by omega
 simp only[go_sem,bB hne1,aeR]
 refine wp_loop (α:=Nat) (fun s=>a1P (aG A) (aG B) s) (fun _=>.nil) (fun s=>s≤31∧bt*2 ^ s<4294967296) (fun s=>32-s) 0 ⟨by omega,by simpa using hbtl⟩ ?_ PH.nil_le ?_
 ·unfold a1P
  exact Lq
 rintro s ⟨hs,hbs⟩
 have esh:=bpA hs hbs
 simp only[go_sem,γ,reduceCtorEq,aeK,aeS,a1P,i1,bIC,esh]
 refine kS ?_ ?_
 ·intro c3
  have c3':=of_decide_eq_true c3
  have hs30:s<31:=by
   rcases bKM s 31 with h | h
   ·exact h
   ·exfalso
    have h1:2147483648≤2 ^ s:=Nat.pow_le_pow_right (show 0<2 by decide) h
    have h2:1*2 ^ s≤bt*2 ^ s:=bLA _ Om
    omega
  have es:IntKind.u64.wrap ((s:Int)+1)=((s+1:Nat):Int):=by rw[wrap_u64 Om Om]; omega
  simp only[go_sem,γ,reduceCtorEq,aeT,es]
  refine aH (s+1) ⟨by omega,by rw[bLN,← bKP]; omega⟩ Om ?_ PH.nil_le
  exact Lq
 intro c3
 have c3':=of_decide_eq_false c3
 have hs32:s<32:=by omega
 have hp2:0<2 ^ s:=bMM (by decide)
 have hVlo:2147483648*4294967296 ^ (m+1)≤B*2 ^ s:=by
  have h1:2147483648*4294967296 ^ (m+1)≤(bt*2 ^ s)*4294967296 ^ (m+1):=bLA _ Om
  have h2:(4294967296 ^ (m+1)*bt)*2 ^ s≤B*2 ^ s:=bLA _ Om
  have h3:(4294967296 ^ (m+1)*bt)*2 ^ s=(bt*2 ^ s)*4294967296 ^ (m+1):=by rw[bKP,bKT]
  omega
 have hVhi:B*2 ^ s<4294967296 ^ (m+2):=by
  have h0:(bt+1)*2 ^ s≤4294967296:=by
   have e32:(4294967296:Nat)=2 ^ (32-s)*2 ^ s:=by rw[← Nat.pow_add,show 32-s+s=32 by omega]
   have:bt<2 ^ (32-s):=by
    rcases bKM bt (2 ^ (32-s)) with h | h
    ·exact h
    ·have:=bLA (2 ^ s) h
     omega
   have:=bLA (2 ^ s) (show bt+1≤2 ^ (32-s) from this)
   omega
  have h1:B<(bt+1)*4294967296 ^ (m+1):=by rw[bKY,Nat.one_mul,bKT bt]; omega
  have h2:B*2 ^ s<(bt+1)*4294967296 ^ (m+1)*2 ^ s:=Nat.mul_lt_mul_of_pos_right h1 hp2
  have h3:(bt+1)*4294967296 ^ (m+1)*2 ^ s=(bt+1)*2 ^ s*4294967296 ^ (m+1):=Nat.mul_right_comm _ _ _
  have h4:(bt+1)*2 ^ s*4294967296 ^ (m+1)≤4294967296*4294967296 ^ (m+1):=bLA _ h0
  have h5:4294967296 ^ (m+2)=4294967296*4294967296 ^ (m+1):=by rw[bLN,bKT]
  omega
 have hAlt:A<4294967296 ^ nl A:=(gT A _).1 (bJV _)
 simp only[go_sem]
 refine bR .nil beP PH.nil_le ?_
 simp only[go_sem,γ,reduceCtorEq,UH]
 have ua:=Lb.up (aG A) s LA hs32 Om
 have ub:=Lb.up (aG B) s LB hs32 Om
 refine aPA (aPH (aG A) s) ua rfl (aKH _ _) ?_
 rintro r H' ⟨o,rfl,rfl⟩ -
 rw[PH.kD,lA,vA]
 refine⟨PH.nil_le,?_⟩
 simp only[go_sem,γ,reduceCtorEq]
 refine aPA (aPH (aG B) s) ub rfl (aKH _ _) ?_
 rintro r H' ⟨o2,rfl,rfl⟩ hap
 rw[PH.kD,lB,vB,hm]
 refine⟨PH.nil_le,?_⟩
 have hfr:=hap o2 _ (by rw[bS,if_pos rfl]) (by rfl)
 have n21:¬ o2=o:=(cW.1 hfr).1
 have n12:¬ o=o2:=fun h=>n21 h.symm
 have k1:((m+2:Nat):Int)≤((m+2+1:Nat):Int):=by omega
 have k2:IntKind.i64.wrap (((nl A+1:Nat):Int)-((m+2:Nat):Int))=((nl A+1-(m+2):Nat):Int):=by rw[wrap_i64 Om Om]; omega
 obtain⟨lq,hlq⟩:∃ lq,nl A+1-(m+2)=lq:=⟨_,rfl⟩
 have hlu:nl A+1=lq+(m+2):=by omega
 rw[hlq] at k2
 have k3:((lq:Nat):Int)*((4:Nat):Int)≤140737488355328:=by omega
 have k4:((lq:Nat):Int)≤9223372036854775807:=by omega
 have hz:bJW lq [PV.int .u32 0]=aJ (bJW lq 0):=by simp[aJ]
 have k5:m+2-0=m+2:=by omega
 simp only[go_sem,ν,γ,reduceCtorEq,lB,hm,k1,k5,UI,UJ,k2,k3,k4,hz]
 refine aR fun oq hoq=>?_
 have q2:¬ oq=o2:=(cW.1 hoq).1
 have q1:¬ oq=o:=(cW.1 (cW.1 hoq).2).1
 have q2':¬ o2=oq:=fun h=>q2 h.symm
 have q1':¬ o=oq:=fun h=>q1 h.symm
 have hsn:dN (m+2+1) (B*2 ^ s)=dN (m+2) (B*2 ^ s)++[B*2 ^ s/4294967296 ^ (m+2)%4294967296]:=tC _ _
 have Lv:=kT (m+2) (B*2 ^ s)
 have lv:=jV (m+2) (B*2 ^ s)
 have vv:val (dN (m+2) (B*2 ^ s))=B*2 ^ s:=mE hVhi
 have hvf:(aJ (dN (m+2+1) (B*2 ^ s))).take (m+2)=aJ (dN (m+2) (B*2 ^ s)):=by
  unfold aJ
  rw[← List.map_take,hsn,List.take_append_of_le_length Om,bKK Om]
 generalize hvv:dN (m+2) (B*2 ^ s)=v at *
 have lvf:(dN (m+2+1) (B*2 ^ s)).length=m+2+1:=jV _ _
 have gtop:∀ i (h:i<v.length),(aJ (dN (m+2+1) (B*2 ^ s)))[i]?=some [.int .u32 ((v[i]:Nat):Int)]:=by
  intro i h
  have h1:(aJ v)[i]?=some [.int .u32 ((v[i]:Nat):Int)]:=bK v h
  rw[← hvf,bMO Om] at h1
  exact h1
 have g1:=gtop (m+1) Om
 have g0:=gtop m Om
 have htop:2147483648≤v[m+1]:=by
  have h1:=bW v (Om:m+1<v.length)
  rw[bKK Om,vv] at h1
  have h2:=eN (Lv.take (m+1))
  rw[bKL,bLY Om] at h2
  rcases bKM v[m+1] 2147483648 with h | h
  ·exfalso
   have h3:4294967296 ^ (m+1)*(v[m+1]+1)≤4294967296 ^ (m+1)*2147483648:=bLZ _ h
   rw[bKG,Nat.mul_one] at h3
   rw[bKT 2147483648] at hVlo
   omega
  ·exact h
 have ht1:=Lv _ (bJX (Om:m+1<v.length))
 have ht0:=Lv _ (bJX (Om:m<v.length))
 have w1:IntKind.u64.wrap ((v[m+1]:Nat):Int)=((v[m+1]:Nat):Int):=bF Om
 have w0:IntKind.u64.wrap ((v[m]:Nat):Int)=((v[m]:Nat):Int):=bF Om
 have j1:IntKind.i64.wrap (((m+2:Nat):Int)-1)=((m+1:Nat):Int):=by rw[wrap_i64 Om Om]; omega
 have j0:IntKind.i64.wrap (((m+2:Nat):Int)-2)=((m:Nat):Int):=by rw[wrap_i64 Om Om]; omega
 have d1:((m+1:Nat):Int)<((m+2:Nat):Int):=by omega
 have d0:((m:Nat):Int)<((m+2:Nat):Int):=by omega
 have jq:IntKind.i64.wrap ((lq:Int)-1)=(lq:Int)-1:=wrap_i64 Om Om
 simp only[go_sem,γ,reduceCtorEq]
 refine bR .nil eG PH.nil_le ?_
 simp only[go_sem,γ,reduceCtorEq,UK,j1,j0,d1,d0,q2',g1,g0,w1,w0,UL,jq]
 have hUlt:A*2 ^ s<4294967296 ^ (nl A+1):=by
  have h0:2 ^ s≤4294967296:=by
   have:(2:Nat) ^ s≤2 ^ 32:=Nat.pow_le_pow_right (by decide) Om
   simpa using this
  have h1:A*2 ^ s<4294967296 ^ nl A*2 ^ s:=Nat.mul_lt_mul_of_pos_right hAlt hp2
  have h2:4294967296 ^ nl A*2 ^ s≤4294967296 ^ nl A*4294967296:=bLZ _ h0
  rw[bLN]; omega
 have LU:=kT (nl A+1) (A*2 ^ s)
 have lU:=jV (nl A+1) (A*2 ^ s)
 have vU:val (dN (nl A+1) (A*2 ^ s))=A*2 ^ s:=mE hUlt
 have hI:mR (A*2 ^ s) (val v) (m+2) (nl A+1) lq lq (dN (nl A+1) (A*2 ^ s)) (bJW lq 0):=by
  refine⟨lU,bNI,LU,tH _,by rw[vU,qE]; omega,?_,fun i x _ hx=>aMO hx⟩
  ·rw[sG LU Om,vU,vv,bMP (bMM (by decide))]
   have h1:A*2 ^ s<4294967296 ^ nl A*2 ^ s:=Nat.mul_lt_mul_of_pos_right hAlt hp2
   have hx:nl A=m+1+lq:=by omega
   have h2:4294967296 ^ nl A=4294967296 ^ (m+1)*4294967296 ^ lq:=by rw[hx,Nat.pow_add]
   have h3:2 ^ s≤2147483648:=by
    have:(2:Nat) ^ s≤2 ^ 31:=Nat.pow_le_pow_right (by decide) hs
    simpa using this
   have h4:4294967296 ^ nl A*2 ^ s≤(2147483648*4294967296 ^ (m+1))*4294967296 ^ lq:=by
    rw[h2,bKT (4294967296 ^ (m+1)*4294967296 ^ lq),← bKP]
    exact bLA _ (bLA _ h3)
   have h5:(2147483648*4294967296 ^ (m+1))*4294967296 ^ lq≤B*2 ^ s*4294967296 ^ lq:=bLA _ hVlo
   omega
 have key:=aEX (C:=C) Lb.D (A*2 ^ s) m (nl A+1) lq o o2 oq s v (dN (m+2+1) (B*2 ^ s)) n21 q1 q2 Lv lv hvf Om htop hlu Om _ hI
 simp only[go_sem,ο] at key
 refine key _ _ _ ?_ (by simp only[go_sem,n12,q1']) (by simp only[go_sem,q2']) Sq ?_
 ·unfold dI
  exact Lq
 clear key
 intro U' Q' F' hI' hF'
 have hu:val U'<val v:=by have:=hI'.r; rwa [bKW] at this
 have hv':=hI'.v
 rw[vv] at hu hv'
 have hVp:0<B*2 ^ s:=by omega
 have hQv:val Q'=A/B:=by
  have:A*2 ^ s/(B*2 ^ s)=val Q':=by
   rw[← hv',Nat.add_mul_div_right _ _ hVp,bNB hu,bKN]
  rw[← this,Nat.mul_div_mul_right _ _ hp2]
 have hUv:val U'/2 ^ s=A%B:=by
  have:A*2 ^ s%(B*2 ^ s)=val U':=by rw[← hv',Nat.add_mul_mod_self_right,bLE hu]
  rw[← this,Nat.mul_mod_mul_right,Nat.mul_div_cancel _ hp2]
 have g8:=hF' 8 _ (by unfold dI; simp only[go_sem,ο,γ]; rfl)
 have g9:=hF' 9 _ (by unfold dI; simp only[go_sem,ο,γ]; rfl)
 have g11:=hF' 11 _ (by unfold dI; simp only[go_sem,ο,γ]; rfl)
 have g12:=hF' 12 _ (by unfold dI; simp only[go_sem,ο,γ]; rfl)
 have rest:=aEY (C:=C) o (nl A+1) oq lq (m+2) s U' Q' hs32 q1 hI'.limU hI'.lu' Om Om
 simp only[go_sem] at rest
 simp only[go_sem]
 refine rest _ _ g8 g9 g11 g12 ?_
 clear rest
 intro or F2 H2 r1 r2 hF2 hQ2 hR2
 rw[hUv] at hR2
 have k12:=hF2 12 _ (by unfold rFr; simp only[go_sem,γ]; rfl)
 have k19:=hF2 19 _ (by unfold rFr; simp only[go_sem,γ]; rfl)
 have hRlt:A%B<4294967296 ^ (m+2):=by
  have h1:A%B<B:=bLJ _ hB0
  have h2:B<4294967296 ^ nl B:=(gT B _).1 (bJV _)
  rw[hm] at h2; omega
 have LR:=kT (m+2) (A%B)
 have lR:=jV (m+2) (A%B)
 have vR:val (dN (m+2) (A%B))=A%B:=mE hRlt
 have nQ:=eU hI'.limQ
 have nR:=eU LR
 have e1:=hI'.lq'
 generalize hRR:dN (m+2) (A%B)=R at *
 simp only[go_sem]
 refine bR .nil beP PH.nil_le ?_
 simp only[go_sem,γ,UT,k12]
 have LOq:=Lb.lengthO Q' oq hI'.limQ Om
 rw[e1] at LOq
 have LOr:=Lb.lengthO R or LR Om
 rw[lR] at LOr
 refine WN (o:=oq) (x:=.rows 1 (aJ Q')) (v:=.int .i64 (nl (val Q'):Nat)) rfl hQ2 LOq (arT oq Q') (fun r H' hr=>⟨hr.2 Q' hI'.limQ (by rw[fN]),hr.1⟩) rfl PH.nil_le ?_
 have c4:((nl (val Q'):Nat):Int)≤(lq:Nat):=by omega
 simp only[go_sem,ν,γ,reduceCtorEq,c4,k19,Nat.sub_zero]
 refine WN (o:=or) (x:=.rows 1 (aJ R)) (v:=.int .i64 (nl (val R):Nat)) rfl hR2 LOr (arT or R) (fun r H' hr=>⟨hr.2 R LR (by rw[fN]),hr.1⟩) rfl PH.nil_le ?_
 have c5:((nl (val R):Nat):Int)≤((m+2:Nat):Int):=by omega
 simp only[go_sem,ν,γ,reduceCtorEq,c5]
 refine a9N (o1:=oq) (o2:=or) (s1:=1) (s2:=1) (k1:=nl (val Q')) (k2:=nl (val R)) (rs1:=aJ Q') (rs2:=aJ R) (.inr rfl) (fun h=>r2 h.symm) rfl rfl hQ2 hR2 (by rw[bT]; exact nQ) (by rw[bT]; exact nR) (pO _ _ _ _) rfl ⟨?_,rfl⟩
 have t1:(aJ Q').take (nl (val Q'))=aJ (aG (A/B)):=by
  have:=gY hI'.limQ
  rw[hQv] at this ⊢
  exact this
 have t2:(aJ R).take (nl (val R))=aJ (aG (A%B)):=by
  have:=gY LR
  rw[vR] at this ⊢
  exact this
 rw[t1,t2]
 exact .refl _
def bfM (a b:Nat):PF:=((PF.nil.set 0 (aF (aG a))).set 1 (aF (aG b)))
theorem boA {C:Ctx} (L:oV C) (hdiv:∀ A B:Nat,B≠0→nl A≤900→nl B≤900→aE C 136 [aF (aG A),aF (aG B)] .nil (aD (oG A B))) (a b:List Nat) (ha:Lim a) (hb:Lim b) (la:a.length≤35184372087808) (lb:b.length≤35184372087808) :
  NO.wp C (aT aEZ.res (bY (if dR (val a) (val b) then .tup [aF [],.int .i64 2] else .tup [aF (aG (bJY (val a) (val b))),.int .i64 0]))) (PF.args [aF a,aF b]) .nil:=by
 simp only[go_sem,reduceCtorEq,NO,aTE,aTF,aEZ]
 refine aA (L.large a ha la) rfl ?_
 by_cases c1:nl (val a)>512
 ·simp only[go_sem,γ,c1,amA]
  rw[if_pos (by simp[dR,c1])]
  exact eF rfl
 simp only[go_sem,γ,c1]
 refine aA (L.large b hb lb) rfl ?_
 by_cases c2:nl (val b)>512
 ·simp only[go_sem,γ,reduceCtorEq,c2,amA]
  rw[if_pos (by simp[dR,c2])]
  exact eF rfl
 rw[if_neg (by simp[dR,c1,c2])]
 simp only[go_sem,γ,reduceCtorEq,c2,aTG]
 refine aA (L.trim a ha la) rfl ?_
 simp only[go_sem,γ]
 refine aA (L.trim b hb lb) rfl ?_
 simp only[go_sem,γ,reduceCtorEq]
 refine wp_loop (α:=Nat × Nat) (fun t=>bfM t.1 t.2) (fun _=>.nil) (fun t=>bJY t.1 t.2=bJY (val a) (val b)∧nl t.1≤512∧nl t.2≤512) (fun t=>t.2) (val a,val b) ⟨rfl,by simp only; omega,by simp only; omega⟩ ?_ PH.nil_le ?_
 ·unfold bfM
  exact Lq
 rintro⟨x,y⟩ ⟨hg,hx,hy⟩
 simp only at hg hx hy
 simp only[go_sem,γ,reduceCtorEq,aTD,aTH,bfM,aZ]
 by_cases c3:y=0
 ·subst c3
  have:¬ ((nl 0:Nat):Int)>0:=by rw[wB]; decide
  simp only[go_sem,γ,reduceCtorEq,this,aTK]
  refine aX (vs:=[aF (aG x),.int .i64 0]) (.inr rfl) .nil rfl PH.nil_le ⟨?_,rfl⟩
  rw[← hg,Nat.gcd_zero_right]
  exact .refl _
 ·have h0:nl y≠0:=fun h=>c3 (gJ.1 h)
  have:((nl y:Nat):Int)>0:=by omega
  simp only[go_sem,γ,reduceCtorEq,this,aTI]
  refine aA (hdiv x y c3 Om Om) rfl ?_
  simp only[go_sem,γ,reduceCtorEq,oG,aTJ]
  have hlt:x%y<y:=bLJ _ (bMB c3)
  refine aH (y,x%y) ⟨?_,hy,?_⟩ hlt ?_ PH.nil_le
  ·simp only
   rw[← hg,Nat.gcd_comm y,← Nat.gcd_rec y x,Nat.gcd_comm]
  ·have:=fA (Nat.le_of_lt hlt)
   simp only; omega
  ·exact Lq
def kZ (A B:Nat):PV:=if dR A B then .tup [aF [],aF [],.int .i64 2] else if B=0 then .tup [aF [],aF [],.int .i64 3] else .tup [aF (aG (A/B)),aF (aG (A%B)),.int .i64 0]
def a1Q:Spec:=fun name vs=>match name,vs with
 | 138,[x]=>some ([],fun _=>aD (.int .i64 (nl (val (gW x)):Nat)))
 | 136,[x,y]=>some ([],fun _=>aD (oG (val (gW x)) (val (gW y))))
 | _,_=>none
theorem NL (xs:List Nat):a1Q 138 [aF xs]=some ([],fun _=>aD (.int .i64 (nl (val xs):Nat))):=by
 show some _=_; rw[dX]
theorem aEW (A B:Nat):a1Q 136 [aF (aG A),aF (aG B)]=some ([],fun _=>aD (oG A B)):=by
 show some _=_; rw[dX,dX,aS,aS]
theorem pQ {res:List dQ} {F:PF} {H:PH} {e:Int} (h:dQ.evs F H res=some [.aB,.aB,.int .i64 e]):aT res (bY (.tup [aF [],aF [],.int .i64 e])) .ret F H:=by
 refine aX (.inr rfl) .nil h PH.nil_le ⟨?_,rfl⟩
 refine .tup rfl fun j p q hp hq=>?_
 match j with
 | 0=>simp at hp hq; subst hp; subst hq; exact .nil 1
 | 1=>simp at hp hq; subst hp; subst hq; exact .nil 1
 | 2=>simp at hp hq; subst hp; subst hq; exact .refl _
 | j+3=>simp at hp
theorem bnY {C:Ctx} (L:oV C) (hdiv:∀ A B:Nat,B≠0→nl A≤900→nl B≤900→aE C 136 [aF (aG A),aF (aG B)] .nil (aD (oG A B))) (a b:List Nat) (ha:Lim a) (hb:Lim b) (la:a.length≤35184372087808) (lb:b.length≤35184372087808) :
  NM.wp C (aT aEV.res (bY (kZ (val a) (val b)))) (PF.args [aF a,aF b]) .nil:=by
 simp only[go_sem,reduceCtorEq,NM,aSW,aSX,aEV]
 refine aA (L.large a ha la) rfl ?_
 by_cases c1:nl (val a)>512
 ·simp only[go_sem,γ,c1,alY]
  rw[show kZ (val a) (val b)=.tup [aF [],aF [],.int .i64 2] by simp[kZ,dR,c1]]
  exact pQ rfl
 simp only[go_sem,γ,c1]
 refine aA (L.large b hb lb) rfl ?_
 by_cases c2:nl (val b)>512
 ·simp only[go_sem,γ,reduceCtorEq,c2,alY]
  rw[show kZ (val a) (val b)=.tup [aF [],aF [],.int .i64 2] by simp[kZ,dR,c2]]
  exact pQ rfl
 simp only[go_sem,γ,reduceCtorEq,c2,aSY]
 refine aA (L.length b hb lb) rfl ?_
 by_cases c3:val b=0
 ·have:((nl (val b):Nat):Int)=0:=by rw[c3,wB]; rfl
  simp only[go_sem,γ,bO this,aSZ]
  rw[show kZ (val a) (val b)=.tup [aF [],aF [],.int .i64 3] by simp[kZ,dR,c1,c3,wB]]
  exact pQ rfl
 have h0:nl (val b)≠0:=fun h=>c3 (gJ.1 h)
 rw[show kZ (val a) (val b)=.tup [aF (aG (val a/val b)),aF (aG (val a%val b)),.int .i64 0] by simp[kZ,dR,c1,c2,c3]]
 simp only[go_sem,γ,bB (show ((nl (val b):Nat):Int)≠0 by omega)]
 refine bR .nil a1Q PH.nil_le ?_
 simp only[go_sem,reduceCtorEq,aTA]
 have h1:=eU ha
 have h2:=eU hb
 have h1':((nl (val a):Nat):Int)≤(a.length:Nat):=by omega
 have h2':((nl (val b):Nat):Int)≤(b.length:Nat):=by omega
 refine bJ (NL a) (L.length a ha la) rfl PH.nil_le ?_
 simp only[go_sem,ν,γ,reduceCtorEq,h1',or_true,bKW,gY ha]
 refine bJ (NL b) (L.length b hb lb) rfl PH.nil_le ?_
 simp only[go_sem,ν,γ,reduceCtorEq,h2',or_true,bKW,gY hb]
 refine bJ (aEW (val a) (val b)) (hdiv _ _ c3 Om Om) rfl PH.nil_le ?_
 simp only[go_sem,γ,oG,aTB]
 exact aX (.inr rfl) .nil rfl PH.nil_le ⟨.refl _,rfl⟩
def acI:Rg:=[iA 6 (.alloc [(.bool false),.aB,.aB]),iI 7 0]
def acJ:Rg:=[iM 11 1,iM 12 2,iK2 13 131 11 12,iM 10 13,iE 14 10 0,iE 15 10 1,iM 8 14,iM 9 15]
def acK:Rg:=[iM 16 8,iK 17 128 16,iC 18 .gtr 17 1]
def acL:Rg:=[iM 20 1,iM 21 8,iK2 22 130 20 21,iM 19 22,iE 23 19 0,iE 24 19 1,iE 25 19 2,iM 1 23]
def acM:Rg:=[iM 27 2,iM 28 8,iK2 29 130 27 28,iM 26 29,iE 30 26 0,iE 31 26 1,iE 32 26 2,iM 2 30]
def FZ:Rg:=[iM 33 1,iK 34 128 33,iC 35 .gtr 34 4096,iM 36 35,gM 37 2 36 false,gK 38 128 37 36 false,gC 39 .gtr 38 4096 36 false,iQ 40 36 39]
def uP:Rg:=[iA 41 (.build [(.bool false),.aB,.aB] []),iS 3 6 41,iI 7 2]
def GA:Rg:=[iM 42 0,iM 43 42,gM 44 1 43 true,gK 45 128 44 43 true,gC 46 .gtr 45 0 43 true,iP 47 43 46,iM 48 1,iK 49 135 48,iM 50 2,iK 51 135 50,iA 52 (.build [(.bool false),.aB,.aB] [(0,1,(Tm 47)),(1,1,(Tm 49)),(2,1,(Tm 51))]),iS 3 6 52,iI 7 0]
def wR:aC:=(sq acI (.seq (sq acJ (sq acK (.cond (Tm 18) (sq acL (.region acM)) .skip))) (.seq (sq FZ (.cond (Tm 40) (sq uP .ret) .skip)) (sq GA .ret))))
def a0G:List Nat:=[]
def nI:aW:=⟨3,53,wR,[.cell 6 (some 3),.tmp 7]⟩
def aoX:Rg:=[iZ 4]
def aoY:Rg:=[iM 8 0,iM 9 1,iK2 10 133 8 9,iM 7 10,iE 11 7 0,iE 12 7 1,iM 5 11,iM 6 12]
def aoZ:Rg:=[iM 13 5,iM 4 13]
def zY:aC:=(sq aoX (sq aoY (sq aoZ .ret)))
def a6Y:List Nat:=[]
def MR:aW:=⟨2,14,zY,[.tmp 4]⟩
def azU:Rg:=[iA 1 (.box true (Tm 0)),iT 2 false]
def azV:Rg:=[iF 3 1 1,iL 4 3,iK 5 128 4,iC 6 .eql 5 0,iM 2 6]
def GC:aC:=(sq azU (sq azV .ret))
def bfF:List Nat:=[1]
def acU:aW:=⟨1,7,GC,[.tmp 2]⟩
def azN:Rg:=[iA 4 (.alloc [(.bool false),.aB,.aB]),iI 5 0]
def azO:Rg:=[iM 6 1,iC 7 .eql 6 0]
def azP:Rg:=[iA 8 (.build [(.bool false),.aB,.aB] []),iS 3 4 8,iI 5 3]
def azQ:Rg:=[iM 9 0,iC 10 .lss 9 0,iM 11 1,iC 12 .lss 11 0,iA 13 (.eqb true (Tm 10) (Tm 12)),iM 14 0,iK 15 119 14,iM 16 1,iK 17 119 16,iA 18 (.call 120 [(Tm 13),(Tm 15),(Tm 17)]),iE 19 18 0,iE 20 18 1,iS 3 4 19,iM 5 20]
def GB:aC:=(sq azN (.seq (sq azO (.cond (Tm 7) (sq azP .ret) .skip)) (sq azQ .ret)))
def bfD:List Nat:=[]
def SE:aW:=⟨2,21,GB,[.cell 4 (some 3),.tmp 5]⟩
def aPL:Rg:=[iZ 2]
def aPM:Rg:=[iM 3 0,iC 4 .lss 3 0]
def aPN:Rg:=[iM 5 0,iA 6 (.conv .u64 (Tm 5)),iA 7 (.un .neg (Tm 6)),iK 8 132 7,iM 2 8]
def aPO:Rg:=[iM 9 0,iA 10 (.conv .u64 (Tm 9)),iK 11 132 10,iM 2 11]
def MI:aC:=(sq aPL (.seq (sq aPM (.cond (Tm 4) (sq aPN .ret) .skip)) (sq aPO .ret)))
def blQ:List Nat:=[]
def azD:aW:=⟨1,12,MI,[.tmp 2]⟩
def apA:Rg:=[iA 1 (.box true (Tm 0)),iT 2 false]
def apB:Rg:=[iF 4 2 1,iL 5 4,iK 6 128 5,iM 3 6]
def yL:Rg:=[iM 7 3,iC 8 .gtr 7 0,iM 9 8,gM 10 3 9 true,gC 11 .leq 10 4096 9 true,iP 12 9 11,iM 13 12,gF 14 1 1 13 true,gL 15 14 13 true,gK 16 128 15 13 true,gC 17 .leq 16 4096 13 true,iP 18 13 17,iM 2 18]
def zZ:aC:=(sq apA (sq apB (sq yL .ret)))
def a7A:List Nat:=[1]
def MT:aW:=⟨1,19,zZ,[.tmp 2]⟩
def acP:Rg:=[iA 1 (.box true (Tm 0)),iA 2 (.alloc [(.bool false),.aB,.aB]),iI 3 0]
def acQ:Rg:=[iO 4 3 1,iK 5 118 4,iA 6 (.un .not (Tm 5))]
def acR:Rg:=[iA 7 (.build [(.bool false),.aB,.aB] []),iS 3 2 7,iI 3 1]
def acS:Rg:=[iF 8 0 1,iL 9 8,iF 10 1 1,iL 11 10,iF 12 2 1,iL 13 12,iA 14 (.call 120 [(Tm 9),(Tm 11),(Tm 13)]),iE 15 14 0,iE 16 14 1,iS 3 2 15,iM 3 16]
def wS:aC:=(sq acP (.seq (sq acQ (.cond (Tm 6) (sq acR .ret) .skip)) (sq acS .ret)))
def a0J:List Nat:=[1]
def vP:aW:=⟨1,17,wS,[.cell 2 (some 3),.tmp 3]⟩
def aPY:Rg:=[iA 2 (.box true (Tm 0)),iA 3 (.box true (Tm 1)),iI 4 0,iI 5 0]
def aPZ:Rg:=[iO 9 3 2,iK 10 118 9,iA 11 (.un .not (Tm 10)),iM 12 11,gO 13 3 3 12 false,gK 14 118 13 12 false,iG 15 (.un .not (Tm 14)) 12 false,iQ 16 12 15]
def alC:Rg:=[iI 4 0,iI 5 1]
def aQA:Rd:=[(iF 17 1 2,false),(iL 18 17,false),(iF 19 2 3,false),(iL 20 19,false),(iK2 21 121 18 20,true),(iF 22 1 3,true),(iL 23 22,true),(iF 24 2 2,true),(iL 25 24,true),(iK2 26 121 23 25,true),(iK2 27 129 21 26,true),(iM 6 27,false)]
def aQB:Rd:=[(iF 28 0 2,false),(iL 29 28,false),(iM 30 29,false),(gO 31 3 2 30 true,false),(gK 32 122 31 30 true,true),(iG 33 (.un .not (Tm 32)) 30 true,true),(iP 34 30 33,true),(iF 35 0 3,true),(iL 36 35,true),(iM 37 36,false),(gO 38 3 3 37 true,false),(gK 39 122 38 37 true,true),(iG 40 (.un .not (Tm 39)) 37 true,false),(iP 41 37 40,false),(iM 7 34,false),(iM 8 41,false)]
def vO:Rg:=[iM 43 7,iM 44 43,gM 45 8 44 true,iP 46 44 45,iM 42 46]
def alD:Rg:=[iM 47 6,iA 48 (.un .neg (Tm 47)),iM 4 48,iI 5 0]
def CZ:Rg:=[iM 50 7,iM 49 50]
def alE:Rg:=[iI 4 (-1),iI 5 0]
def SB:Rg:=[iM 52 8,iM 51 52]
def WV:Rg:=[iI 4 1,iI 5 0]
def WW:Rg:=[iM 53 6,iM 4 53,iI 5 0]
def ML:aC:=(sq aPY (.seq (sq aPZ (.cond (Tm 16) (sq alC .ret) .skip)) (dq aQA (dq aQB (.seq (.block 0 (sq vO (.cond (Tm 42) (sq alD .ret) (sq CZ (.cond (Tm 49) (sq alE .ret) (sq SB (.cond (Tm 51) (sq WV .ret) .skip))))))) (sq WW .ret))))))
def blU:List Nat:=[2,3]
def azG:aW:=⟨2,54,ML,[.tmp 4,.tmp 5]⟩
def aPP:Rg:=[iA 2 (.box true (Tm 0)),iA 3 (.box true (Tm 1)),iA 4 (.alloc [(.bool false),.aB,.aB]),iI 5 0]
def aPQ:Rg:=[iO 15 3 2,iK 16 118 15,iA 17 (.un .not (Tm 16)),iM 18 17,gO 19 3 3 18 false,gK 20 118 19 18 false,iG 21 (.un .not (Tm 20)) 18 false,iQ 22 18 21]
def alB:Rg:=[iA 23 (.build [(.bool false),.aB,.aB] []),iS 3 4 23,iI 5 1]
def aPR:Rd:=[(iF 24 1 2,false),(iL 25 24,false),(iF 26 2 3,false),(iL 27 26,false),(iK2 28 121 25 27,true),(iF 29 1 3,true),(iL 30 29,true),(iF 31 2 2,true),(iL 32 31,true),(iK2 33 121 30 32,true),(iF 34 2 2,true),(iL 35 34,true),(iF 36 2 3,true),(iL 37 36,true),(iK2 38 121 35 37,true),(iM 6 28,false),(iM 7 33,false),(iM 8 38,false)]
def aPS:Rg:=[iF 39 0 2,iL 40 39,iF 41 0 3,iL 42 41,iA 43 (.eqb false (Tm 40) (Tm 42))]
def aPT:Rg:=[iM 45 6,iM 46 7,iK2 47 127 45 46,iM 44 47,iE 48 44 0,iE 49 44 1,iM 9 48,iM 10 49]
def aPU:Rg:=[iF 50 0 2,iL 51 50,iM 52 9,iM 53 8,iA 54 (.call 120 [(Tm 51),(Tm 52),(Tm 53)]),iE 55 54 0,iE 56 54 1,iS 3 4 55,iM 5 56]
def aPV:Rg:=[iM 57 6,iM 58 7,iK2 59 129 57 58,iC 60 .geq 59 0]
def aPW:Rg:=[iM 62 6,iM 63 7,iK2 64 134 62 63,iM 61 64,iE 65 61 0,iE 66 61 1,iM 11 65,iM 12 66]
def aPX:Rg:=[iF 67 0 2,iL 68 67,iM 69 11,iM 70 8,iA 71 (.call 120 [(Tm 68),(Tm 69),(Tm 70)]),iE 72 71 0,iE 73 71 1,iS 3 4 72,iM 5 73]
def azE:Rg:=[iM 75 7,iM 76 6,iK2 77 134 75 76,iM 74 77,iE 78 74 0,iE 79 74 1,iM 13 78,iM 14 79]
def azF:Rg:=[iF 80 0 3,iL 81 80,iM 82 13,iM 83 8,iA 84 (.call 120 [(Tm 81),(Tm 82),(Tm 83)]),iE 85 84 0,iE 86 84 1,iS 3 4 85,iM 5 86]
def MK:aC:=(sq aPP (.seq (sq aPQ (.cond (Tm 22) (sq alB .ret) .skip)) (dq aPR (.seq (sq aPS (.cond (Tm 43) (sq aPT (sq aPU .ret)) .skip)) (.seq (sq aPV (.cond (Tm 60) (sq aPW (sq aPX .ret)) .skip)) (sq azE (sq azF .ret)))))))
def blS:List Nat:=[2,3]
def MJ:aW:=⟨2,87,MK,[.cell 4 (some 3),.tmp 5]⟩
def aQE:Rg:=[iA 2 (.alloc [(.bool false),.aB,.aB]),iI 3 0]
def aQF:Rg:=[iA 9 (.call 132 [(.const (.int .u64 1))]),iA 10 (.build [(.bool false),.aB,.aB] [(2,1,(Tm 9))]),iA 4 (.alloc [(.bool false),.aB,.aB]),iS 3 4 10]
def aQG:Rg:=[iM 11 0,iN 12 11,iI 13 0]
def aQH:Rg:=[iB 14 .lss 13 12]
def aQI:Rg:=[iX 15 3 11 13,iO 16 3 15,iA 6 (.alloc [(.bool false),.aB,.aB]),iS 3 6 16]
def aQJ:Rg:=[iO 18 3 4,iO 19 3 6,iK2 20 113 18 19,iM 17 20,iE 21 17 0,iE 22 17 1,iA 7 (.alloc [(.bool false),.aB,.aB]),iS 3 7 21,iM 8 22]
def alG:Rg:=[iM 23 8,iC 24 .neq 23 0]
def aQK:Rg:=[iA 25 (.build [(.bool false),.aB,.aB] []),iM 26 8,iS 3 2 25,iM 3 26]
def aQL:Rg:=[iO 27 3 7,iS 3 4 27]
def aQM:Rg:=[iC 28 .add 13 1,iM 13 28]
def azT:aC:=(sq aQH (.seq (.cond (Tm 14) .skip (.exit 0)) (.seq (.block 1 (sq aQI (sq aQJ (.seq (sq alG (.cond (Tm 24) (sq aQK .ret) .skip)) (.region aQL))))) (.region aQM))))
def XB:Rg:=[iO 29 3 4,iS 3 2 29,iI 3 0]
def MQ:aC:=(sq aQE (sq aQF (.seq (sq aQG (.block 0 (.loop azT))) (sq XB .ret))))
def bmA:List Nat:=[]
def XA:aW:=⟨1,30,MQ,[.cell 2 (some 3),.tmp 3]⟩
theorem CoL.nil:CoL [] []:=.refl _
theorem CoL.cons {p q:PV} {ps qs:List PV} (h:Co p q) (hs:CoL ps qs):CoL (p::ps) (q::qs) :=
 ⟨by simp[hs.len],fun j a b ha hb=>by
  cases j with
  | zero=>simp at ha hb; subst ha; subst hb; exact h
  | succ j=>exact hs.at_ j a b (by simpa using ha) (by simpa using hb)⟩
theorem CoL.agg {ps qs:List PV} (h:CoL ps qs):Co (.agg ps) (.agg qs):=.agg h.len h.at_
theorem CoL.tup {ps qs:List PV} (h:CoL ps qs):Co (.tup ps) (.tup qs):=.tup h.len h.at_
structure qI (C:Ctx):Prop extends oV C where
 bits:∀ xs,Lim xs→xs.length≤35184372087808→aE C 128 [aF xs] .nil (aD (.int .i64 (cC (val xs):Nat)))
 add:∀ xs ys,Lim xs→Lim ys→xs.length≤35184372087808→ys.length≤35184372087808→aE C 127 [aF xs,aF ys] .nil (aD (opV (dR (val xs) (val ys)) (val xs+val ys)))
 sub:∀ xs ys,Lim xs→Lim ys→xs.length≤35184372087808→ys.length≤35184372087808→aE C 134 [aF xs,aF ys] .nil (aD (pH (val xs) (val ys)))
 mul:∀ xs ys,Lim xs→Lim ys→xs.length≤35184372087808→ys.length≤35184372087808→aE C 133 [aF xs,aF ys] .nil (aD (opV (dR (val xs) (val ys)) (val xs*val ys)))
 gcd:∀ xs ys,Lim xs→Lim ys→xs.length≤35184372087808→ys.length≤35184372087808→aE C 131 [aF xs,aF ys] .nil (aD (if dR (val xs) (val ys) then .tup [aF [],.int .i64 2] else .tup [aF (aG (bJY (val xs) (val ys))),.int .i64 0]))
 div:∀ xs ys,Lim xs→Lim ys→xs.length≤35184372087808→ys.length≤35184372087808→aE C 130 [aF xs,aF ys] .nil (aD (kZ (val xs) (val ys)))
theorem gG {a b:Nat} (ha:nl a≤512) (hb:nl b≤512):dR a b=false:=by
 simp[dR]; omega
theorem kC {a b m n:Nat} (ha:nl a≤m) (hb:nl b≤n):nl (a*b)≤m+n:=by
 rw[gT] at ha hb ⊢
 rw[Nat.pow_add]
 by_cases h:b=0
 ·subst h; exact Nat.mul_pos (bMM (by decide)) (bMM (by decide))
 ·calc a*b<4294967296 ^ m*b:=Nat.mul_lt_mul_of_pos_right ha (bMB h)
   _≤4294967296 ^ m*4294967296 ^ n:=bLZ _ (Nat.le_of_lt hb)
theorem xN {n:Nat} (h:nl n≤512):szV n=.tup [aF (aG n),.int .i64 0]:=by
 have:¬ nl n>512:=by omega
 simp[szV,szL,szE,this]
theorem a6X {C:Ctx} (L:qI C) (a b:List Nat) (ha:Lim a) (hb:Lim b) (la:a.length≤35184372087808) (lb:b.length≤35184372087808) (na:nl (val a)≤256) (nb:nl (val b)≤256) :
  zY.wp C (aT MR.res (aD (aF (aG (val a*val b))))) (PF.args [aF a,aF b]) .nil:=by
 simp only[go_sem,γ,reduceCtorEq,zY,aoX,aoY,MR]
 refine aA (L.mul a b ha hb la lb) rfl ?_
 have:=kC na nb
 rw[gG Om Om,opV,xN Om]
 simp only[go_sem,γ,reduceCtorEq,aoZ]
 refine aM (.inr rfl) rfl ?_
 rfl
abbrev dY (neg:Bool) (a b:List Nat):List PV:=[.bool neg,aF a,aF b]
theorem bfE {C:Ctx} (L:qI C) (neg:Bool) (a b:List Nat) (ha:Lim a) (la:a.length≤35184372087808) :
  GC.wp C (aT acU.res (aD (.bool (decide (val a=0))))) (PF.args [.agg (dY neg a b)]) .nil:=by
 simp only[go_sem,δ,γ,θ,GC,azU,azV,acU]
 refine aA (L.bits a ha la) rfl ?_
 simp only[go_sem,γ]
 refine aM (.inr rfl) rfl ?_
 have:=@jE (val a)
 by_cases c:val a=0
 ·rw[bO Om,decide_eq_true c]; rfl
 ·rw[bB Om,decide_eq_false c]; rfl
def cM (a b:Nat):Bool:=decide (0<cC b)&&decide (cC b≤4096)&&decide (cC a≤4096)
theorem a6Z {C:Ctx} (L:qI C) (neg:Bool) (a b:List Nat) (ha:Lim a) (hb:Lim b) (la:a.length≤35184372087808) (lb:b.length≤35184372087808) :
  zZ.wp C (aT MT.res (aD (.bool (cM (val a) (val b))))) (PF.args [.agg (dY neg a b)]) .nil:=by
 simp only[go_sem,γ,zZ,apA,apB,MT]
 refine aA (L.bits b hb lb) rfl ?_
 by_cases c1:0<cC (val b)
 ·have c1':((cC (val b):Nat):Int)>0:=by omega
  by_cases c2:cC (val b)≤4096
  ·have c2':((cC (val b):Nat):Int)≤4096:=by omega
   simp only[go_sem,δ,γ,θ,yL,c1',c2']
   refine aA (L.bits a ha la) rfl ?_
   simp only[go_sem,γ]
   refine aM (.inr rfl) rfl ?_
   show PV.bool (decide _)=_
   rw[cM,decide_eq_true c1,decide_eq_true c2,bKE,bKE]
   congr 1
   rw[decide_eq_decide]
   omega
  ·have c2':¬ ((cC (val b):Nat):Int)≤4096:=by omega
   simp only[go_sem,γ,reduceCtorEq,yL,c1',c2']
   refine aM (.inr rfl) rfl ?_
   show PV.bool _=_
   simp[cM,c1,c2]
 ·have c1':¬ ((cC (val b):Nat):Int)>0:=by omega
  simp only[go_sem,γ,reduceCtorEq,yL,c1']
  refine aM (.inr rfl) rfl ?_
  show PV.bool _=_
  simp[cM,c1]
theorem blP {C:Ctx} (L:qI C) (v:Int) (h1:-9223372036854775808≤v) (h2:v≤9223372036854775807) :
  MI.wp C (aT azD.res (aD (aF (aG v.natAbs)))) (PF.args [.int .i64 v]) .nil:=by
 simp only[go_sem,γ,reduceCtorEq,MI,aPL,aPM,azD]
 by_cases c:v<0
 ·have e:IntKind.u64.wrap (0-IntKind.u64.wrap v)=((v.natAbs:Nat):Int):=by
   rw[fB,fB]; omega
  simp only[go_sem,γ,reduceCtorEq,c,aPN,e]
  refine aA (L.make v.natAbs Om) rfl ?_
  simp only[go_sem,γ]
  refine aM (.inr rfl) rfl ?_
  rfl
 ·have e:IntKind.u64.wrap v=((v.natAbs:Nat):Int):=by
   rw[fB]; omega
  simp only[go_sem,γ,reduceCtorEq,c,aPO,e]
  refine aA (L.make v.natAbs Om) rfl ?_
  simp only[go_sem,γ]
  refine aM (.inr rfl) rfl ?_
  rfl
abbrev yK (e:Int):PV:=.tup [.agg (dY false [] []),.int .i64 e]
abbrev a0K (neg:Bool) (a b:Nat):PV:=.tup [.agg (dY neg (aG a) (aG b)),.int .i64 0]
def HE (neg:Bool) (a b:Nat):PV :=
 if cC (a/bJY a b)>4096∨cC (b/bJY a b)>4096 then yK 2 else a0K (neg&&decide (a/bJY a b≠0)) (a/bJY a b) (b/bJY a b)
theorem gI {res:List dQ} {F:PF} {H:PH} {e:Int} (h:dQ.evs F H res=some [.agg [.bool false,.aB,.aB],.int .i64 e]):aT res (bY (yK e)) .ret F H :=
 aX (.inr rfl) .nil h PH.nil_le ⟨CoL.tup (.cons (CoL.agg (.cons (.refl _) (.cons (.nil 1) (.cons (.nil 1) .nil)))) (.cons (.refl _) .nil)),rfl⟩
theorem ayB {n:Nat}:cC n>1↔n>1:=by
 have:=kG n 1
 omega
theorem aeU {a n:Nat} (g:Nat) (h:nl a≤n):nl (a/g)≤n:=bMQ (fA (Nat.div_le_self _ _)) h
theorem MO {C:Ctx} (L:qI C) (neg:Bool) (a b:List Nat) (ha:Lim a) (hb:Lim b) (la:a.length≤35184372087808) (lb:b.length≤35184372087808) (o:Nat) (F:PF) (H:PH)
  (f0:F 0=some (.bool neg)) (f1:F 1=some (aF a)) (f2:F 2=some (aF b)) (f6:F 6=some (.ptr o 3 0 0)) (f7:F 7=some (.int .i64 0)) (hH:H o=some (.rows 3 [[.bool false,.aB,.aB]])) :
  aC.wp C (.seq (.seq (.region FZ) (.cond (.tmp 40) (.seq (.region uP) .ret) .skip)) (.seq (.region GA) .ret)) (aT nI.res (bY (if cC (val a)>4096∨cC (val b)>4096 then yK 2 else a0K (neg&&decide (val a≠0)) (val a) (val b)))) F H:=by
 have fin:∀ (r:List (List PV)) F H,F 6=some (.ptr o 3 0 0)→F 7=some (.int .i64 2)→H o=some (.rows 3 [[.bool false,.aB,.aB]])→aT nI.res (bY (yK 2)) .ret F H:=by
  intro r F H h6 h7 h
  refine gI ?_
  simp only[go_sem,δ,nI,h6,h7,h]
 simp only[go_sem,FZ,f1]
 refine aA (L.bits a ha la) rfl ?_
 by_cases c1:cC (val a)>4096
 ·have c1':((cC (val a):Nat):Int)>4096:=by omega
  rw[if_pos (.inl c1)]
  simp only[go_sem,δ,γ,c1',uP,f6,hH]
  exact fin [] _ _ (by simp only[go_sem,γ,f6]) rfl Sq
 ·have c1':¬ ((cC (val a):Nat):Int)>4096:=by omega
  simp only[go_sem,γ,c1',f2]
  refine aA (L.bits b hb lb) rfl ?_
  by_cases c2:cC (val b)>4096
  ·have c2':((cC (val b):Nat):Int)>4096:=by omega
   rw[if_pos (.inr c2)]
   simp only[go_sem,δ,γ,reduceCtorEq,c2',uP,f6,hH]
   exact fin [] _ _ (by simp only[go_sem,γ,f6]) rfl Sq
  ·have c2':¬ ((cC (val b):Nat):Int)>4096:=by omega
   rw[if_neg Om]
   have last:∀ F:PF,F 1=some (aF a)→F 2=some (aF b)→F 6=some (.ptr o 3 0 0)→∀ (q:Bool),q=(neg&&decide (val a≠0))→F 47=some (.bool q) →
     True:=fun _ _ _ _ _ _ _=>trivial
   simp only[go_sem,γ,reduceCtorEq,c2',GA,f0,f1,f2,f6,hH]
   cases neg with
   | false =>
    simp only[go_sem,γ,reduceCtorEq,f0,f1,f2,f6,hH]
    refine aA (L.trim a ha la) rfl ?_
    simp only[go_sem,γ,f0,f1,f2,f6,hH]
    refine aA (L.trim b hb lb) rfl ?_
    simp only[go_sem,δ,γ,θ,f0,f1,f2,f6,hH,bJZ]
    refine aX (.inr rfl) .nil (vs:=[.agg (dY false (aG (val a)) (aG (val b))),.int .i64 0]) ?_ PH.nil_le ⟨.refl _,rfl⟩
    simp only[go_sem,δ,γ,nI,f6,hH]
   | true =>
    simp only[go_sem,γ,f0,f1,f2,f6,hH]
    refine aA (L.bits a ha la) rfl ?_
    have e:decide (((cC (val a):Nat):Int)>0)=decide (val a≠0):=by
     have:=@jE (val a)
     rw[decide_eq_decide]; omega
    simp only[go_sem,γ,f0,f1,f2,f6,hH,e]
    refine aA (L.trim a ha la) rfl ?_
    simp only[go_sem,γ,f0,f1,f2,f6,hH]
    refine aA (L.trim b hb lb) rfl ?_
    simp only[go_sem,δ,γ,θ,f0,f1,f2,f6,hH,bKE]
    refine aX (.inr rfl) .nil (vs:=[.agg (dY (decide (val a≠0)) (aG (val a)) (aG (val b))),.int .i64 0]) ?_ PH.nil_le ⟨.refl _,rfl⟩
    simp only[go_sem,δ,γ,nI,f6,hH]
theorem a0F {C:Ctx} (L:qI C) (neg:Bool) (a b:List Nat) (ha:Lim a) (hb:Lim b) (la:a.length≤35184372087808) (lb:b.length≤35184372087808) (na:nl (val a)≤512) (nb:nl (val b)≤512) (h0:val b≠0) :
  wR.wp C (aT nI.res (bY (HE neg (val a) (val b)))) (PF.args [.bool neg,aF a,aF b]) .nil:=by
 simp only[go_sem,δ,wR,acI,acJ]
 refine aR fun o ho=>?_
 simp only[go_sem,γ]
 refine aA (L.gcd a b ha hb la lb) rfl ?_
 rw[gG na nb]
 simp only[go_sem,γ,reduceCtorEq,acK]
 have hg0:bJY (val a) (val b)≠0:=by
  intro h; exact h0 (Nat.gcd_eq_zero_iff.1 h).2
 have hgl:nl (bJY (val a) (val b))≤512:=bMQ (fA (Nat.gcd_le_right _ (bMB h0))) nb
 have hll:(aG (bJY (val a) (val b))).length≤35184372087808:=by rw[aZ]; omega
 refine aA (L.bits _ (aU _) hll) rfl ?_
 rw[aS]
 by_cases c:bJY (val a) (val b)>1
 ·have c':((cC (bJY (val a) (val b)):Nat):Int)>1:=by have:=ayB.2 c; omega
  simp only[go_sem,γ,c',acL]
  refine aA (L.div a _ ha (aU _) la hll) rfl ?_
  rw[aS,kZ,gG na hgl,if_neg (by decide),if_neg hg0]
  simp only[go_sem,γ,acM]
  refine aA (L.div b _ hb (aU _) lb hll) rfl ?_
  rw[aS,kZ,gG nb hgl,if_neg (by decide),if_neg hg0]
  simp only[go_sem,γ]
  have:=MO L neg (aG (val a/bJY (val a) (val b))) (aG (val b/bJY (val a) (val b))) (aU _) (aU _) (by rw[aZ]; have:=aeU (bJY (val a) (val b)) na; omega) (by rw[aZ]; have:=aeU (bJY (val a) (val b)) nb; omega) o
  rw[aS,aS] at this
  have:=fun F H=>this F H
  simp only[aC.wp,go_sem] at this
  exact this _ _ rfl rfl rfl rfl rfl Sq
 ·have c':¬ ((cC (bJY (val a) (val b)):Nat):Int)>1:=by have:=(@ayB (bJY (val a) (val b))); omega
  have e1:bJY (val a) (val b)=1:=by omega
  simp only[go_sem,γ,c']
  rw[HE,e1,Nat.div_one,Nat.div_one]
  have:=MO L neg a b ha hb la lb o
  simp only[aC.wp,go_sem] at this
  exact this _ _ rfl rfl rfl rfl rfl Sq
structure EE (C:Ctx):Prop extends qI C where
 times:∀ a b,Lim a→Lim b→a.length≤35184372087808→b.length≤35184372087808→nl (val a)≤256→nl (val b)≤256→aE C 121 [aF a,aF b] .nil (aD (aF (aG (val a*val b))))
 zero:∀ neg a b,Lim a→a.length≤35184372087808→aE C 122 [.agg (dY neg a b)] .nil (aD (.bool (decide (val a=0))))
 valid:∀ neg a b,Lim a→Lim b→a.length≤35184372087808→b.length≤35184372087808→aE C 118 [.agg (dY neg a b)] .nil (aD (.bool (cM (val a) (val b))))
 abs:∀ v:Int,-9223372036854775808≤v→v≤9223372036854775807→aE C 119 [.int .i64 v] .nil (aD (aF (aG v.natAbs)))
 lowest:∀ neg a b,Lim a→Lim b→a.length≤35184372087808→b.length≤35184372087808→nl (val a)≤512→nl (val b)≤512→val b≠0→aE C 120 [.bool neg,aF a,aF b] .nil (aD (HE neg (val a) (val b)))
def aeG (n d:Int):PV:=if d=0 then yK 3 else HE (decide (n<0) != decide (d<0)) n.natAbs d.natAbs
theorem lP {n k:Nat} (h:n<4294967296 ^ k):nl n≤k:=(gT _ _).2 h
theorem aDN (neg:Bool) (a b:Nat):∃ neg' x y e,HE neg a b=.tup [.agg (dY neg' x y),.int .i64 e]:=by
 unfold HE
 split
 ·exact⟨_,_,_,_,rfl⟩
 ·exact⟨_,_,_,_,rfl⟩
theorem bfC {C:Ctx} (L:EE C) (n d:Int) (h1:-9223372036854775808≤n) (h2:n≤9223372036854775807) (h3:-9223372036854775808≤d) (h4:d≤9223372036854775807) :
  GB.wp C (aT SE.res (bY (aeG n d))) (PF.args [.int .i64 n,.int .i64 d]) .nil:=by
 simp only[go_sem,δ,GB,azN,azO]
 refine aR fun o ho=>?_
 unfold aeG
 by_cases c:d=0
 ·subst c
  simp only[go_sem,ρ,δ,γ,azP]
  refine gI ?_
  simp only[go_sem,δ,γ,SE]
 ·rw[if_neg c]
  simp only[go_sem,γ,reduceCtorEq,bB c,azQ]
  refine aA (L.abs n h1 h2) rfl ?_
  simp only[go_sem,γ]
  refine aA (L.abs d h3 h4) rfl ?_
  simp only[go_sem]
  have n1:nl n.natAbs≤2:=lP Om
  have n2:nl d.natAbs≤2:=lP Om
  have low:=L.lowest (decide (n<0) != decide (d<0)) (aG n.natAbs) (aG d.natAbs) (aU _) (aU _) (by rw[aZ]; omega) (by rw[aZ]; omega)
  rw[aS,aS] at low
  have low:=low Om Om Om
  refine aA low rfl ?_
  obtain⟨neg',x,y,e,hl⟩:=aDN (decide (n<0) != decide (d<0)) n.natAbs d.natAbs
  rw[hl]
  simp only[go_sem,δ,γ]
  exact aX (.inr rfl) .nil (vs:=[.agg (dY neg' x y),.int .i64 e]) (by simp only[go_sem,δ,γ,SE]) PH.nil_le ⟨.refl _,rfl⟩
theorem eX {a b:Nat}:cM a b=true↔b≠0∧nl b≤128∧nl a≤128:=by
 have h1:=kI b 128
 have h2:=kI a 128
 have h3:=@jE b
 simp only[cM,bKR,decide_eq_true_eq]
 omega
def SP (neg:Bool) (a b:Nat):PV:=if cM a b then HE neg a b else yK 1
theorem a0I {C:Ctx} (L:EE C) (neg:Bool) (a b:List Nat) (ha:Lim a) (hb:Lim b) (la:a.length≤35184372087808) (lb:b.length≤35184372087808) :
  wS.wp C (aT vP.res (bY (SP neg (val a) (val b)))) (PF.args [.agg (dY neg a b)]) .nil:=by
 simp only[go_sem,δ,wS,acP,acQ]
 refine aR fun o ho=>?_
 simp only[go_sem,δ,γ]
 refine aA (L.valid neg a b ha hb la lb) rfl ?_
 unfold SP
 cases hv:cM (val a) (val b) with
 | false =>
  simp only[go_sem,δ,γ,reduceCtorEq,acR,bKI]
  refine gI ?_
  simp only[go_sem,δ,γ,vP]
 | true =>
  obtain⟨v1,v2,v3⟩:=eX.1 hv
  simp only[go_sem,δ,γ,θ,acS,bKC]
  refine aA (L.lowest neg a b ha hb la lb Om Om v1) rfl ?_
  obtain⟨neg',x,y,e,hl⟩:=aDN neg (val a) (val b)
  rw[hl]
  simp only[go_sem,δ,γ]
  exact aX (.inr rfl) .nil (vs:=[.agg (dY neg' x y),.int .i64 e]) (by simp only[go_sem,δ,γ,vP]) PH.nil_le ⟨.refl _,rfl⟩
def pE (n1:Bool) (a1 b1:Nat) (n2:Bool) (a2 b2:Nat):Int :=
 match n1&&decide (a1≠0),n2&&decide (a2≠0) with
 | true,true=>- dB (a1*b2) (a2*b1)
 | true,false=>-1
 | false,true=>1
 | false,false=>dB (a1*b2) (a2*b1)
def yH (n1:Bool) (a1 b1:Nat) (n2:Bool) (a2 b2:Nat):PV :=
 if cM a1 b1&&cM a2 b2 then .tup [.int .i64 (pE n1 a1 b1 n2 a2 b2),.int .i64 0] else .tup [.int .i64 0,.int .i64 1]
def fr1:PV→List Nat
 | .agg [_,a,_]=>gW a
 | _=>[]
def frS:Spec:=fun name vs=>match name,vs with
 | 121,[x,y]=>some ([],fun _=>aD (aF (aG (val (gW x)*val (gW y)))))
 | 129,[x,y]=>some ([],fun _=>aD (.int .i64 (dB (val (gW x)) (val (gW y)))))
 | 122,[x]=>some ([],fun _=>aD (.bool (decide (val (fr1 x)=0))))
 | _,_=>none
theorem tD (a b:List Nat):frS 121 [aF a,aF b]=some ([],fun _=>aD (aF (aG (val a*val b)))):=by
 show some _=_; rw[dX,dX]
theorem blX (a b:List Nat):frS 129 [aF a,aF b]=some ([],fun _=>aD (.int .i64 (dB (val a) (val b)))):=by
 show some _=_; rw[dX,dX]
theorem WX (neg:Bool) (a b:List Nat):frS 122 [.agg (dY neg a b)]=some ([],fun _=>aD (.bool (decide (val a=0)))):=by
 show some _=_; rw[fr1,dX]
theorem beG (a b:Nat):IntKind.i64.wrap (0-dB a b)=- dB a b:=by
 unfold dB; split
 ·rfl
 ·split<;>rfl
theorem blT {C:Ctx} (L:EE C) (n1 n2:Bool) (a1 b1 a2 b2:List Nat) (ha1:Lim a1) (hb1:Lim b1) (ha2:Lim a2) (hb2:Lim b2)
  (la1:a1.length≤35184372087808) (lb1:b1.length≤35184372087808) (la2:a2.length≤35184372087808) (lb2:b2.length≤35184372087808) :
  ML.wp C (aT azG.res (bY (yH n1 (val a1) (val b1) n2 (val a2) (val b2)))) (PF.args [.agg (dY n1 a1 b1),.agg (dY n2 a2 b2)]) .nil:=by
 simp only[go_sem,δ,γ,ML,aPY,aPZ]
 refine aA (L.valid n1 a1 b1 ha1 hb1 la1 lb1) rfl ?_
 unfold yH
 cases hv:cM (val a1) (val b1) with
 | false =>
  simp only[go_sem,γ,reduceCtorEq,bKI,alC,bJZ]
  exact aX (.inr rfl) .nil (vs:=[.int .i64 0,.int .i64 1]) rfl PH.nil_le ⟨.refl _,rfl⟩
 | true =>
  obtain⟨v1,v2,v3⟩:=eX.1 hv
  simp only[go_sem,δ,γ,bKC]
  refine aA (L.valid n2 a2 b2 ha2 hb2 la2 lb2) rfl ?_
  cases hw:cM (val a2) (val b2) with
  | false =>
   simp only[go_sem,γ,reduceCtorEq,bKI,alC,bLC]
   exact aX (.inr rfl) .nil (vs:=[.int .i64 0,.int .i64 1]) rfl PH.nil_le ⟨.refl _,rfl⟩
  | true =>
   obtain⟨w1,w2,w3⟩:=eX.1 hw
   simp only[go_sem,γ,reduceCtorEq,bKC,bLT]
   refine bR .nil frS PH.nil_le ?_
   simp only[go_sem,δ,γ,θ,aQA]
   refine bJ (tD a1 b2) (L.times a1 b2 ha1 hb2 la1 lb2 Om Om) rfl PH.nil_le ?_
   simp only[go_sem,δ,γ,θ]
   refine bJ (tD a2 b1) (L.times a2 b1 ha2 hb1 la2 lb1 Om Om) rfl PH.nil_le ?_
   simp only[go_sem]
   have m1:=kC v3 w2
   have m2:=kC w3 v2
   have hc:=L.cmp (aG (val a1*val b2)) (aG (val a2*val b1)) (aU _) (aU _) (by rw[aZ]; omega) (by rw[aZ]; omega)
   have hs:=blX (aG (val a1*val b2)) (aG (val a2*val b1))
   rw[aS,aS] at hc hs
   refine bJ hs hc rfl PH.nil_le ?_
   simp only[go_sem,γ]
   refine bR .nil frS PH.nil_le ?_
   have z1:(!decide (val a1=0))=decide (val a1≠0):=by by_cases h:val a1=0<;>simp[h]
   have z2:(!decide (val a2=0))=decide (val a2≠0):=by by_cases h:val a2=0<;>simp[h]
   have fin:∀ (F:PF) (A B:Bool),F 6=some (.int .i64 (dB (val a1*val b2) (val a2*val b1)))→F 7=some (.bool A)→F 8=some (.bool B)→A=(n1&&decide (val a1≠0))→B=(n2&&decide (val a2≠0)) →
     aC.wp C (.seq (.block 0 (.seq (.region vO) (.cond (.tmp 42) (.seq (.region alD) .ret) (.seq (.region CZ) (.cond (.tmp 49) (.seq (.region alE) .ret) (.seq (.region SB) (.cond (.tmp 51) (.seq (.region WV) .ret) .skip))))))) (.seq (.region WW) .ret)) (aT azG.res (bY (.tup [.int .i64 (pE n1 (val a1) (val b1) n2 (val a2) (val b2)),.int .i64 0]))) F .nil:=by
    intro F A B f6 f7 f8 hA hB
    rw[pE,← hA,← hB]
    cases A<;>cases B
    ·simp only[go_sem,γ,reduceCtorEq,vO,CZ,SB,WW,f6,f7,f8]
     exact aX (.inr rfl) .nil rfl PH.nil_le ⟨.refl _,rfl⟩
    ·simp only[go_sem,γ,reduceCtorEq,vO,CZ,SB,WV,f6,f7,f8]
     exact aX (.inr rfl) .nil rfl PH.nil_le ⟨.refl _,rfl⟩
    ·simp only[go_sem,ο,γ,vO,CZ,alE,f6,f7,f8]
     exact aX (.inr rfl) .nil rfl PH.nil_le ⟨.refl _,rfl⟩
    ·simp only[go_sem,γ,vO,alD,f6,f7,f8,beG]
     exact aX (.inr rfl) .nil rfl PH.nil_le ⟨.refl _,rfl⟩
   simp only[aC.wp,go_sem] at fin
   simp only[go_sem,δ,γ,θ,aQB]
   cases n1 with
   | false =>
    simp only[go_sem,δ,γ,θ,reduceCtorEq]
    cases n2 with
    | false =>
     simp only[go_sem,γ,reduceCtorEq]
     exact fin _ false false rfl rfl rfl rfl rfl
    | true =>
     simp only[go_sem,δ,γ]
     refine bJ (WX true a2 b2) (L.zero true a2 b2 ha2 la2) rfl PH.nil_le ?_
     simp only[go_sem,γ,z2]
     exact fin _ false (decide (val a2≠0)) rfl rfl rfl rfl (by rw[bKE])
   | true =>
    simp only[go_sem,δ,γ]
    refine bJ (WX true a1 b1) (L.zero true a1 b1 ha1 la1) rfl PH.nil_le ?_
    simp only[go_sem,δ,γ,θ,z1]
    cases n2 with
    | false =>
     simp only[go_sem,γ,reduceCtorEq]
     exact fin _ (decide (val a1≠0)) false rfl rfl rfl (by rw[bKE]) rfl
    | true =>
     simp only[go_sem,δ,γ]
     refine bJ (WX true a2 b2) (L.zero true a2 b2 ha2 la2) rfl PH.nil_le ?_
     simp only[go_sem,γ,z2]
     exact fin _ (decide (val a1≠0)) (decide (val a2≠0)) rfl rfl rfl (by rw[bKE]) (by rw[bKE])
abbrev FV:=Bool × Nat × Nat
abbrev FR:=Except Int FV
def gP (neg:Bool) (a b:Nat):FR :=
 if cC (a/bJY a b)>4096∨cC (b/bJY a b)>4096 then .error 2 else .ok (neg&&decide (a/bJY a b≠0),a/bJY a b,b/bJY a b)
def frV:FR→PV
 | .ok (n,a,b)=>a0K n a b
 | .error e=>yK e
theorem alR (neg:Bool) (a b:Nat):HE neg a b=frV (gP neg a b):=by
 unfold HE gP
 split<;>rfl
def gU:FV→FV→FR
 | (n1,a1,b1),(n2,a2,b2)=>if cM a1 b1&&cM a2 b2 then
   (if n1=n2 then gP n1 (a1*b2+a2*b1) (b1*b2) else if a2*b1≤a1*b2 then gP n1 (a1*b2-a2*b1) (b1*b2) else gP n2 (a2*b1-a1*b2) (b1*b2))
  else .error 1
theorem aFA {a b m:Nat} (ha:nl a≤m) (hb:nl b≤m):nl (a+b)≤m+1:=by
 rw[gT] at ha hb ⊢
 rw[bLN]; omega
theorem RW (a b:Nat):(dB a b≥0)↔b≤a:=by
 unfold dB
 split
 ·constructor
  ·intro h; exact absurd h (by decide)
  ·intro h; omega
 ·split
  ·constructor
   ·intro h; omega
   ·intro h; decide
  ·constructor
   ·intro h; omega
   ·intro h; decide
theorem rN (r:FR):∃ neg' x y e,frV r=.tup [.agg (dY neg' x y),.int .i64 e]:=by
 rcases r with e | ⟨n,a,b⟩
 ·exact⟨_,_,_,_,rfl⟩
 ·exact⟨_,_,_,_,rfl⟩
theorem blR {C:Ctx} (L:EE C) (n1 n2:Bool) (a1 b1 a2 b2:List Nat) (ha1:Lim a1) (hb1:Lim b1) (ha2:Lim a2) (hb2:Lim b2)
  (la1:a1.length≤35184372087808) (lb1:b1.length≤35184372087808) (la2:a2.length≤35184372087808) (lb2:b2.length≤35184372087808) :
  MK.wp C (aT MJ.res (bY (frV (gU (n1,val a1,val b1) (n2,val a2,val b2))))) (PF.args [.agg (dY n1 a1 b1),.agg (dY n2 a2 b2)]) .nil:=by
 simp only[go_sem,δ,γ,MK,aPP]
 refine aR fun o ho=>?_
 simp only[go_sem,δ,γ,aPQ]
 refine aA (L.valid n1 a1 b1 ha1 hb1 la1 lb1) rfl ?_
 simp only[gU]
 cases hv:cM (val a1) (val b1) with
 | false =>
  simp only[go_sem,δ,γ,reduceCtorEq,bKI,alB,bJZ]
  refine gI ?_
  simp only[go_sem,δ,γ,MJ]
 | true =>
  obtain⟨v1,v2,v3⟩:=eX.1 hv
  simp only[go_sem,δ,γ,bKC]
  refine aA (L.valid n2 a2 b2 ha2 hb2 la2 lb2) rfl ?_
  cases hw:cM (val a2) (val b2) with
  | false =>
   simp only[go_sem,δ,γ,reduceCtorEq,bKI,alB,bLC]
   refine gI ?_
   simp only[go_sem,δ,γ,MJ]
  | true =>
   obtain⟨w1,w2,w3⟩:=eX.1 hw
   simp only[go_sem,γ,reduceCtorEq,bKC,bLT]
   refine bR .nil frS PH.nil_le ?_
   simp only[go_sem,δ,γ,θ,aPR]
   refine bJ (tD a1 b2) (L.times a1 b2 ha1 hb2 la1 lb2 Om Om) rfl PH.nil_le ?_
   simp only[go_sem,δ,γ,θ]
   refine bJ (tD a2 b1) (L.times a2 b1 ha2 hb1 la2 lb1 Om Om) rfl PH.nil_le ?_
   simp only[go_sem,γ]
   refine bJ (tD b1 b2) (L.times b1 b2 hb1 hb2 lb1 lb2 Om Om) rfl PH.nil_le ?_
   simp only[go_sem,γ]
   have m1:=kC v3 w2
   have m2:=kC w3 v2
   have m3:=kC v2 w2
   have d0:val b1*val b2≠0:=Nat.mul_ne_zero v1 w1
   generalize hA:val a1*val b2=A at *
   generalize hB:val a2*val b1=B at *
   generalize hD:val b1*val b2=D at *
   have fin:∀ (F:PF) (H:PH) (r:FR),(∃ neg' x y e,frV r=.tup [.agg (dY neg' x y),.int .i64 e]∧F 4=some (.ptr o 3 0 0)∧F 5=some (.int .i64 e)∧H o=some (.rows 3 [dY neg' x y]))→aT MJ.res (bY (frV r)) .ret F H:=by
    rintro F H r ⟨neg',x,y,e,he,f4,f5,hH⟩
    rw[he]
    exact aX (.inr rfl) .nil (vs:=[.agg (dY neg' x y),.int .i64 e]) (by simp only[go_sem,δ,MJ,f4,f5,hH]) PH.nil_le ⟨.refl _,rfl⟩
   have eb:(n1==n2)=decide (n1=n2):=by cases n1<;>cases n2<;>rfl
   have low:∀ neg x,nl x≤257→aE C 120 [.bool neg,aF (aG x),aF (aG D)] .nil (aD (frV (gP neg x D))):=by
    intro neg x hx
    have h1:(aG x).length≤35184372087808:=by rw[aZ]; omega
    have h2:(aG D).length≤35184372087808:=by rw[aZ]; omega
    have:=L.lowest neg (aG x) (aG D) (aU _) (aU _) h1 h2
    rw[aS,aS,alR] at this
    exact this Om Om d0
   have lA:(aG A).length≤35184372087808:=by rw[aZ]; omega
   have lB:(aG B).length≤35184372087808:=by rw[aZ]; omega
   simp only[go_sem,δ,γ,θ,aPS]
   by_cases c:n1=n2
   ·rw[if_pos c]
    have c':(n1==n2)=true:=by rw[eb,decide_eq_true c]
    simp only[go_sem,γ,c',aPT]
    have hadd:=L.add (aG A) (aG B) (aU _) (aU _) lA lB
    have nab:=aFA m1 m2
    rw[aS,aS,gG Om Om,opV,xN Om] at hadd
    refine aA hadd rfl ?_
    simp only[go_sem,δ,γ,θ,reduceCtorEq,aPU]
    refine aA (low n1 _ Om) rfl ?_
    obtain⟨neg',x,y,e,hl⟩:=rN (gP n1 (A+B) D)
    rw[hl]
    simp only[go_sem,δ,γ]
    rw[← hl]
    exact fin _ _ _ ⟨neg',x,y,e,hl,by simp only[go_sem,γ],by simp only[go_sem,γ],by simp only[go_sem]⟩
   ·rw[if_neg c]
    have c':(n1==n2)=false:=by rw[eb,decide_eq_false c]
    simp only[go_sem,γ,c',aPV]
    have hc:=L.cmp (aG A) (aG B) (aU _) (aU _) lA lB
    rw[aS,aS] at hc
    refine aA hc rfl ?_
    have hsub:∀ X Y:Nat,nl X≤256→nl Y≤256→Y≤X→aE C 134 [aF (aG X),aF (aG Y)] .nil (aD (.tup [aF (aG (X-Y)),.int .i64 0])):=by
     intro X Y h1 h2 h
     have:=L.sub (aG X) (aG Y) (aU _) (aU _) (by rw[aZ]; omega) (by rw[aZ]; omega)
     have h3:=fA (Om:X-Y≤X)
     rw[aS,aS,pH,gG Om Om,if_neg (by decide),if_neg Om,xN Om] at this
     exact this
    by_cases g:B≤A
    ·have g':dB A B≥0:=(RW A B).2 g
     rw[if_pos g]
     simp only[go_sem,γ,g',aPW]
     refine aA (hsub A B Om Om g) rfl ?_
     simp only[go_sem,δ,γ,θ,aPX]
     have h3:=fA (Om:A-B≤A)
     refine aA (low n1 (A-B) Om) rfl ?_
     obtain⟨neg',x,y,e,hl⟩:=rN (gP n1 (A-B) D)
     rw[hl]
     simp only[go_sem,δ,γ]
     rw[← hl]
     exact fin _ _ _ ⟨neg',x,y,e,hl,by simp only[go_sem,γ],by simp only[go_sem,γ],by simp only[go_sem]⟩
    ·have g':¬ dB A B≥0:=fun h=>g ((RW A B).1 h)
     rw[if_neg g]
     simp only[go_sem,γ,g',azE]
     refine aA (hsub B A Om Om Om) rfl ?_
     simp only[go_sem,δ,γ,θ,azF]
     have h3:=fA (Om:B-A≤B)
     refine aA (low n2 (B-A) Om) rfl ?_
     obtain⟨neg',x,y,e,hl⟩:=rN (gP n2 (B-A) D)
     rw[hl]
     simp only[go_sem,δ,γ]
     rw[← hl]
     exact fin _ _ _ ⟨neg',x,y,e,hl,by simp only[go_sem,γ],by simp only[go_sem,γ],by simp only[go_sem]⟩
structure RF where
 neg:Bool
 num:List Nat
 den:List Nat
abbrev RF.cells (x:RF):List PV:=dY x.neg x.num x.den
def RF.Ok (x:RF):Prop:=Lim x.num∧Lim x.den∧x.num.length≤35184372087808∧x.den.length≤35184372087808
def RF.v (x:RF):FV:=(x.neg,val x.num,val x.den)
abbrev frs (l:List RF):PV:=.sl 3 (l.map RF.cells)
def FV.rf:FV→RF
 | (n,a,b)=>⟨n,aG a,aG b⟩
def FV.Small:FV→Prop
 | (_,a,b)=>nl a≤900000∧nl b≤900000
theorem FV.bsL (x:FV):x.rf.v=x:=by
 obtain⟨n,a,b⟩:=x
 show (n,val (aG a),val (aG b))=_
 rw[aS,aS]
def nD (l:List FV):FR:=l.foldlM gU (false,0,1)
theorem qT {neg:Bool} {a b:Nat} {r:FV} (h:gP neg a b=.ok r):r.Small∧r.rf.Ok:=by
 unfold gP at h
 split at h
 ·cases h
 ·rename_i hc
  have h1:=(kI (a/bJY a b) 128).1 Om
  have h2:=(kI (b/bJY a b) 128).1 Om
  injection h with h
  subst h
  refine⟨⟨by omega,by omega⟩,aU _,aU _,?_,?_⟩
  ·show (aG _).length≤_
   rw[aZ]; omega
  ·show (aG _).length≤_
   rw[aZ]; omega
theorem akU {x y r:FV} (h:gU x y=.ok r):r.rf.Ok:=by
 obtain⟨n1,a1,b1⟩:=x
 obtain⟨n2,a2,b2⟩:=y
 simp only[gU] at h
 split at h
 ·split at h
  ·exact (qT h).2
  ·split at h
   ·exact (qT h).2
   ·exact (qT h).2
 ·cases h
theorem TQ {α β:Type} {f:β→α→Except Int β} (l:List α) (b:β) {k:Nat} (h:k<l.length):(l.take (k+1)).foldlM f b=((l.take k).foldlM f b).bind fun x=>f x l[k]:=by
 rw[bLK h,List.foldlM_append]
 cases (l.take k).foldlM f b with
 | error e=>rfl
 | ok x =>
  show ([l[k]]:List α).foldlM f x=f x l[k]
  rw[List.foldlM_cons]
  cases f x l[k]<;>rfl
theorem acN {α β:Type} {f:β→α→Except Int β} (l:List α) (b:β) {k:Nat} {e:Int} (h:(l.take k).foldlM f b=.error e):l.foldlM f b=.error e:=by
 conv=>lhs; rw[← bMF k l,List.foldlM_append,h]
 rfl
def biK (l:List RF) (o2 o4:Nat) (k:Nat):PF:=((((((PF.nil.set 2 (.ptr o2 3 0 0)).set 3 (.int .i64 0)).set 4 (.ptr o4 3 0 0)).set 11 (frs l)).set 12 (.int .i64 (l.length:Nat))).set 13 (.int .i64 k))
def ZA (o2 o4:Nat) (c:List PV):PH:=(PH.nil.set o2 (.rows 3 [[.bool false,.aB,.aB]])).set o4 (.rows 3 [c])
theorem blZ {C:Ctx} (L:EE C) (hadd:∀ x y:RF,x.Ok→y.Ok→aE C 113 [.agg x.cells,.agg y.cells] .nil (aD (frV (gU x.v y.v)))) (l:List RF) (hl:∀ x∈l,x.Ok) (hlen:l.length≤9223372036854775807) :
  MQ.wp C (aT XA.res (bY (frV (nD (l.map RF.v))))) (PF.args [frs l]) .nil:=by
 simp only[go_sem,δ,MQ,aQE]
 refine aR fun o2 ho2=>?_
 simp only[go_sem,aQF]
 refine aA (L.make 1 (by decide)) rfl ?_
 simp only[go_sem,δ,γ]
 refine aR fun o4 ho4=>?_
 have hne:o4≠o2:=by rintro rfl; simp only[bS,if_true] at ho4; cases ho4
 have bIU:o2≠o4:=Ne.symm hne
 simp only[go_sem,δ,γ,reduceCtorEq,aQG]
 refine wp_loop (α:=Nat × FV × PV) (fun t=>biK l o2 o4 t.1) (fun t=>ZA o2 o4 [.bool t.2.1.1,t.2.2,aF (aG t.2.1.2.2)]) (fun t=>t.1≤l.length∧((l.map RF.v).take t.1).foldlM gU (false,0,1)=.ok t.2.1∧(t.2.2=.aB∧t.2.1.2.1=0∨t.2.2=aF (aG t.2.1.2.1))∧(FV.rf t.2.1).Ok) (fun t=>l.length-t.1)
  (0,(false,0,1),.aB) ⟨bKF _,rfl,.inl ⟨rfl,rfl⟩,⟨aU _,aU _,?_,?_⟩⟩ ?_ ?_ ?_
 ·show (aG 0).length≤_
  rw[eW]; simp
 ·show (aG 1).length≤_
  rw[mB (by decide) (by decide)]; simp
 ·unfold biK
  (repeat' (first|exact PF.nil_le|refine PF.aI ?_ ?_))<;>first|(simp only[go_sem,γ,bJT]<;>rfl)|rfl
 ·unfold ZA
  exact PH.aI (PH.aI PH.nil_le (by simp only[go_sem,bIU,hne])) (by simp only[go_sem,bIU,hne])
 rintro⟨k,⟨an,aa,ab⟩,cy⟩ ⟨hk,hf,hco,hacc⟩
 simp only at hk hf hco hacc ⊢
 have hco':CoL [.bool an,cy,aF (aG ab)] (FV.rf (an,aa,ab)).cells:=by
  refine .cons (.refl _) (.cons ?_ (.cons (.refl _) .nil))
  rcases hco with ⟨rfl,rfl⟩ | rfl
  ·show Co .aB (aF (aG 0))
   rw[eW]; exact .nil 1
  ·exact .refl _
 simp only[go_sem,γ,azT,aQH,biK]
 by_cases hlt:k<l.length
 ·have bHW:(k:Int)<(l.length:Nat):=by omega
  have hr:(l.map RF.cells)[k]?=some (l[k]).cells:=by simp[hlt]
  simp only[go_sem,δ,γ,bHW,aQI,hr]
  refine aR fun o6 ho6=>?_
  have n64:o4≠o6:=by rintro rfl; simp only[ZA,bS,if_true] at ho6; cases ho6
  have n62:o2≠o6:=by rintro rfl; simp only[ZA,bS,if_true,if_neg bIU] at ho6; cases ho6
  simp only[go_sem,δ,γ,aQJ,ZA,n64,n62,hne,bIU]
  refine aA ((hadd (FV.rf (an,aa,ab)) l[k] hacc (hl _ (bJX hlt))).args (.cons (CoL.agg hco') (.cons (.refl _) .nil))) rfl ?_
  rw[FV.bsL]
  have bHX:=TQ (f:=gU) (l.map RF.v) (false,0,1) (k:=k) (by simpa using hlt)
  rw[hf] at bHX
  simp only[Except.bind,bMC] at bHX
  cases he:gU (an,aa,ab) (l[k]).v with
  | error e =>
   simp only[go_sem,δ,γ,frV]
   refine aR fun o7 ho7=>?_
   have he0:e≠0:=by
    revert he
    obtain⟨n2,a2,b2⟩:=(l[k]).v
    simp only[gU,gP]
    repeat' split
    all_goals (intro h; first | (injection h with h; subst h; decide) | cases h)
   have n72:o2≠o7:=by rintro rfl; simp only[bS,n62,bIU,if_true,if_false] at ho7; cases ho7
   simp only[go_sem,δ,γ,alG,cT he0,aQK,n72,n62,bIU]
   rw[he] at bHX
   rw[nD,acN _ _ bHX]
   refine gI ?_
   simp only[go_sem,δ,γ,XA]
  | ok r =>
   obtain⟨rn,ra,rb⟩:=r
   simp only[go_sem,δ,γ,frV]
   refine aR fun o7 ho7=>?_
   have n74:o4≠o7:=by rintro rfl; simp only[bS,n64,if_true,if_false] at ho7; cases ho7
   have n72:o2≠o7:=by rintro rfl; simp only[bS,n62,bIU,if_true,if_false] at ho7; cases ho7
   simp only[go_sem,σ,δ,γ,alG,aQL,n74,n72,n64,n62,hne,bIU,Ne.symm n74,aQM,wZz k]
   rw[he] at bHX
   refine aH (k+1,(rn,ra,rb),aF (aG ra)) ⟨hlt,bHX,.inr rfl,akU he⟩ (by simp only; omega) ?_ ?_
   ·exact Lq
   ·refine PH.aI (PH.aI PH.nil_le ?_) ?_
    ·simp only[go_sem,bIU,hne,n74,n72,n64,n62]
    ·simp only[go_sem,bIU,hne,n74,n72,n64,n62]
 ·have bHW:¬ (k:Int)<(l.length:Nat):=by omega
  have:k=l.length:=by omega
  subst this
  rw[bKK (by simp)] at hf
  rw[nD,hf]
  have hfin:bY (frV (.ok (an,aa,ab))) (aV [.agg [.bool an,cy,aF (aG ab)],.int .i64 0]) .nil:=⟨CoL.tup (.cons (CoL.agg hco') (.cons (.refl _) .nil)),rfl⟩
  rcases hco with ⟨rfl,rfl⟩ | rfl
  ·simp only[go_sem,δ,γ,bHW,XB,ZA,hne,bIU]
   refine aX (.inr rfl) .nil ?_ PH.nil_le hfin
   simp only[go_sem,δ,γ,XA,hne,bIU]
  ·simp only[go_sem,δ,γ,bHW,XB,ZA,hne,bIU]
   refine aX (.inr rfl) .nil ?_ PH.nil_le hfin
   simp only[go_sem,δ,γ,XA,hne,bIU]
end Go.PM
