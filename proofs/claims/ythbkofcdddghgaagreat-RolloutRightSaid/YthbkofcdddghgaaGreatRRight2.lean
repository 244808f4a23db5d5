/-
  Texts of ours, joined: Pm20 Pm20c Pm21 Pm22 Pm23 Pm24 Pm25 Pm26 Pm27 Pm29 Jf0 NaCode Pm30 Pm31 NaPlain NaW1 NaW2 NaW3 NaW4 NaW5 NaW6 NaW7 NaW8 NaW9 NaKn NaW10 NaW11 Pm32 NaW12 NaW13 NaW14 NaW15 FrCode FrW1 FrW2 FrW3 FrW4. No condition.
-/
import Derived.Test.YthbkofcdddghgaaGreatRRight1
import Derived.ProofKit
import Derived.OpenShut
set_option linter.unusedSimpArgs false
set_option linter.unusedVariables false
open Nat renaming reduceEqDiff → γ, reduceAdd → δ, reduceSub → ε, reduceMul → ζ, reduceLT → η, reduceLeDiff → θ, reduceBEq → τ
open Int renaming reduceLT → ι, reduceLE → κ, reduceEq → μ, reduceToNat → ν, reduceAdd → ξ, reduceNeg → ο, reduceBEq → ρ, reduceBNe → σ
open List renaming reduceReplicate → υ
open List renaming length_map → bKI, range → bKJ, replicate → bKL, getElem_mem → bKM, length_append → bKQ, getElem?_eq_getElem → bKU, length_singleton → bKX, mem_cons → bKY, take_of_length_le → bKZ, all_eq_true → bLA, length_take → bLB, getD_eq_getElem?_getD → bLC, take_length → bLG, append_assoc → bLI, drop_zero → bLK, mem_range → bLL, getElem?_map → bLN, mem_map → bLP, mem_singleton → bLR, getElem?_eq_some_iff → bLU, mem_append → bLV, getElem?_eq_none → bLW, length_cons → bLX, not_mem_nil → bLZ, take_succ_eq_append_getElem → bMA, append_nil → bMF, map_cons → bMG, drop_eq_getElem_cons → bMH, length_set → bMJ, Sublist → bMK, length_drop → bML, map_append → bMM, getElem_of_mem → bMP, getElem?_append_right → bMR, getElem_map → bMS, nodup_append → bMT, contains_iff_mem → bMV, length_nil → bMW, take_append_drop → bMX, nil_append → bMY, getElem?_append_left → bNB, mem_of_getElem? → bNC, getElem?_take → bNP, drop_of_length_le → bNU, getElem?_drop → bNV, length_replicate → bNW, set_append_right → bNX, eq_nil_of_length_eq_zero → bNY, getElem?_take_of_lt → bNZ
open Nat renaming le_refl → bKK, gcd → bKN, zero_le → bKT, mul_add → bKV, lt_or_ge → bLD, mul_assoc → bLE, mul_comm → bLH, zero_add → bLJ, add_mul → bLM, mul_le_mul_right → bLO, mod_eq_of_lt → bLS, mod_lt → bLY, add_zero → bMB, pow_succ → bMC, min_eq_left → bMN, mul_le_mul_left → bMO, pos_of_ne_zero → bMQ, add_assoc → bMU, pow_pos → bMZ, div_lt_iff_lt_mul → bND, le_trans → bNF, sub_self → bNG, succ_mul → bNH, eq_zero_or_pos → bNK, div_add_mod → bNQ, div_eq_of_lt → bNR
open Bool renaming false_and → bKO, not_true → bKR, true_and → bKS, not_false → bKW, and_eq_true → bLF, and_false → bLQ, and_true → bMI, and_assoc → bNJ, false_eq_true → bNL
open Option renaming map_eq_some_iff → bKP, map_some → bLT, some → bNA, getD_some → bNE, bind_eq_some_iff → bNM, bind_some → bNS
open Array renaming replicate → bMD, length_toList → bNI, getElem?_eq_getElem → bNN, getElem?_eq_some_iff → bNT
open Int renaming tdiv → bME, toNat_natCast → bNO
namespace Go.PM
open Go Go.RowKit
namespace Tbl
variable (T:Tbl)
def res:ResultVar→Option dW
 | .tmp t=>some (.tmp t)
 | .cell t ty=>match T.isAgg ty,T.size ty with
  | some true,some k=>some (.cell t (some k))
  | some false,_=>some (.cell t none)
  | _,_=>none
def aJA:List ResultVar→Option (List dW)
 | []=>some []
 | r::rs=>match T.res r,aJA rs with
  | some p,some ps=>some (p::ps)
  | _,_=>none
def func (fn:Func):Option aW :=
 match fn.body with
 | some c=>match T.code fn.ntmps c,T.aJA fn.results.toList with
  | some b,some rs=>some ⟨fn.params.size,fn.ntmps,b,rs⟩
  | _,_=>none
 | none=>none
end Tbl
section
variable {T:Tbl} {n:Nat} {E:Env} {F:PF} {H:PH} {a:Act} {w:World}
def PA (tmps:Array Value):ResultVar→Sem Value
 | .tmp t=>pure (tmps.getD t undef)
 | .cell a t=>do loadVar t (← asAddr (tmps.getD a undef))
theorem baJ {r:ResultVar} {p:dW} {pv:PV} (hr:T.res r=some p) (hv:p.ev F H=some pv) (hA:dV n E F a) (hW:bM E H w):∃ v,(PA a.tmps r).run T.P w=.ok v w∧aY E pv v:=by
 cases r with
 | tmp t =>
  simp[Tbl.res] at hr
  subst hr
  exact⟨_,rfl,hA.t t pv hv⟩
 | cell t ty =>
  simp only[Tbl.res] at hr
  split at hr
  ·rename_i k hg hs
   cases hr
   simp only[dW.ev] at hv
   split at hv
   ·rename_i q hq
    rw[bKP] at hv
    obtain⟨cs,hcs,rfl⟩:=hv
    obtain⟨b,off,hb,-⟩:=mT hW (hA.t t q hq) hcs
    obtain⟨u,h1,h2⟩:=TW (T:=T) hg hs hW (hA.t t q hq) hcs
    refine⟨u,?_,h2⟩
    rw[hb] at h1
    simpa [PA,hb,asAddr,Instr.loadAt,Instr.sureAddr] using h1
   ·cases hv
  ·rename_i hg
   cases hr
   simp only[dW.ev] at hv
   split at hv
   ·rename_i q hq
    split at hv
    ·rename_i v' hcs
     cases hv
     obtain⟨b,off,hb,-⟩:=mT hW (hA.t t q hq) hcs
     obtain⟨u,h1,h2⟩:=adG (T:=T) hg hW (hA.t t q hq) hcs
     refine⟨u,?_,h2⟩
     rw[hb] at h1
     simpa [PA,hb,asAddr,Instr.loadAt,Instr.sureAddr] using h1
    ·cases hv
   ·cases hv
  ·cases hr
theorem afA (hA:dV n E F a) (hW:bM E H w):∀ (rs:List ResultVar) (ps:List dW) (pvs:List PV),T.aJA rs=some ps→dW.evs F H ps=some pvs →
  ∃ vs,(rs.mapM (PA a.tmps)).run T.P w=.ok vs w∧eR E pvs vs
 | [],ps,pvs,h1,h2=>by
  simp[Tbl.aJA] at h1; subst h1
  simp[dW.evs] at h2; subst h2
  exact⟨[],by simp,.nil⟩
 | r::rs,ps,pvs,h1,h2=>by
  simp only[Tbl.aJA] at h1
  split at h1
  ·rename_i p ps' hp hps
   cases h1
   simp only[dW.evs] at h2
   split at h2
   ·rename_i v vs hv hvs
    cases h2
    obtain⟨u,g1,g2⟩:=baJ hp hv hA hW
    obtain⟨us,k1,k2⟩:=afA hA hW rs ps' vs hps hvs
    exact⟨u::us,by simp[List.mapM_cons,g1,k1],.cons g2 k2⟩
   ·cases h2
  ·cases h1
theorem a3H {pvs:List PV} {vs:List Value} (h:eR E pvs vs):aY E (aV pvs) (if h:vs.toArray.size=1 then vs.toArray[0] else .tuple vs.toArray):=by
 cases h with
 | nil=>exact .tup #[] rfl (by simp)
 | cons h t =>
  cases t with
  | nil=>exact h
  | cons h2 t2 =>
   rename_i p v q u ps us
   have bJV:eR E (p::q::ps) (v::u::us):=.cons h (.cons h2 t2)
   rw[dif_neg (by simp)]
   exact .tup _ (by simpa using bJV.len) (fun j pv w hp hw=>bJV.at_ j pv w hp (by simpa using hw))
theorem a3P (fn:Func) (tmps:Array Value):results fn tmps=(do
  let vs ← fn.results.mapM (PA tmps)
  pure (if h:vs.size=1 then vs[0] else .tuple vs)):=by
 unfold results
 congr 1
theorem aM {C:Ctx} (hCP:C.P=T.P) (hCN:C.num=T.num) {name:Nat} {args:List PV} {R:PV→PH→Prop} {fn:Func} {pf:aW} (hf:C.P.funcs[C.num name]?=some fn) (hnm:(fn.name=="runtime.NumGoroutine")=false)
  (hpf:T.func fn=some pf) (hlen:args.length≤pf.ntmps) (h:pf.body.wp C (aT pf.res R) (PF.args args) H):aE C name args H R:=by
 unfold Tbl.func at hpf
 split at hpf
 ·rename_i c hb
  split at hpf
  ·rename_i b rs hcode hress
   cases hpf
   refine⟨⟨fn,hf,by simp[hb],hnm⟩,fun E w vs hN hW hvs=>?_⟩
   have hvl:vs.size=args.length:=by simpa using hvs.len
   refine calls_of_wp hf hb ?_
   rw[hCP]
   have hA:dV fn.ntmps E (PF.args args) { tmps:=vs++bMD (fn.ntmps-vs.size) undef,defers:=[] }:=by
    refine⟨by simp only at hlen; simp; omega,rfl,fun i pv hi=>?_⟩
    have hil:i<vs.size:=by
     rw[hvl]
     rcases bLD i args.length with h' | h'
     ·exact h'
     ·simp[PF.args,bLW h'] at hi
    simp only[Array.getD_eq_getD_getElem?]
    rw[Array.getElem?_append_left hil,bNN hil]
    exact hvs.at_ i pv _ hi (by simp[hil])
   refine a1A hCP hCN c b (aT rs R) _ E (PF.args args) H _ w hcode h hA hW (hN.trans hCN) fun e E' F' H' a' w' hA' hW' hE hK=>?_
   have key:aT rs R .ret F' H'→bodyPost T.P fn (fun e w'=>∃ v pv E' H',e=.returned v∧bM E' H' w'∧aY E' pv v∧Ext E H w E' H' w'∧R pv H') .ret a' w':=by
    rintro⟨pvs,hpvs,F1,H1,H2,hfz,hle,v0,hv0,hR⟩
    obtain⟨us,g1,g2⟩:=afA hA' hW' fn.results.toList rs pvs hress hpvs
    have hpk:=a3H g2
    obtain⟨E2,k1,k2,k3⟩:=hfz.sound hW'
    have bKD:=k3 (fun _=>if h:us.toArray.size=1 then us.toArray[0] else .tuple us.toArray) (fun i pv hi=>by
     simp only[PF.set,upd] at hi
     split at hi
     ·cases hi; exact hpk
     ·cases hi) 0 v0 hv0
    refine⟨hA'.defers,_,?_,_,v0,E2,H2,rfl,k1.weaken hle,bKD,(hE.trans k2).drop hle,hR⟩
    rw[a3P,Array.mapM_eq_mapM_toList]
    simp[g1]
   cases e with
   | normal=>exact key hK
   | exit id=>exact hK.elim
   | ret=>exact key hK
  ·cases hpf
 ·cases hpf
end
end Go.PM
namespace Go.PM
open Go
inductive Co:PV→PV→Prop
 | refl (v:PV):Co v v
 | junk (v:PV):Co v .junk
 | nil (s:Nat):Co .aB (.sl s [])
 | osl0 (o s off s':Nat):Co (.osl o s off 0) (.sl s' [])
 | agg {cs ds:List PV} (hl:ds.length=cs.length) (h:∀ (j:Nat) p q,cs[j]?=some p→ds[j]?=some q→Co p q):Co (.agg cs) (.agg ds)
 | tup {cs ds:List PV} (hl:ds.length=cs.length) (h:∀ (j:Nat) p q,cs[j]?=some p→ds[j]?=some q→Co p q):Co (.tup cs) (.tup ds)
 | bH {cs ds:List PV} (hl:ds.length=cs.length) (h:∀ (j:Nat) p q,cs[j]?=some p→ds[j]?=some q→Co p q):Co (.bH cs) (.bH ds)
 | sl {s:Nat} {rs ts:List (List PV)} (hl:ts.length=rs.length) (hr:∀ (i:Nat) r t,rs[i]?=some r→ts[i]?=some t→t.length=r.length)
   (h:∀ (i j:Nat) p q,at2 rs i j=some p→at2 ts i j=some q→Co p q):Co (.sl s rs) (.sl s ts)
structure CoL (ps qs:List PV):Prop where
 len:qs.length=ps.length
 at_:∀ (j:Nat) p q,ps[j]?=some p→qs[j]?=some q→Co p q
theorem CoL.refl (ps:List PV):CoL ps ps:=⟨rfl,fun j p q h k=>by rw[h] at k; cases k; exact .refl p⟩
theorem Co.sound {E:Env} {p q:PV} (h:Co p q):∀ {v:Value},aY E p v→aY E q v:=by
 induction h with
 | refl=>intro v r; exact r
 | junk=>intro v _; exact .junk v
 | nil s =>
  intro v r
  cases r
  exact .sl (fun _ _=>.bool false) (by simp) (by decide) (by simp) (by simp) (fun _ _=>rfl) (by simp[at2])
 | osl0 o s off s' =>
  intro v r
  cases r with
  | osl hb hsp bKE hlen bJZ hn bJK=>exact .sl (fun _ _=>.bool false) (by simp) bJZ (by simp) (by simp) (fun _ _=>rfl) (by simp[at2])
 | agg hl h ih =>
  intro v r
  cases r with
  | agg vs hl' h1 hr =>
  refine .agg vs (hl'.trans hl.symm) h1 fun j q u hq hu=>?_
  have hj:=(bLU.1 hq).1
  have hp:=bKU (show j<_ by rw[hl] at hj; exact hj)
  exact ih j _ q hp hq (hr j _ u hp hu)
 | tup hl h ih =>
  intro v r
  cases r with
  | tup vs hl' hr =>
  refine .tup vs (hl'.trans hl.symm) fun j q u hq hu=>?_
  have hj:=(bLU.1 hq).1
  have hp:=bKU (show j<_ by rw[hl] at hj; exact hj)
  exact ih j _ q hp hq (hr j _ u hp hu)
 | bH hl h ih =>
  intro v r
  cases r with
  | bH u hsp hc h1 hr =>
  refine .bH u hsp (fun j q hq=>?_) h1 fun j q hq=>?_
  ·have hj:=(bLU.1 hq).1
   exact hc j _ (bKU (show j<_ by rw[hl] at hj; exact hj))
  ·have hj:=(bLU.1 hq).1
   have hp:=bKU (show j<_ by rw[hl] at hj; exact hj)
   exact ih j _ q hp hq (hr j _ hp)
 | @sl s rs ts hl hrr h ih =>
  intro v r
  have key:∀ (i j:Nat) q,at2 ts i j=some q→∃ p,at2 rs i j=some p:=by
   intro i j q hq
   unfold at2 at hq ⊢
   rw[bNM] at hq
   obtain⟨t,ht,hq⟩:=hq
   have hi:=(bLU.1 ht).1
   have hr:=bKU (Om:i<rs.length)
   have:=hrr i _ t hr ht
   have hj:=(bLU.1 hq).1
   rw[hr]
   exact⟨(rs[i])[j]'Om,by simp⟩
  cases r with
  | sl u hcap bJZ hs ha h1 hr =>
  rw[← hl]
  refine .sl u Om bJZ (fun t ht=>?_) (fun hne=>?_) h1 fun i j q hq=>?_
  ·obtain⟨i,hi,rfl⟩:=bMP ht
   have:=hrr i rs[i] ts[i] (by simp) (by simp)
   rw[this]
   exact hs _ (by simp)
  ·obtain⟨ad,e,sp,hc⟩:=ha (by rintro rfl; exact hne (bNY (by simpa using hl)))
   refine⟨ad,e,sp,fun i j q hq=>?_⟩
   obtain⟨p,hp⟩:=key i j q hq
   exact hc i j p hp
  ·obtain⟨p,hp⟩:=key i j q hq
   exact ih i j p q hp hq (hr i j p hp)
theorem CoL.sound {E:Env}:∀ {ps qs:List PV} {vs:List Value},CoL ps qs→eR E ps vs→eR E qs vs
 | [],qs,vs,h,r=>by
  cases r
  have:qs=[]:=bNY h.len
  subst this
  exact .nil
 | p::ps,qs,vs,h,r=>by
  cases r with
  | cons r1 r2 =>
  cases qs with
  | nil=>have:=h.len; simp at this
  | cons q qs =>
   refine .cons ((h.at_ 0 p q rfl rfl).sound r1) (CoL.sound ⟨by simpa using h.len,fun j x y a b=>h.at_ (j+1) x y (by simpa using a) (by simpa using b)⟩ r2)
theorem aE.args {C:Ctx} {name:Nat} {args args':List PV} {H:PH} {R:PV→PH→Prop} (h:aE C name args' H R) (hc:CoL args args'):aE C name args H R :=
 ⟨h.1,fun E w vs hN hW hvs=>h.2 E w vs hN hW (hc.sound hvs)⟩
theorem aE.post {C:Ctx} {name:Nat} {args:List PV} {H:PH} {R R':PV→PH→Prop} (h:aE C name args H R) (hR:∀ r H',R r H'→∃ r',Co r r'∧R' r' H'):aE C name args H R' :=
 ⟨h.1,fun E w vs hN hW hvs=>(h.2 E w vs hN hW hvs).mono fun e w' he=>by
  obtain⟨v,pv,E',H',rfl,hW',hr,hE,hp⟩:=he
  obtain⟨pv',hco,hp'⟩:=hR pv H' hp
  exact⟨v,pv',E',H',rfl,hW',hco.sound hr,hE,hp'⟩⟩
attribute [go_sem] List.getElem?_cons_succ List.getElem?_cons_zero and_self and_true true_and or_true true_or or_false false_or bKR bKW bLT bNS if_true if_false bLX bMW List.drop_succ_cons bLK List.take_succ_cons List.take_zero bMG List.map_nil bNA.injEq PV.bool.injEq PV.int.injEq aO PV.bin
@[go_sem] theorem buT (k:IntKind) (a b:Int):jY .add k a b=some (.int k (k.wrap (a+b))):=(rfl)
@[go_sem] theorem bvD (k:IntKind) (a b:Int):jY .sub k a b=some (.int k (k.wrap (a-b))):=(rfl)
@[go_sem] theorem buZ (k:IntKind) (a b:Int):jY .mul k a b=some (.int k (k.wrap (a*b))):=(rfl)
@[go_sem] theorem bvB (k:IntKind) (a b:Int):jY .quo k a b=if b=0 then none else some (.int k (k.wrap (a.tdiv b))):=(rfl)
@[go_sem] theorem bvC (k:IntKind) (a b:Int):jY .rem k a b=if b=0 then none else some (.int k (a.tmod b)):=(rfl)
@[go_sem] theorem buU (k:IntKind) (a b:Int):jY .eql k a b=some (.bool (a==b)):=(rfl)
@[go_sem] theorem bvA (k:IntKind) (a b:Int):jY .neq k a b=some (.bool (a != b)):=(rfl)
@[go_sem] theorem buY (k:IntKind) (a b:Int):jY .lss k a b=some (.bool (decide (a<b))):=(rfl)
@[go_sem] theorem buX (k:IntKind) (a b:Int):jY .leq k a b=some (.bool (decide (a≤b))):=(rfl)
@[go_sem] theorem buW (k:IntKind) (a b:Int):jY .gtr k a b=some (.bool (decide (a>b))):=(rfl)
@[go_sem] theorem buV (k:IntKind) (a b:Int):jY .geq k a b=some (.bool (decide (a≥b))):=(rfl)
section
variable {C:Ctx} {K:cO} {F:PF} {H:PH}
@[go_sem] theorem bGJ:aC.wp C .skip K F H=K .normal F H:=(rfl)
@[go_sem] theorem bxB (ops:List bB):aC.wp C (.region ops) K F H=wpOps C ops (K .normal) F H:=(rfl)
@[go_sem] theorem bqO (a b:aC):aC.wp C (.seq a b) K F H=a.wp C (jB C (b.wp C) K) F H:=(rfl)
@[go_sem] theorem byK (id:Nat) (c:aC):aC.wp C (.block id c) K F H=c.wp C (dZ id K) F H:=(rfl)
@[go_sem] theorem bGI (id:Nat):aC.wp C (.exit id) K F H=K (.exit id) F H:=(rfl)
@[go_sem] theorem bGU:aC.wp C .ret K F H=K .ret F H:=(rfl)
def SC (C:Ctx) (v:Option PV) (a b:aC) (K:cO) (F:PF) (H:PH):Prop :=
 match v with
 | some (.bool t)=>if t then a.wp C K F H else b.wp C K F H
 | _=>False
@[go_sem] theorem bkK (c:aP) (a b:aC):aC.wp C (.cond c a b) K F H=SC C (c.ev F) a b K F H:=(rfl)
@[go_sem] theorem bvL (a b:aC):SC C (some (.bool true)) a b K F H=a.wp C K F H:=(rfl)
@[go_sem] theorem btS (a b:aC):SC C (some (.bool false)) a b K F H=b.wp C K F H:=(rfl)
theorem kV {t:Bool} {a b:aC} (h1:t=true→a.wp C K F H) (h2:t=false→b.wp C K F H):SC C (some (.bool t)) a b K F H:=by
 cases t
 ·exact h2 rfl
 ·exact h1 rfl
@[go_sem] theorem buA (w:cO→PF→PH→Prop):jB C w K .normal F H=w K F H:=(rfl)
@[go_sem] theorem btF (w:cO→PF→PH→Prop):jB C w K .normal=w K:=(rfl)
@[go_sem] theorem bxX (w:cO→PF→PH→Prop) (id:Nat):jB C w K (.exit id)=K (.exit id):=(rfl)
@[go_sem] theorem bFZ (w:cO→PF→PH→Prop):jB C w K .ret=K .ret:=(rfl)
@[go_sem] theorem bqZ (id:Nat):dZ id K .normal=K .normal:=(rfl)
@[go_sem] theorem bvH (id:Nat):dZ id K .ret=K .ret:=(rfl)
@[go_sem] theorem TD (id id':Nat):dZ id K (.exit id') F H=if id'=id then K .normal F H else K (.exit id') F H:=(rfl)
@[go_sem] theorem bwZ (K:PF→PH→Prop):wpOps C [] K F H=K F H:=(rfl)
@[go_sem] theorem bxA (d:Option Nat) (op:POp) (rest:List bB) (K:PF→PH→Prop):wpOps C (⟨d,op,none⟩::rest) K F H=wpOp C op d (wpOps C rest K) F H:=(rfl)
def tD (C:Ctx) (v:Option PV) (want:Bool) (op:POp) (d:Option Nat) (rest:List bB) (K:PF→PH→Prop) (F:PF) (H:PH):Prop :=
 match v with
 | some (.bool b)=>if b=want then wpOp C op d (wpOps C rest K) F H else wpOps C rest K (F.put d (.tup [])) H
 | some (.tup [])=>wpOps C rest K (F.put d (.tup [])) H
 | _=>False
@[go_sem] theorem aPT (d:Option Nat) (op:POp) (t:Nat) (want:Bool) (rest:List bB) (K:PF→PH→Prop) :
  wpOps C (⟨d,op,some (t,want)⟩::rest) K F H=tD C (F t) want op d rest K F H:=(rfl)
@[go_sem] theorem bxT (op:POp) (d:Option Nat) (rest:List bB) (K:PF→PH→Prop):tD C (some (.bool true)) true op d rest K F H=wpOp C op d (wpOps C rest K) F H:=(rfl)
@[go_sem] theorem bxQ (op:POp) (d:Option Nat) (rest:List bB) (K:PF→PH→Prop):tD C (some (.bool false)) false op d rest K F H=wpOp C op d (wpOps C rest K) F H:=(rfl)
@[go_sem] theorem bxS (op:POp) (d:Option Nat) (rest:List bB) (K:PF→PH→Prop):tD C (some (.bool true)) false op d rest K F H=wpOps C rest K (F.put d (.tup [])) H:=(rfl)
@[go_sem] theorem bxR (op:POp) (d:Option Nat) (rest:List bB) (K:PF→PH→Prop):tD C (some (.bool false)) true op d rest K F H=wpOps C rest K (F.put d (.tup [])) H:=(rfl)
@[go_sem] theorem btX (want:Bool) (op:POp) (d:Option Nat) (rest:List bB) (K:PF→PH→Prop):tD C (some (.tup [])) want op d rest K F H=wpOps C rest K (F.put d (.tup [])) H:=(rfl)
@[go_sem] theorem bCQ (d:Nat) (v:PV):F.put (some d) v=F.set d v:=(rfl)
@[go_sem] theorem bCP (v:PV):F.put none v=F:=(rfl)
@[go_sem] theorem lK (i j:Nat) (v:PV):(F.set i v) j=if j=i then some v else F j:=(rfl)
@[go_sem] theorem args_at (vs:List PV) (i:Nat):PF.args vs i=vs[i]?:=(rfl)
@[go_sem] theorem bGZ (i:Nat):PF.nil i=none:=(rfl)
@[go_sem] theorem abU (t:Nat):(aP.tmp t).ev F=F t:=(rfl)
@[go_sem] theorem bCG (v:PV):(aP.const v).ev F=some v:=(rfl)
@[go_sem] theorem bL (i j:Nat) (x:cS):(H.set i x) j=if j=i then some x else H j:=(rfl)
@[go_sem] theorem alP (i:Nat):PH.nil i=none:=(rfl)
@[go_sem] theorem SF:aP.evs F []=some []:=(rfl)
@[go_sem] theorem wM (x:aP) (xs:List aP):aP.evs F (x::xs)=(match x.ev F,aP.evs F xs with | some v,some vs=>some (v::vs) | _,_=>none):=(rfl)
theorem cX {i j:Nat} {x:cS}:(H.set i x) j=none↔j≠i∧H j=none:=by
 rw[bL]
 split<;>simp_all
@[go_sem] theorem buB (v:PV) (d:Option Nat) (K:PF→PH→Prop):bO (some v) d K F H=K (F.put d v) H:=by
 simp[bO]
theorem aQ {mk:Nat→PV} {x:cS} {d:Option Nat} {K:PF→PH→Prop} (h:∀ o,H o=none→K (F.put d (mk o)) (H.set o x)):lF (some (mk,x)) d K F H:=⟨mk,x,rfl,h⟩
@[go_sem] theorem bGS (x:aP) (d:Option Nat) (K:PF→PH→Prop):wpOp C (.mv x) d K F H=bO (aO (.mv x) F H) d K F H:=(rfl)
@[go_sem] theorem byJ (x:aP) (d:Option Nat) (K:PF→PH→Prop):wpOp C (.same x) d K F H=bO (aO (.same x) F H) d K F H:=(rfl)
@[go_sem] theorem byI (c a b:aP) (d:Option Nat) (K:PF→PH→Prop):wpOp C (.pick c a b) d K F H=bO (aO (.pick c a b) F H) d K F H:=(rfl)
@[go_sem] theorem bGD (o:BinOp) (x y:aP) (d:Option Nat) (K:PF→PH→Prop):wpOp C (.bin o x y) d K F H=bO (aO (.bin o x y) F H) d K F H:=(rfl)
@[go_sem] theorem bGF (n:Bool) (x y:aP) (d:Option Nat) (K:PF→PH→Prop):wpOp C (.eqb n x y) d K F H=bO (aO (.eqb n x y) F H) d K F H:=(rfl)
@[go_sem] theorem bGG (n:Bool) (ks:List Sc) (x y:aP) (d:Option Nat) (K:PF→PH→Prop):wpOp C (.eqs n ks x y) d K F H=bO (aO (.eqs n ks x y) F H) d K F H:=(rfl)
@[go_sem] theorem bGT (o:UnOp) (x:aP) (d:Option Nat) (K:PF→PH→Prop):wpOp C (.un o x) d K F H=bO (aO (.un o x) F H) d K F H:=(rfl)
@[go_sem] theorem byB (k:IntKind) (x:aP) (d:Option Nat) (K:PF→PH→Prop):wpOp C (.conv k x) d K F H=bO (aO (.conv k x) F H) d K F H:=(rfl)
@[go_sem] theorem bwS (z:List PV) (ps:List (Nat × Nat × aP)) (d:Option Nat) (K:PF→PH→Prop):wpOp C (.build z ps) d K F H=bO (aO (.build z ps) F H) d K F H:=(rfl)
@[go_sem] theorem byG (n:Option Nat) (p:aP) (d:Option Nat) (K:PF→PH→Prop):wpOp C (.load n p) d K F H=bO (aO (.load n p) F H) d K F H:=(rfl)
@[go_sem] theorem buM (x:aP) (d:Option Nat) (K:PF→PH→Prop):wpOp C (.bIT x) d K F H=bO (aO (.bIT x) F H) d K F H:=(rfl)
@[go_sem] theorem buF (off:Nat) (x:aP) (d:Option Nat) (K:PF→PH→Prop):wpOp C (.bJQ off x) d K F H=bO (aO (.bJQ off x) F H) d K F H:=(rfl)
@[go_sem] theorem bwU (off:Nat) (n:Option Nat) (x:aP) (d:Option Nat) (K:PF→PH→Prop):wpOp C (.field off n x) d K F H=bO (aO (.field off n x) F H) d K F H:=(rfl)
@[go_sem] theorem byD (s:Nat) (x i:aP) (d:Option Nat) (K:PF→PH→Prop):wpOp C (.bIZ s x i) d K F H=bO (aO (.bIZ s x i) F H) d K F H:=(rfl)
@[go_sem] theorem byC (n s:Nat) (x i:aP) (d:Option Nat) (K:PF→PH→Prop):wpOp C (.idxA n s x i) d K F H=bO (aO (.idxA n s x i) F H) d K F H:=(rfl)
@[go_sem] theorem byE (n s:Nat) (g:Bool) (x i:aP) (d:Option Nat) (K:PF→PH→Prop):wpOp C (.idxV n s g x i) d K F H=bO (aO (.idxV n s g x i) F H) d K F H:=(rfl)
@[go_sem] theorem buG (x i:aP) (d:Option Nat) (K:PF→PH→Prop):wpOp C (.bJN x i) d K F H=bO (aO (.bJN x i) F H) d K F H:=(rfl)
@[go_sem] theorem bwX (s:Nat) (x:aP) (lo hi mx:Option aP) (d:Option Nat) (K:PF→PH→Prop):wpOp C (.slice s x lo hi mx) d K F H=bO (aO (.slice s x lo hi mx) F H) d K F H:=(rfl)
@[go_sem] theorem buN (n s:Nat) (x:aP) (lo hi mx:Option aP) (d:Option Nat) (K:PF→PH→Prop):wpOp C (.sliceA n s x lo hi mx) d K F H=bO (aO (.sliceA n s x lo hi mx) F H) d K F H:=(rfl)
@[go_sem] theorem brC (x:aP) (lo hi:Option aP) (d:Option Nat) (K:PF→PH→Prop):wpOp C (.bJH x lo hi) d K F H=bO (aO (.bJH x lo hi) F H) d K F H:=(rfl)
@[go_sem] theorem bxU:PV.uB .aB=some (.int .i64 0):=(rfl)
@[go_sem] theorem bGR (s:Nat) (rows:List (List PV)):PV.uB (.sl s rows)=some (.int .i64 rows.length):=(rfl)
@[go_sem] theorem bCO (o s off n:Nat):PV.uB (.osl o s off n)=some (.int .i64 n):=(rfl)
@[go_sem] theorem bGH (x:aP) (d:Option Nat) (K:PF→PH→Prop):wpOp C (.len x) d K F H=bO (aO (.len x) F H) d K F H:=(rfl)
@[go_sem] theorem buI (x:aP) (d:Option Nat) (K:PF→PH→Prop):wpOp C (.bJM x) d K F H=bO (aO (.bJM x) F H) d K F H:=(rfl)
@[go_sem] theorem byF (x:aP) (d:Option Nat) (K:PF→PH→Prop):wpOp C (.lenM x) d K F H=bO (aO (.lenM x) F H) d K F H:=(rfl)
@[go_sem] theorem bwV (n:Bool) (x:aP) (d:Option Nat) (K:PF→PH→Prop):wpOp C (.isNil n x) d K F H=bO (aO (.isNil n x) F H) d K F H:=(rfl)
@[go_sem] theorem btZ:PV.CX .aB=some true:=(rfl)
@[go_sem] theorem bwA (o s off len:Nat):PV.CX (.osl o s off len)=some false:=(rfl)
@[go_sem] theorem btY (s:Nat) (r:List PV) (rs:List (List PV)):PV.CX (.sl s (r::rs))=some false:=(rfl)
@[go_sem] theorem buE (x:aP) (d:Option Nat) (K:PF→PH→Prop):wpOp C (.bKG x) d K F H=bO (aO (.bKG x) F H) d K F H:=(rfl)
@[go_sem] theorem btP (x:aP) (i:Nat) (d:Option Nat) (K:PF→PH→Prop):wpOp C (.extract x i) d K F H=bO (aO (.extract x i) F H) d K F H:=(rfl)
@[go_sem] theorem buL (m:Bool) (x y:aP) (d:Option Nat) (K:PF→PH→Prop):wpOp C (.bJF m x y) d K F H=bO (aO (.bJF m x y) F H) d K F H:=(rfl)
@[go_sem] theorem byH (n:Nat) (cs:List aP) (d:Option Nat) (K:PF→PH→Prop):wpOp C (.mkfn n cs) d K F H=bO (aO (.mkfn n cs) F H) d K F H:=(rfl)
@[go_sem] theorem buJ (sh:MSh) (z:PV) (x k:aP) (ok:Bool) (d:Option Nat) (K:PF→PH→Prop):wpOp C (.lookup sh z x k ok) d K F H=bO (aO (.lookup sh z x k ok) F H) d K F H:=(rfl)
@[go_sem] theorem bqN (x:aP) (d:Option Nat) (K:PF→PH→Prop):wpOp C (.bIU x) d K F H=bO (aO (.bIU x) F H) d K F H:=(rfl)
@[go_sem] theorem bxZ (x:aP) (d:Option Nat) (K:PF→PH→Prop):wpOp C (.box true x) d K F H=bO (aO (.box true x) F H) d K F H:=(rfl)
@[go_sem] theorem btO (s l:Nat) (z:List PV) (ps:List (Nat × aP)) (d:Option Nat) (K:PF→PH→Prop):wpOp C (.bIK true s l z ps) d K F H=bO (aO (.bIK true s l z ps) F H) d K F H:=(rfl)
@[go_sem] theorem bwR (cs:List PV) (d:Option Nat) (K:PF→PH→Prop):wpOp C (.alloc cs) d K F H=lF (cU (.alloc cs) F) d K F H:=(rfl)
@[go_sem] theorem btQ (s b:Nat) (z:List PV) (l c:aP) (d:Option Nat) (K:PF→PH→Prop):wpOp C (.bIO s b z l c) d K F H=lF (cU (.bIO s b z l c) F) d K F H:=(rfl)
@[go_sem] theorem bwW (sh:MSh) (d:Option Nat) (K:PF→PH→Prop):wpOp C (.bKA sh) d K F H=lF (cU (.bKA sh) F) d K F H:=(rfl)
@[go_sem] theorem bGE (x:aP) (d:Option Nat) (K:PF→PH→Prop):wpOp C (.box false x) d K F H=lF (cU (.box false x) F) d K F H:=(rfl)
@[go_sem] theorem buD (s l:Nat) (z:List PV) (ps:List (Nat × aP)) (d:Option Nat) (K:PF→PH→Prop):wpOp C (.bIK false s l z ps) d K F H=lF (cU (.bIK false s l z ps) F) d K F H:=(rfl)
@[go_sem] theorem bwY (n:Nat) (p x:aP) (d:Option Nat) (K:PF→PH→Prop):wpOp C (.store n p x) d K F H=bV (.store n p x) F H (fun r H'=>K (F.put d r) H'):=(rfl)
@[go_sem] theorem buC (s b:Nat) (x y:aP) (d:Option Nat) (K:PF→PH→Prop):wpOp C (.append s b x y) d K F H=bV (.append s b x y) F H (fun r H'=>K (F.put d r) H'):=(rfl)
@[go_sem] theorem buK (sh:MSh) (x k v:aP) (d:Option Nat) (K:PF→PH→Prop):wpOp C (.bJC sh x k v) d K F H=bV (.bJC sh x k v) F H (fun r H'=>K (F.put d r) H'):=(rfl)
@[go_sem] theorem buH (sh:MSh) (x k v:aP) (d:Option Nat) (K:PF→PH→Prop):wpOp C (.insert sh x k v) d K F H=bV (.insert sh x k v) F H (fun r H'=>K (F.put d r) H'):=(rfl)
@[go_sem] theorem byA (n:Nat) (az:List aP) (d:Option Nat) (K:PF→PH→Prop):wpOp C (.call n az) d K F H=fU C n az [] d K F H:=(rfl)
@[go_sem] theorem bwT (x:aP) (az:List aP) (d:Option Nat) (K:PF→PH→Prop):wpOp C (.bJP x az) d K F H=(∃ n cs,x.ev F=some (.fn n cs)∧fU C n az cs d K F H):=(rfl)
theorem PF.nil_le:PF.nil.le F:=fun _ _ h=>(by cases h)
theorem PF.aK {i:Nat} {v:PV} {G:PF} (h1:F.le G) (h2:G i=some v):(F.set i v).le G:=by
 intro j u hj
 rw[lK] at hj
 split at hj
 ·rename_i e; subst e; cases hj; exact h2
 ·exact h1 _ _ hj
theorem PF.le_refl:F.le F:=fun _ _ h=>h
theorem PH.nil_le:PH.nil.le H:=fun _ _ h=>(by cases h)
theorem PH.aK {i:Nat} {x:cS} {G:PH} (h1:H.le G) (h2:G i=some x):(H.set i x).le G:=by
 intro j u hj
 rw[bL] at hj
 split at hj
 ·rename_i e; subst e; cases hj; exact h2
 ·exact h1 _ _ hj
theorem PH.le_refl:H.le H:=fun _ _ h=>h
theorem wp_loop {c:aC} {α:Type} (Fs:α→PF) (Hs:α→PH) (Pr:α→Prop) (m:α→Nat) (a0:α) (h0:Pr a0) (hF:(Fs a0).le F) (hH:(Hs a0).le H)
  (hb:∀ a,Pr a→c.wp C (eI Fs Hs Pr m (m a) K) (Fs a) (Hs a)):aC.wp C (.loop c) K F H :=
 ⟨α,Fs,Hs,Pr,m,a0,F,H,.refl F H,h0,hF,hH,hb⟩
theorem aI {α:Type} {Fs:α→PF} {Hs:α→PH} {Pr:α→Prop} {m:α→Nat} {n:Nat} (a:α) (h0:Pr a) (hm:m a<n) (hF:(Fs a).le F) (hH:(Hs a).le H):eI Fs Hs Pr m n K .normal F H :=
 ⟨a,F,H,.refl F H,h0,hm,hF,hH⟩
@[go_sem] theorem bwD {α:Type} {Fs:α→PF} {Hs:α→PH} {Pr:α→Prop} {m:α→Nat} {n:Nat} (id:Nat):eI Fs Hs Pr m n K (.exit id)=K (.exit id):=(rfl)
@[go_sem] theorem bxV {α:Type} {Fs:α→PF} {Hs:α→PH} {Pr:α→Prop} {m:α→Nat} {n:Nat}:eI Fs Hs Pr m n K .ret=K .ret:=(rfl)
def aD (v:PV) (r:PV) (H:PH):Prop:=r=v∧H=PH.nil
theorem PH.kY:H.eJ .nil .nil=H:=PH.ext fun o=>rfl
theorem aPS {name:Nat} {vs cs:List PV} {v:PV} {args:List aP} {d:Option Nat} {K:PF→PH→Prop} (h:aE C name (vs++cs) .nil (aD v)) (ha:aP.evs F args=some vs)
  (hk:K (F.put d v) H):fU C name args cs d K F H:=by
 refine .inl ⟨vs++cs,.nil,_,by rw[ha]; rfl,PH.nil_le,h,?_⟩
 rintro r H' ⟨rfl,rfl⟩ _
 rw[PH.kY]
 exact hk
theorem aA {name:Nat} {vs:List PV} {v:PV} {args:List aP} {d:Option Nat} {K:PF→PH→Prop} (h:aE C name vs .nil (aD v)) (ha:aP.evs F args=some vs)
  (hk:K (F.put d v) H):fU C name args [] d K F H:=aPS (cs:=[]) (by rw[bMF]; exact h) ha hk
theorem aL {res:List dW} {vs:List PV} {v:PV} {e:lO} (he:e=.normal∨e=.ret) (h:dW.evs F H res=some vs) (hv:aV vs=v):aT res (aD v) e F H:=by
 have key:∃ vs,dW.evs F H res=some vs∧∃ F1 H1 H2,iY (PF.nil.set 0 (aV vs)) H F1 H1∧H2.le H1∧∃ u,F1 0=some u∧aD v u H2 :=
  ⟨vs,h,_,H,.nil,.refl _ _,PH.nil_le,v,by rw[lK,if_pos rfl,hv],rfl,rfl⟩
 rcases he with rfl | rfl<;>exact key
@[go_sem] theorem pZ:dW.evs F H []=some []:=(rfl)
@[go_sem] theorem lC (x:dW) (xs:List dW):dW.evs F H (x::xs)=(match x.ev F H,dW.evs F H xs with | some v,some vs=>some (v::vs) | _,_=>none):=(rfl)
@[go_sem] theorem oI (t:Nat):dW.ev F H (.tmp t)=F t:=(rfl)
@[go_sem] theorem bFX (t:Nat):dW.ev F H (.cell t none)=(match F t with | some p=>(match loadCells H p 1 with | some [v]=>some v | _=>none) | none=>none):=(rfl)
@[go_sem] theorem bxW (t k:Nat):dW.ev F H (.cell t (some k))=(match F t with | some p=>(loadCells H p k).map .agg | none=>none):=(rfl)
end
section
variable {C:Ctx} {K:cO} {F:PF} {H Hs:PH} {S:Spec}
theorem bS {ops:List (bB × Bool)} (Hs:PH) (S:Spec) (hle:Hs.le H) (h:wpD C Hs S ops (K .normal) F H):aC.wp C (.draw ops) K F H:=⟨Hs,S,hle,h⟩
def eC:Spec:=fun _ _=>none
def dOp (C:Ctx) (Hs:PH) (S:Spec) (st:Bool) (op:POp) (d:Option Nat) (K:PF→PH→Prop) (F:PF) (H:PH):Prop:=(op.kind F).run C Hs S st (fun v H'=>K (F.put d v) H') H
@[go_sem] theorem bGB (K:PF→PH→Prop):wpD C Hs S [] K F H=K F H:=(rfl)
@[go_sem] theorem bGC (d:Option Nat) (op:POp) (st:Bool) (rest:List (bB × Bool)) (K:PF→PH→Prop):wpD C Hs S ((⟨d,op,none⟩,st)::rest) K F H=dOp C Hs S st op d (wpD C Hs S rest K) F H:=(rfl)
def wS (C:Ctx) (Hs:PH) (S:Spec) (v:Option PV) (want st:Bool) (op:POp) (d:Option Nat) (rest:List (bB × Bool)) (K:PF→PH→Prop) (F:PF) (H:PH):Prop :=
 match v with
 | some (.bool b)=>if b=want then dOp C Hs S st op d (wpD C Hs S rest K) F H else wpD C Hs S rest K (F.put d (.tup [])) H
 | some (.tup [])=>wpD C Hs S rest K (F.put d (.tup [])) H
 | _=>False
@[go_sem] theorem bxY (d:Option Nat) (op:POp) (t:Nat) (want st:Bool) (rest:List (bB × Bool)) (K:PF→PH→Prop) :
  wpD C Hs S ((⟨d,op,some (t,want)⟩,st)::rest) K F H=wS C Hs S (F t) want st op d rest K F H:=by
 have e1:wpD C Hs S ((⟨d,op,some (t,want)⟩,st)::rest) K F H=((⟨d,op,some (t,want)⟩:bB).kind F).run C Hs S st (fun v H'=>wpD C Hs S rest K (F.put d v) H') H:=(rfl)
 rw[e1]
 unfold bB.kind wS
 simp only
 cases F t with
 | none=>rfl
 | some v =>
  cases v
  case bool b =>
   simp only
   by_cases hb:b=want
   ·rw[if_pos hb,if_pos hb]; rfl
   ·rw[if_neg hb,if_neg hb]; simp[Kind.run]
  case tup vs=>cases vs<;>simp[Kind.run]
  all_goals rfl
@[go_sem] theorem bxP (op:POp) (st:Bool) (d:Option Nat) (rest:List (bB × Bool)) (K:PF→PH→Prop):wS C Hs S (some (.bool true)) true st op d rest K F H=dOp C Hs S st op d (wpD C Hs S rest K) F H:=(rfl)
@[go_sem] theorem bxM (op:POp) (st:Bool) (d:Option Nat) (rest:List (bB × Bool)) (K:PF→PH→Prop):wS C Hs S (some (.bool false)) false st op d rest K F H=dOp C Hs S st op d (wpD C Hs S rest K) F H:=(rfl)
@[go_sem] theorem bxO (op:POp) (st:Bool) (d:Option Nat) (rest:List (bB × Bool)) (K:PF→PH→Prop):wS C Hs S (some (.bool true)) false st op d rest K F H=wpD C Hs S rest K (F.put d (.tup [])) H:=(rfl)
@[go_sem] theorem bxN (op:POp) (st:Bool) (d:Option Nat) (rest:List (bB × Bool)) (K:PF→PH→Prop):wS C Hs S (some (.bool false)) true st op d rest K F H=wpD C Hs S rest K (F.put d (.tup [])) H:=(rfl)
@[go_sem] theorem btW (want:Bool) (op:POp) (st:Bool) (d:Option Nat) (rest:List (bB × Bool)) (K:PF→PH→Prop):wS C Hs S (some (.tup [])) want st op d rest K F H=wpD C Hs S rest K (F.put d (.tup [])) H:=(rfl)
@[go_sem] theorem bGV (x:aP) (st:Bool) (d:Option Nat) (K:PF→PH→Prop):dOp C Hs S st (.mv x) d K F H=bO (aO (.mv x) F (if st then Hs else H)) d K F H:=(rfl)
@[go_sem] theorem bCE (x:aP) (st:Bool) (d:Option Nat) (K:PF→PH→Prop):dOp C Hs S st (.same x) d K F H=bO (aO (.same x) F (if st then Hs else H)) d K F H:=(rfl)
@[go_sem] theorem bCD (c a b:aP) (st:Bool) (d:Option Nat) (K:PF→PH→Prop):dOp C Hs S st (.pick c a b) d K F H=bO (aO (.pick c a b) F (if st then Hs else H)) d K F H:=(rfl)
@[go_sem] theorem bGK (o:BinOp) (x y:aP) (st:Bool) (d:Option Nat) (K:PF→PH→Prop):dOp C Hs S st (.bin o x y) d K F H=bO (aO (.bin o x y) F (if st then Hs else H)) d K F H:=(rfl)
@[go_sem] theorem bGM (n:Bool) (x y:aP) (st:Bool) (d:Option Nat) (K:PF→PH→Prop):dOp C Hs S st (.eqb n x y) d K F H=bO (aO (.eqb n x y) F (if st then Hs else H)) d K F H:=(rfl)
@[go_sem] theorem bGN (n:Bool) (ks:List Sc) (x y:aP) (st:Bool) (d:Option Nat) (K:PF→PH→Prop):dOp C Hs S st (.eqs n ks x y) d K F H=bO (aO (.eqs n ks x y) F (if st then Hs else H)) d K F H:=(rfl)
@[go_sem] theorem bGW (o:UnOp) (x:aP) (st:Bool) (d:Option Nat) (K:PF→PH→Prop):dOp C Hs S st (.un o x) d K F H=bO (aO (.un o x) F (if st then Hs else H)) d K F H:=(rfl)
@[go_sem] theorem bBW (k:IntKind) (x:aP) (st:Bool) (d:Option Nat) (K:PF→PH→Prop):dOp C Hs S st (.conv k x) d K F H=bO (aO (.conv k x) F (if st then Hs else H)) d K F H:=(rfl)
@[go_sem] theorem bxD (z:List PV) (ps:List (Nat × Nat × aP)) (st:Bool) (d:Option Nat) (K:PF→PH→Prop):dOp C Hs S st (.build z ps) d K F H=bO (aO (.build z ps) F (if st then Hs else H)) d K F H:=(rfl)
@[go_sem] theorem bCB (n:Option Nat) (p:aP) (st:Bool) (d:Option Nat) (K:PF→PH→Prop):dOp C Hs S st (.load n p) d K F H=bO (aO (.load n p) F (if st then Hs else H)) d K F H:=(rfl)
@[go_sem] theorem bvV (x:aP) (st:Bool) (d:Option Nat) (K:PF→PH→Prop):dOp C Hs S st (.bIT x) d K F H=bO (aO (.bIT x) F (if st then Hs else H)) d K F H:=(rfl)
@[go_sem] theorem bvP (off:Nat) (x:aP) (st:Bool) (d:Option Nat) (K:PF→PH→Prop):dOp C Hs S st (.bJQ off x) d K F H=bO (aO (.bJQ off x) F (if st then Hs else H)) d K F H:=(rfl)
@[go_sem] theorem bxE (off:Nat) (n:Option Nat) (x:aP) (st:Bool) (d:Option Nat) (K:PF→PH→Prop):dOp C Hs S st (.field off n x) d K F H=bO (aO (.field off n x) F (if st then Hs else H)) d K F H:=(rfl)
@[go_sem] theorem bBY (s:Nat) (x i:aP) (st:Bool) (d:Option Nat) (K:PF→PH→Prop):dOp C Hs S st (.bIZ s x i) d K F H=bO (aO (.bIZ s x i) F (if st then Hs else H)) d K F H:=(rfl)
@[go_sem] theorem bBX (n s:Nat) (x i:aP) (st:Bool) (d:Option Nat) (K:PF→PH→Prop):dOp C Hs S st (.idxA n s x i) d K F H=bO (aO (.idxA n s x i) F (if st then Hs else H)) d K F H:=(rfl)
@[go_sem] theorem bBZ (n s:Nat) (g:Bool) (x i:aP) (st:Bool) (d:Option Nat) (K:PF→PH→Prop):dOp C Hs S st (.idxV n s g x i) d K F H=bO (aO (.idxV n s g x i) F (if st then Hs else H)) d K F H:=(rfl)
@[go_sem] theorem bvQ (x i:aP) (st:Bool) (d:Option Nat) (K:PF→PH→Prop):dOp C Hs S st (.bJN x i) d K F H=bO (aO (.bJN x i) F (if st then Hs else H)) d K F H:=(rfl)
@[go_sem] theorem bxH (s:Nat) (x:aP) (lo hi mx:Option aP) (st:Bool) (d:Option Nat) (K:PF→PH→Prop):dOp C Hs S st (.slice s x lo hi mx) d K F H=bO (aO (.slice s x lo hi mx) F (if st then Hs else H)) d K F H:=(rfl)
@[go_sem] theorem brL (x:aP) (lo hi:Option aP) (st:Bool) (d:Option Nat) (K:PF→PH→Prop):dOp C Hs S st (.bJH x lo hi) d K F H=bO (aO (.bJH x lo hi) F (if st then Hs else H)) d K F H:=(rfl)
@[go_sem] theorem bGO (x:aP) (st:Bool) (d:Option Nat) (K:PF→PH→Prop):dOp C Hs S st (.len x) d K F H=bO (aO (.len x) F (if st then Hs else H)) d K F H:=(rfl)
@[go_sem] theorem bvR (x:aP) (st:Bool) (d:Option Nat) (K:PF→PH→Prop):dOp C Hs S st (.bJM x) d K F H=bO (aO (.bJM x) F (if st then Hs else H)) d K F H:=(rfl)
@[go_sem] theorem bCA (x:aP) (st:Bool) (d:Option Nat) (K:PF→PH→Prop):dOp C Hs S st (.lenM x) d K F H=bO (aO (.lenM x) F (if st then Hs else H)) d K F H:=(rfl)
@[go_sem] theorem bxF (n:Bool) (x:aP) (st:Bool) (d:Option Nat) (K:PF→PH→Prop):dOp C Hs S st (.isNil n x) d K F H=bO (aO (.isNil n x) F (if st then Hs else H)) d K F H:=(rfl)
@[go_sem] theorem bvO (x:aP) (st:Bool) (d:Option Nat) (K:PF→PH→Prop):dOp C Hs S st (.bKG x) d K F H=bO (aO (.bKG x) F (if st then Hs else H)) d K F H:=(rfl)
@[go_sem] theorem btU (x:aP) (i:Nat) (st:Bool) (d:Option Nat) (K:PF→PH→Prop):dOp C Hs S st (.extract x i) d K F H=bO (aO (.extract x i) F (if st then Hs else H)) d K F H:=(rfl)
@[go_sem] theorem bvU (m:Bool) (x y:aP) (st:Bool) (d:Option Nat) (K:PF→PH→Prop):dOp C Hs S st (.bJF m x y) d K F H=bO (aO (.bJF m x y) F (if st then Hs else H)) d K F H:=(rfl)
@[go_sem] theorem bCC (n:Nat) (cs:List aP) (st:Bool) (d:Option Nat) (K:PF→PH→Prop):dOp C Hs S st (.mkfn n cs) d K F H=bO (aO (.mkfn n cs) F (if st then Hs else H)) d K F H:=(rfl)
@[go_sem] theorem bvS (sh:MSh) (z:PV) (x k:aP) (ok:Bool) (st:Bool) (d:Option Nat) (K:PF→PH→Prop):dOp C Hs S st (.lookup sh z x k ok) d K F H=bO (aO (.lookup sh z x k ok) F (if st then Hs else H)) d K F H:=(rfl)
@[go_sem] theorem brB (x:aP) (st:Bool) (d:Option Nat) (K:PF→PH→Prop):dOp C Hs S st (.bIU x) d K F H=bO (aO (.bIU x) F (if st then Hs else H)) d K F H:=(rfl)
@[go_sem] theorem bBV (x:aP) (st:Bool) (d:Option Nat) (K:PF→PH→Prop):dOp C Hs S st (.box true x) d K F H=bO (aO (.box true x) F (if st then Hs else H)) d K F H:=(rfl)
@[go_sem] theorem btT (s l:Nat) (z:List PV) (ps:List (Nat × aP)) (st:Bool) (d:Option Nat) (K:PF→PH→Prop):dOp C Hs S st (.bIK true s l z ps) d K F H=bO (aO (.bIK true s l z ps) F (if st then Hs else H)) d K F H:=(rfl)
@[go_sem] theorem bxC (cs:List PV) (st:Bool) (d:Option Nat) (K:PF→PH→Prop):dOp C Hs S st (.alloc cs) d K F H=lF (cU (.alloc cs) F) d K F H:=(rfl)
@[go_sem] theorem btV (s b:Nat) (z:List PV) (l c:aP) (st:Bool) (d:Option Nat) (K:PF→PH→Prop):dOp C Hs S st (.bIO s b z l c) d K F H=lF (cU (.bIO s b z l c) F) d K F H:=(rfl)
@[go_sem] theorem bxG (sh:MSh) (st:Bool) (d:Option Nat) (K:PF→PH→Prop):dOp C Hs S st (.bKA sh) d K F H=lF (cU (.bKA sh) F) d K F H:=(rfl)
@[go_sem] theorem bGL (x:aP) (st:Bool) (d:Option Nat) (K:PF→PH→Prop):dOp C Hs S st (.box false x) d K F H=lF (cU (.box false x) F) d K F H:=(rfl)
@[go_sem] theorem bvN (s l:Nat) (z:List PV) (ps:List (Nat × aP)) (st:Bool) (d:Option Nat) (K:PF→PH→Prop):dOp C Hs S st (.bIK false s l z ps) d K F H=lF (cU (.bIK false s l z ps) F) d K F H:=(rfl)
@[go_sem] theorem bxI (n:Nat) (p x:aP) (st:Bool) (d:Option Nat) (K:PF→PH→Prop):dOp C Hs S st (.store n p x) d K F H=bV (.store n p x) F H (fun r H'=>Hs.le H'∧K (F.put d r) H'):=(rfl)
@[go_sem] theorem bvM (s b:Nat) (x y:aP) (st:Bool) (d:Option Nat) (K:PF→PH→Prop):dOp C Hs S st (.append s b x y) d K F H=bV (.append s b x y) F H (fun r H'=>Hs.le H'∧K (F.put d r) H'):=(rfl)
@[go_sem] theorem bvT (sh:MSh) (x k v:aP) (st:Bool) (d:Option Nat) (K:PF→PH→Prop):dOp C Hs S st (.bJC sh x k v) d K F H=bV (.bJC sh x k v) F H (fun r H'=>Hs.le H'∧K (F.put d r) H'):=(rfl)
theorem HN:H.only []=PH.nil:=PH.ext fun o=>by simp[PH.only,PH.nil]
theorem bQ {name:Nat} {vs:List PV} {v:PV} {args:List aP} {st:Bool} {d:Option Nat} {K:PF→PH→Prop} (hS:S name vs=some ([],fun _=>aD v)) (h:aE C name vs .nil (aD v)) (ha:aP.evs F args=some vs)
  (hle:Hs.le H) (hk:K (F.put d v) H):dOp C Hs S st (.call name args) d K F H:=by
 refine⟨vs,[],fun _=>aD v,ha,hS,fun o ho=>by simp at ho,by rw[HN]; exact h,fun G=>⟨v,.nil,⟨rfl,rfl⟩,fun o x hx=>by simp[PH.nil] at hx⟩,?_⟩
 rintro r H' ⟨rfl,rfl⟩ -
 rw[HN,PH.kY]
 exact⟨hle,hk⟩
theorem SD {sh:MSh} {x k v:aP} {o:Nat} {kv vv:PV} {key:List KS} {g:eT} {st:Bool} {d:Option Nat} {K:PF→PH→Prop} (hx:x.ev F=some (.map o)) (hk:k.ev F=some kv) (hv:v.ev F=some vv) (hkey:keyOf sh kv=some key)
  (ho:H o=some (.map sh g)) (hg:g key=none) (hs:Hs o=none) (h:K (F.put d .junk) (H.set o (.map sh (g.upd key vv)))):dOp C Hs S st (.insert sh x k v) d K F H:=by
 refine⟨o,sh,key,vv,g,?_,ho,hg,hs,h⟩
 simp only[hx,hk,hv,hkey,bLT]
end
theorem wrap_i64 {n:Int} (h1:-9223372036854775808≤n) (h2:n≤9223372036854775807):IntKind.i64.wrap n=n:=by
 have e:IntKind.i64.wrap n=if decide (n%18446744073709551616≥9223372036854775808)=true then n%18446744073709551616-18446744073709551616 else n%18446744073709551616:=by
  simp[IntKind.wrap,IntKind.bits,IntKind.signed]
 rw[e]
 split
 ·rename_i h; simp only[decide_eq_true_eq] at h; omega
 ·rename_i h; simp only[decide_eq_true_eq] at h; omega
theorem xV {k:Nat} (h:k≤9223372036854775807):IntKind.i64.wrap (k:Int)=k:=wrap_i64 Om Om
theorem dC {k:Nat} (h:k<9223372036854775807):IntKind.i64.wrap ((k:Int)+1)=((k+1:Nat):Int):=by
 rw[wrap_i64 Om Om]; omega
theorem wZz (k:Nat) (h:k<9223372036854775807:=by omega):IntKind.i64.wrap ((k:Int)+1)=((k+1:Nat):Int):=dC h
theorem wrap_u64 {n:Int} (h1:0≤n) (h2:n<18446744073709551616):IntKind.u64.wrap n=n:=by
 have e:IntKind.u64.wrap n=n%18446744073709551616:=by
  simp[IntKind.wrap,IntKind.bits,IntKind.signed]
 rw[e]; omega
theorem wrap_u8 {n:Int} (h1:0≤n) (h2:n<256):IntKind.u8.wrap n=n:=by
 have e:IntKind.u8.wrap n=n%256:=by
  simp[IntKind.wrap,IntKind.bits,IntKind.signed]
 rw[e]; omega
abbrev ints (xs:List Int):PV:=.sl 1 (xs.map fun n=>[.int .i64 n])
open Go Go.RowKit
inductive CT where
 | int (k:IntKind)
 | bool
 | str
 | sl (es:List CT)
 deriving Inhabited
def oS (P:Program) (rec:TypeId→Option (List CT)):Nat→List Field→Option (List CT)
 | _,[]=>some []
 | k,f::fs=>match rec f.type with
  | some cts=>if f.offset=k∧P.cellsOf f.type=cts.length then (oS P rec (k+cts.length) fs).map (cts++·) else none
  | none=>none
def fQ (P:Program):Nat→TypeId→Option (List CT)
 | 0,_=>none
 | n+1,t=>match P.underlying t with
  | some .bool=>some [.bool]
  | some (.int k)=>some [.int k]
  | some .string=>some [.str]
  | some (.slice e)=>match fQ P n e with
   | some cts=>if P.cellsOf e=cts.length∧0<cts.length then some [.sl cts] else none
   | none=>none
  | some (.struct fs)=>match oS P (fQ P n) 0 fs.toList with
   | some cts=>if P.cellsOf t=cts.length then some cts else none
   | none=>none
  | some (.array k e)=>match fQ P n e with
   | some cts=>if P.cellsOf e=cts.length∧P.cellsOf t=k*cts.length then some (bKL k cts).flatten else none
   | none=>none
  | _=>none
inductive PV.Ty:CT→PV→Prop
 | int {k:IntKind} {n:Int} (h:(Lit.int k n).wf=true):PV.Ty (.int k) (.int k n)
 | bool (b:Bool):PV.Ty .bool (.bool b)
 | str {s:List UInt8} (h:s.length≤maxLen):PV.Ty .str (.str s)
 | sl {es:List CT} {rows:List (List PV)} (hr:∀ r∈rows,r.length=es.length) (hl:rows.length≤maxLen) (h:∀ (i j:Nat) pv ct,at2 rows i j=some pv→es[j]?=some ct→PV.Ty ct pv):PV.Ty (.sl es) (.sl es.length rows)
def Env.of (W:World) (num:Nat→FuncId):Env:=⟨fun b=>match W.heap[b]? with | some (.cells cs _ _)=>some cs | _=>none,fun _=>none,num⟩
theorem bM.start (W:World) (num:Nat→FuncId):bM (Env.of W num) PH.nil W:=by
 refine⟨fun b cs hb=>⟨fun x hx=>(by cases hx),?_⟩,fun o x hx=>(by cases hx),fun o n h=>(by cases h)⟩
 simp only[Env.of] at hb
 split at hb
 ·rename_i c ty fr h
  cases hb
  exact⟨ty,fr,h⟩
 ·cases hb
structure Reads (E:Env) (cts:List CT) (pvs:List PV) (cs:List Value):Prop where
 lp:pvs.length=cts.length
 lc:cs.length=cts.length
 rep:∀ (j:Nat) pv c,pvs[j]?=some pv→cs[j]?=some c→aY E pv c∧c.oneCell'=true
 ty:∀ (j:Nat) pv ct,pvs[j]?=some pv→cts[j]?=some ct→PV.Ty ct pv
theorem Reads.one {E:Env} {ct:CT} {pv:PV} {c:Value} (h:aY E pv c) (h1:c.oneCell'=true) (ht:PV.Ty ct pv):Reads E [ct] [pv] [c]:=by
 refine⟨rfl,rfl,fun j p u a b=>?_,fun j p u a b=>?_⟩
 ·cases j with
  | zero=>simp at a b; subst a; subst b; exact⟨h,h1⟩
  | succ j=>simp at a
 ·cases j with
  | zero=>simp at a b; subst a; subst b; exact ht
  | succ j=>simp at a
theorem Reads.append {E:Env} {ct1 ct2:List CT} {p1 p2:List PV} {c1 c2:List Value} (h:Reads E ct1 p1 c1) (k:Reads E ct2 p2 c2):Reads E (ct1++ct2) (p1++p2) (c1++c2):=by
 refine⟨by simp[h.lp,k.lp],by simp[h.lc,k.lc],fun j p u a b=>?_,fun j p u a b=>?_⟩
 ·rcases bLD j p1.length with hj | hj
  ·rw[bNB hj] at a
   rw[bNB (by rw[h.lc,← h.lp]; exact hj)] at b
   exact h.rep j p u a b
  ·rw[bMR hj] at a
   rw[bMR (by rw[h.lc,← h.lp]; exact hj)] at b
   rw[show j-c1.length=j-p1.length by rw[h.lc,h.lp]] at b
   exact k.rep _ p u a b
 ·rcases bLD j p1.length with hj | hj
  ·rw[bNB hj] at a
   rw[bNB (by rw[← h.lp]; exact hj)] at b
   exact h.ty j p u a b
  ·rw[bMR hj] at a
   rw[bMR (by rw[← h.lp]; exact hj)] at b
   rw[show j-ct1.length=j-p1.length by rw[h.lp]] at b
   exact k.ty _ p u a b
theorem aaD {W:World} {num:Nat→FuncId} {a:Addr} {v:Value} (h:W.cell? a=some v):a.spot=none∧(Env.of W num).cell a.block a.off=some v:=by
 unfold World.cell? at h
 split at h
 ·rename_i c ty fr hb
  split at h
  ·cases h
  ·rename_i hs
   refine⟨by simpa using hs,?_⟩
   simp only[Env.cell,Env.of,hb]
   exact h
 ·cases h
inductive PV.Len (N:Nat):PV→Prop
 | flat {pv:PV} (h1:∀ n rows,pv≠.sl n rows) (h2:∀ vs,pv≠.agg vs):PV.Len N pv
 | sl {n:Nat} {rows:List (List PV)} (h:rows.length≤N) (hr:∀ r∈rows,∀ v∈r,PV.Len N v):PV.Len N (.sl n rows)
 | agg {vs:List PV} (h:∀ v∈vs,PV.Len N v):PV.Len N (.agg vs)
theorem PV.Len.int {N:Nat} (k:IntKind) (n:Int):PV.Len N (.int k n):=.flat (fun _ _ h=>by cases h) fun _ h=>by cases h
theorem PV.Len.bool {N:Nat} (b:Bool):PV.Len N (.bool b):=.flat (fun _ _ h=>by cases h) fun _ h=>by cases h
theorem PV.Len.str {N:Nat} (s:List UInt8):PV.Len N (.str s):=.flat (fun _ _ h=>by cases h) fun _ h=>by cases h
theorem PV.Len.rows {N n:Nat} {rows:List (List PV)} (h:PV.Len N (.sl n rows)):rows.length≤N∧∀ r∈rows,∀ v∈r,PV.Len N v:=by
 cases h with
 | flat h1 _=>exact absurd rfl (h1 n rows)
 | sl h1 h2=>exact⟨h1,h2⟩
theorem PV.Len.parts {N:Nat} {vs:List PV} (h:PV.Len N (.agg vs)):∀ v∈vs,PV.Len N v:=by
 cases h with
 | flat _ h2=>exact absurd rfl (h2 vs)
 | agg h=>exact h
structure WD {H:Type} (P:Program) (N:Nat) (S:TypeId→DataW H→Prop):Prop where
 sl:∀ t e elems spare,P.underlying t=some (.slice e)→S t (.slice elems spare)→elems.length≤N∧∀ d∈elems,S e d
 st:∀ t fs parts,P.underlying t=some (.struct fs)→S t (.agg parts)→∀ (i:Nat) g d,fs[i]?=some g→parts[i]?=some d→S g.type d
 ar:∀ t n e parts,P.underlying t=some (.array n e)→S t (.agg parts)→∀ d∈parts,S e d
theorem RY {H:Type} {P:Program} {A:(TypeId→DataW H→Prop)→Prop} {pv:PV} (h:∀ {N},PV.Len N pv):∀ N S,WD P N S→A S→∀ v∈[pv],PV.Len N v:=fun N S _ _ v hv=>by
 obtain rfl:=bLR.1 hv
 exact h
theorem abW {P:Program} {E:Env} {rec:TypeId→Option (List CT)} {H:Type} {f:TypeId→List Value→Option (DataW H × List MemPlace)}
  (ih:∀ t cs x cts,f t cs=some x→rec t=some cts→∃ pvs,Reads E cts pvs cs∧∀ N S,WD P N S→S t x.1→∀ v∈pvs,PV.Len N v) (cs:List Value) :
  ∀ (fs:List Field) (k:Nat) (cts:List CT),(∀ g∈fs,∃ x,f g.type ((cs.drop g.offset).take (P.cellsOf g.type))=some x)→oS P rec k fs=some cts →
   ∃ pvs,Reads E cts pvs ((cs.drop k).take cts.length)∧∀ N S,WD P N S→(∀ g∈fs,∀ x,f g.type ((cs.drop g.offset).take (P.cellsOf g.type))=some x→S g.type x.1)→∀ v∈pvs,PV.Len N v
 | [],k,cts,_,h=>by
  simp[oS] at h; subst h
  exact⟨[],⟨rfl,by simp,fun j p c a=>by simp at a,fun j p c a=>by simp at a⟩,fun _ _ _ _ v hv=>by cases hv⟩
 | g::fs,k,cts,hm,h=>by
  simp only[oS] at h
  split at h
  ·rename_i c1 h1
   split at h
   ·rename_i hc
    simp only[bKP] at h
    obtain⟨c2,h2,rfl⟩:=h
    obtain⟨x,hx⟩:=hm g (by simp)
    obtain⟨p1,r1,l1⟩:=ih _ _ _ _ hx h1
    rw[hc.1,hc.2] at r1
    obtain⟨p2,r2,l2⟩:=abW ih cs fs (k+c1.length) c2 (fun g' hg'=>hm g' (by simp[hg'])) h2
    refine⟨p1++p2,?_,fun N S hM hS v hv=>?_⟩
    ·have:=r1.append r2
     rw[bKQ,List.take_add,List.drop_drop]
     exact this
    ·rcases bLV.1 hv with hv | hv
     ·exact l1 N S hM (hS g (by simp) x hx) v hv
     ·exact l2 N S hM (fun g' hg'=>hS g' (by simp[hg'])) v hv
   ·cases h
  ·cases h
theorem aoW {E:Env} {cts:List CT} {R:List PV→Prop} (h0:R []) (h1:∀ a b,R a→R b→R (a++b)) (cs:List Value) :
  ∀ n:Nat,(∀ i,i<n→∃ pvs,Reads E cts pvs ((cs.drop (i*cts.length)).take cts.length)∧R pvs)→∃ pvs,Reads E (bKL n cts).flatten pvs (cs.take (n*cts.length))∧R pvs
 | 0,_=>⟨[],⟨rfl,by simp,fun j p c a=>by simp at a,fun j p c a=>by simp at a⟩,h0⟩
 | n+1,h=>by
  obtain⟨p1,r1,q1⟩:=aoW h0 h1 cs n fun i hi=>h i Om
  obtain⟨p2,r2,q2⟩:=h n Om
  refine⟨p1++p2,?_,h1 _ _ q1 q2⟩
  rw[List.replicate_succ',List.flatten_append,List.flatten_singleton,bNH,List.take_add]
  exact r1.append r2
theorem biS {H:Type} {enc:TypeId × Value→H} {P:Program} {W:World} {base:Nat} {sp:Nat→Bool} {held:Bool} (num:Nat→FuncId) :
  ∀ (fuel m:Nat) (t:TypeId) (cs:List Value) (x:DataW H × List MemPlace) (cts:List CT),DataW.trod enc P W base sp held fuel t cs=some x→fQ P m t=some cts→∃ pvs,Reads (Env.of W num) cts pvs cs∧∀ N S,WD P N S→S t x.1→∀ v∈pvs,PV.Len N v:=by
 intro fuel
 induction fuel with
 | zero=>intro m t cs x cts h; simp[DataW.trod] at h
 | succ fuel ih =>
  intro m t cs x cts h hc
  cases m with
  | zero=>simp[fQ] at hc
  | succ m =>
   simp only[fQ] at hc
   split at hc
   ·rename_i hu
    cases hc
    obtain⟨b,rfl,-⟩:=DataW.trod_bool hu h
    exact⟨[.bool b],.one (.bool b) rfl (.bool b),RY (.bool b)⟩
   ·rename_i k hu
    cases hc
    obtain⟨n,rfl,-,hw⟩:=DataW.trod_int hu h
    exact⟨[.int k n],.one (.int k n) rfl (.int hw),RY (.int k n)⟩
   ·rename_i hu
    cases hc
    obtain⟨s,rfl,-,hs⟩:=DataW.trod_string hu h
    exact⟨[.str s.data.toList],.one (.str s) rfl (.str (by rw[bNI]; exact hs)),RY (.str _)⟩
   ·rename_i e hu
    split at hc
    ·rename_i ces he
     split at hc
     ·rename_i bJR
      cases hc
      rcases DataW.trod_slice hu h with ⟨rfl,-⟩ | ⟨a,len,cap,elems,rest,n,hn,rfl,hxe,-,hlen,hcap,hel,helem,-⟩
      ·refine⟨[.sl ces.length []],.one ?_ rfl (.sl (by simp) (by simp) (by simp[at2])),RY (.sl (bKT _) (fun r hr=>by cases hr))⟩
       exact .sl (fun _ _=>.bool false) (by simp) (by decide) (by simp) (by simp) (fun _ _=>rfl) (by simp[at2])
      ·cases hn
       have each:∀ i,i<len→∃ pvs us,(Reads (Env.of W num) ces pvs us∧∀ N S,WD P N S→(∀ d∈elems.map (·.1),S e d)→∀ v∈pvs,PV.Len N v)∧W.cells? base (a.add (i*ces.length)) ces.length=some us:=by
        intro i hi
        have h1:=helem i hi
        rw[bKU Om,bNM] at h1
        obtain⟨us,h2,h3⟩:=h1
        obtain⟨pvs,r,rl⟩:=ih m e us _ ces h3 he
        rw[bJR.1] at h2
        exact⟨pvs,us,⟨r,fun N S hM hS=>rl N S hM (hS _ (bLP.2 ⟨_,bKM _,rfl⟩))⟩,h2⟩
       have each':∀ i,∃ pvs,∃ us,i<len→(Reads (Env.of W num) ces pvs us∧∀ N S,WD P N S→(∀ d∈elems.map (·.1),S e d)→∀ v∈pvs,PV.Len N v)∧W.cells? base (a.add (i*ces.length)) ces.length=some us:=by
        intro i
        by_cases hi:i<len
        ·obtain⟨pvs,us,h1⟩:=each i hi
         exact⟨pvs,us,fun _=>h1⟩
        ·exact⟨[],[],fun h=>(hi h).elim⟩
       obtain⟨pf,hpf⟩:=Classical.axiomOfChoice each'
       obtain⟨uf,huf⟩:=Classical.axiomOfChoice hpf
       have hat:∀ i j pv,at2 ((bKJ len).map pf) i j=some pv→i<len∧(pf i)[j]?=some pv:=by
        intro i j pv hp
        unfold at2 at hp
        rw[bLN,bNM] at hp
        obtain⟨r,hr,hp⟩:=hp
        rw[bKP] at hr
        obtain⟨i',hi',rfl⟩:=hr
        have hi:i<len:=by simpa using (bLU.1 hi').1
        have:i'=i:=by simp[hi] at hi'; exact hi'.symm
        subst this
        exact⟨hi,hp⟩
       have hu2:∀ i j pv,at2 ((bKJ len).map pf) i j=some pv→∃ v,(uf i)[j]?=some v∧j<ces.length∧aY (Env.of W num) pv v∧v.oneCell'=true:=by
        intro i j pv hp
        obtain⟨hi,hp'⟩:=hat i j pv hp
        obtain⟨⟨r,-⟩,-⟩:=huf i hi
        have hj:j<ces.length:=by rw[← r.lp]; exact (bLU.1 hp').1
        have hv:(uf i)[j]?=some ((uf i)[j]'(by rw[r.lc]; exact hj)):=bKU _
        exact⟨_,hv,hj,(r.rep j pv _ hp' hv).1,(r.rep j pv _ hp' hv).2⟩
       have hul:((bKJ len).map pf).length=len:=by simp
       refine⟨[.sl ces.length ((bKJ len).map pf)],.one ?_ rfl (.sl (fun r hr=>?_) (by rw[hul]; omega) fun i j pv ct hp hct=>?_),fun N S hM hS v hv=>?_⟩
       ·have key:=aY.sl (E:=Env.of W num) (size:=ces.length) (rows:=(bKJ len).map pf) (a:=some a) (cap:=cap)
         (fun i j=>match at2 ((bKJ len).map pf) i j with | some _=>((uf i)[j]?).getD (.bool false) | none=>.bool false) (by rw[hul]; exact hlen) hcap
         (fun r hr=>by
          simp only[bLP,bLL] at hr
          obtain⟨i,hi,rfl⟩:=hr
          exact (huf i hi).1.1.lp)
         (fun hne=>by
          have hl0:0<len:=by
           rcases bNK len with h | h
           ·subst h; exact (hne rfl).elim
           ·exact h
          have hsp:a.spot=none:=by
           obtain⟨⟨r,-⟩,hc⟩:=huf 0 hl0
           have h3:=(World.cells?_some hc).2.2 0 bJR.2
           rw[Nat.zero_mul,Addr.add_zero',Addr.add_zero',bKU (by rw[r.lc]; exact bJR.2)] at h3
           exact (aaD (num:=num) h3).1
          refine⟨a,rfl,hsp,fun i j pv hp=>?_⟩
          obtain⟨hi,-⟩:=hat i j pv hp
          obtain⟨v,hv,hj,-⟩:=hu2 i j pv hp
          have h3:=(World.cells?_some (huf i hi).2).2.2 j hj
          rw[lS hsp,add_plain,add_plain,hv] at h3
          have h4:=(aaD (num:=num) h3).2
          simp only[hp,hv,bNE]
          exact h4)
         (fun i j=>by
          split
          ·rename_i pv hp
           obtain⟨v,hv,-,-,h1⟩:=hu2 i j pv hp
           simp[hv,h1]
          ·rfl)
         (fun i j pv hp=>by
          obtain⟨v,hv,-,h1,-⟩:=hu2 i j pv hp
          simp only[hp,hv,bNE]
          exact h1)
        rw[hul] at key
        exact key
       ·simp only[bLP,bLL] at hr
        obtain⟨i,hi,rfl⟩:=hr
        exact (huf i hi).1.1.lp
       ·obtain⟨hi,hp'⟩:=hat i j pv hp
        exact (huf i hi).1.1.ty j pv ct hp' hct
       ·rw[hxe] at hS
        obtain⟨m1,m2⟩:=hM.sl t e _ _ hu hS
        obtain rfl:=bLR.1 hv
        refine .sl (by rw[hul]; simpa [hel] using m1) fun r hr w hw=>?_
        simp only[bLP,bLL] at hr
        obtain⟨i,hi,rfl⟩:=hr
        exact (huf i hi).1.2 N S hM m2 w hw
     ·cases hc
    ·cases hc
   ·rename_i fs hu
    split at hc
    ·rename_i cts' hcf
     split at hc
     ·rename_i hlen
      cases hc
      obtain⟨xs,n,hn,hxe,hcl,hxl,hx⟩:=DataW.trod_struct hu h
      cases hn
      have:=abW (f:=DataW.trod enc P W base sp held fuel) (fun t cs x cts a b=>ih m t cs x cts a b) cs fs.toList 0 cts (fun g hg=>by
       obtain⟨i,hi,rfl⟩:=bMP hg
       have:=hx i fs.toList[i] (by simp at hi; simp[hi])
       rw[this]
       exact⟨_,bKU (by simp at hi; omega)⟩) hcf
      rw[bLK,bKZ Om] at this
      obtain⟨pvs,r,rl⟩:=this
      refine⟨pvs,r,fun N S hM hS=>rl N S hM fun g hg y hy=>?_⟩
      rw[hxe] at hS
      obtain⟨i,hi,rfl⟩:=bMP hg
      have hi':i<fs.size:=by simpa using hi
      have:=hx i fs.toList[i] (by simp[hi'])
      rw[hy,bKU Om] at this
      refine hM.st t fs _ hu hS i fs.toList[i] y.1 (by simp[hi']) ?_
      rw[bLN,bKU Om,← this]; rfl
     ·cases hc
    ·cases hc
   ·rename_i k e hu
    split at hc
    ·rename_i ces he
     split at hc
     ·rename_i bJR
      cases hc
      obtain⟨xs,n,hn,hxe,hcl,hxl,hx⟩:=DataW.trod_array hu h
      cases hn
      obtain⟨pvs,r,hq⟩:=aoW (E:=Env.of W num) (cts:=ces) (R:=fun pvs=>∀ N S,WD P N S→(∀ d:DataW H,d∈xs.map (fun y:DataW H × List MemPlace=>y.1)→S e d)→∀ v∈pvs,PV.Len N v) (fun _ _ _ _ v hv=>by cases hv)
       (fun a b ha hb N S hM hS v hv=>(bLV.1 hv).elim (ha N S hM hS v) (hb N S hM hS v)) cs k fun i hi=>by
        have h2:=hx i hi
        rw[bKU Om,bJR.1] at h2
        obtain⟨pvs,r,rl⟩:=ih m e _ _ ces h2 he
        exact⟨pvs,r,fun N S hM hS=>rl N S hM (hS _ (bLP.2 ⟨_,bKM _,rfl⟩))⟩
      rw[bKZ Om] at r
      exact⟨pvs,r,fun N S hM hS=>hq N S hM (hM.ar t k e _ hu (by rw[hxe] at hS; exact hS))⟩
     ·cases hc
    ·cases hc
   ·cases hc
theorem agA {H:Type} {enc:TypeId × Value→H} {P:Program} {W:World} {base:Nat} {sp:Nat→Bool} {held:Bool} (num:Nat→FuncId)
  (fuel m:Nat) (t:TypeId) (cs:List Value) (x:DataW H × List MemPlace) (cts:List CT) (h:DataW.trod enc P W base sp held fuel t cs=some x) (hc:fQ P m t=some cts):∃ pvs,Reads (Env.of W num) cts pvs cs :=
 (biS num fuel m t cs x cts h hc).imp fun _ r=>r.1
open Go Go.RowKit Go.ChangeShapes Go.WideShapes
theorem Ext.below {E E':Env} {H':PH} {w w':World} (h:Ext E PH.nil w E' H' w'):Below w.heap.size w w' :=
 ⟨h.os,h.tape,h.output,h.size,fun k hk=>h.block k hk rfl⟩
theorem Below.trodAll {H:Type} {enc:TypeId × Value→H} {P:Program} (hl:laidOutB P=true) {W W':World} (hb:Below W.heap.size W W') :
  ∀ {ts:List TypeId} {vs:List Value} {ds:List (DataW H)} {ps:List MemPlace},(∀ t∈ts,P.readableRec t=true∧t<P.types.size)→DataW.TrodAll enc P W 0 (fun _=>true) true ts vs ds ps →
   DataW.TrodAll enc P W' 0 (fun b=>decide (b<W.heap.size)) true ts vs ds ps
 | [],[],[],ps,_,h=>h
 | [],_::_,_,_,_,h=>h.elim
 | [],[],_::_,_,_,h=>h.elim
 | _::_,[],_,_,_,h=>h.elim
 | _::_,_::_,[],_,_,h=>h.elim
 | t::ts,v::vs,d::ds,ps,ht,h=>by
  obtain⟨p,q,h1,h2,rfl⟩:=h
  have hlt:∀ x∈p,x.block<W.heap.size:=fun x hx=>DataW.TrodAll.lt (ts:=[t]) (vs:=[v]) (ds:=[d]) ⟨p,[],h1,rfl,(bMF p).symm⟩ x hx
  exact⟨p,q,Below.trod hl (ht t (by simp)).1 (ht t (by simp)).2 h1 hb hlt,Below.trodAll hl hb (fun u hu=>ht u (by simp[hu])) h2,rfl⟩
theorem baD {H:Type} {enc:TypeId × Value→H} {P:Program} {f:Func} {s:ChangeSpec} {handsOn apart fresh:Bool} {W W':World} {args:Array Value} {ds gs:List (DataW H)} {before:List MemPlace} {bt:TypeId}
  (hl:laidOutB P=true) (hW:DataW.Whole enc P f.params.toList s.vars apart W args.toList ds gs before) (hb:Below W.heap.size W W') (hts:∀ t∈f.params.toList,P.readableRec t=true∧t<P.types.size)
  (hrt:f.resultTypes=#[bt]) (hbt:P.underlying bt=some .bool) (hv:s.vars=[]) (hr:(s.fn H (ds++gs)).results=[.lit (.bool true)]) (ha:(s.fn H (ds++gs)).args=ds) (hvs:(s.fn H (ds++gs)).vars=[]) :
  s.post enc P f apart fresh handsOn false W args (.bool true) W':=by
 obtain⟨p,q,hA,hV,rfl,hz,hn⟩:=hW
 rw[hv] at hV
 obtain⟨rfl,rfl⟩:=trodVars_none hV
 refine⟨ds,[],p++[],[],p,[],⟨p,[],hA,by rw[hv]; exact hV,rfl,hz,hn⟩,?_,?_,?_,hb.frame _,fun h=>by cases h⟩
 ·rw[hr,hrt]
  refine⟨[],[],⟨1,?_⟩,rfl,rfl⟩
  simp[DataW.trod,hbt,Value.cells,Value.resultList]
 ·rw[ha]
  exact Below.trodAll hl hb hts hA
 ·rw[hv,hvs]
  exact rfl
theorem a8I {C:Ctx} {name:Nat} {W:World} {args:Array Value} {pvs:List PV} (h:aE C name pvs PH.nil (aD (.bool true))) (hr:eR (Env.of W C.num) pvs args.toList) :
  Calls C.P (C.num name) args W fun e W'=>e=.returned (.bool true)∧Below W.heap.size W W' :=
 (h.2 (Env.of W C.num) W args rfl (bM.start W C.num) hr).mono fun e W' he=>by
  obtain⟨v,pv,E',H',rfl,-,bKD,hE,rfl,-⟩:=he
  cases bKD
  exact⟨rfl,hE.below⟩
theorem a0Q {H:Type} {enc:TypeId × Value→H} {P:Program} {W:World} {r:Reach} {base:Nat} {sp:Nat→Bool} {held:Bool} (num:Nat→FuncId) {t:TypeId} {v:Value} {d:DataW H} {ps:List MemPlace} {fs:Array Field} {n:Nat} {cts:List CT}
  (hu:P.underlying t=some (.struct fs)) (bIX:Value.okWide P W r base t v) (hd:DataW.Trod enc P W 0 sp held t v d ps) (hc:fQ P n t=some cts) :
  ∃ pvs,aY (Env.of W num) (.agg pvs) v∧pvs.length=cts.length∧∀ (j:Nat) pv ct,pvs[j]?=some pv→cts[j]?=some ct→PV.Ty ct pv:=by
 obtain⟨cs,rfl,-⟩:=okWide_struct hu bIX
 obtain⟨fuel,h⟩:=hd
 obtain⟨pvs,hr⟩:=agA num fuel n t _ _ cts h hc
 have hl:cs.size=pvs.length:=by have:=hr.lc; rw[hr.lp,← this]; simp[Value.cells]
 refine⟨pvs,.agg cs hl (fun u hu=>?_) (fun j pv u a b=>(hr.rep j pv u a (by simpa [Value.cells] using b)).1),hr.lp,hr.ty⟩
 obtain⟨j,hj,rfl⟩:=bMP hu
 simp only[bNI] at hj
 exact (hr.rep j _ _ (bKU Om) (by simp[Value.cells,hj])).2
theorem rQ {H:Type} {enc:TypeId × Value→H} {P:Program} {W:World} {sp:Nat→Bool} {held:Bool} (num:Nat→FuncId) {t:TypeId} {v:Value} {d:DataW H} {ps:List MemPlace} {n:Nat} {ct:CT}
  (hv:v.cells=#[v]) (hd:DataW.Trod enc P W 0 sp held t v d ps) (hc:fQ P n t=some [ct]):∃ pv,aY (Env.of W num) pv v∧PV.Ty ct pv:=by
 obtain⟨fuel,h⟩:=hd
 obtain⟨pvs,hr⟩:=agA num fuel n t _ _ [ct] h hc
 rw[hv] at hr
 have hl:=hr.lp
 cases pvs with
 | nil=>simp at hl
 | cons pv rest=>exact⟨pv,(hr.rep 0 pv v rfl rfl).1,hr.ty 0 pv ct rfl rfl⟩
def InK (k:IntKind) (n:Int):Prop:=k.min≤n∧n≤k.max
def bkX (k:IntKind) (xs:List Int):PV:=.sl 1 (xs.map fun n=>[.int k n])
theorem Ty.alS {k:IntKind} {pv:PV} (h:PV.Ty (.int k) pv):∃ n,pv=.int k n∧InK k n:=by
 cases h with
 | int h=>simp only[Lit.wf,bLF,decide_eq_true_eq] at h; exact⟨_,rfl,h⟩
theorem Ty.bpL {ct:CT} {pv:PV} (h:PV.Ty (.sl [ct]) pv):∃ vs:List PV,pv=.sl 1 (vs.map fun v=>[v])∧vs.length≤maxLen∧∀ v∈vs,PV.Ty ct v:=by
 cases h with
 | @sl es rows hr hl h =>
 have key:∀ r∈rows,r=[r.headD .junk]:=fun r hm=>by
  have:=hr r hm
  match r,this with
  | [x],_=>rfl
 have e:rows=(rows.map fun r=>r.headD .junk).map fun v=>[v]:=by
  rw[List.map_map]
  apply List.ext_getElem (by simp)
  intro n h1 h2
  simp only[bMS,Function.comp]
  exact key _ (bKM h1)
 refine⟨rows.map fun r=>r.headD .junk,by rw[← e]; rfl,by simpa using hl,fun v hv=>?_⟩
 rw[bLP] at hv
 obtain⟨r,hm,rfl⟩:=hv
 obtain⟨i,hi,rfl⟩:=bMP hm
 refine h i 0 _ ct ?_ rfl
 have:=key rows[i] hm
 unfold at2
 rw[bKU hi,bNS,this]
 rfl
theorem Ty.bgK {k:IntKind} {pv:PV} (h:PV.Ty (.sl [.int k]) pv):∃ xs:List Int,pv=bkX k xs∧xs.length≤maxLen∧∀ x∈xs,InK k x:=by
 obtain⟨vs,rfl,hl,hv⟩:=Ty.bpL h
 have e:vs=(vs.map fun v=>match v with | .int _ n=>n | _=>0).map fun n=>PV.int k n:=by
  rw[List.map_map]
  apply List.ext_getElem (by simp)
  intro n h1 h2
  simp only[bMS,Function.comp]
  obtain⟨m,hm,-⟩:=Ty.alS (hv _ (bKM h1))
  rw[hm]
 refine⟨vs.map fun v=>match v with | .int _ n=>n | _=>0,?_,by simpa using hl,fun x hx=>?_⟩
 ·unfold bkX
  conv=>lhs; rw[e]
  rw[List.map_map]
  rfl
 ·rw[bLP] at hx
  obtain⟨v,hm,rfl⟩:=hx
  obtain⟨m,rfl,hk⟩:=Ty.alS (hv v hm)
  exact hk
open Go Go.RowKit Go.ChangeShapes Go.WideShapes
inductive AT where
 | one (ct:CT)
 | struct (cts:List CT)
 deriving Inhabited
def a0P (P:Program) (n:Nat) (t:TypeId):Option AT :=
 match P.underlying t with
 | some .bool=>some (.one .bool)
 | some (.int k)=>some (.one (.int k))
 | some .string=>some (.one .str)
 | some (.slice _)=>match fQ P n t with
  | some [ct]=>some (.one ct)
  | _=>none
 | some (.struct _)=>(fQ P n t).map .struct
 | _=>none
def CP (P:Program) (n:Nat):List TypeId→Option (List AT)
 | []=>some []
 | t::ts=>match a0P P n t,CP P n ts with
  | some a,some az=>some (a::az)
  | _,_=>none
inductive AT.Ty:AT→PV→Prop
 | one {ct:CT} {pv:PV} (h:PV.Ty ct pv):AT.Ty (.one ct) pv
 | struct {cts:List CT} {pvs:List PV} (hl:pvs.length=cts.length) (h:∀ (j:Nat) pv ct,pvs[j]?=some pv→cts[j]?=some ct→PV.Ty ct pv):AT.Ty (.struct cts) (.agg pvs)
def AT.TyL:List AT→List PV→Prop
 | [],[]=>True
 | a::az,p::ps=>AT.Ty a p∧AT.TyL az ps
 | _,_=>False
section
variable {H:Type} {enc:TypeId × Value→H} {P:Program} {W:World} {sp:Nat→Bool} {held:Bool}
theorem brI {r:Reach} {base:Nat} (num:Nat→FuncId) {t:TypeId} {v:Value} {d:DataW H} {ps:List MemPlace} {n:Nat} {a:AT}
  (bIX:Value.okWide P W r base t v) (hd:DataW.Trod enc P W 0 sp held t v d ps) (ha:a0P P n t=some a):∃ pv,aY (Env.of W num) pv v∧AT.Ty a pv:=by
 unfold a0P at ha
 cases n with
 | zero =>
  split at ha
  ·rename_i hu
   cases ha
   obtain⟨b,rfl⟩:=okWide_bool hu bIX
   obtain⟨pv,h1,h2⟩:=rQ (n:=1) (ct:=.bool) num (by simp[Value.cells]) hd (by simp[fQ,hu])
   exact⟨pv,h1,.one h2⟩
  ·rename_i k hu
   cases ha
   obtain⟨b,rfl⟩:=okWide_int hu bIX
   obtain⟨pv,h1,h2⟩:=rQ (n:=1) (ct:=.int k) num (by simp[Value.cells]) hd (by simp[fQ,hu])
   exact⟨pv,h1,.one h2⟩
  ·rename_i hu
   cases ha
   obtain⟨b,rfl⟩:=okWide_string hu bIX
   obtain⟨pv,h1,h2⟩:=rQ (n:=1) (ct:=.str) num (by simp[Value.cells]) hd (by simp[fQ,hu])
   exact⟨pv,h1,.one h2⟩
  ·simp[fQ] at ha
  ·simp[fQ] at ha
  ·cases ha
 | succ n =>
  split at ha
  ·rename_i hu
   cases ha
   obtain⟨b,rfl⟩:=okWide_bool hu bIX
   obtain⟨pv,h1,h2⟩:=rQ (n:=n+1) (ct:=.bool) num (by simp[Value.cells]) hd (by simp[fQ,hu])
   exact⟨pv,h1,.one h2⟩
  ·rename_i k hu
   cases ha
   obtain⟨b,rfl⟩:=okWide_int hu bIX
   obtain⟨pv,h1,h2⟩:=rQ (n:=n+1) (ct:=.int k) num (by simp[Value.cells]) hd (by simp[fQ,hu])
   exact⟨pv,h1,.one h2⟩
  ·rename_i hu
   cases ha
   obtain⟨b,rfl⟩:=okWide_string hu bIX
   obtain⟨pv,h1,h2⟩:=rQ (n:=n+1) (ct:=.str) num (by simp[Value.cells]) hd (by simp[fQ,hu])
   exact⟨pv,h1,.one h2⟩
  ·rename_i e hu
   split at ha
   ·rename_i ct hc
    cases ha
    obtain⟨x,len,cap,rfl⟩:=okWide_slice hu bIX
    obtain⟨pv,h1,h2⟩:=rQ num (by simp[Value.cells]) hd hc
    exact⟨pv,h1,.one h2⟩
   ·cases ha
  ·rename_i fs hu
   rw[bKP] at ha
   obtain⟨cts,hc,rfl⟩:=ha
   obtain⟨pvs,h1,h2,h3⟩:=a0Q num hu bIX hd hc
   exact⟨_,h1,.struct h2 h3⟩
  ·cases ha
theorem aQC {r:Reach} {base:Nat} (num:Nat→FuncId) {n:Nat}:∀ {ts:List TypeId} {vs:List Value} {ds:List (DataW H)} {ps:List MemPlace} {az:List AT},DataW.TrodAll enc P W 0 sp held ts vs ds ps →
  (∀ (j:Nat) t v,ts[j]?=some t→vs[j]?=some v→Value.okWide P W r base t v)→CP P n ts=some az→∃ pvs,eR (Env.of W num) pvs vs∧AT.TyL az pvs
 | [],[],_,_,az,_,_,h=>by
  simp[CP] at h
  subst h
  exact⟨[],.nil,trivial⟩
 | [],_::_,_,_,_,h,_,_=>h.elim
 | _::_,[],[],_,_,h,_,_=>h.elim
 | _::_,[],_::_,_,_,h,_,_=>h.elim
 | _::_,_::_,[],_,_,h,_,_=>h.elim
 | t::ts,v::vs,d::ds,ps,az,h,hv,ha=>by
  obtain⟨p,q,h1,h2,rfl⟩:=h
  simp only[CP] at ha
  split at ha
  ·rename_i a as' e1 e2
   cases ha
   obtain⟨pv,r1,t1⟩:=brI num (hv 0 t v rfl rfl) h1 e1
   obtain⟨pvs,r2,t2⟩:=aQC num h2 (fun j t v a b=>hv (j+1) t v (by simpa using a) (by simpa using b)) e2
   exact⟨pv::pvs,.cons r1 r2,t1,t2⟩
  ·cases ha
theorem TrodAll.length:∀ {ts:List TypeId} {vs:List Value} {ds:List (DataW H)} {ps:List MemPlace},DataW.TrodAll enc P W 0 sp held ts vs ds ps→ds.length=ts.length
 | [],[],[],_,_=>rfl
 | [],[],_::_,_,h=>h.elim
 | [],_::_,_,_,h=>h.elim
 | _::_,[],[],_,h=>h.elim
 | _::_,[],_::_,_,h=>h.elim
 | _::_,_::_,[],_,h=>h.elim
 | t::ts,v::vs,d::ds,ps,h=>by
  obtain⟨p,q,h1,h2,rfl⟩:=h
  simp[TrodAll.length h2]
end
theorem azM {H:Type} {enc:TypeId × Value→H} {P:Program} {f:FuncId} {fn:Func} {s:ChangeSpec} {apart fresh handsOn:Bool} {bt:TypeId} {num:Nat→FuncId} {name n:Nat} {ats:List AT}
  (hl:laidOutB P=true) (hts:fn.params.toList.all (fun t=>P.readableRec t&&decide (t<P.types.size))=true) (hrt:fn.resultTypes=#[bt]) (hbt:P.underlying bt=some .bool) (hv:s.vars=[])
  (hs:∀ ds:List (DataW H),ds.length=fn.params.toList.length→(s.fn H ds).results=[.lit (.bool true)]∧(s.fn H ds).args=ds∧(s.fn H ds).vars=[])
  (hnum:num name=f) (ha:CP P n fn.params.toList=some ats) (h:∀ pvs,AT.TyL ats pvs→aE ⟨P,num⟩ name pvs PH.nil (aD (.bool true)))
  {W:World} {base:Nat} {args:Array Value} {ds gs:List (DataW H)} {before:List MemPlace}
  (bIX:∀ (j:Nat) t v,fn.params[j]?=some t→args[j]?=some v→Value.okWide P W .any base t v) (hW:DataW.Whole enc P fn.params.toList s.vars apart W args.toList ds gs before) :
  Calls P f args W fun e W'=>∃ v,e=.returned v∧s.post enc P fn apart fresh handsOn false W args v W':=by
 have hts':∀ t∈fn.params.toList,P.readableRec t=true∧t<P.types.size:=fun t ht=>by
  have:=bLA.1 hts t ht
  simpa using this
 have hW':=hW
 obtain⟨p,q,hA,hV,rfl,hz,hn⟩:=hW
 rw[hv] at hV
 obtain⟨rfl,rfl⟩:=trodVars_none hV
 obtain⟨pvs,hr,ht⟩:=aQC num hA (fun j t v a b=>bIX j t v (by simpa using a) (by simpa using b)) ha
 have hlen:=TrodAll.length hA
 subst hnum
 obtain⟨r1,r2,r3⟩:=hs (ds++[]) (by simpa using hlen)
 refine (a8I (C:=⟨P,num⟩) (h pvs ht) hr).mono fun e W' he=>?_
 obtain⟨rfl,hb⟩:=he
 exact⟨_,rfl,baD hl hW' hb hts' hrt hbt hv r1 (by rw[r2]; simp) r3⟩
attribute [go_sem] nP fW setCells PV.cells PV.one bV storeAt cU loadCells dR bnd PV.slice PV.intOf PV.eqs PV.eq1 PV.un keyOf KS.of KS.ofs KS.sh List.all_cons List.all_nil List.set_cons_zero List.set_cons_succ bKS bMI bKO bLQ bLA Bool.and_self
attribute [go_sem] Bool.bne_false Bool.bne_true Int.le_refl Int.lt_irrefl decide_true decide_false exists_eq_left exists_eq_left' bKI bNW bNO Int.natCast_nonneg Option.isSome_some Option.isSome_none bNE Option.getD_none decide_eq_true_eq decide_eq_false_iff_not bLJ bMB bKK Nat.sub_zero
def bE (xs:List Int):List (List PV):=xs.map fun n=>[.int .i64 n]
theorem bF {a b:Int} (h:a≠b):(a==b)=false:=by simp[h]
theorem bT {a b:Int} (h:a=b):(a==b)=true:=by simp[h]
theorem cQ {a b:Int} (h:a≠b):(a != b)=true:=by simp[h]
theorem cA {a b:Int} (h:a=b):(a != b)=false:=by simp[h]
section
variable {H:PH}
@[go_sem] theorem PH.set_set (o:Nat) (x y:cS):(H.set o x).set o y=H.set o y:=PH.ext fun q=>by
 simp only[bL]; split<;>rfl
@[go_sem] theorem eS (o:Nat) (x:cS):(H.set o x) o=some x:=by simp only[bL,if_true]
end
def aN (C:Ctx) (k:Nat) (pf:aW):Prop:=∀ (args:List PV) (H:PH) (R:PV→PH→Prop),args.length≤pf.ntmps→pf.body.wp C (aT pf.res R) (PF.args args) H→aE C k args H R
theorem aN.go {C:Ctx} {k:Nat} {pf:aW} (r:aN C k pf) {args:List PV} {H:PH} {R:PV→PH→Prop} (h:pf.body.wp C (aT pf.res R) (PF.args args) H) (hl:Nat.ble args.length pf.ntmps=true):aE C k args H R:=r args H R (Nat.le_of_ble_eq_true hl) h
abbrev Rg:=List bB
abbrev Rd:=List (bB×Bool)
def iM (d s:Nat):bB:=⟨some d,.mv (.tmp s),none⟩
def iI (d:Nat) (n:Int):bB:=⟨some d,.mv (.const (.int .i64 n)),none⟩
def iB (d:Nat) (o:BinOp) (x y:Nat):bB:=⟨some d,.bin o (.tmp x) (.tmp y),none⟩
def iC (d:Nat) (o:BinOp) (x:Nat) (n:Int):bB:=⟨some d,.bin o (.tmp x) (.const (.int .i64 n)),none⟩
def iL (d s:Nat):bB:=⟨some d,.load none (.tmp s),none⟩
def iX (d n x y:Nat):bB:=⟨some d,.bIZ n (.tmp x) (.tmp y),none⟩
def iN (d x:Nat):bB:=⟨some d,.len (.tmp x),none⟩
def iF (d n x:Nat):bB:=⟨some d,.bJQ n (.tmp x),none⟩
def iS (n p x:Nat):bB:=⟨none,.store n (.tmp p) (.tmp x),none⟩
def iA (d:Nat) (o:POp):bB:=⟨some d,o,none⟩
def iG (d:Nat) (o:POp) (g:Nat) (b:Bool):bB:=⟨some d,o,some (g,b)⟩
def iP (d a b:Nat):bB:=⟨some d,.pick (.tmp a) (.tmp b) (.const (.bool false)),none⟩
def iQ (d a b:Nat):bB:=⟨some d,.pick (.tmp a) (.const (.bool true)) (.tmp b),none⟩
def iO (d s a:Nat):bB:=⟨some d,.load (some s) (.tmp a),none⟩
def iE (d a n:Nat):bB:=⟨some d,.extract (.tmp a) n,none⟩
def iK (d f a:Nat):bB:=⟨some d,.call f [.tmp a],none⟩
def iK2 (d f a b:Nat):bB:=⟨some d,.call f [.tmp a,.tmp b],none⟩
def iT (d:Nat) (b:Bool):bB:=⟨some d,.mv (.const (.bool b)),none⟩
def iZ (d:Nat):bB:=⟨some d,.mv (.const .aB),none⟩
def gM (d s g:Nat) (b:Bool):bB:=⟨some d,.mv (.tmp s),some (g,b)⟩
def gL (d s g:Nat) (b:Bool):bB:=⟨some d,.load none (.tmp s),some (g,b)⟩
def gF (d n s g:Nat) (b:Bool):bB:=⟨some d,.bJQ n (.tmp s),some (g,b)⟩
def gN (d s g:Nat) (b:Bool):bB:=⟨some d,.len (.tmp s),some (g,b)⟩
def gO (d n s g:Nat) (b:Bool):bB:=⟨some d,.load (some n) (.tmp s),some (g,b)⟩
def gK (d f a g:Nat) (b:Bool):bB:=⟨some d,.call f [.tmp a],some (g,b)⟩
def gK2 (d f a c g:Nat) (b:Bool):bB:=⟨some d,.call f [.tmp a,.tmp c],some (g,b)⟩
def gC (d:Nat) (o:BinOp) (x:Nat) (n:Int) (g:Nat) (b:Bool):bB:=⟨some d,.bin o (.tmp x) (.const (.int .i64 n)),some (g,b)⟩
def gB (d:Nat) (o:BinOp) (x y g:Nat) (b:Bool):bB:=⟨some d,.bin o (.tmp x) (.tmp y),some (g,b)⟩
def sq (r:Rg) (c:aC):aC:=.seq (.region r) c
def dq (r:Rd) (c:aC):aC:=.seq (.draw r) c
def Tm (n:Nat):aP:=.tmp n
def Ci (n:Int):aP:=.const (.int .i64 n)
@[go_sem] theorem bHU (d s:Nat):iM d s=⟨some d,.mv (.tmp s),none⟩:=(rfl)
@[go_sem] theorem bHR (d:Nat) (n:Int):iI d n=⟨some d,.mv (.const (.int .i64 n)),none⟩:=(rfl)
@[go_sem] theorem bHM (d:Nat) (o:BinOp) (x y:Nat):iB d o x y=⟨some d,.bin o (.tmp x) (.tmp y),none⟩:=(rfl)
@[go_sem] theorem bHN (d:Nat) (o:BinOp) (x:Nat) (n:Int):iC d o x n=⟨some d,.bin o (.tmp x) (.const (.int .i64 n)),none⟩:=(rfl)
@[go_sem] theorem bHT (d s:Nat):iL d s=⟨some d,.load none (.tmp s),none⟩:=(rfl)
@[go_sem] theorem bIB (d n x y:Nat):iX d n x y=⟨some d,.bIZ n (.tmp x) (.tmp y),none⟩:=(rfl)
@[go_sem] theorem bHV (d x:Nat):iN d x=⟨some d,.len (.tmp x),none⟩:=(rfl)
@[go_sem] theorem bHP (d n x:Nat):iF d n x=⟨some d,.bJQ n (.tmp x),none⟩:=(rfl)
@[go_sem] theorem bHZ (n p x:Nat):iS n p x=⟨none,.store n (.tmp p) (.tmp x),none⟩:=(rfl)
@[go_sem] theorem bHL (d:Nat) (o:POp):iA d o=⟨some d,o,none⟩:=(rfl)
@[go_sem] theorem bHQ (d:Nat) (o:POp) (g:Nat) (b:Bool):iG d o g b=⟨some d,o,some (g,b)⟩:=(rfl)
@[go_sem] theorem bHX (d a b:Nat):iP d a b=⟨some d,.pick (.tmp a) (.tmp b) (.const (.bool false)),none⟩:=(rfl)
@[go_sem] theorem bHY (d a b:Nat):iQ d a b=⟨some d,.pick (.tmp a) (.const (.bool true)) (.tmp b),none⟩:=(rfl)
@[go_sem] theorem bHW (d s a:Nat):iO d s a=⟨some d,.load (some s) (.tmp a),none⟩:=(rfl)
@[go_sem] theorem bHO (d a n:Nat):iE d a n=⟨some d,.extract (.tmp a) n,none⟩:=(rfl)
@[go_sem] theorem bHS (d f a:Nat):iK d f a=⟨some d,.call f [.tmp a],none⟩:=(rfl)
@[go_sem] theorem bGY (d f a b:Nat):iK2 d f a b=⟨some d,.call f [.tmp a,.tmp b],none⟩:=(rfl)
@[go_sem] theorem bIA (d:Nat) (b:Bool):iT d b=⟨some d,.mv (.const (.bool b)),none⟩:=(rfl)
@[go_sem] theorem bIC (d:Nat):iZ d=⟨some d,.mv (.const .aB),none⟩:=(rfl)
@[go_sem] theorem bHI (d s g:Nat) (b:Bool):gM d s g b=⟨some d,.mv (.tmp s),some (g,b)⟩:=(rfl)
@[go_sem] theorem bHH (d s g:Nat) (b:Bool):gL d s g b=⟨some d,.load none (.tmp s),some (g,b)⟩:=(rfl)
@[go_sem] theorem bHF (d n s g:Nat) (b:Bool):gF d n s g b=⟨some d,.bJQ n (.tmp s),some (g,b)⟩:=(rfl)
@[go_sem] theorem bHJ (d s g:Nat) (b:Bool):gN d s g b=⟨some d,.len (.tmp s),some (g,b)⟩:=(rfl)
@[go_sem] theorem bHK (d n s g:Nat) (b:Bool):gO d n s g b=⟨some d,.load (some n) (.tmp s),some (g,b)⟩:=(rfl)
@[go_sem] theorem bHG (d f a g:Nat) (b:Bool):gK d f a g b=⟨some d,.call f [.tmp a],some (g,b)⟩:=(rfl)
@[go_sem] theorem bGX (d f a c g:Nat) (b:Bool):gK2 d f a c g b=⟨some d,.call f [.tmp a,.tmp c],some (g,b)⟩:=(rfl)
@[go_sem] theorem bHE (d:Nat) (o:BinOp) (x:Nat) (n:Int) (g:Nat) (b:Bool):gC d o x n g b=⟨some d,.bin o (.tmp x) (.const (.int .i64 n)),some (g,b)⟩:=(rfl)
@[go_sem] theorem bHD (d:Nat) (o:BinOp) (x y g:Nat) (b:Bool):gB d o x y g b=⟨some d,.bin o (.tmp x) (.tmp y),some (g,b)⟩:=(rfl)
@[go_sem] theorem bID (r:Rg) (c:aC):sq r c=.seq (.region r) c:=(rfl)
@[go_sem] theorem bHC (r:Rd) (c:aC):dq r c=.seq (.draw r) c:=(rfl)
@[go_sem] theorem bHB (n:Nat):Tm n=.tmp n:=(rfl)
@[go_sem] theorem bHA (n:Int):Ci n=.const (.int .i64 n):=(rfl)
end Go.PM
namespace Go.PM
open Go
def HF:Rg:=[iI 2 0]
def HG:Rg:=[iM 4 0,iN 5 4,iM 3 5]
def HH:Rg:=[iM 6 3,iC 7 .gtr 6 0,iM 8 7,gM 9 0 8 true,gM 10 3 8 true,gC 11 .sub 10 1 8 true,iG 12 (.bIZ 1 (Tm 9) (Tm 11)) 8 true,gL 13 12 8 true,iG 14 (.bin .eql (Tm 13) (.const (.int .u32 0))) 8 true,iP 15 8 14]
def HI:Rg:=[iM 16 3,iC 17 .sub 16 1,iM 3 17]
def HE:aC:=(.seq (sq HH (.cond (Tm 15) .skip (.exit 0))) (.block 1 (.region HI)))
def rA:Rg:=[iM 18 3,iM 2 18]
def nF:aC:=(sq HF (sq HG (.seq (.block 0 (.loop HE)) (sq rA .ret))))
def a3D:List Nat:=[]
def rZ:aW:=⟨1,19,nF,[.tmp 2]⟩
def aqO:Rg:=[iT 2 false]
def aqP:Rg:=[iM 3 0,iK 4 138 3,iC 5 .gtr 4 512,iM 2 5]
def AQ:aC:=(sq aqO (sq aqP .ret))
def a9A:List Nat:=[]
def NQ:aW:=⟨1,6,AQ,[.tmp 2]⟩
def arB:Rg:=[iZ 2,iI 3 0]
def arC:Rg:=[iM 5 0,iK 6 138 5,iM 4 6]
def arD:Rg:=[iM 7 4,iC 8 .gtr 7 512]
def arE:Rg:=[iZ 2,iI 3 2]
def arF:Rg:=[iM 9 0,iM 10 4,iM 11 4,iA 12 (.slice 1 (Tm 9) none (some (Tm 10)) (some (Tm 11))),iM 2 12,iI 3 0]
def AS:aC:=(sq arB (sq arC (.seq (sq arD (.cond (Tm 8) (sq arE .ret) .skip)) (sq arF .ret))))
def a9F:List Nat:=[]
def NX:aW:=⟨1,13,AS,[.tmp 2,.tmp 3]⟩
def aGM:Rg:=[iZ 2]
def aGN:Rg:=[iM 4 0,iA 5 (.conv .u32 (Tm 4)),iM 6 0,iA 7 (.bin .shr (Tm 6) (.const (.int .u64 32))),iA 8 (.conv .u32 (Tm 7)),iA 9 (.bIK true 1 2 [(.int .u32 0)] [(0,(Tm 5)),(1,(Tm 8))]),iM 3 9]
def aGO:Rg:=[iM 10 3,iM 11 3,iK 12 138 11,iA 13 (.slice 1 (Tm 10) none (some (Tm 12)) none),iM 2 13]
def HJ:aC:=(sq aGM (sq aGN (sq aGO .ret)))
def bhB:List Nat:=[9]
def aeJ:aW:=⟨1,14,HJ,[.tmp 2]⟩
def aHG:Rg:=[iZ 2]
def aHH:Rg:=[iM 3 0,iM 4 0,iK 5 138 4,iA 6 (.slice 1 (Tm 3) none (some (Tm 5)) none),iA 7 (.append 1 4 (.const .aB) (Tm 6)),iM 2 7]
def HK:aC:=(sq aHG (sq aHH .ret))
def bhE:List Nat:=[]
def aeN:aW:=⟨1,8,HK,[.tmp 2]⟩
def aTU:Rg:=[iI 4 0]
def aTV:Rg:=[iM 8 0,iK 9 138 8,iM 10 1,iK 11 138 10,iM 5 9,iM 6 11]
def aTW:Rg:=[iM 13 5,iM 14 6,iB 15 .lss 13 14,iM 12 15]
def aTX:Rg:=[iI 4 (-1)]
def aTY:Rg:=[iM 17 5,iM 18 6,iB 19 .gtr 17 18,iM 16 19]
def aTZ:Rg:=[iI 4 1]
def aUA:Rg:=[iM 20 5,iC 21 .sub 20 1,iM 7 21]
def aUB:Rg:=[iM 22 7,iC 23 .geq 22 0]
def aUC:Rd:=[(iM 27 0,false),(iM 28 7,false),(iX 29 1 27 28,false),(iL 30 29,false),(iM 31 1,false),(iM 32 7,false),(iX 33 1 31 32,false),(iL 34 33,false),(iB 35 .lss 30 34,false),(iM 26 35,false)]
def aUD:Rg:=[iI 4 (-1)]
def aGB:Rd:=[(iM 37 0,false),(iM 38 7,false),(iX 39 1 37 38,false),(iL 40 39,false),(iM 41 1,false),(iM 42 7,false),(iX 43 1 41 42,false),(iL 44 43,false),(iB 45 .gtr 40 44,false),(iM 36 45,false)]
def aGC:Rg:=[iI 4 1]
def aGD:Rg:=[iM 24 7,iC 25 .sub 24 1,iM 7 25]
def aGA:aC:=(.seq (sq aUB (.cond (Tm 23) .skip (.exit 1))) (.seq (.block 2 (.block 3 (dq aUC (.cond (Tm 26) (sq aUD .ret) (dq aGB (.cond (Tm 36) (sq aGC .ret) .skip)))))) (.region aGD)))
def aGE:Rg:=[iI 4 0]
def NL:aC:=(sq aTU (sq aTV (.seq (.block 0 (sq aTW (.cond (Tm 12) (sq aTX .ret) (sq aTY (.cond (Tm 16) (sq aTZ .ret) .skip))))) (.seq (sq aUA (.block 1 (.loop aGA))) (sq aGE .ret)))))
def boF:List Nat:=[]
def aFZ:aW:=⟨2,46,NL,[.tmp 4]⟩
def aTO:Rg:=[iZ 4,iI 5 0]
def aTP:Rg:=[iM 9 0,iK 10 137 9,iM 11 10,gM 12 1 11 false,gK 13 137 12 11 false,iQ 14 11 13]
def alX:Rg:=[iZ 4,iI 5 2]
def aTQ:Rd:=[(iM 15 0,true),(iM 16 0,false),(iK 17 138 16,true),(iA 18 (.slice 1 (Tm 15) none (some (Tm 17)) none),true),(iM 19 1,true),(iM 20 1,true),(iK 21 138 20,true),(iA 22 (.slice 1 (Tm 19) none (some (Tm 21)) none),false),(iM 0 18,false),(iM 1 22,false)]
def aTR:Rg:=[iM 23 0,iN 24 23,iM 25 1,iN 26 25,iB 27 .lss 24 26]
def aTS:Rg:=[iM 28 1,iM 29 0,iM 0 28,iM 1 29]
def alY:Rg:=[iM 30 0,iN 31 30,iC 32 .add 31 1,iA 33 (.bIO 1 4 [(.int .u32 0)] (Tm 32) (Tm 32)),iM 6 33]
def alZ:Rg:=[iA 7 (.mv (.const (.int .u64 0)))]
def amA:Rg:=[iM 34 0,iN 35 34,iI 36 0]
def aTT:Rg:=[iB 37 .lss 36 35]
def aFK:Rg:=[iM 38 36,iM 8 38]
def aFL:Rg:=[iM 39 7,iM 40 0,iM 41 8,iX 42 1 40 41,iL 43 42,iA 44 (.conv .u64 (Tm 43)),iB 45 .add 39 44,iM 7 45]
def aFM:Rg:=[iM 46 8,iM 47 1,iN 48 47,iB 49 .lss 46 48]
def aFN:Rg:=[iM 50 7,iM 51 1,iM 52 8,iX 53 1 51 52,iL 54 53,iA 55 (.conv .u64 (Tm 54)),iB 56 .add 50 55,iM 7 56]
def XQ:Rg:=[iM 57 6,iM 58 8,iM 59 7,iA 60 (.conv .u32 (Tm 59)),iX 61 1 57 58,iS 1 61 60]
def XR:Rg:=[iM 62 7,iA 63 (.bin .shr (Tm 62) (.const (.int .u64 32))),iM 7 63]
def XS:Rg:=[iC 64 .add 36 1,iM 36 64]
def XP:aC:=(sq aTT (.seq (.cond (Tm 37) .skip (.exit 0)) (.seq (.block 1 (sq aFK (sq aFL (.seq (sq aFM (.cond (Tm 49) (.region aFN) .skip)) (sq XQ (.region XR)))))) (.region XS))))
def XT:Rg:=[iM 65 6,iM 66 0,iN 67 66,iM 68 7,iA 69 (.conv .u32 (Tm 68)),iX 70 1 65 67,iS 1 70 69]
def XU:Rg:=[iM 71 6,iK 72 141 71,iE 73 72 0,iE 74 72 1,iM 4 73,iM 5 74]
def NK:aC:=(sq aTO (.seq (sq aTP (.cond (Tm 14) (sq alX .ret) .skip)) (dq aTQ (.seq (sq aTR (.cond (Tm 27) (.region aTS) .skip)) (sq alY (sq alZ (.seq (sq amA (.block 0 (.loop XP))) (sq XT (sq XU .ret)))))))))
def boC:List Nat:=[]
def aFJ:aW:=⟨2,75,NK,[.tmp 4,.tmp 5]⟩
def aUW:Rg:=[iZ 4,iI 5 0]
def aUX:Rg:=[iM 11 0,iK 12 137 11,iM 13 12,gM 14 1 13 false,gK 15 137 14 13 false,iQ 16 13 15,iM 10 16]
def amL:Rg:=[iZ 4,iI 5 2]
def aUY:Rg:=[iM 18 0,iM 19 1,iK2 20 129 18 19,iC 21 .lss 20 0,iM 17 21]
def aUZ:Rg:=[iZ 4,iI 5 4]
def aVA:Rd:=[(iM 22 0,true),(iM 23 0,false),(iK 24 138 23,true),(iA 25 (.slice 1 (Tm 22) none (some (Tm 24)) none),true),(iM 26 1,true),(iM 27 1,true),(iK 28 138 27,true),(iA 29 (.slice 1 (Tm 26) none (some (Tm 28)) none),false),(iM 0 25,false),(iM 1 29,false)]
def amM:Rg:=[iM 30 0,iN 31 30,iA 32 (.bIO 1 4 [(.int .u32 0)] (Tm 31) (Tm 31)),iM 6 32]
def amN:Rg:=[iA 7 (.mv (.const (.int .u64 0)))]
def amO:Rg:=[iM 33 0,iN 34 33,iI 35 0]
def aVB:Rg:=[iB 36 .lss 35 34]
def aGZ:Rg:=[iM 37 35,iM 8 37]
def aHA:Rg:=[iM 38 0,iM 39 8,iX 40 1 38 39,iL 41 40,iA 42 (.conv .u64 (Tm 41)),iM 43 7,iB 44 .sub 42 43,iM 9 44]
def aHB:Rg:=[iM 45 8,iM 46 1,iN 47 46,iB 48 .lss 45 47]
def aHC:Rg:=[iM 49 9,iM 50 1,iM 51 8,iX 52 1 50 51,iL 53 52,iA 54 (.conv .u64 (Tm 53)),iB 55 .sub 49 54,iM 9 55]
def YD:Rg:=[iM 56 6,iM 57 8,iM 58 9,iA 59 (.conv .u32 (Tm 58)),iX 60 1 56 57,iS 1 60 59]
def YE:Rg:=[iM 61 9,iA 62 (.bin .shr (Tm 61) (.const (.int .u64 63))),iM 7 62]
def YF:Rg:=[iC 63 .add 35 1,iM 35 63]
def YC:aC:=(sq aVB (.seq (.cond (Tm 36) .skip (.exit 1)) (.seq (.block 2 (sq aGZ (sq aHA (.seq (sq aHB (.cond (Tm 48) (.region aHC) .skip)) (sq YD (.region YE)))))) (.region YF))))
def YG:Rg:=[iM 64 6,iK 65 141 64,iE 66 65 0,iE 67 65 1,iM 4 66,iM 5 67]
def NY:aC:=(sq aUW (.seq (.block 0 (sq aUX (.cond (Tm 10) (sq amL .ret) (sq aUY (.cond (Tm 17) (sq aUZ .ret) .skip))))) (dq aVA (sq amM (sq amN (.seq (sq amO (.block 1 (.loop YC))) (sq YG .ret)))))))
def boO:List Nat:=[]
def aGY:aW:=⟨2,68,NY,[.tmp 4,.tmp 5]⟩
def aUS:Rg:=[iZ 4,iI 5 0]
def aUT:Rg:=[iM 12 0,iK 13 137 12,iM 14 13,gM 15 1 14 false,gK 16 137 15 14 false,iQ 17 14 16]
def amE:Rg:=[iZ 4,iI 5 2]
def aUU:Rd:=[(iM 18 0,true),(iM 19 0,false),(iK 20 138 19,true),(iA 21 (.slice 1 (Tm 18) none (some (Tm 20)) none),true),(iM 22 1,true),(iM 23 1,true),(iK 24 138 23,true),(iA 25 (.slice 1 (Tm 22) none (some (Tm 24)) none),false),(iM 0 21,false),(iM 1 25,false)]
def amF:Rg:=[iM 26 0,iN 27 26,iM 28 1,iN 29 28,iB 30 .add 27 29,iA 31 (.bIO 1 4 [(.int .u32 0)] (Tm 30) (Tm 30)),iM 6 31]
def amG:Rg:=[iM 32 0,iN 33 32,iI 34 0]
def aUV:Rg:=[iB 35 .lss 34 33]
def amH:Rg:=[iM 36 34,iX 37 1 32 34,iL 38 37,iM 7 36,iM 8 38]
def amI:Rg:=[iA 9 (.mv (.const (.int .u64 0)))]
def amJ:Rg:=[iM 39 1,iN 40 39,iI 41 0]
def aGQ:Rg:=[iB 42 .lss 41 40]
def aGR:Rg:=[iM 43 41,iX 44 1 39 41,iL 45 44,iM 10 43,iM 11 45]
def aGS:Rg:=[iM 46 9,iM 47 8,iA 48 (.conv .u64 (Tm 47)),iM 49 11,iA 50 (.conv .u64 (Tm 49)),iB 51 .mul 48 50,iM 52 6,iM 53 7,iM 54 10,iB 55 .add 53 54,iX 56 1 52 55,iL 57 56,iA 58 (.conv .u64 (Tm 57)),iB 59 .add 51 58,iB 60 .add 46 59,iM 9 60]
def aGT:Rg:=[iM 61 6,iM 62 7,iM 63 10,iB 64 .add 62 63,iM 65 9,iA 66 (.conv .u32 (Tm 65)),iX 67 1 61 64,iS 1 67 66]
def aGU:Rg:=[iM 68 9,iA 69 (.bin .shr (Tm 68) (.const (.int .u64 32))),iM 9 69]
def aGV:Rg:=[iC 70 .add 41 1,iM 41 70]
def XY:aC:=(sq aGQ (.seq (.cond (Tm 42) .skip (.exit 2)) (.seq (.block 3 (sq aGR (sq aGS (sq aGT (.region aGU))))) (.region aGV))))
def YA:Rg:=[iM 71 6,iM 72 7,iM 73 1,iN 74 73,iB 75 .add 72 74,iM 76 9,iA 77 (.conv .u32 (Tm 76)),iX 78 1 71 75,iS 1 78 77]
def aGW:Rg:=[iC 79 .add 34 1,iM 34 79]
def XZ:aC:=(sq aUV (.seq (.cond (Tm 35) .skip (.exit 0)) (.seq (.block 1 (sq amH (sq amI (.seq (sq amJ (.block 2 (.loop XY))) (.region YA))))) (.region aGW))))
def YB:Rg:=[iM 80 6,iK 81 141 80,iE 82 81 0,iE 83 81 1,iM 4 82,iM 5 83]
def NR:aC:=(sq aUS (.seq (sq aUT (.cond (Tm 17) (sq amE .ret) .skip)) (dq aUU (sq amF (.seq (sq amG (.block 0 (.loop XZ))) (sq YB .ret))))))
def boM:List Nat:=[]
def aGP:aW:=⟨2,84,NR,[.tmp 4,.tmp 5]⟩
def aFQ:Rg:=[iI 2 0]
def aFR:Rg:=[iM 6 0,iK 7 138 6,iM 3 7]
def aFS:Rg:=[iM 8 3,iC 9 .eql 8 0]
def aFT:Rg:=[iI 2 0]
def aFU:Rg:=[iM 10 3,iC 11 .sub 10 1,iC 12 .mul 11 32,iM 4 12]
def aFV:Rg:=[iM 13 0,iM 14 3,iC 15 .sub 14 1,iX 16 1 13 15,iL 17 16,iM 5 17]
def aFW:Rg:=[iM 18 5,iA 19 (.bin .gtr (Tm 18) (.const (.int .u32 0)))]
def aFX:Rg:=[iM 22 4,iC 23 .add 22 1,iM 4 23]
def aFY:Rg:=[iM 20 5,iA 21 (.bin .shr (Tm 20) (.const (.int .u64 1))),iM 5 21]
def aFP:aC:=(.seq (sq aFW (.cond (Tm 19) .skip (.exit 0))) (.seq (.block 1 (.region aFX)) (.region aFY)))
def aqN:Rg:=[iM 24 4,iM 2 24]
def HD:aC:=(sq aFQ (sq aFR (.seq (sq aFS (.cond (Tm 9) (sq aFT .ret) .skip)) (sq aFU (.seq (sq aFV (.block 0 (.loop aFP))) (sq aqN .ret))))))
def bgY:List Nat:=[]
def adX:aW:=⟨1,25,HD,[.tmp 2]⟩
def aUL:Rg:=[iZ 4,iI 5 0]
def aUM:Rg:=[iM 8 0,iK 9 137 8,iM 10 9,gM 11 1 10 false,gK 12 137 11 10 false,iQ 13 10 12]
def amD:Rg:=[iZ 4,iI 5 2]
def aUN:Rg:=[iM 14 0,iK 15 135 14,iM 16 1,iK 17 135 16,iM 0 15,iM 1 17]
def aUO:Rg:=[iM 18 1,iN 19 18,iC 20 .gtr 19 0]
def aUP:Rg:=[iM 22 0,iM 23 1,iK2 24 136 22 23,iM 21 24,iE 25 21 0,iE 26 21 1,iM 6 25,iM 7 26]
def aUQ:Rg:=[iM 27 1,iM 28 7,iM 0 27,iM 1 28]
def aUK:aC:=(.seq (sq aUO (.cond (Tm 20) .skip (.exit 0))) (.block 1 (sq aUP (.region aUQ))))
def aUR:Rg:=[iM 29 0,iM 4 29,iI 5 0]
def NP:aC:=(sq aUL (.seq (sq aUM (.cond (Tm 13) (sq amD .ret) .skip)) (sq aUN (.seq (.block 0 (.loop aUK)) (sq aUR .ret)))))
def boK:List Nat:=[]
def aGK:aW:=⟨2,30,NP,[.tmp 4,.tmp 5]⟩
def aUE:Rg:=[iZ 4,iZ 5,iI 6 0]
def aUF:Rg:=[iM 10 0,iK 11 137 10,iM 12 11,gM 13 1 12 false,gK 14 137 13 12 false,iQ 15 12 14,iM 9 15]
def amB:Rg:=[iZ 4,iZ 5,iI 6 2]
def aUG:Rg:=[iM 17 1,iK 18 138 17,iC 19 .eql 18 0,iM 16 19]
def aUH:Rg:=[iZ 4,iZ 5,iI 6 3]
def aUI:Rd:=[(iM 21 0,true),(iM 22 0,false),(iK 23 138 22,true),(iA 24 (.slice 1 (Tm 21) none (some (Tm 23)) none),true),(iM 25 1,true),(iM 26 1,true),(iK 27 138 26,true),(iA 28 (.slice 1 (Tm 25) none (some (Tm 27)) none),false),(iK2 29 136 24 28,true),(iM 20 29,false),(iE 30 20 0,false),(iE 31 20 1,false),(iM 7 30,false),(iM 8 31,false)]
def aUJ:Rg:=[iM 32 7,iM 33 8,iM 4 32,iM 5 33,iI 6 0]
def NN:aC:=(sq aUE (.seq (.block 0 (sq aUF (.cond (Tm 9) (sq amB .ret) (sq aUG (.cond (Tm 16) (sq aUH .ret) .skip))))) (dq aUI (sq aUJ .ret))))
def boH:List Nat:=[]
def aGF:aW:=⟨2,34,NN,[.tmp 4,.tmp 5,.tmp 6]⟩
def aqS:Rg:=[iZ 4,iA 5 (.mv (.const (.int .u32 0)))]
def aqT:Rg:=[iM 9 0,iN 10 9,iA 11 (.bIO 1 4 [(.int .u32 0)] (Tm 10) (Tm 10)),iM 6 11]
def aqU:Rg:=[iA 7 (.mv (.const (.int .u64 0)))]
def aqV:Rg:=[iM 12 0,iN 13 12,iC 14 .sub 13 1,iM 8 14]
def aqW:Rg:=[iM 15 8,iC 16 .geq 15 0]
def aqX:Rg:=[iM 19 7,iA 20 (.bin .shl (Tm 19) (.const (.int .u64 32))),iM 21 0,iM 22 8,iX 23 1 21 22,iL 24 23,iA 25 (.conv .u64 (Tm 24)),iB 26 .or 20 25,iM 7 26]
def aqY:Rg:=[iM 27 6,iM 28 8,iM 29 7,iM 30 1,iA 31 (.conv .u64 (Tm 30)),iB 32 .quo 29 31,iA 33 (.conv .u32 (Tm 32)),iX 34 1 27 28,iS 1 34 33]
def aqZ:Rg:=[iM 35 7,iM 36 1,iA 37 (.conv .u64 (Tm 36)),iB 38 .rem 35 37,iM 7 38]
def arA:Rg:=[iM 17 8,iC 18 .sub 17 1,iM 8 18]
def aqR:aC:=(.seq (sq aqW (.cond (Tm 16) .skip (.exit 0))) (.seq (.block 1 (sq aqX (sq aqY (.region aqZ)))) (.region arA)))
def aeL:Rg:=[iM 39 6,iM 40 6,iK 41 138 40,iA 42 (.slice 1 (Tm 39) none (some (Tm 41)) none),iM 43 7,iA 44 (.conv .u32 (Tm 43)),iM 4 42,iM 5 44]
def AR:aC:=(sq aqS (sq aqT (sq aqU (.seq (sq aqV (.block 0 (.loop aqR))) (sq aeL .ret)))))
def a9D:List Nat:=[]
def NW:aW:=⟨2,45,AR,[.tmp 4,.tmp 5]⟩
def a9H:Rg:=[iZ 4]
def a9I:Rg:=[iM 9 0,iN 10 9,iC 11 .add 10 1,iA 12 (.bIO 1 4 [(.int .u32 0)] (Tm 11) (Tm 11)),iM 5 12]
def a9J:Rg:=[iA 6 (.mv (.const (.int .u64 0)))]
def a9K:Rg:=[iM 13 0,iN 14 13,iI 15 0]
def a9L:Rg:=[iB 16 .lss 15 14]
def a9M:Rg:=[iM 17 15,iX 18 1 13 15,iL 19 18,iM 7 17,iM 8 19]
def a9N:Rg:=[iM 20 6,iM 21 8,iA 22 (.conv .u64 (Tm 21)),iM 23 1,iB 24 .shl 22 23,iB 25 .or 20 24,iM 6 25]
def a9O:Rg:=[iM 26 5,iM 27 7,iM 28 6,iA 29 (.conv .u32 (Tm 28)),iX 30 1 26 27,iS 1 30 29]
def a9P:Rg:=[iM 31 6,iA 32 (.bin .shr (Tm 31) (.const (.int .u64 32))),iM 6 32]
def a9Q:Rg:=[iC 33 .add 15 1,iM 15 33]
def aVC:aC:=(sq a9L (.seq (.cond (Tm 16) .skip (.exit 0)) (.seq (.block 1 (sq a9M (sq a9N (sq a9O (.region a9P))))) (.region a9Q))))
def aVD:Rg:=[iM 34 5,iM 35 0,iN 36 35,iM 37 6,iA 38 (.conv .u32 (Tm 37)),iX 39 1 34 36,iS 1 39 38]
def aVE:Rg:=[iM 40 5,iM 4 40]
def YH:aC:=(sq a9H (sq a9I (sq a9J (.seq (sq a9K (.block 0 (.loop aVC))) (sq aVD (sq aVE .ret))))))
def bsQ:List Nat:=[]
def nup:aW:=⟨2,41,YH,[.tmp 4]⟩
def adZ:Rg:=[iZ 4,iZ 5]
def aeA:Rg:=[iM 21 0,iM 22 1,iK2 23 129 21 22,iC 24 .lss 23 0]
def aeB:Rg:=[iM 25 0,iK 26 135 25,iZ 4,iM 5 26]
def aeC:Rg:=[iM 27 1,iN 28 27,iC 29 .eql 28 1]
def aeD:Rg:=[iM 31 0,iM 32 1,iA 33 (.bIZ 1 (Tm 32) (Ci 0)),iL 34 33,iK2 35 140 31 34,iM 30 35,iE 36 30 0,iE 37 30 1,iM 6 36,iM 7 37]
def aeE:Rg:=[iM 38 6,iM 39 7,iA 40 (.conv .u64 (Tm 39)),iK 41 132 40,iM 4 38,iM 5 41]
def aeF:Rg:=[iA 8 (.mv (.const (.int .u64 0)))]
def aeG:Rg:=[iM 42 1,iM 43 1,iN 44 43,iC 45 .sub 44 1,iX 46 1 42 45,iL 47 46,iM 48 8,iB 49 .shl 47 48,iA 50 (.bin .lss (Tm 49) (.const (.int .u32 2147483648)))]
def aeH:Rg:=[iM 51 8,iA 52 (.bin .add (Tm 51) (.const (.int .u64 1))),iM 8 52]
def adY:aC:=(.seq (sq aeG (.cond (Tm 50) .skip (.exit 0))) (.block 1 (.region aeH)))
def TY:Rd:=[(iM 53 0,false),(iM 54 8,false),(iK2 55 143 53 54,true),(iM 56 1,true),(iM 57 8,true),(iK2 58 143 56 57,true),(iM 59 1,true),(iN 60 59,true),(iA 61 (.slice 1 (Tm 58) none (some (Tm 60)) none),false),(iM 9 55,false),(iM 10 61,false)]
def TZ:Rg:=[iM 62 10,iN 63 62,iM 11 63]
def UA:Rg:=[iM 64 9,iN 65 64,iM 66 11,iB 67 .sub 65 66,iA 68 (.bIO 1 4 [(.int .u32 0)] (Tm 67) (Tm 67)),iM 12 68]
def UB:Rd:=[(iM 69 10,false),(iM 70 11,false),(iC 71 .sub 70 1,false),(iX 72 1 69 71,false),(iL 73 72,false),(iA 74 (.conv .u64 (Tm 73)),false),(iM 75 10,false),(iM 76 11,false),(iC 77 .sub 76 2,false),(iX 78 1 75 77,false),(iL 79 78,false),(iA 80 (.conv .u64 (Tm 79)),false),(iM 13 74,false),(iM 14 80,false)]
def UC:Rg:=[iM 81 12,iN 82 81,iC 83 .sub 82 1,iM 15 83]
def UD:Rg:=[iM 84 15,iC 85 .geq 84 0]
def AG:Rd:=[(iM 88 9,false),(iM 89 15,false),(iM 90 11,false),(iB 91 .add 89 90,false),(iX 92 1 88 91,false),(iL 93 92,false),(iA 94 (.conv .u64 (Tm 93)),false),(iA 95 (.bin .shl (Tm 94) (.const (.int .u64 32))),false),(iM 96 9,false),(iM 97 15,false),(iM 98 11,false),(iB 99 .add 97 98,false),(iC 100 .sub 99 1,false),(iX 101 1 96 100,false),(iL 102 101,false),(iA 103 (.conv .u64 (Tm 102)),false),(iB 104 .or 95 103,false),(iM 16 104,false)]
def AH:Rd:=[(iM 105 16,false),(iM 106 13,false),(iB 107 .quo 105 106,false),(iM 108 16,false),(iM 109 13,false),(iB 110 .rem 108 109,false),(iM 17 107,false),(iM 18 110,false)]
def UE:Rg:=[iM 111 17,iA 112 (.bin .geq (Tm 111) (.const (.int .u64 4294967296))),iM 113 112,gM 114 17 113 false,gM 115 14 113 false,gB 116 .mul 114 115 113 false,gM 117 18 113 false,iG 118 (.bin .shl (Tm 117) (.const (.int .u64 32))) 113 false,gM 119 9 113 false,gM 120 15 113 false,gM 121 11 113 false,gB 122 .add 120 121 113 false,gC 123 .sub 122 2 113 false,iG 124 (.bIZ 1 (Tm 119) (Tm 123)) 113 false,gL 125 124 113 false,iG 126 (.conv .u64 (Tm 125)) 113 false,gB 127 .or 118 126 113 false,gB 128 .gtr 116 127 113 false,iQ 129 113 128]
def AI:Rg:=[iM 130 17,iA 131 (.bin .sub (Tm 130) (.const (.int .u64 1))),iM 17 131]
def AJ:Rg:=[iM 132 18,iM 133 13,iB 134 .add 132 133,iM 18 134]
def AK:Rg:=[iM 135 18,iA 136 (.bin .geq (Tm 135) (.const (.int .u64 4294967296)))]
def sN:aC:=(.seq (sq UE (.cond (Tm 129) .skip (.exit 4))) (.block 5 (sq AI (sq AJ (sq AK (.cond (Tm 136) (.exit 4) .skip))))))
def AL:Rg:=[iM 137 9,iM 138 15,iM 139 15,iM 140 11,iB 141 .add 139 140,iC 142 .add 141 1,iA 143 (.slice 1 (Tm 137) (some (Tm 138)) (some (Tm 142)) none),iM 144 10,iM 145 17,iA 146 (.call 142 [(Tm 143),(Tm 144),(Tm 145)])]
def AM:Rg:=[iM 147 17,iA 148 (.bin .sub (Tm 147) (.const (.int .u64 1))),iM 17 148]
def AN:Rg:=[iM 149 9,iM 150 15,iM 151 15,iM 152 11,iB 153 .add 151 152,iC 154 .add 153 1,iA 155 (.slice 1 (Tm 149) (some (Tm 150)) (some (Tm 154)) none),iM 156 10,iK2 157 139 155 156]
def sO:Rg:=[iM 158 12,iM 159 15,iM 160 17,iA 161 (.conv .u32 (Tm 160)),iX 162 1 158 159,iS 1 162 161]
def UF:Rg:=[iM 86 15,iC 87 .sub 86 1,iM 15 87]
def AE:aC:=(.seq (sq UD (.cond (Tm 85) .skip (.exit 2))) (.seq (.block 3 (dq AG (dq AH (.seq (.block 4 (.loop sN)) (.seq (sq AL (.cond (Tm 146) (sq AM (.region AN)) .skip)) (.region sO)))))) (.region UF)))
def AO:Rg:=[iM 163 11,iA 164 (.bIO 1 4 [(.int .u32 0)] (Tm 163) (Tm 163)),iM 19 164]
def AP:Rg:=[iM 165 19,iN 166 165,iI 167 0]
def UG:Rg:=[iB 168 .lss 167 166]
def UH:Rg:=[iM 169 167,iM 20 169]
def UI:Rd:=[(iM 170 19,false),(iM 171 20,false),(iM 172 9,false),(iM 173 20,false),(iC 174 .add 173 1,false),(iX 175 1 172 174,false),(iL 176 175,false),(iA 177 (.conv .u64 (Tm 176)),false),(iA 178 (.bin .shl (Tm 177) (.const (.int .u64 32))),false),(iM 179 9,false),(iM 180 20,false),(iX 181 1 179 180,false),(iL 182 181,false),(iA 183 (.conv .u64 (Tm 182)),false),(iB 184 .or 178 183,false),(iM 185 8,false),(iB 186 .shr 184 185,false),(iA 187 (.conv .u32 (Tm 186)),false),(iX 188 1 170 171,false),(iS 1 188 187,true)]
def UJ:Rg:=[iC 189 .add 167 1,iM 167 189]
def AF:aC:=(sq UG (.seq (.cond (Tm 168) .skip (.exit 6)) (.seq (.block 7 (sq UH (.draw UI))) (.region UJ))))
def UK:Rd:=[(iM 190 12,true),(iM 191 12,false),(iK 192 138 191,true),(iA 193 (.slice 1 (Tm 190) none (some (Tm 192)) none),true),(iM 194 19,true),(iM 195 19,true),(iK 196 138 195,true),(iA 197 (.slice 1 (Tm 194) none (some (Tm 196)) none),false),(iM 4 193,false),(iM 5 197,false)]
def xA:aC:=(sq adZ (.seq (sq aeA (.cond (Tm 24) (sq aeB .ret) .skip)) (.seq (sq aeC (.cond (Tm 29) (sq aeD (sq aeE .ret)) .skip)) (sq aeF (.seq (.block 0 (.loop adY)) (dq TY (sq TZ (sq UA (dq UB (.seq (sq UC (.block 2 (.loop AE))) (sq AO (.seq (sq AP (.block 6 (.loop AF))) (dq UK .ret)))))))))))))
def a2Z:List Nat:=[]
def DE:aW:=⟨2,198,xA,[.tmp 4,.tmp 5]⟩
def NZ:Rg:=[iT 6 false]
def OA:Rg:=[iA 7 (.mv (.const (.int .u64 0))),iA 8 (.mv (.const (.int .u64 0)))]
def OB:Rg:=[iM 13 1,iN 14 13,iI 15 0]
def OC:Rg:=[iB 16 .lss 15 14]
def OD:Rg:=[iM 17 15,iX 18 1 13 15,iL 19 18,iM 9 17,iM 10 19]
def OE:Rg:=[iM 20 7,iM 21 2,iM 22 10,iA 23 (.conv .u64 (Tm 22)),iB 24 .mul 21 23,iB 25 .add 20 24,iM 7 25]
def OF:Rg:=[iM 26 0,iM 27 9,iX 28 1 26 27,iL 29 28,iA 30 (.conv .u64 (Tm 29)),iM 31 7,iA 32 (.bin .and (Tm 31) (.const (.int .u64 4294967295))),iB 33 .sub 30 32,iM 34 8,iB 35 .sub 33 34,iM 11 35]
def OG:Rg:=[iM 36 0,iM 37 9,iM 38 11,iA 39 (.conv .u32 (Tm 38)),iX 40 1 36 37,iS 1 40 39]
def OH:Rg:=[iM 41 11,iA 42 (.bin .shr (Tm 41) (.const (.int .u64 63))),iM 8 42]
def OI:Rg:=[iM 43 7,iA 44 (.bin .shr (Tm 43) (.const (.int .u64 32))),iM 7 44]
def KW:Rg:=[iC 45 .add 15 1,iM 15 45]
def KV:aC:=(sq OC (.seq (.cond (Tm 16) .skip (.exit 0)) (.seq (.block 1 (sq OD (sq OE (sq OF (sq OG (sq OH (.region OI))))))) (.region KW))))
def KX:Rg:=[iM 46 0,iM 47 1,iN 48 47,iX 49 1 46 48,iL 50 49,iA 51 (.conv .u64 (Tm 50)),iM 52 7,iB 53 .sub 51 52,iM 54 8,iB 55 .sub 53 54,iM 12 55]
def KY:Rg:=[iM 56 0,iM 57 1,iN 58 57,iM 59 12,iA 60 (.conv .u32 (Tm 59)),iX 61 1 56 58,iS 1 61 60]
def KZ:Rg:=[iM 62 12,iA 63 (.bin .shr (Tm 62) (.const (.int .u64 63))),iA 64 (.bin .eql (Tm 63) (.const (.int .u64 1))),iM 6 64]
def sA:aC:=(sq NZ (sq OA (.seq (sq OB (.block 0 (.loop KV))) (sq KX (sq KY (sq KZ .ret))))))
def aHF:List Nat:=[]
def tI:aW:=⟨3,65,sA,[.tmp 6]⟩
def UM:Rg:=[iA 4 (.mv (.const (.int .u64 0)))]
def UN:Rg:=[iM 7 1,iN 8 7,iI 9 0]
def UO:Rg:=[iB 10 .lss 9 8]
def UP:Rg:=[iM 11 9,iX 12 1 7 9,iL 13 12,iM 5 11,iM 6 13]
def UQ:Rg:=[iM 14 4,iM 15 0,iM 16 5,iX 17 1 15 16,iL 18 17,iA 19 (.conv .u64 (Tm 18)),iM 20 6,iA 21 (.conv .u64 (Tm 20)),iB 22 .add 19 21,iB 23 .add 14 22,iM 4 23]
def UR:Rg:=[iM 24 0,iM 25 5,iM 26 4,iA 27 (.conv .u32 (Tm 26)),iX 28 1 24 25,iS 1 28 27]
def US:Rg:=[iM 29 4,iA 30 (.bin .shr (Tm 29) (.const (.int .u64 32))),iM 4 30]
def UT:Rg:=[iC 31 .add 9 1,iM 9 31]
def UL:aC:=(sq UO (.seq (.cond (Tm 10) .skip (.exit 0)) (.seq (.block 1 (sq UP (sq UQ (sq UR (.region US))))) (.region UT))))
def UU:Rg:=[iM 32 0,iM 33 1,iN 34 33,iX 35 1 32 34,iL 36 35,iM 37 4,iA 38 (.conv .u32 (Tm 37)),iB 39 .add 36 38,iX 40 1 32 34,iS 1 40 39]
def uC:aC:=(sq UM (.seq (sq UN (.block 0 (.loop UL))) (.region UU)))
def aPF:List Nat:=[]
def xB:aW:=⟨2,41,uC,[]⟩
section
variable {C:Ctx} {K:cO} {F:PF} {H:PH}
theorem PH.kJ (o:Nat) (x:cS):H.eJ .nil (PH.nil.set o x)=H.set o x:=PH.ext fun q=>by
 rw[lI]; simp only[bL,alP]; split<;>simp_all
theorem PH.lJ (o:Nat) (x y:cS):H.eJ (PH.nil.set o x) (PH.nil.set o y)=H.set o y:=PH.ext fun q=>by
 rw[lI]; simp only[bL,alP]; split<;>simp_all
theorem fE {name:Nat} {vs:List PV} {H0:PH} {R:PV→PH→Prop} {args:List aP} {d:Option Nat} {K:PF→PH→Prop} (h:aE C name vs H0 R) (ha:aP.evs F args=some vs) (hle:H0.le H)
  (hk:∀ r H',R r H'→kN H H0 H'→K (F.put d r) (H.eJ H0 H')):fU C name args [] d K F H :=
 .inl ⟨vs,H0,R,by rw[ha]; simp,hle,h,hk⟩
theorem aX {res:List dW} {R:PV→PH→Prop} {vs:List PV} {e:lO} (he:e=.normal∨e=.ret) (H0:PH) (h:dW.evs F H res=some vs) (hle:H0.le H) (hR:R (aV vs) H0):aT res R e F H:=by
 have key:∃ vs,dW.evs F H res=some vs∧∃ F1 H1 H2,iY (PF.nil.set 0 (aV vs)) H F1 H1∧H2.le H1∧∃ u,F1 0=some u∧R u H2 :=
  ⟨vs,h,_,H,H0,.refl _ _,hle,aV vs,by rw[lK,if_pos rfl],hR⟩
 rcases he with rfl | rfl<;>exact key
theorem aJB {t o s k:Nat} {rs:List (List PV)} {R:PV→PH→Prop} {e:lO} (he:e=.normal∨e=.ret) (h:F t=some (.osl o s 0 k)) (ho:H o=some (.rows s rs)) (hk:k≤rs.length) (hR:R (.sl s (rs.take k)) .nil) :
  aT [.tmp t] R e F H:=by
 have key:∃ vs,dW.evs F H [.tmp t]=some vs∧∃ F1 H1 H2,iY (PF.nil.set 0 (aV vs)) H F1 H1∧H2.le H1∧∃ u,F1 0=some u∧R u H2:=by
  refine⟨[.osl o s 0 k],by rw[lC,oI,h,pZ],_,_,.nil,.step o ho (.refl _ _),PH.nil_le,.sl s (rs.take k),?_,hR⟩
  have:0+k≤rs.length:=by omega
  simp only[PF.frz,lK,if_true,aV,bLT,PV.frz,PV.rS,PV.dE,true_and,if_pos this,bLK]
 rcases he with rfl | rfl<;>exact key
def bZ (v:PV) (r:PV) (H:PH):Prop:=Co r v∧H=PH.nil
theorem aE.btE {name:Nat} {args:List PV} {H:PH} {v:PV} (h:aE C name args H (bZ v)):aE C name args H (aD v) :=
 h.post fun r H' ⟨h1,h2⟩=>⟨v,h1,rfl,h2⟩
theorem aD.btE {v r:PV} {H:PH} (h:aD v r H):bZ v r H:=by
 obtain⟨rfl,rfl⟩:=h
 exact⟨.refl _,rfl⟩
theorem xS {s b:Nat} {y:PV} {src:List (List PV)} {K:PV→PH→Prop} (hy:dR H s y=some src) (hr:roomFor 0 src.length b) (h0:src=[]→K .aB H)
  (h1:src≠[]→∀ o,H o=none→K (.osl o s 0 src.length) (H.set o (.rows s src))):mF H s b .aB y K:=⟨src,hy,hr,h0,h1⟩
theorem xT {o s b len:Nat} {rs:List (List PV)} {y:PV} {src:List (List PV)} {K:PV→PH→Prop} (hy:dR H s y=some src) (hr:roomFor len src.length b) (ho:H o=some (.rows s rs)) (hl:len≤rs.length)
  (h0:K (.osl o s 0 (len+src.length)) (H.set o (.rows s (rs.take len++src))))
  (h1:∀ o',H o'=none→K (.osl o' s 0 (len+src.length)) (H.set o' (.rows s (rs.take len++src)))):mF H s b (.osl o s 0 len) y K :=
 ⟨src,hy,rfl,rfl,hr,rs,ho,hl,h0,h1⟩
end
def bJ (H:PH) (s:Nat) (v:PV) (rows:List (List PV)):Prop :=
 (rows=[]∧v=.aB)∨∃ q rs,v=.osl q s 0 rows.length∧H q=some (.rows s rs)∧rows.length≤rs.length∧rs.take rows.length=rows
def Seen (s:Nat) (v:PV) (rows:List (List PV)):Prop:=(rows=[]∧v=.aB)∨v=.sl s rows
section
variable {C:Ctx} {K:cO} {F:PF} {H:PH} {s b:Nat} {v y:PV} {rows src:List (List PV)}
theorem bJ.nil:bJ H s .aB []:=.inl ⟨rfl,rfl⟩
theorem bJ.view (h:bJ H s v rows):dR H s v=some rows:=by
 rcases h with ⟨rfl,rfl⟩ | ⟨q,rs,rfl,h1,h2,h3⟩
 ·rfl
 ·have:0+rows.length≤rs.length:=by omega
  simp only[dR,if_true,h1,true_and,if_pos this,bLK,h3]
theorem Seen.view (h:Seen s v rows):dR H s v=some rows:=by
 rcases h with ⟨rfl,rfl⟩ | rfl
 ·rfl
 ·simp[dR]
theorem bJ.ext {H':PH} (h:bJ H s v rows) (hk:∀ o x,H o=some x→H' o=some x):bJ H' s v rows:=by
 rcases h with h | ⟨q,rs,h0,h1,h2,h3⟩
 ·exact .inl h
 ·exact .inr ⟨q,rs,h0,hk q _ h1,h2,h3⟩
theorem gD {K:PV→PH→Prop} (h:bJ H s v rows) (hy:dR H s y=some src) (hr:roomFor rows.length src.length b)
  (hk:∀ v' H',bJ H' s v' (rows++src)→(∀ o x,H o=some x→(∀ l,v≠.osl o s 0 l)→H' o=some x)→K v' H'):mF H s b v y K:=by
 rcases h with ⟨rfl,rfl⟩ | ⟨q,rs,rfl,h1,h2,h3⟩
 ·refine⟨src,hy,hr,fun e=>?_,fun e o ho=>?_⟩
  ·subst e
   exact hk _ _ (.inl ⟨rfl,rfl⟩) fun o x ho _=>ho
  ·refine hk _ _ (.inr ⟨o,src,rfl,by simp only[bL,if_true],bKK _,by simp⟩) fun o' x ho' _=>?_
   have:o'≠o:=by rintro rfl; rw[ho] at ho'; cases ho'
   simp only[bL,if_neg this,ho']
 ·have hlen:(rows++src).length=rows.length+src.length:=bKQ
  refine⟨src,hy,rfl,rfl,hr,rs,h1,h2,?_,fun o ho=>?_⟩
  ·rw[h3]
   refine hk _ _ (.inr ⟨q,rows++src,by rw[hlen],by simp only[bL,if_true],bKK _,bLG⟩) fun o' x ho' hne=>?_
   have:o'≠q:=by rintro rfl; exact hne _ rfl
   simp only[bL,if_neg this,ho']
  ·rw[h3]
   refine hk _ _ (.inr ⟨o,rows++src,by rw[hlen],by simp only[bL,if_true],bKK _,bLG⟩) fun o' x ho' hne=>?_
   have h6:o'≠o:=by rintro rfl; rw[ho] at ho'; cases ho'
   simp only[bL,if_neg h6,ho']
def Pure (u:PV):Prop:=∀ q s rs,PV.frz q s rs u=u
theorem bJ.frz (h:bJ H s v rows):∃ v1,Seen s v1 rows∧∀ F:PF,∃ F1 H1,iY F H F1 H1∧(∀ t,F t=some v→F1 t=some v1)∧∀ i u,F i=some u→Pure u→F1 i=some u:=by
 rcases h with ⟨rfl,rfl⟩ | ⟨q,rs,rfl,h1,h2,h3⟩
 ·exact⟨.aB,.inl ⟨rfl,rfl⟩,fun F=>⟨F,H,.refl _ _,fun t h=>h,fun i u h _=>h⟩⟩
 ·refine⟨.sl s rows,.inr rfl,fun F=>⟨_,_,.step q h1 (.refl _ _),fun t ht=>?_,fun i u hi hp=>?_⟩⟩
  ·have:0+rows.length≤rs.length:=by omega
   simp only[PF.frz,ht,bLT,PV.frz,PV.rS,PV.dE,if_true,true_and,if_pos this,bLK,h3]
  ·simp only[PF.frz,hi,bLT]
   rw[hp]
theorem a3Q {t:Nat} {e:lO} (he:e=.normal∨e=.ret) (h:bJ H s v rows) (ht:F t=some v):aT [.tmp t] (bZ (.sl s rows)) e F H:=by
 rcases h with ⟨rfl,rfl⟩ | ⟨q,rs,rfl,h1,h2,h3⟩
 ·exact aX (vs:=[.aB]) he .nil (by rw[lC,oI,ht,pZ]) PH.nil_le ⟨.nil s,rfl⟩
 ·exact aJB he ht h1 h2 ⟨by rw[h3]; exact .refl _,rfl⟩
end
end Go.PM
namespace Go.PM
open Go
section
variable {C:Ctx} {F:PF} {H:PH}
@[go_sem] theorem qS (o s:Nat) (rs:List (List PV)) (i:Nat):(F.frz o s rs) i=(F i).map (PV.frz o s rs):=(rfl)
theorem oL {name t o s k:Nat} {rs:List (List PV)} {v:PV} {d:Option Nat} {K:PF→PH→Prop} (h:aE C name [.sl s (rs.take k)] .nil (aD v)) (ht:F t=some (.osl o s 0 k)) (ho:H o=some (.rows s rs)) (hk:k≤rs.length)
  (hK:K ((F.frz o s rs).put d v) (H.frz o s rs)):fU C name [.tmp t] [] d K F H:=by
 refine .inr ⟨_,_,.step o ho (.refl _ _),[.sl s (rs.take k)],.nil,aD v,?_,PH.nil_le,h,?_⟩
 ·have:0+k≤rs.length:=by omega
  simp only[wM,SF,abU,qS,ht,bLT,PV.frz,PV.rS,PV.dE,if_true,true_and,if_pos this,bLK,bMF]
 ·rintro r H' ⟨rfl,rfl⟩ -
  rw[PH.kY]
  exact hK
end
end Go.PM
namespace Go.Na
def val:List Nat→Nat
 | []=>0
 | x::xs=>x+4294967296*val xs
def Lim (xs:List Nat):Prop:=∀ x∈xs,x<4294967296
def aG (n:Nat):List Nat:=if h:n=0 then [] else (n%4294967296)::aG (n/4294967296)
termination_by n
decreasing_by exact Nat.div_lt_self (bMQ h) (by decide)
def nl (n:Nat):Nat:=(aG n).length
theorem fC:aG 0=[]:=by rw[aG]; simp
theorem pV {n:Nat} (h:n≠0):aG n=(n%4294967296)::aG (n/4294967296):=by rw[aG]; simp[h]
theorem mK {n:Nat} (h:n≠0) (hb:n<4294967296):aG n=[n]:=by
 rw[pV h,bLS hb,bNR hb,fC]
theorem aR (n:Nat):val (aG n)=n:=by
 induction n using Nat.strongRecOn with
 | _ n ih =>
  by_cases h:n=0
  ·subst h; rw[fC]; rfl
  ·rw[pV h,val,ih _ (Nat.div_lt_self (bMQ h) (by decide))]
   exact Nat.mod_add_div n 4294967296
theorem aU (n:Nat):Lim (aG n):=by
 induction n using Nat.strongRecOn with
 | _ n ih =>
  by_cases h:n=0
  ·subst h; rw[fC]; intro x hx; cases hx
  ·rw[pV h]
   intro x hx
   rw[bKY] at hx
   rcases hx with rfl | hx
   ·exact bLY _ (by decide)
   ·exact ih _ (Nat.div_lt_self (bMQ h) (by decide)) x hx
theorem wA:nl 0=0:=by rw[nl,fC]; rfl
theorem a8Y {n:Nat} (h:n≠0):nl n=nl (n/4294967296)+1:=by rw[nl,pV h]; rfl
theorem gV (n k:Nat):nl n≤k↔n<4294967296 ^ k:=by
 induction k generalizing n with
 | zero =>
  by_cases h:n=0
  ·subst h; simp[wA]
  ·rw[a8Y h]; simp; omega
 | succ k ih =>
  by_cases h:n=0
  ·subst h; simp[wA,bMZ]
  ·rw[a8Y h,Nat.succ_le_succ_iff,ih,bMC,bND (by decide)]
theorem gP {n:Nat}:nl n=0↔n=0:=by
 have:=gV n 0
 simp at this
 exact this
theorem fK (xs ys:List Nat):val (xs++ys)=val xs+4294967296 ^ xs.length*val ys:=by
 induction xs with
 | nil=>simp[val]
 | cons x xs ih =>
  simp only[List.cons_append,val,bLX,ih,bMC]
  rw[bKV,bMU,← bLE,bLH 4294967296 (4294967296 ^ xs.length)]
theorem eN {xs:List Nat} (h:Lim xs):val xs<4294967296 ^ xs.length:=by
 induction xs with
 | nil=>simp[val]
 | cons x xs ih =>
  have h1:=h x (by simp)
  have h2:=ih fun y hy=>h y (by simp[hy])
  simp only[val,bLX,bMC]
  have:4294967296*(val xs+1)≤4294967296*4294967296 ^ xs.length:=bMO _ h2
  rw[bKV,Nat.mul_one] at this
  rw[bLH (4294967296 ^ xs.length)]
  omega
theorem Lim.app {xs ys:List Nat} (h:Lim xs) (k:Lim ys):Lim (xs++ys):=fun x hx=>by
 rw[bLV] at hx
 exact hx.elim (h x) (k x)
theorem Lim.take {xs:List Nat} (h:Lim xs) (n:Nat):Lim (xs.take n):=fun x hx=>h x (List.mem_of_mem_take hx)
theorem Lim.drop {xs:List Nat} (h:Lim xs) (n:Nat):Lim (xs.drop n):=fun x hx=>h x (List.mem_of_mem_drop hx)
theorem Lim.set {xs:List Nat} (h:Lim xs) (i:Nat) {v:Nat} (hv:v<4294967296):Lim (xs.set i v):=fun x hx=>by
 rcases List.mem_or_eq_of_mem_set hx with h1 | h1
 ·exact h x h1
 ·subst h1; exact hv
theorem tG (n:Nat):Lim (bKL n 0):=fun x hx=>by
 rw[List.mem_replicate] at hx; rw[hx.2]; decide
theorem qI (n:Nat):val (bKL n 0)=0:=by
 induction n with
 | zero=>rfl
 | succ n ih=>simp[List.replicate_succ,val,ih]
theorem a8N {xs:List Nat} (h:Lim xs) (hl:∀ x,xs.getLast?=some x→x≠0):aG (val xs)=xs:=by
 induction xs with
 | nil=>simp[val,fC]
 | cons x xs ih =>
  have hx:=h x (by simp)
  have hxs:Lim xs:=fun y hy=>h y (by simp[hy])
  cases xs with
  | nil =>
   have:=hl x (by simp)
   simp only[val,Nat.mul_zero,bMB]
   exact mK this hx
  | cons y ys =>
   have ih':=ih hxs fun z hz=>hl z (by rw[List.getLast?_cons_cons]; exact hz)
   have h0:val (y::ys)≠0:=fun e=>by rw[e,fC] at ih'; cases ih'
   have hne:x+4294967296*val (y::ys)≠0:=by
    have:0<4294967296*val (y::ys):=Nat.mul_pos (by decide) (bMQ h0)
    omega
   show aG (x+4294967296*val (y::ys))=_
   rw[pV hne]
   have e1:(x+4294967296*val (y::ys))%4294967296=x:=by rw[Nat.add_mul_mod_self_left,bLS hx]
   have e2:(x+4294967296*val (y::ys))/4294967296=val (y::ys):=by rw[Nat.add_mul_div_left _ _ (by decide),bNR hx,bLJ]
   rw[e1,e2,ih']
theorem aMI {xs:List Nat} {n:Nat} (h:∀ j x,n≤j→xs[j]?=some x→x=0):val (xs.take n)=val xs:=by
 have e:xs.drop n=bKL (xs.drop n).length 0:=by
  apply List.ext_getElem (by simp)
  intro i h1 h2
  rw[List.getElem_replicate,List.getElem_drop]
  exact h (n+i) _ Om (bKU _)
 conv=>rhs; rw[← bMX n xs,fK,e,qI]
 simp
theorem IK {xs:List Nat} (hx:Lim xs) {n:Nat} (hn:n≤xs.length) (h:∀ j x,n≤j→xs[j]?=some x→x=0) (h0:∀ x,0<n→xs[n-1]?=some x→x≠0):xs.take n=aG (val xs):=by
 rw[← aMI h,a8N (hx.take n)]
 intro x hl
 rw[List.getLast?_eq_getElem?,bLB,bMN hn] at hl
 rcases bNK n with e | e
 ·subst e; simp at hl
 ·rw[bNZ Om] at hl
  exact h0 x e hl
theorem aWU {xs:List Nat} (hx:Lim xs) {n:Nat} (hn:n≤xs.length) (h:∀ j x,n≤j→xs[j]?=some x→x=0) (h0:∀ x,0<n→xs[n-1]?=some x→x≠0):nl (val xs)=n:=by
 rw[nl,← IK hx hn h h0,bLB]; omega
theorem eZ {xs:List Nat} (h:Lim xs):nl (val xs)≤xs.length:=(gV _ _).2 (eN h)
theorem jM {xs : List Nat} (h : Lim xs) : xs.take (nl (val xs)) = aG (val xs) := by
  have hl := eZ h
  have e : val (xs.take (nl (val xs)) ++ xs.drop (nl (val xs))) = val xs := by rw [bMX]
  rw [fK, bLB, bMN hl] at e
  have h1 := eN (h.take (nl (val xs)))
  rw [bLB, bMN hl] at h1
  have h2 := (gV (val xs) (nl (val xs))).1 (bKK _)
  have hd : val (xs.drop (nl (val xs))) = 0 := by
    rcases bNK (val (xs.drop (nl (val xs)))) with h | h
    · exact h
    · have := bMO (4294967296 ^ nl (val xs)) h
      omega
  have hz : ∀ j x, nl (val xs) ≤ j → xs[j]? = some x → x = 0 := by
    have zero : ∀ ys : List Nat, val ys = 0 → ∀ y ∈ ys, y = 0 := by
      intro ys
      induction ys with
      | nil => intro _ y hy; cases hy
      | cons z zs ih =>
        intro hv y hy
        simp only [val] at hv
        rw [bKY] at hy
        rcases hy with rfl | hy
        · omega
        · exact ih (by have : 4294967296 * val zs = 0 := by omega
                       rcases Nat.mul_eq_zero.1 this with h | h
                       · cases h
                       · exact h) y hy
    intro j x hj hx
    refine zero _ hd x ?_
    rw [List.mem_iff_getElem?]
    exact ⟨j - nl (val xs), by rw [bNV, Nat.add_sub_cancel' hj]; exact hx⟩
  refine IK h hl hz fun x hpos hx e => ?_
  subst e
  have hz2 : ∀ j x, nl (val xs) - 1 ≤ j → xs[j]? = some x → x = 0 := fun j y hj hy => by
    rcases bLD j (nl (val xs)) with h3 | h3
    · have : j = nl (val xs) - 1 := by omega
      subst this; rw [hx] at hy; cases hy; rfl
    · exact hz j y h3 hy
  have h3 := aMI hz2
  have h4 := eN (h.take (nl (val xs) - 1))
  rw [h3, bLB, bMN Om] at h4
  have := (gV (val xs) (nl (val xs) - 1)).2 h4
  omega
theorem aKN {xs:List Nat} (h:Lim xs) {n:Nat} (hn:nl (val xs)=n+1):∃ x,xs[n]?=some x∧x≠0:=by
 have hl:=eZ h
 refine⟨xs[n]'Om,bKU _,fun e=>?_⟩
 have e1:=jM h
 have hv:=aR (val xs)
 rw[← e1,hn,bMA Om,e,fK] at hv
 simp only[val,Nat.mul_zero,bMB] at hv
 have h4:=eN (h.take n)
 rw[hv,bLB,bMN Om] at h4
 have:=(gV (val xs) n).2 h4
 omega
theorem qB (xs:List Nat) {k:Nat} (h:k<xs.length):val xs=val (xs.take k)+4294967296 ^ k*(xs[k]+4294967296*val (xs.drop (k+1))):=by
 conv=>lhs; rw[← bMX k xs,fK,bLB,bMN Om,bMH h]
 rfl
theorem aaG {xs ys:List Nat} (hx:Lim xs) {k:Nat} (h1:k<xs.length) (h2:k<ys.length) (hd:xs.drop (k+1)=ys.drop (k+1)) (h:xs[k]<ys[k]):val xs<val ys:=by
 rw[qB xs h1,qB ys h2,hd]
 have h3:=eN (hx.take k)
 rw[bLB,bMN Om] at h3
 have h4:4294967296 ^ k*(xs[k]+4294967296*val (ys.drop (k+1))+1)≤4294967296 ^ k*(ys[k]+4294967296*val (ys.drop (k+1))):=bMO _ Om
 rw[bKV _ _ 1,Nat.mul_one] at h4
 omega
def dD (a b:Nat):Int:=if a<b then -1 else if b<a then 1 else 0
theorem aoT {xs ys:List Nat} {k:Nat} (h1:k<xs.length) (h2:k<ys.length) (hd:xs.drop (k+1)=ys.drop (k+1)) (h:xs[k]=ys[k]):xs.drop k=ys.drop k:=by
 rw[bMH h1,bMH h2,hd,h]
theorem fH {a b:Nat} (h:a≤b):nl a≤nl b:=(gV a _).2 (Nat.lt_of_le_of_lt h ((gV b _).1 (bKK _)))
theorem ayX {xs:List Nat} (h:Lim xs) {j:Nat} (hj:j<nl (val xs)):∃ (h1:j<xs.length) (h2:j<(aG (val xs)).length),xs[j]=(aG (val xs))[j]:=by
 have hl:=eZ h
 refine⟨by omega,hj,?_⟩
 have e:=jM h
 have:(xs.take (nl (val xs)))[j]?=(aG (val xs))[j]?:=by rw[e]
 rw[bNZ hj,bKU Om,bKU hj] at this
 exact bNA.inj this
def cE (n:Nat):Nat:=if h:n=0 then 0 else cE (n/2)+1
termination_by n
decreasing_by exact Nat.div_lt_self (bMQ h) (by decide)
theorem iU:cE 0=0:=by rw[cE]; simp
theorem nC {n:Nat} (h:n≠0):cE n=cE (n/2)+1:=by rw[cE]; simp[h]
theorem kL (n k:Nat):cE n≤k↔n<2 ^ k:=by
 induction k generalizing n with
 | zero =>
  by_cases h:n=0
  ·subst h; simp[iU]
  ·rw[nC h]; simp; omega
 | succ k ih =>
  by_cases h:n=0
  ·subst h; simp[iU,bMZ]
  ·rw[nC h,Nat.succ_le_succ_iff,ih,bMC,bND (by decide)]
theorem jF {n:Nat}:cE n=0↔n=0:=by
 have:=kL n 0
 simp at this
 exact this
theorem azJ {hi lo k:Nat} (hl:lo<2 ^ k) (hh:hi≠0):cE (lo+2 ^ k*hi)=k+cE hi:=by
 apply Nat.le_antisymm
 ·rw[kL,Nat.pow_add]
  have h1:=(kL hi _).1 (bKK _)
  have:2 ^ k*(hi+1)≤2 ^ k*2 ^ cE hi:=bMO _ h1
  rw[bKV,Nat.mul_one] at this
  omega
 ·obtain⟨b,hb⟩:∃ b,cE hi=b+1:=⟨cE hi-1,by have:=mt jF.1 hh; omega⟩
  rw[hb]
  rcases bLD (cE (lo+2 ^ k*hi)) (k+(b+1)) with h | h
  ·have h1:=(kL (lo+2 ^ k*hi) (k+b)).1 Om
   rw[Nat.pow_add] at h1
   have h2:¬ hi<2 ^ b:=fun h=>by have:=(kL hi b).2 h; omega
   have:2 ^ k*2 ^ b≤2 ^ k*hi:=bMO _ Om
   omega
  ·exact h
theorem kM (n k:Nat):cE n≤32*k↔nl n≤k:=by
 rw[kL,gV,Nat.pow_mul]
end Go.Na
namespace Go.PM
theorem Lq {F F':PF} (h:F.le F':=by (repeat' (first|exact PF.nil_le|refine PF.aK ?_ ?_))<;>first|(simp only[go_sem,γ,δ,ε,ζ,η,θ,ι,κ,μ,ν,ξ,ο,ρ,σ,τ,υ,reduceIte,reduceCtorEq]<;>rfl)|rfl|assumption):F.le F':=h
end Go.PM
namespace Go.PM
open Go Go.Na
abbrev aJ (xs:List Nat):List (List PV):=xs.map fun (n:Nat)=>[PV.int .u32 (n:Int)]
abbrev aF (xs:List Nat):PV:=.sl 1 (xs.map fun (n:Nat)=>[PV.int .u32 (n:Int)])
theorem bU (xs:List Nat):(aJ xs).length=xs.length:=by simp
theorem bK (xs:List Nat) {i:Nat} (h:i<xs.length):(aJ xs)[i]?=some [.int .u32 (xs[i]:Nat)]:=by simp[h]
theorem aqM (xs:List Nat) (k:Nat):aF (xs.take k)=.sl 1 ((xs.map fun (n:Nat)=>[PV.int .u32 (n:Int)]).take k):=by rw[aF,List.map_take]
theorem cC (n:Nat):IntKind.u32.wrap (n:Int)=((n%4294967296:Nat):Int):=by
 have e:IntKind.u32.wrap (n:Int)=(n:Int)%4294967296:=by simp[IntKind.wrap,IntKind.bits,IntKind.signed]
 rw[e]; rfl
theorem tU {k:Nat} (h:k≤9223372036854775807) (h0:0<k):IntKind.i64.wrap ((k:Int)-1)=((k-1:Nat):Int):=by
 rw[wrap_i64 Om Om]; omega
def a3A (xs:List Nat) (n:Nat):PF:=((PF.nil.set 0 (aF xs)).set 3 (.int .i64 n))
theorem a3C {C:Ctx} (xs:List Nat) (hx:Lim xs) (hl:xs.length≤35184372087808):nF.wp C (aT rZ.res (aD (.int .i64 (nl (val xs):Nat)))) (PF.args [aF xs]) .nil:=by
 simp only[go_sem,γ,reduceCtorEq,nF,HF,HG,rZ]
 refine wp_loop (α:=Nat) (a3A xs) (fun _=>.nil) (fun n=>n≤xs.length∧∀ j x,n≤j→xs[j]?=some x→x=0) (fun n=>n) xs.length ⟨bKK _,fun j x h e=>by rw[bLW h] at e; cases e⟩ ?_ PH.nil_le ?_
 ·unfold a3A
  exact Lq
 rintro n ⟨hn,hz⟩
 have out:(∀ x,0<n→xs[n-1]?=some x→x≠0)→nl (val xs)=n:=fun h=>aWU hx hn hz h
 simp only[go_sem,γ,reduceCtorEq,HE,HH,a3A]
 by_cases h0:(n:Int)>0
 ·have hp:0<n:=by omega
  have hi:=bK xs (Om:n-1<xs.length)
  simp only[go_sem,γ,reduceCtorEq,h0,tU (Om:n≤9223372036854775807) hp,hi]
  by_cases hz0:xs[n-1]=0
  ·simp only[go_sem,γ,reduceCtorEq,bT (Om:((xs[n-1]:Nat):Int)=0),HI,tU (Om:n≤9223372036854775807) hp]
   refine aI (n-1) ⟨by omega,fun j x hj he=>?_⟩ Om ?_ PH.nil_le
   ·rcases bLD j n with h | h
    ·have:j=n-1:=by omega
     subst this
     rw[bKU Om] at he
     cases he; exact hz0
    ·exact hz j x h he
   ·exact Lq
  ·simp only[go_sem,γ,reduceCtorEq,bF (Om:((xs[n-1]:Nat):Int)≠0),rA]
   refine aL (.inr rfl) rfl ?_
   rw[out fun x _ he=>by rw[bKU Om] at he; cases he; exact hz0]
   rfl
 ·simp only[go_sem,γ,reduceCtorEq,h0,rA]
  refine aL (.inr rfl) rfl ?_
  rw[out fun x h=>by omega]
  rfl
theorem a8Z {C:Ctx} (xs:List Nat) (hlen:aE C 138 [aF xs] .nil (aD (.int .i64 (nl (val xs):Nat)))):AQ.wp C (aT NQ.res (aD (.bool (decide (nl (val xs)>512))))) (PF.args [aF xs]) .nil:=by
 simp only[go_sem,reduceCtorEq,AQ,aqO,aqP,NQ]
 refine aA hlen rfl ?_
 simp only[go_sem,γ]
 refine aL (.inr rfl) rfl ?_
 simp only[aV,PV.bool.injEq,decide_eq_decide]
 omega
def szL (n:Nat):List Nat:=if nl n>512 then [] else aG n
def szE (n:Nat):Int:=if nl n>512 then 2 else 0
def szV (n:Nat):PV:=.tup [aF (szL n),.int .i64 (szE n)]
theorem a9E {C:Ctx} (xs:List Nat) (hx:Lim xs) (hlen:aE C 138 [aF xs] .nil (aD (.int .i64 (nl (val xs):Nat)))):AS.wp C (aT NX.res (bZ (szV (val xs)))) (PF.args [aF xs]) .nil:=by
 simp only[go_sem,reduceCtorEq,AS,arB,arC,NX]
 refine aA hlen rfl ?_
 simp only[go_sem,γ,arD]
 by_cases h:nl (val xs)>512
 ·have h':((nl (val xs):Nat):Int)>512:=by omega
  simp only[go_sem,h',arE]
  refine aX (vs:=[.aB,.int .i64 2]) (.inr rfl) .nil rfl PH.nil_le ⟨?_,rfl⟩
  rw[szV,szL,szE,if_pos h,if_pos h]
  refine .tup rfl fun j p q hp hq=>?_
  match j with
  | 0=>simp at hp hq; subst hp; subst hq; exact .nil 1
  | 1=>simp at hp hq; subst hp; subst hq; exact .refl _
  | j+2=>simp at hp
 ·have h':¬ ((nl (val xs):Nat):Int)>512:=by omega
  have hl:=eZ hx
  have hc:((nl (val xs):Nat):Int)≤(xs.length:Nat):=by omega
  simp only[go_sem,ν,γ,reduceCtorEq,h',arF,hc,or_true,bLK]
  refine aX (.inr rfl) .nil rfl PH.nil_le ⟨?_,rfl⟩
  rw[szV,szL,szE,if_neg h,if_neg h,← jM hx,aqM]
  exact .refl _
theorem bhA {C:Ctx} (v:Nat) (hv:v<18446744073709551616) (hlen:∀ xs,Lim xs→xs.length≤35184372087808→aE C 138 [aF xs] .nil (aD (.int .i64 (nl (val xs):Nat)))) :
  HJ.wp C (aT aeJ.res (aD (aF (aG v)))) (PF.args [.int .u64 v]) .nil:=by
 have e1:IntKind.u32.wrap ((v:Nat):Int)=((v%4294967296:Nat):Int):=cC v
 have e2:Int.fdiv ((v:Nat):Int) 4294967296=((v/4294967296:Nat):Int):=by
  rw[Int.fdiv_eq_ediv_of_nonneg _ (by decide)]; rfl
 have hd:v/4294967296<4294967296:=by omega
 have e3:IntKind.u32.wrap ((v/4294967296:Nat):Int)=((v/4294967296:Nat):Int):=by rw[cC,bLS hd]
 have hL:Lim [v%4294967296,v/4294967296]:=by
  intro x hx
  simp only[bKY,List.mem_nil_iff,or_false] at hx
  rcases hx with rfl | rfl
  ·exact bLY _ (by decide)
  ·exact hd
 have bIX:val [v%4294967296,v/4294967296]=v:=by simp only[val,Nat.mul_zero,bMB]; exact Nat.mod_add_div v 4294967296
 have hs:∀ a b:Int,PV.bin .shr (.int .u64 a) (.int .u64 b)=shift .shr .u64 a b:=fun _ _=>rfl
 have hsh:shift .shr .u64 (v:Int) 32=some (.int .u64 ((v/4294967296:Nat):Int)):=by
  unfold shift
  rw[if_neg (by decide)]
  simp only
  have:min (Int.toNat 32) IntKind.u64.bits=32:=by decide
  rw[this]
  rw[show (2:Int) ^ 32=4294967296 by decide,e2]
 simp only[go_sem,υ,δ,γ,η,θ,ζ,reduceCtorEq,HJ,aGM,aGN,aeJ,e1,hsh,e3]
 have hb:(2:Nat)*1≤16777216:=by decide
 simp only[go_sem,γ,aGO]
 refine aA (hlen [v%4294967296,v/4294967296] hL (by simp)) rfl ?_
 have hl:=eZ hL
 rw[bIX] at hl ⊢
 have hc:((nl v:Nat):Int)≤((2:Nat):Int):=by simp at hl; omega
 simp only[go_sem,ν,δ,γ,reduceCtorEq,hc,or_true,bLK]
 refine aL (.inr rfl) rfl ?_
 have:=jM hL
 rw[bIX] at this
 rw[← this,aqM]
 rfl
theorem bhD {C:Ctx} (xs:List Nat) (hx:Lim xs) (hl:xs.length≤35184372087808) (hlen:aE C 138 [aF xs] .nil (aD (.int .i64 (nl (val xs):Nat)))) :
  HK.wp C (aT aeN.res (bZ (aF (aG (val xs))))) (PF.args [aF xs]) .nil:=by
 simp only[go_sem,reduceCtorEq,HK,aHG,aHH,aeN]
 refine aA hlen rfl ?_
 have hn:=eZ hx
 have hc:((nl (val xs):Nat):Int)≤(xs.length:Nat):=by omega
 simp only[go_sem,ν,γ,reduceCtorEq,hc,or_true,bLK]
 refine gD (rows:=[]) (src:=aJ (aG (val xs))) .nil ?_ ?_ fun v H' ho _=>?_
 ·simp only[go_sem]
  rw[← jM hx,← List.map_take]
 ·unfold roomFor
  rw[bU]
  have:(aG (val xs)).length=nl (val xs):=rfl
  simp only[bMW,maxLen]
  omega
 ·exact a3Q (.inr rfl) (by simpa using ho) rfl
end Go.PM
theorem Sq {p:Prop} (h:p:=by simp only[go_sem,γ,δ,ε,ζ,η,θ,ι,κ,μ,ν,ξ,ο,ρ,σ,τ,υ,reduceIte,reduceCtorEq]):p:=h
theorem Ev {p:Prop} (h:p:=by simp only[go_sem,γ,δ,ε,ζ,η,θ,ι,κ,μ,ν,ξ,ο,ρ,σ,τ,υ,reduceIte,reduceCtorEq]<;>rfl):p:=h
namespace Go.PM
open Go Go.Na
def a2V (xs ys:List Nat) (i:Int):PF:=(((PF.nil.set 0 (aF xs)).set 1 (aF ys)).set 7 (.int .i64 i))
theorem boE {C:Ctx} (xs ys:List Nat) (hx:Lim xs) (hy:Lim ys) (lx:xs.length≤35184372087808) (ly:ys.length≤35184372087808) (hlx:aE C 138 [aF xs] .nil (aD (.int .i64 (nl (val xs):Nat)))) (hly:aE C 138 [aF ys] .nil (aD (.int .i64 (nl (val ys):Nat)))) :
  NL.wp C (aT aFZ.res (aD (.int .i64 (dD (val xs) (val ys))))) (PF.args [aF xs,aF ys]) .nil:=by
 simp only[go_sem,reduceCtorEq,NL,aTU,aTV,aFZ]
 refine aA hlx Ev ?_
 simp only[go_sem,γ]
 refine aA hly Ev ?_
 simp only[go_sem,γ,aTW]
 have bx:=eZ hx
 have by':=eZ hy
 by_cases c1:nl (val xs)<nl (val ys)
 ·have c1':((nl (val xs):Nat):Int)<(nl (val ys):Nat):=by omega
  simp only[go_sem,ο,c1',aTX]
  refine aL (.inr rfl) Ev ?_
  have:val xs<val ys:=by
   rcases bLD (val xs) (val ys) with h | h
   ·exact h
   ·have:=fH h; omega
  simp[aV,dD,this]
 have c1':¬ ((nl (val xs):Nat):Int)<(nl (val ys):Nat):=by omega
 simp only[go_sem,γ,c1',aTY]
 by_cases c2:nl (val xs)>nl (val ys)
 ·have c2':((nl (val xs):Nat):Int)>(nl (val ys):Nat):=by omega
  simp only[go_sem,c2',aTZ]
  refine aL (.inr rfl) Ev ?_
  have:val ys<val xs:=by
   rcases bLD (val ys) (val xs) with h | h
   ·exact h
   ·have:=fH h; omega
  have h2:¬ val xs<val ys:=by omega
  simp[aV,dD,this,h2]
 have c2':¬ ((nl (val xs):Nat):Int)>(nl (val ys):Nat):=by omega
 have hn:nl (val xs)=nl (val ys):=by omega
 simp only[go_sem,γ,c2',aUA]
 have ex:=aR (val xs)
 have ey:=aR (val ys)
 have LX:=aU (val xs)
 have LY:=aU (val ys)
 refine wp_loop (α:=Nat) (fun k=>a2V xs ys ((k:Int)-1)) (fun _=>.nil) (fun k=>k≤nl (val xs)∧(aG (val xs)).drop k=(aG (val ys)).drop k) (fun k=>k) (nl (val xs)) ⟨bKK _,?_⟩ ?_ PH.nil_le ?_
 ·rw[bNU (by rw[nl]; exact bKK _),bNU (by rw[hn,nl]; exact bKK _)]
 ·unfold a2V
  (repeat' (first|exact PF.nil_le|refine PF.aK ?_ ?_))<;>first|(simp only[go_sem,γ,reduceCtorEq,wrap_i64 (show -9223372036854775808≤((nl (val xs):Nat):Int)-1 by omega) (show ((nl (val xs):Nat):Int)-1≤9223372036854775807 by omega)]<;>rfl)|rfl
 rintro k ⟨hk,hd⟩
 simp only[go_sem,γ,reduceCtorEq,aGA,aUB,a2V]
 by_cases h0:0<k
 ·obtain⟨m,rfl⟩:∃ m,k=m+1:=⟨k-1,by omega⟩
  have hz:((m+1:Nat):Int)-1=(m:Int):=by omega
  have hge:(m:Int)≥0:=by omega
  obtain⟨x1,x2,x3⟩:=ayX hx (Om:m<nl (val xs))
  obtain⟨y1,y2,y3⟩:=ayX hy (Om:m<nl (val ys))
  simp only[go_sem,hz,hge]
  refine bS .nil eC PH.nil_le ?_
  simp only[go_sem,γ,reduceCtorEq,aUC,bK xs x1,bK ys y1]
  by_cases c3:xs[m]<ys[m]
  ·simp only[go_sem,ο,show ((xs[m]:Nat):Int)<(ys[m]:Nat) by omega,aUD]
   refine aL (.inr rfl) Ev ?_
   have:=aaG LX x2 y2 hd (by rw[← x3,← y3]; exact c3)
   rw[ex,ey] at this
   simp[aV,dD,this]
  ·simp only[go_sem,show ¬ ((xs[m]:Nat):Int)<(ys[m]:Nat) by omega]
   refine bS .nil eC PH.nil_le ?_
   simp only[go_sem,γ,reduceCtorEq,aGB,bK xs x1,bK ys y1]
   by_cases c4:xs[m]>ys[m]
   ·simp only[go_sem,show ((xs[m]:Nat):Int)>(ys[m]:Nat) by omega,aGC]
    refine aL (.inr rfl) Ev ?_
    have:=aaG LY y2 x2 hd.symm (by rw[← x3,← y3]; exact c4)
    rw[ex,ey] at this
    have h2:¬ val xs<val ys:=by omega
    simp[aV,dD,this,h2]
   ·simp only[go_sem,γ,reduceCtorEq,show ¬ ((xs[m]:Nat):Int)>(ys[m]:Nat) by omega,aGD]
    refine aI m ⟨by omega,aoT x2 y2 hd (by rw[← x3,← y3]; omega)⟩ Om ?_ PH.nil_le
    (repeat' (first|exact PF.nil_le|refine PF.aK ?_ ?_))<;>first|(simp only[go_sem,γ,reduceCtorEq,wrap_i64 (Om:-9223372036854775808≤(m:Int)-1) (Om:(m:Int)-1≤9223372036854775807)]<;>rfl)|rfl
 ·have:k=0:=by omega
  subst this
  have hz:¬ ((0:Nat):Int)-1≥0:=by decide
  simp only[go_sem,hz,aGE]
  refine aL (.inr rfl) Ev ?_
  rw[bLK,bLK] at hd
  have:val xs=val ys:=by rw[← ex,← ey,hd]
  simp[aV,dD,this]
def aFO (k:Nat) (v:Nat):PF:=((PF.nil.set 4 (.int .i64 k)).set 5 (.int .u32 v))
theorem bgX {C:Ctx} (xs:List Nat) (hx:Lim xs) (lx:xs.length≤35184372087808) (hlx:aE C 138 [aF xs] .nil (aD (.int .i64 (nl (val xs):Nat)))) :
  HD.wp C (aT adX.res (aD (.int .i64 (cE (val xs):Nat)))) (PF.args [aF xs]) .nil:=by
 simp only[go_sem,reduceCtorEq,HD,aFQ,aFR,adX]
 refine aA hlx Ev ?_
 simp only[go_sem,γ,aFS]
 have bx:=eZ hx
 by_cases c1:nl (val xs)=0
 ·simp only[go_sem,bT (show ((nl (val xs):Nat):Int)=0 by omega),aFT]
  refine aL (.inr rfl) Ev ?_
  have:val xs=0:=gP.1 c1
  simp[aV,this,iU]
 obtain⟨n,hn⟩:∃ n,nl (val xs)=n+1:=⟨nl (val xs)-1,by omega⟩
 obtain⟨t,ht,ht0⟩:=aKN hx hn
 have htl:t<4294967296:=hx t (bNC ht)
 have hnl:n<xs.length:=by omega
 have hv:val xs=val (xs.take n)+4294967296 ^ n*t:=by
  have e:=jM hx
  have:=aR (val xs)
  have hg:xs[n]=t:=by rw[bKU hnl] at ht; exact bNA.inj ht
  rw[← e,hn,bMA hnl,hg,fK,bLB,bMN Om] at this
  simp only[val,Nat.mul_zero,bMB] at this
  exact this.symm
 have hb:cE (val xs)=32*n+cE t:=by
  have h3:=eN (hx.take n)
  rw[bLB,bMN Om] at h3
  rw[hv,show (4294967296:Nat) ^ n=2 ^ (32*n) by rw[Nat.pow_mul]] at *
  exact azJ h3 ht0
 have bIR:(aJ xs)[n]?=some [.int .u32 (t:Nat)]:=by
  rw[bK xs hnl]
  rw[bKU hnl] at ht
  rw[bNA.inj ht]
 have e1:IntKind.i64.wrap (((nl (val xs):Nat):Int)-1)=(n:Int):=by rw[wrap_i64 Om Om]; omega
 have e2:IntKind.i64.wrap ((n:Int)*32)=((32*n:Nat):Int):=by rw[wrap_i64 Om Om]; omega
 simp only[go_sem,γ,reduceCtorEq,bF (show ((nl (val xs):Nat):Int)≠0 by omega),aFU,aFV,e1,e2,bIR]
 refine wp_loop (α:=Nat × Nat) (fun a=>aFO a.1 a.2) (fun _=>.nil) (fun a=>a.1+cE a.2=32*n+cE t∧a.2<4294967296) (fun a=>a.2) (32*n,t) ⟨rfl,htl⟩ ?_ PH.nil_le ?_
 ·unfold aFO
  exact Lq
 rintro⟨k,v⟩ ⟨hk,hlt⟩
 simp only at hk hlt
 have hk32:cE t≤32:=(kL t 32).2 htl
 simp only[go_sem,γ,aFP,aFW,aFO]
 by_cases c2:(v:Int)>0
 ·have hv0:v≠0:=by omega
  have hsh:PV.bin .shr (.int .u32 (v:Int)) (.int .u64 1)=some (.int .u32 ((v/2:Nat):Int)):=by
   show shift .shr .u32 (v:Int) 1=_
   unfold shift
   rw[if_neg (by decide)]
   simp only
   have:min (Int.toNat 1) IntKind.u32.bits=1:=by decide
   rw[this,show (2:Int) ^ 1=2 by decide,Int.fdiv_eq_ediv_of_nonneg _ (by decide)]
   rfl
  have hsh':shift .shr .u32 (v:Int) 1=some (.int .u32 ((v/2:Nat):Int)):=hsh
  simp only[go_sem,γ,c2,aFX,aFY,hsh,hsh',wZz k]
  refine aI (k+1,v/2) ⟨?_,?_⟩ (Nat.div_lt_self Om (by decide)) ?_ PH.nil_le
  ·have:=nC hv0
   simp only; omega
  ·simp only; omega
  ·exact Lq
 ·have:v=0:=by omega
  subst this
  simp only[go_sem,γ,c2,aqN]
  refine aL (.inr rfl) Ev ?_
  rw[iU] at hk
  simp only[aV,PV.int.injEq,true_and]
  omega
structure oZ (C:Ctx):Prop where
 length:∀ xs,Lim xs→xs.length≤35184372087808→aE C 138 [aF xs] .nil (aD (.int .i64 (nl (val xs):Nat)))
 large:∀ xs,Lim xs→xs.length≤35184372087808→aE C 137 [aF xs] .nil (aD (.bool (decide (nl (val xs)>512))))
 sized:∀ xs,Lim xs→xs.length≤35184372087808→aE C 141 [aF xs] .nil (aD (szV (val xs)))
 trim:∀ xs,Lim xs→xs.length≤35184372087808→aE C 135 [aF xs] .nil (aD (aF (aG (val xs))))
 make:∀ v:Nat,v<18446744073709551616→aE C 132 [.int .u64 v] .nil (aD (aF (aG v)))
 cmp:∀ xs ys,Lim xs→Lim ys→xs.length≤35184372087808→ys.length≤35184372087808→aE C 129 [aF xs,aF ys] .nil (aD (.int .i64 (dD (val xs) (val ys))))
def gY:PV→List Nat
 | .sl _ rows=>rows.map fun r=>match r with | [.int _ n]=>n.toNat | _=>0
 | _=>[]
theorem dY (xs:List Nat):gY (aF xs)=xs:=by
 simp[gY,List.map_map,Function.comp_def]
def a2U:Spec:=fun name vs=>match name,vs with
 | 138,[x]=>some ([],fun _=>aD (.int .i64 (nl (val (gY x)):Nat)))
 | _,_=>none
theorem mL (xs:List Nat):a2U 138 [aF xs]=some ([],fun _=>aD (.int .i64 (nl (val xs):Nat))):=by
 show some _=_; rw[dY]
theorem wC (P:List Nat) (k v:Nat):(P++bKL (k+1) 0).set P.length v=(P++[v])++bKL k 0:=by
 rw[bNX _ _ (bKK _),bNG,List.replicate_succ,List.set_cons_zero,bLI]
 rfl
theorem fA (L:List Nat) (i v:Nat):(aJ L).set i [.int .u32 (v:Int)]=aJ (L.set i v):=by
 unfold aJ; rw[List.map_set]
theorem iJ (P:List Nat) (v:Nat):val (P++[v])=val P+4294967296 ^ P.length*v:=by
 rw[fK]; simp[val]
theorem bX (xs:List Nat) {i:Nat} (h:i<xs.length):val (xs.take (i+1))=val (xs.take i)+4294967296 ^ i*xs[i]:=by
 rw[bMA h,iJ,bLB,bMN Om]
theorem uX {v:Nat}:shift .shr .u64 (v:Int) 32=some (.int .u64 ((v/4294967296:Nat):Int)):=by
 unfold shift
 rw[if_neg (by decide)]
 simp only
 have:min (Int.toNat 32) IntKind.u64.bits=32:=by decide
 rw[this,show (2:Int) ^ 32=4294967296 by decide,Int.fdiv_eq_ediv_of_nonneg _ (by decide)]
 rfl
theorem eQ {a b:Nat} (h:a+b<18446744073709551616):IntKind.u64.wrap ((a:Int)+(b:Int))=((a+b:Nat):Int):=by
 rw[wrap_u64 Om Om]; omega
theorem bD {a:Nat} (h:a<18446744073709551616):IntKind.u64.wrap (a:Int)=(a:Int):=wrap_u64 Om Om
def adW (a b:List Nat) (o i c:Nat):PF:=(((((((PF.nil.set 0 (aF a)).set 1 (aF b)).set 6 (.osl o 1 0 (a.length+1))).set 7 (.int .u64 c)).set 35 (.int .i64 (a.length:Nat))).set 34 (aF a)).set 36 (.int .i64 i))
theorem aqL {C:Ctx} (L:oZ C) (a b:List Nat) (ha:Lim a) (hb:Lim b) (hl:b.length≤a.length) (h1:a.length≤1000) (F:PF) (f0:F 0=some (aF a)) (f1:F 1=some (aF b)) :
  aC.wp C (.seq (.region alY) (.seq (.region alZ) (.seq (.seq (.region amA) (.block 0 (.loop XP))) (.seq (.region XT) (.seq (.region XU) .ret))))) (aT [.tmp 4,.tmp 5] (bZ (szV (val a+val b)))) F .nil:=by
 have hlen:IntKind.i64.wrap ((a.length:Int)+1)=((a.length+1:Nat):Int):=dC Om
 have hm1:((a.length+1:Nat):Int)*((4:Nat):Int)≤140737488355328:=by omega
 have hm2:((a.length+1:Nat):Int)≤9223372036854775807:=by omega
 have hz:bKL (a.length+1) [PV.int .u32 0]=aJ ([]++bKL (a.length+1) 0):=by
  simp[aJ]
 simp only[go_sem,γ,alY,f0,hlen,hm1,hm2,hz]
 refine aQ fun o ho=>?_
 simp only[go_sem,γ,reduceCtorEq,alZ,amA,f0]
 refine wp_loop (α:=List Nat × Nat × Nat) (fun s=>adW a b s.2.2 s.1.length s.2.1) (fun s=>PH.nil.set s.2.2 (.rows 1 (aJ (s.1++bKL (a.length+1-s.1.length) 0))))
  (fun s=>s.1.length≤a.length∧Lim s.1∧s.2.1≤1∧val s.1+4294967296 ^ s.1.length*s.2.1=val (a.take s.1.length)+val (b.take s.1.length)) (fun s=>a.length-s.1.length) ([],0,o) ⟨by simp,by simp[Lim],by simp,by simp[val]⟩ ?_ ?_ ?_
 ·unfold adW
  exact Lq
 ·exact PH.aK PH.nil_le (by simp only[go_sem,bMW])
 rintro⟨P,c,q⟩ ⟨hP,bJB,hc,bIX⟩
 simp only at hP bJB hc bIX
 simp only[go_sem,γ,reduceCtorEq,XP,aTT,adW]
 by_cases c1:P.length<a.length
 ·have c1':(P.length:Int)<(a.length:Nat):=by omega
  have hai:=ha _ (bKM c1)
  obtain⟨k,hk⟩:∃ k,a.length+1-P.length=k+1:=⟨a.length-P.length,by omega⟩
  have hin:(aJ (P++bKL (k+1) 0))[P.length]?=some [.int .u32 ((0:Nat):Int)]:=by
   rw[bK _ (by simp)]; simp
  have hlast:a.length+1-(P.length+1)=k:=by omega
  have c2':(P.length:Int)<((a.length+1:Nat):Int):=by omega
  have fin:∀ (t:Nat) (F':PF) (H':PH),t<2*4294967296→val P+4294967296 ^ P.length*t=val (a.take (P.length+1))+val (b.take (P.length+1)) →
    F' 0=some (aF a)→F' 1=some (aF b)→F' 6=some (.osl q 1 0 (a.length+1))→F' 7=some (.int .u64 (t:Nat))→F' 8=some (.int .i64 P.length)→F' 34=some (aF a)→F' 35=some (.int .i64 (a.length:Nat))→F' 36=some (.int .i64 P.length) →
    H' q=some (.rows 1 (aJ (P++bKL (k+1) 0)))→∀ K:cO,(∀ P' c' F2 H2,P'.length=P.length+1→Lim P'→c'≤1→val P'+4294967296 ^ P'.length*c'=val (a.take (P.length+1))+val (b.take (P.length+1))→(adW a b q P'.length c').le F2→H2 q=some (.rows 1 (aJ (P'++bKL k 0)))→K .normal F2 H2) →
    aC.wp C (.seq (.region XQ) (.region XR)) (dZ 1 (jB C (aC.wp C (.region XS)) K)) F' H':=by
   intro t F' H' ht hv g0 g1 g6 g7 g8 g34 g35 g36 gH K hK
   have bIR:(aJ (P++bKL (k+1) 0)).set P.length [.int .u32 ((t%4294967296:Nat):Int)]=aJ ((P++[t%4294967296])++bKL k 0):=by
    rw[fA,wC]
   simp only[go_sem,γ,XQ,g6,g8,g7,cC,c2',gH,hin,bIR,XR,uX,XS,g36,dC (Om:P.length<9223372036854775807)]
   refine hK (P++[t%4294967296]) (t/4294967296) _ _ (by simp) (bJB.app fun x hx=>by simp at hx; subst hx; exact bLY _ (by decide)) Om ?_ ?_ Sq
   ·rw[iJ,bKQ,bKX,bMC,bLE,bMU,← bKV,Nat.mod_add_div]
    exact hv
   ·unfold adW
    rw[bKQ,bKX]
    refine PF.aK (PF.aK (PF.aK (PF.aK (PF.aK (PF.aK (PF.aK PF.nil_le ?_) ?_) ?_) ?_) ?_) ?_) ?_<;>simp only[go_sem,γ,reduceCtorEq,g0,g1,g6,g34,g35]
  have hta:=bX a c1
  have ea:IntKind.u64.wrap ((a[P.length]:Nat):Int)=((a[P.length]:Nat):Int):=bD Om
  have es:IntKind.u64.wrap ((c:Nat)+((a[P.length]:Nat):Int))=((c+a[P.length]:Nat):Int):=eQ Om
  simp only[go_sem,γ,reduceCtorEq,c1',aFK,aFL,bK a c1,ea,es,aFM]
  by_cases c3:P.length<b.length
  ·have c3':(P.length:Int)<(b.length:Nat):=by omega
   have hbi:=hb _ (bKM c3)
   have htb:=bX b c3
   have eb:IntKind.u64.wrap ((b[P.length]:Nat):Int)=((b[P.length]:Nat):Int):=bD Om
   have es2:IntKind.u64.wrap (((c+a[P.length]:Nat):Int)+((b[P.length]:Nat):Int))=((c+a[P.length]+b[P.length]:Nat):Int):=eQ Om
   simp only[go_sem,γ,reduceCtorEq,c3',aFN,bK b c3,eb,es2]
   refine fin (c+a[P.length]+b[P.length]) _ _ Om ?_ ?_ ?_ ?_ ?_ ?_ ?_ ?_ ?_ ?_ _ ?_
   ·rw[hta,htb,bKV,bKV]; omega
   any_goals simp only[go_sem,γ,reduceCtorEq,hk]
   intro P' c' F2 H2 e1 e2 e3 e4 e5 e6
   rw[← e1] at e4
   refine aI (P',c',q) ⟨by simp only; omega,e2,e3,e4⟩ (by simp only; omega) e5 (PH.aK PH.nil_le ?_)
   simp only
   rw[e1,hlast]; exact e6
  ·have c3':¬ (P.length:Int)<(b.length:Nat):=by omega
   have htb:val (b.take (P.length+1))=val (b.take P.length):=by rw[bKZ Om,bKZ Om]
   simp only[go_sem,c3']
   refine fin (c+a[P.length]) _ _ Om ?_ ?_ ?_ ?_ ?_ ?_ ?_ ?_ ?_ ?_ _ ?_
   ·rw[hta,htb,bKV]; omega
   any_goals simp only[go_sem,γ,reduceCtorEq,hk]
   intro P' c' F2 H2 e1 e2 e3 e4 e5 e6
   rw[← e1] at e4
   refine aI (P',c',q) ⟨by simp only; omega,e2,e3,e4⟩ (by simp only; omega) e5 (PH.aK PH.nil_le ?_)
   simp only
   rw[e1,hlast]; exact e6
 ·have e:P.length=a.length:=by omega
  have c1':¬ (P.length:Int)<(a.length:Nat):=by omega
  have hk:bKL (a.length+1-P.length) 0=[0]:=by rw[show a.length+1-P.length=1 by omega]; rfl
  have hin:(aJ (P++[0]))[a.length]?=some [.int .u32 ((0:Nat):Int)]:=by
   rw[bK _ (by simp; omega)]
   simp[e]
  have bIR:(aJ (P++[0])).set a.length [.int .u32 ((c%4294967296:Nat):Int)]=aJ (P++[c]):=by
   have:=wC P 0 (c%4294967296)
   simp only[List.replicate_zero,bMF,bLJ,List.replicate_one] at this
   rw[← e,fA,this,bLS Om]
  have c2':(a.length:Int)<((a.length+1:Nat):Int):=by omega
  have hV:val (P++[c])=val a+val b:=by
   rw[iJ,bIX,e,bLG,bKZ hl]
  have hLc:Lim (P++[c]):=bJB.app fun x hx=>by simp at hx; omega
  simp only[go_sem,γ,reduceCtorEq,c1',XT,cC,hk,hin,c2',bIR,XU]
  have hs:=L.sized _ hLc (by simp; omega)
  rw[hV] at hs
  refine oL (o:=q) (s:=1) (k:=a.length+1) (rs:=aJ (P++[c])) (v:=szV (val a+val b)) ?_ rfl Sq (by rw[bU]; simp; omega) ?_
  ·rw[bKZ (by rw[bU]; simp; omega)]; exact hs
  ·simp only[go_sem,γ,reduceCtorEq,szV]
   exact aX (.inr rfl) .nil rfl PH.nil_le ⟨.refl _,rfl⟩
def opV (big:Bool) (n:Nat):PV:=if big then .tup [aF [],.int .i64 2] else szV n
def dS (a b:Nat):Bool:=decide (nl a>512)||decide (nl b>512)
theorem eF {res:List dW} {F:PF} {H:PH} {e:Int} (h:dW.evs F H res=some [.aB,.int .i64 e]):aT res (bZ (.tup [aF [],.int .i64 e])) .ret F H:=by
 refine aX (.inr rfl) .nil h PH.nil_le ⟨?_,rfl⟩
 refine .tup rfl fun j p q hp hq=>?_
 match j with
 | 0=>simp at hp hq; subst hp; subst hq; exact .nil 1
 | 1=>simp at hp hq; subst hp; subst hq; exact .refl _
 | j+2=>simp at hp
theorem aZ (n:Nat):(aG n).length=nl n:=rfl
theorem hJ {xs:List Nat} (h:Lim xs):(xs.map fun (n:Nat)=>[PV.int .u32 (n:Int)]).take (nl (val xs))=(aG (val xs)).map fun (n:Nat)=>[PV.int .u32 (n:Int)]:=by
 rw[← List.map_take,jM h]
theorem boB {C:Ctx} (L:oZ C) (a b:List Nat) (ha:Lim a) (hb:Lim b) (la:a.length≤35184372087808) (lb:b.length≤35184372087808) :
  NK.wp C (aT aFJ.res (bZ (opV (dS (val a) (val b)) (val a+val b)))) (PF.args [aF a,aF b]) .nil:=by
 simp only[go_sem,reduceCtorEq,NK,aTO,aTP,aFJ]
 refine aA (L.large a ha la) rfl ?_
 by_cases c1:nl (val a)>512
 ·simp only[go_sem,γ,c1,alX]
  rw[show opV (dS (val a) (val b)) (val a+val b)=.tup [aF [],.int .i64 2] by simp[opV,dS,c1]]
  exact eF rfl
 simp only[go_sem,γ,c1]
 refine aA (L.large b hb lb) rfl ?_
 by_cases c2:nl (val b)>512
 ·simp only[go_sem,γ,reduceCtorEq,c2,alX]
  rw[show opV (dS (val a) (val b)) (val a+val b)=.tup [aF [],.int .i64 2] by simp[opV,dS,c2]]
  exact eF rfl
 have e:opV (dS (val a) (val b)) (val a+val b)=szV (val a+val b):=by simp[opV,dS,c1,c2]
 rw[e]
 simp only[go_sem,γ,reduceCtorEq,c2]
 refine bS .nil a2U PH.nil_le ?_
 simp only[go_sem,reduceCtorEq,aTQ]
 have h1:=eZ ha
 have h2:=eZ hb
 have h1':((nl (val a):Nat):Int)≤(a.length:Nat):=by omega
 have h2':((nl (val b):Nat):Int)≤(b.length:Nat):=by omega
 refine bQ (mL a) (L.length a ha la) rfl PH.nil_le ?_
 simp only[go_sem,ν,γ,reduceCtorEq,h1',or_true,bLK,hJ ha]
 refine bQ (mL b) (L.length b hb lb) rfl PH.nil_le ?_
 simp only[go_sem,ν,γ,reduceCtorEq,h2',or_true,bLK,hJ hb,aTR,aZ]
 have va:=aR (val a)
 have vb:=aR (val b)
 by_cases c3:nl (val a)<nl (val b)
 ·have c3':((nl (val a):Nat):Int)<(nl (val b):Nat):=by omega
  simp only[go_sem,γ,reduceCtorEq,c3',aTS]
  have:=aqL L (aG (val b)) (aG (val a)) (aU _) (aU _) (by rw[aZ,aZ]; omega) (by rw[aZ]; omega)
  rw[va,vb,Nat.add_comm] at this
  exact this _ rfl rfl
 ·have c3':¬ ((nl (val a):Nat):Int)<(nl (val b):Nat):=by omega
  simp only[go_sem,c3']
  have:=aqL L (aG (val a)) (aG (val b)) (aU _) (aU _) (by rw[aZ,aZ]; omega) (by rw[aZ]; omega)
  rw[va,vb] at this
  exact this _ rfl rfl
theorem fI (n:Int):IntKind.u64.wrap n=n%18446744073709551616:=by simp[IntKind.wrap,IntKind.bits,IntKind.signed]
theorem VT (n:Int):IntKind.u32.wrap n=n%4294967296:=by simp[IntKind.wrap,IntKind.bits,IntKind.signed]
theorem a4D {v:Int}:shift .shr .u64 v 63=some (.int .u64 (v/9223372036854775808)):=by
 unfold shift
 rw[if_neg (by decide)]
 simp only
 have:min (Int.toNat 63) IntKind.u64.bits=63:=by decide
 rw[this,show (2:Int) ^ 63=9223372036854775808 by decide,Int.fdiv_eq_ediv_of_nonneg _ (by decide)]
def PS (a bor b:Nat):Nat:=(a+4294967296-bor-b)%4294967296
def YS (a bor b:Nat):Nat:=if a<bor+b then 1 else 0
theorem aKD {a bor b:Nat} (ha:a<4294967296) (hb:b<4294967296) (hc:bor≤1) (v:Int) (hv:v=((a:Int)-bor-b)%18446744073709551616) :
  IntKind.u32.wrap v=((PS a bor b:Nat):Int)∧v/9223372036854775808=((YS a bor b:Nat):Int)∧a+4294967296*YS a bor b=PS a bor b+b+bor∧PS a bor b<4294967296:=by
 rw[VT]
 unfold PS YS
 split<;>omega
def aeM (a b:List Nat) (o i c:Nat):PF:=(((((((PF.nil.set 0 (aF a)).set 1 (aF b)).set 6 (.osl o 1 0 a.length)).set 7 (.int .u64 c)).set 33 (aF a)).set 34 (.int .i64 (a.length:Nat))).set 35 (.int .i64 i))
theorem a9G {C:Ctx} (L:oZ C) (a b:List Nat) (ha:Lim a) (hb:Lim b) (hle:val b≤val a) (hl:b.length≤a.length) (h1:a.length≤1000) (F:PF) (f0:F 0=some (aF a)) (f1:F 1=some (aF b)) :
  aC.wp C (.seq (.region amM) (.seq (.region amN) (.seq (.seq (.region amO) (.block 1 (.loop YC))) (.seq (.region YG) .ret)))) (aT [.tmp 4,.tmp 5] (bZ (szV (val a-val b)))) F .nil:=by
 have hm1:((a.length:Nat):Int)*((4:Nat):Int)≤140737488355328:=by omega
 have hm2:((a.length:Nat):Int)≤9223372036854775807:=by omega
 have hz:bKL a.length [PV.int .u32 0]=aJ ([]++bKL a.length 0):=by
  simp[aJ]
 simp only[go_sem,γ,amM,f0,hm1,hm2,hz]
 refine aQ fun o ho=>?_
 simp only[go_sem,γ,reduceCtorEq,amN,amO,f0]
 refine wp_loop (α:=List Nat × Nat × Nat) (fun s=>aeM a b s.2.2 s.1.length s.2.1) (fun s=>PH.nil.set s.2.2 (.rows 1 (aJ (s.1++bKL (a.length-s.1.length) 0))))
  (fun s=>s.1.length≤a.length∧Lim s.1∧s.2.1≤1∧val (a.take s.1.length)+4294967296 ^ s.1.length*s.2.1=val s.1+val (b.take s.1.length)) (fun s=>a.length-s.1.length) ([],0,o) ⟨by simp,by simp[Lim],by simp,by simp[val]⟩ ?_ ?_ ?_
 ·unfold aeM
  exact Lq
 ·exact PH.aK PH.nil_le (by simp only[go_sem,bMW])
 rintro⟨P,c,q⟩ ⟨hP,bJB,hc,bIX⟩
 simp only at hP bJB hc bIX
 simp only[go_sem,γ,reduceCtorEq,YC,aVB,aeM]
 by_cases c1:P.length<a.length
 ·have c1':(P.length:Int)<(a.length:Nat):=by omega
  have hai:=ha _ (bKM c1)
  obtain⟨k,hk⟩:∃ k,a.length-P.length=k+1:=⟨a.length-P.length-1,by omega⟩
  have hin:(aJ (P++bKL (k+1) 0))[P.length]?=some [.int .u32 ((0:Nat):Int)]:=by
   rw[bK _ (by simp)]; simp
  have hlast:a.length-(P.length+1)=k:=by omega
  have hta:=bX a c1
  have fin:∀ (t:Nat) (v:Int) (F':PF) (H':PH),t<4294967296→v=((a[P.length]:Int)-c-t)%18446744073709551616→val (b.take (P.length+1))=val (b.take P.length)+4294967296 ^ P.length*t →
    F' 0=some (aF a)→F' 1=some (aF b)→F' 6=some (.osl q 1 0 a.length)→F' 9=some (.int .u64 v)→F' 8=some (.int .i64 P.length)→F' 33=some (aF a)→F' 34=some (.int .i64 (a.length:Nat))→F' 35=some (.int .i64 P.length) →
    H' q=some (.rows 1 (aJ (P++bKL (k+1) 0)))→∀ K:cO,(∀ P' c' F2 H2,P'.length=P.length+1→Lim P'→c'≤1→val (a.take (P.length+1))+4294967296 ^ P'.length*c'=val P'+val (b.take (P.length+1))→(aeM a b q P'.length c').le F2→H2 q=some (.rows 1 (aJ (P'++bKL k 0)))→K .normal F2 H2) →
    aC.wp C (.seq (.region YD) (.region YE)) (dZ 2 (jB C (aC.wp C (.region YF)) K)) F' H':=by
   intro t v F' H' ht hv htb g0 g1 g6 g9 g8 g33 g34 g35 gH K hK
   obtain⟨e1,e2,e3,e4⟩:=aKD hai ht hc v hv
   have bIR:(aJ (P++bKL (k+1) 0)).set P.length [.int .u32 ((PS a[P.length] c t:Nat):Int)]=aJ ((P++[PS a[P.length] c t])++bKL k 0):=by
    rw[fA,wC]
   simp only[go_sem,γ,YD,g6,g8,g9,e1,c1',gH,hin,bIR,YE,a4D,e2,YF,g35,dC (Om:P.length<9223372036854775807)]
   refine hK (P++[PS a[P.length] c t]) (YS a[P.length] c t) _ _ (by simp) (bJB.app fun x hx=>by simp at hx; subst hx; exact e4) (by unfold YS; split<;>omega) ?_ ?_ Sq
   ·rw[iJ,bKQ,bKX,bMC,bLE,hta,htb,bMU,← bKV,e3,bKV,bKV]
    omega
   ·unfold aeM
    rw[bKQ,bKX]
    refine PF.aK (PF.aK (PF.aK (PF.aK (PF.aK (PF.aK (PF.aK PF.nil_le ?_) ?_) ?_) ?_) ?_) ?_) ?_<;>simp only[go_sem,γ,reduceCtorEq,g0,g1,g6,g33,g34]
  have ea:IntKind.u64.wrap ((a[P.length]:Nat):Int)=((a[P.length]:Nat):Int):=bD Om
  simp only[go_sem,γ,reduceCtorEq,c1',aGZ,aHA,bK a c1,ea,aHB]
  by_cases c3:P.length<b.length
  ·have c3':(P.length:Int)<(b.length:Nat):=by omega
   have hbi:=hb _ (bKM c3)
   have htb:=bX b c3
   have eb:IntKind.u64.wrap ((b[P.length]:Nat):Int)=((b[P.length]:Nat):Int):=bD Om
   simp only[go_sem,γ,reduceCtorEq,c3',aHC,bK b c3,eb]
   refine fin b[P.length] (IntKind.u64.wrap (IntKind.u64.wrap ((a[P.length]:Int)-(c:Int))-(b[P.length]:Int))) _ _ hbi (by rw[fI,fI]; omega) htb ?_ ?_ ?_ ?_ ?_ ?_ ?_ ?_ ?_ _ ?_
   any_goals simp only[go_sem,γ,reduceCtorEq,hk]
   intro P' c' F2 H2 e1 e2 e3 e4 e5 e6
   rw[← e1] at e4
   refine aI (P',c',q) ⟨by simp only; omega,e2,e3,e4⟩ (by simp only; omega) e5 (PH.aK PH.nil_le ?_)
   simp only
   rw[e1,hlast]; exact e6
  ·have c3':¬ (P.length:Int)<(b.length:Nat):=by omega
   have htb:val (b.take (P.length+1))=val (b.take P.length)+4294967296 ^ P.length*0:=by rw[bKZ Om,bKZ Om]; simp
   simp only[go_sem,c3']
   refine fin 0 (IntKind.u64.wrap ((a[P.length]:Int)-(c:Int))) _ _ (by decide) (by rw[fI]; omega) htb ?_ ?_ ?_ ?_ ?_ ?_ ?_ ?_ ?_ _ ?_
   any_goals simp only[go_sem,γ,reduceCtorEq,hk]
   intro P' c' F2 H2 e1 e2 e3 e4 e5 e6
   rw[← e1] at e4
   refine aI (P',c',q) ⟨by simp only; omega,e2,e3,e4⟩ (by simp only; omega) e5 (PH.aK PH.nil_le ?_)
   simp only
   rw[e1,hlast]; exact e6
 ·have e:P.length=a.length:=by omega
  have c1':¬ (P.length:Int)<(a.length:Nat):=by omega
  have hk:bKL (a.length-P.length) 0=[]:=by rw[show a.length-P.length=0 by omega]; rfl
  have hV:val P=val a-val b:=by
   rw[e,bLG,bKZ hl] at bIX
   have hlt:=eN bJB
   rw[e] at hlt
   rcases bNK c with h | h
   ·subst h; omega
   ·have:c=1:=by omega
    subst this; omega
  simp only[go_sem,γ,reduceCtorEq,c1',hk,bMF,YG]
  have hs:=L.sized _ bJB Om
  rw[hV] at hs
  refine oL (o:=q) (s:=1) (k:=a.length) (rs:=aJ P) (v:=szV (val a-val b)) ?_ rfl Sq (by rw[bU]; omega) ?_
  ·rw[bKZ (by rw[bU]; omega)]; exact hs
  ·simp only[go_sem,γ,reduceCtorEq,szV]
   exact aX (.inr rfl) .nil rfl PH.nil_le ⟨.refl _,rfl⟩
def pO (a b:Nat):PV:=if dS a b then .tup [aF [],.int .i64 2] else if a<b then .tup [aF [],.int .i64 4] else szV (a-b)
theorem boN {C:Ctx} (L:oZ C) (a b:List Nat) (ha:Lim a) (hb:Lim b) (la:a.length≤35184372087808) (lb:b.length≤35184372087808) :
  NY.wp C (aT aGY.res (bZ (pO (val a) (val b)))) (PF.args [aF a,aF b]) .nil:=by
 simp only[go_sem,reduceCtorEq,NY,aUW,aUX,aGY]
 refine aA (L.large a ha la) rfl ?_
 by_cases c1:nl (val a)>512
 ·simp only[go_sem,γ,c1,amL]
  rw[show pO (val a) (val b)=.tup [aF [],.int .i64 2] by simp[pO,dS,c1]]
  exact eF rfl
 simp only[go_sem,γ,c1]
 refine aA (L.large b hb lb) rfl ?_
 by_cases c2:nl (val b)>512
 ·simp only[go_sem,γ,reduceCtorEq,c2,amL]
  rw[show pO (val a) (val b)=.tup [aF [],.int .i64 2] by simp[pO,dS,c2]]
  exact eF rfl
 simp only[go_sem,γ,reduceCtorEq,c2,aUY]
 refine aA (L.cmp a b ha hb la lb) rfl ?_
 by_cases c3:val a<val b
 ·have hc:dD (val a) (val b)<0:=by simp[dD,c3]
  simp only[go_sem,γ,hc,aUZ]
  rw[show pO (val a) (val b)=.tup [aF [],.int .i64 4] by simp[pO,dS,c1,c2,c3]]
  exact eF rfl
 have hc:¬ dD (val a) (val b)<0:=by
  unfold dD
  rw[if_neg c3]
  split<;>decide
 rw[show pO (val a) (val b)=szV (val a-val b) by simp[pO,dS,c1,c2,c3]]
 simp only[go_sem,γ,hc]
 refine bS .nil a2U PH.nil_le ?_
 simp only[go_sem,reduceCtorEq,aVA]
 have h1:=eZ ha
 have h2:=eZ hb
 have h1':((nl (val a):Nat):Int)≤(a.length:Nat):=by omega
 have h2':((nl (val b):Nat):Int)≤(b.length:Nat):=by omega
 refine bQ (mL a) (L.length a ha la) rfl PH.nil_le ?_
 simp only[go_sem,ν,γ,reduceCtorEq,h1',or_true,bLK,hJ ha]
 refine bQ (mL b) (L.length b hb lb) rfl PH.nil_le ?_
 simp only[go_sem,ν,γ,reduceCtorEq,h2',or_true,bLK,hJ hb]
 have va:=aR (val a)
 have vb:=aR (val b)
 have hm:=fH (Om:val b≤val a)
 have:=a9G L (aG (val a)) (aG (val b)) (aU _) (aU _) Om (by rw[aZ,aZ]; omega) (by rw[aZ]; omega)
 rw[va,vb] at this
 exact this _ rfl rfl
end Go.PM
namespace Go.Na
def dO:Nat→Nat→List Nat
 | 0,_=>[]
 | k+1,n=>(n%4294967296)::dO k (n/4294967296)
theorem kA:∀ k n,(dO k n).length=k
 | 0,_=>rfl
 | k+1,n=>by simp[dO,kA k]
theorem FI {xs:List Nat} (h:Lim xs):dO xs.length (val xs)=xs:=by
 induction xs with
 | nil=>rfl
 | cons x xs ih =>
  have hx:=h x (by simp)
  have e1:(x+4294967296*val xs)%4294967296=x:=by omega
  have e2:(x+4294967296*val xs)/4294967296=val xs:=by omega
  simp only[bLX,dO,val]
  rw[e1,e2,ih fun y hy=>h y (by simp[hy])]
theorem kW:∀ k n,Lim (dO k n)
 | 0,_=>fun x hx=>by cases hx
 | k+1,n=>fun x hx=>by
  simp only[dO,bKY] at hx
  rcases hx with rfl | hx
  ·exact bLY _ (by decide)
  ·exact kW k _ x hx
theorem xM:∀ k n,val (dO k n)=n%4294967296 ^ k
 | 0,n=>by simp[dO,val,Nat.mod_one]
 | k+1,n=>by
  simp only[dO,val,xM k]
  rw[bMC,bLH (4294967296 ^ k) 4294967296,Nat.mod_mul]
theorem mO {k n:Nat} (h:n<4294967296 ^ k):val (dO k n)=n:=by rw[xM,bLS h]
end Go.Na
namespace Go.PM
open Go Go.Na
theorem bvI {a b:Nat} (ha:a<18446744073709551616) (hb:b<18446744073709551616):(BitVec.ofInt 64 (a:Int) ||| BitVec.ofInt 64 (b:Int)).toNat=a ||| b:=by
 rw[BitVec.ofInt_natCast,BitVec.ofInt_natCast,BitVec.toNat_or,BitVec.toNat_ofNat,BitVec.toNat_ofNat,bLS (by simpa using ha),bLS (by simpa using hb)]
theorem aHM {c x s:Nat} (hc:c<2 ^ s) (h:c+2 ^ s*x<18446744073709551616):c ||| (2 ^ s*x)=c+2 ^ s*x:=by
 rw[Nat.or_comm,← Nat.two_pow_add_eq_or_of_lt hc,Nat.add_comm]
theorem orI {a b n:Nat} (ha:a<18446744073709551616) (hb:b<18446744073709551616) (h:a ||| b=n) (hn:n<18446744073709551616):jY .or .u64 (a:Int) (b:Int)=some (.int .u64 (n:Int)):=by
 show some (PV.int .u64 (IntKind.u64.wrap (((BitVec.ofInt 64 (a:Int) ||| BitVec.ofInt 64 (b:Int)).toNat:Nat):Int)))=_
 rw[bvI ha hb,h,bD hn]
theorem IC {x s:Nat} (hs:s≤64) (h:x*2 ^ s<18446744073709551616):shift .shl .u64 (x:Int) (s:Int)=some (.int .u64 ((2 ^ s*x:Nat):Int)):=by
 unfold shift
 rw[if_neg Om]
 simp only
 have:min (Int.toNat (s:Int)) IntKind.u64.bits=s:=by
  rw[show IntKind.u64.bits=64 from rfl]; omega
 rw[this,show (x:Int)*2 ^ s=((x*2 ^ s:Nat):Int) by simp,bD h,bLH]
def bhF (a:List Nat) (s o i c:Nat):PF:=(((((((PF.nil.set 0 (aF a)).set 1 (.int .u64 s)).set 5 (.osl o 1 0 (a.length+1))).set 6 (.int .u64 c)).set 13 (aF a)).set 14 (.int .i64 (a.length:Nat))).set 15 (.int .i64 i))
def upR (a:List Nat) (s:Nat) (r:PV) (H:PH):Prop:=∃ o,r=.osl o 1 0 (a.length+1)∧H=PH.nil.set o (.rows 1 (aJ (dO (a.length+1) (val a*2 ^ s))))
theorem bsP {C:Ctx} (a:List Nat) (s:Nat) (ha:Lim a) (hs:s<32) (h1:a.length≤1000):YH.wp C (aT nup.res (upR a s)) (PF.args [aF a,.int .u64 s]) .nil:=by
 have hlen:IntKind.i64.wrap ((a.length:Int)+1)=((a.length+1:Nat):Int):=dC Om
 have hm1:((a.length+1:Nat):Int)*((4:Nat):Int)≤140737488355328:=by omega
 have hm2:((a.length+1:Nat):Int)≤9223372036854775807:=by omega
 have hz:bKL (a.length+1) [PV.int .u32 0]=aJ ([]++bKL (a.length+1) 0):=by
  simp[aJ]
 have h2s:2 ^ s≤2147483648:=Nat.pow_le_pow_right (show 0<2 by decide) (Om:s≤31)
 have h2s0:0<2 ^ s:=bMZ (by decide)
 simp only[go_sem,γ,reduceCtorEq,YH,a9H,a9I,nup,hlen,hm1,hm2,hz]
 refine aQ fun o ho=>?_
 simp only[go_sem,γ,reduceCtorEq,a9J,a9K]
 refine wp_loop (α:=List Nat × Nat × Nat) (fun t=>bhF a s t.2.2 t.1.length t.2.1) (fun t=>PH.nil.set t.2.2 (.rows 1 (aJ (t.1++bKL (a.length+1-t.1.length) 0))))
  (fun t=>t.1.length≤a.length∧Lim t.1∧t.2.1<2 ^ s∧val t.1+4294967296 ^ t.1.length*t.2.1=val (a.take t.1.length)*2 ^ s) (fun t=>a.length-t.1.length) ([],0,o) ⟨by simp,by simp[Lim],h2s0,by simp[val]⟩ ?_ ?_ ?_
 ·unfold bhF
  exact Lq
 ·exact PH.aK PH.nil_le (by simp only[go_sem,bMW])
 rintro⟨P,c,q⟩ ⟨hP,bJB,hc,bIX⟩
 simp only at hP bJB hc bIX
 simp only[go_sem,γ,reduceCtorEq,aVC,a9L,bhF]
 by_cases c1:P.length<a.length
 ·have c1':(P.length:Int)<(a.length:Nat):=by omega
  have hai:=ha _ (bKM c1)
  obtain⟨k,hk⟩:∃ k,a.length+1-P.length=k+1:=⟨a.length-P.length,by omega⟩
  have hin:(aJ (P++bKL (k+1) 0))[P.length]?=some [.int .u32 ((0:Nat):Int)]:=by
   rw[bK _ (by simp)]; simp
  have hlast:a.length+1-(P.length+1)=k:=by omega
  have c2':(P.length:Int)<((a.length+1:Nat):Int):=by omega
  have hta:=bX a c1
  generalize hx:a[P.length]=x at *
  have hxs:x*2 ^ s≤4294967295*2147483648:=Nat.mul_le_mul Om h2s
  have ex:IntKind.u64.wrap ((x:Nat):Int)=((x:Nat):Int):=bD Om
  have hxs':2 ^ s*x=x*2 ^ s:=bLH _ _
  have esh:shift .shl .u64 (x:Int) (s:Int)=some (.int .u64 ((2 ^ s*x:Nat):Int)):=IC Om Om
  have eor:=orI (a:=c) (b:=2 ^ s*x) (n:=c+2 ^ s*x) Om Om (aHM hc Om) Om
  have hdig:(c+2 ^ s*x)/4294967296<2 ^ s:=by
   rw[bND (by decide)]
   have:2 ^ s*(x+1)≤2 ^ s*4294967296:=bMO _ Om
   rw[bKV,Nat.mul_one] at this
   omega
  have bIR:(aJ (P++bKL (k+1) 0)).set P.length [.int .u32 (((c+2 ^ s*x)%4294967296:Nat):Int)]=aJ ((P++[(c+2 ^ s*x)%4294967296])++bKL k 0):=by
   rw[fA,wC]
  have hax:(aJ a)[P.length]?=some [.int .u32 ((x:Nat):Int)]:=by rw[bK a c1,hx]
  simp only[go_sem,γ,reduceCtorEq,c1',a9M,a9N,hax,ex,esh,eor,a9O,cC,hk,c2',hin,bIR,a9P,uX,a9Q,dC (Om:P.length<9223372036854775807)]
  refine aI (P++[(c+2 ^ s*x)%4294967296],(c+2 ^ s*x)/4294967296,q) ⟨by simp; omega,bJB.app fun y hy=>by simp at hy; subst hy; exact bLY _ (by decide),hdig,?_⟩ (by simp; omega) ?_ (PH.aK PH.nil_le ?_)
  ·simp only
   rw[iJ,bKQ,bKX,bMC,bLE,bMU,← bKV,Nat.mod_add_div,hta,bKV,bLM,← bMU,bIX,hxs',bLE]
  ·simp only
   rw[bKQ,bKX]
   exact Lq
  ·simp only
   rw[bKQ,bKX,hlast]
   simp only[go_sem]
 ·have e:P.length=a.length:=by omega
  have c1':¬ (P.length:Int)<(a.length:Nat):=by omega
  have hk:bKL (a.length+1-P.length) 0=[0]:=by rw[show a.length+1-P.length=1 by omega]; rfl
  have hin:(aJ (P++[0]))[a.length]?=some [.int .u32 ((0:Nat):Int)]:=by
   rw[bK _ (by simp; omega)]
   simp[e]
  have bIR:(aJ (P++[0])).set a.length [.int .u32 ((c%4294967296:Nat):Int)]=aJ (P++[c]):=by
   have:=wC P 0 (c%4294967296)
   simp only[List.replicate_zero,bMF,bLJ,List.replicate_one] at this
   rw[← e,fA,this,bLS Om]
  have c2':(a.length:Int)<((a.length+1:Nat):Int):=by omega
  have hV:val (P++[c])=val a*2 ^ s:=by
   rw[iJ,bIX,e,bLG]
  have hLc:Lim (P++[c]):=bJB.app fun x hx=>by simp at hx; omega
  have hD:dO (a.length+1) (val a*2 ^ s)=P++[c]:=by
   have:=FI hLc
   rw[hV,bKQ,bKX,e] at this
   exact this
  simp only[go_sem,γ,reduceCtorEq,c1',aVD,cC,hk,hin,c2',bIR,aVE]
  exact aX (vs:=[.osl q 1 0 (a.length+1)]) (.inr rfl) (PH.nil.set q (.rows 1 (aJ (P++[c])))) Ev (PH.aK PH.nil_le Sq) ⟨q,rfl,by rw[hD]⟩
def amK (a:List Nat) (d o k r:Nat):PF:=(((((PF.nil.set 0 (aF a)).set 1 (.int .u32 d)).set 6 (.osl o 1 0 a.length)).set 7 (.int .u64 r)).set 8 (.int .i64 ((k:Int)-1)))
theorem a9C {C:Ctx} (L:oZ C) (a:List Nat) (d:Nat) (ha:Lim a) (hd0:0<d) (hd:d<4294967296) (h1:a.length≤1000) :
  AR.wp C (aT NW.res (aD (.tup [aF (aG (val a/d)),.int .u32 ((val a%d:Nat):Int)]))) (PF.args [aF a,.int .u32 d]) .nil:=by
 have hm1:((a.length:Nat):Int)*((4:Nat):Int)≤140737488355328:=by omega
 have hm2:((a.length:Nat):Int)≤9223372036854775807:=by omega
 have hz:bKL a.length [PV.int .u32 0]=aJ (bKL a.length 0++[]):=by
  simp[aJ]
 simp only[go_sem,γ,reduceCtorEq,AR,aqS,aqT,NW,hm1,hm2,hz]
 refine aQ fun o ho=>?_
 simp only[go_sem,γ,reduceCtorEq,aqU,aqV]
 refine wp_loop (α:=Nat × List Nat × Nat × Nat) (fun t=>amK a d t.2.2.2 t.1 t.2.2.1) (fun t=>PH.nil.set t.2.2.2 (.rows 1 (aJ (bKL t.1 0++t.2.1))))
  (fun t=>t.1+t.2.1.length=a.length∧Lim t.2.1∧t.2.2.1<d∧val t.2.1*d+t.2.2.1=val (a.drop t.1)) (fun t=>t.1) (a.length,[],0,o) ⟨by simp,by simp[Lim],hd0,by simp[val]⟩ ?_ ?_ ?_
 ·unfold amK
  (repeat' (first|exact PF.nil_le|refine PF.aK ?_ ?_))<;>first|(simp only[go_sem,γ,reduceCtorEq,wrap_i64 (Om:-9223372036854775808≤((a.length:Nat):Int)-1) (Om:((a.length:Nat):Int)-1≤9223372036854775807)]<;>rfl)|rfl
 ·exact PH.aK PH.nil_le Sq
 rintro⟨k,S,r,q⟩ ⟨hk,bJB,hr,bIX⟩
 simp only at hk bJB hr bIX
 simp only[go_sem,γ,reduceCtorEq,aqR,aqW,amK]
 by_cases h0:0<k
 ·obtain⟨m,rfl⟩:∃ m,k=m+1:=⟨k-1,by omega⟩
  have hzz:((m+1:Nat):Int)-1=(m:Int):=by omega
  have hge:(m:Int)≥0:=by omega
  have hml:m<a.length:=by omega
  have hlt:(m:Int)<(a.length:Nat):=by omega
  have hai:=ha _ (bKM hml)
  have hdrop:val (a.drop m)=a[m]+4294967296*val (a.drop (m+1)):=by rw[bMH hml]; rfl
  generalize hx:a[m]=x at *
  have hax:(aJ a)[m]?=some [.int .u32 ((x:Nat):Int)]:=by rw[bK a hml,hx]
  have ex:IntKind.u64.wrap ((x:Nat):Int)=((x:Nat):Int):=bD Om
  have ed:IntKind.u64.wrap ((d:Nat):Int)=((d:Nat):Int):=bD Om
  have esh:shift .shl .u64 (r:Int) 32=some (.int .u64 ((2 ^ 32*r:Nat):Int)):=IC (s:=32) Om Om
  have e32:(2:Nat) ^ 32=4294967296:=by decide
  have eor:=orI (a:=2 ^ 32*r) (b:=x) (n:=2 ^ 32*r+x) Om Om (Nat.two_pow_add_eq_or_of_lt Om r).symm Om
  rw[e32] at esh eor
  have hq:(4294967296*r+x)/d<4294967296:=by
   rw[bND hd0]
   have:4294967296*(r+1)≤4294967296*d:=bMO _ hr
   omega
  have hdd:¬ ((d:Nat):Int)=0:=by omega
  have equo:IntKind.u64.wrap (bME ((4294967296*r+x:Nat):Int) ((d:Nat):Int))=(((4294967296*r+x)/d:Nat):Int):=by
   rw[show bME ((4294967296*r+x:Nat):Int) ((d:Nat):Int)=(((4294967296*r+x)/d:Nat):Int) from rfl]
   exact bD Om
  have erem:Int.tmod ((4294967296*r+x:Nat):Int) ((d:Nat):Int)=(((4294967296*r+x)%d:Nat):Int):=rfl
  have ec:IntKind.u32.wrap (((4294967296*r+x)/d:Nat):Int)=(((4294967296*r+x)/d:Nat):Int):=by rw[cC,bLS hq]
  have bKD:bKL (m+1) 0++S=bKL m 0++(0::S):=by
   rw[List.replicate_succ',bLI]; rfl
  have hin:(aJ (bKL m 0++(0::S)))[m]?=some [.int .u32 ((0:Nat):Int)]:=by
   rw[bK _ (by simp)]; simp
  have bIR:(aJ (bKL m 0++(0::S))).set m [.int .u32 (((4294967296*r+x)/d:Nat):Int)]=aJ (bKL m 0++(((4294967296*r+x)/d)::S)):=by
   rw[fA,bNX _ _ (by simp)]; simp
  simp only[go_sem,γ,reduceCtorEq,hzz,hge,aqX,esh,hax,ex,eor,aqY,ed,hdd,equo,ec,hlt,bKD,hin,bIR,aqZ,erem,arA]
  refine aI (m,((4294967296*r+x)/d)::S,(4294967296*r+x)%d,q) ⟨by simp only[bLX]; omega,fun y hy=>?_,bLY _ hd0,?_⟩ (by simp only; omega) ?_ (PH.aK PH.nil_le Sq)
  ·rw[bKY] at hy
   rcases hy with rfl | hy
   ·exact hq
   ·exact bJB y hy
  ·simp only[val]
   rw[hdrop,← bIX,bLM,bKV,bLE]
   have:=bNQ (4294967296*r+x) d
   rw[bLH d] at this
   omega
  ·(repeat' (first|exact PF.nil_le|refine PF.aK ?_ ?_))<;>first|(simp only[go_sem,γ,reduceCtorEq,wrap_i64 (Om:-9223372036854775808≤(m:Int)-1) (Om:(m:Int)-1≤9223372036854775807)]<;>rfl)|rfl
 ·have:k=0:=by omega
  subst this
  have hzz:¬ ((0:Nat):Int)-1≥0:=by decide
  rw[bLK] at bIX
  have hS:S.length=a.length:=by omega
  have hq:val S=val a/d:=by
   rw[← bIX,bLH,Nat.mul_add_div hd0,bNR hr,bMB]
  have hrm:r=val a%d:=by rw[← bIX,bLH,Nat.mul_add_mod,bLS hr]
  have hn0:bKL 0 0++S=S:=by simp
  simp only[go_sem,υ,γ,reduceCtorEq,hzz,aeL,bMY]
  have hl:=L.length S bJB Om
  have hnl:=eZ bJB
  have hc:((nl (val S):Nat):Int)≤(S.length:Nat):=by omega
  refine oL (o:=q) (s:=1) (k:=a.length) (rs:=aJ S) (v:=.int .i64 (nl (val S):Nat)) ?_ Sq Sq (by rw[bU]; omega) ?_
  ·rw[bKZ (by rw[bU]; omega)]; exact hl
  ·have hfz:PV.frz q 1 (aJ S) (.osl q 1 0 a.length)=aF S:=by
    have:0+a.length≤(aJ S).length:=by rw[bU]; omega
    simp only[PV.frz,PV.rS,PV.dE,if_true,true_and,if_pos this,bLK]
    rw[bKZ (by rw[bU]; omega)]
   have hfi:∀ n:Int,∀ k,PV.frz q 1 (aJ S) (.int k n)=.int k n:=fun _ _=>rfl
   have er:IntKind.u32.wrap ((r:Nat):Int)=((r:Nat):Int):=by rw[cC,bLS Om]
   simp only[go_sem,ν,γ,reduceCtorEq,hfz,hfi,hc,or_true,bLK,hJ bJB,er]
   refine aX (vs:=[aF (aG (val S)),.int .u32 ((r:Nat):Int)]) (.inr rfl) .nil Ev PH.nil_le ⟨?_,rfl⟩
   simp only[aV,← hq,← hrm]
end Go.PM
namespace Go.Na
theorem DR {L:List Nat} {i:Nat} (h:i<L.length) (v:Nat):val (L.set i v)+4294967296 ^ i*L[i]=val L+4294967296 ^ i*v:=by
 have h':i<(L.set i v).length:=by rw[bMJ]; exact h
 rw[qB L h,qB (L.set i v) h',List.getElem_set_self,List.take_set_of_le (bKK _),List.drop_set_of_lt Om,bKV,bKV]
 omega
theorem ajK {L:List Nat} {i:Nat} (h:∀ (j x:Nat),i≤j→L[j]?=some x→x=0) (k v:Nat) (hk:k<i):∀ (j x:Nat),i≤j→(L.set k v)[j]?=some x→x=0:=fun j x hj hx=>by
 rw[List.getElem?_set_ne Om] at hx
 exact h j x hj hx
end Go.Na
namespace Go.PM
open Go Go.Na
def jS (a b:List Nat) (o i:Nat):PF:=((((((PF.nil.set 0 (aF a)).set 1 (aF b)).set 6 (.osl o 1 0 (a.length+b.length))).set 32 (aF a)).set 33 (.int .i64 (a.length:Nat))).set 34 (.int .i64 i))
def a3E (a b:List Nat) (o i x c j:Nat):PF:=((((((((((((PF.nil.set 0 (aF a)).set 1 (aF b)).set 6 (.osl o 1 0 (a.length+b.length))).set 32 (aF a)).set 33 (.int .i64 (a.length:Nat))).set 34 (.int .i64 i)).set 7 (.int .i64 i)).set 8 (.int .u32 x)).set 9 (.int .u64 c)).set 39 (aF b)).set 40 (.int .i64 (b.length:Nat))).set 41 (.int .i64 j))
structure CM (a b L:List Nat) (i:Nat):Prop where
 len:L.length=a.length+b.length
 lim:Lim L
 v:val L=val (a.take i)*val b
 z:∀ j x,i+b.length≤j→L[j]?=some x→x=0
theorem aTN {x y:Nat} (hx:x<4294967296) (hy:y<4294967296):IntKind.u64.wrap ((x:Int)*(y:Int))=((x*y:Nat):Int):=by
 have:x*y≤4294967295*4294967295:=Nat.mul_le_mul Om Om
 rw[show (x:Int)*(y:Int)=((x*y:Nat):Int) by simp]
 exact bD Om
theorem fO {a b:Nat} (h:a+b≤9223372036854775807):IntKind.i64.wrap ((a:Int)+(b:Int))=((a+b:Nat):Int):=by
 rw[wrap_i64 Om Om]; omega
theorem bhC {C:Ctx} (a b:List Nat) (ha:Lim a) (hb:Lim b) (h1:a.length≤1000) (h2:b.length≤1000) (L:List Nat) (i:Nat) (hi:i<a.length) (hI:CM a b L i) (q:Nat) (K:cO) (F:PF) (H:PH) (hF:(jS a b q i).le F) (hH:H q=some (.rows 1 (aJ L)))
  (hK:∀ L' F' H',CM a b L' (i+1)→(jS a b q i).le F'→H' q=some (.rows 1 (aJ L'))→K .normal F' H') :
  aC.wp C (.block 1 (.seq (.region amH) (.seq (.region amI) (.seq (.seq (.region amJ) (.block 2 (.loop XY))) (.region YA))))) K F H:=by
 have f0:=hF 0 _ (by unfold jS; simp only[go_sem,reduceCtorEq]; rfl)
 have f1:=hF 1 _ (by unfold jS; simp only[go_sem,γ,reduceCtorEq]; rfl)
 have f6:=hF 6 _ (by unfold jS; simp only[go_sem,γ,reduceCtorEq]; rfl)
 have f32:=hF 32 _ (by unfold jS; simp only[go_sem,γ,reduceCtorEq]; rfl)
 have f33:=hF 33 _ (by unfold jS; simp only[go_sem,γ,reduceCtorEq]; rfl)
 have f34:=hF 34 _ (by unfold jS; simp only[go_sem,γ,reduceCtorEq]; rfl)
 have hx:=ha _ (bKM hi)
 have hta:=bX a hi
 generalize hxe:a[i]=x at *
 have hax:(aJ a)[i]?=some [.int .u32 ((x:Nat):Int)]:=by rw[bK a hi,hxe]
 simp only[go_sem,γ,amH,amI,amJ,f32,f34,f1,hax]
 refine wp_loop (α:=List Nat × Nat × Nat) (fun t=>a3E a b q i x t.2.1 t.2.2) (fun t=>PH.nil.set q (.rows 1 (aJ t.1)))
  (fun t=>t.2.2≤b.length∧t.1.length=a.length+b.length∧Lim t.1∧t.2.1<4294967296∧val t.1+4294967296 ^ (i+t.2.2)*t.2.1=val (a.take i)*val b+4294967296 ^ i*(x*val (b.take t.2.2))∧∀ j y,i+b.length≤j→t.1[j]?=some y→y=0) (fun t=>b.length-t.2.2) (L,0,0)
  ⟨by simp,hI.len,hI.lim,by simp,by simp[val,hI.v],hI.z⟩ ?_ (PH.aK PH.nil_le hH) ?_
 ·unfold a3E
  exact Lq
 rintro⟨M,c,j⟩ ⟨hj,hM,bJB,hc,bIX,hz⟩
 simp only at hj hM bJB hc bIX hz
 simp only[go_sem,γ,reduceCtorEq,XY,aGQ,a3E]
 by_cases c1:j<b.length
 ·have c1':(j:Int)<(b.length:Nat):=by omega
  have hy:=hb _ (bKM c1)
  have htb:=bX b c1
  generalize hye:b[j]=y at *
  have hby:(aJ b)[j]?=some [.int .u32 ((y:Nat):Int)]:=by rw[bK b c1,hye]
  have hij:i+j<M.length:=by omega
  have hz0:=bJB _ (bKM hij)
  have bKB:=DR hij
  generalize hze:M[i+j]=z at *
  have hMz:(aJ M)[i+j]?=some [.int .u32 ((z:Nat):Int)]:=by rw[bK M hij,hze]
  have ex:IntKind.u64.wrap ((x:Nat):Int)=((x:Nat):Int):=bD Om
  have ey:IntKind.u64.wrap ((y:Nat):Int)=((y:Nat):Int):=bD Om
  have ez:IntKind.u64.wrap ((z:Nat):Int)=((z:Nat):Int):=bD Om
  have em:=aTN hx hy
  have hxy:x*y≤4294967295*4294967295:=Nat.mul_le_mul Om Om
  have e1:IntKind.u64.wrap (((x*y:Nat):Int)+(z:Int))=((x*y+z:Nat):Int):=eQ Om
  have e2:IntKind.u64.wrap ((c:Int)+((x*y+z:Nat):Int))=((c+(x*y+z):Nat):Int):=eQ Om
  have eij:IntKind.i64.wrap ((i:Int)+(j:Int))=((i+j:Nat):Int):=fO Om
  have hlt:((i+j:Nat):Int)<((a.length+b.length:Nat):Int):=by omega
  generalize ht:c+(x*y+z)=t at *
  have htt:t<4294967296*4294967296:=by omega
  have bIR:(aJ M).set (i+j) [.int .u32 ((t%4294967296:Nat):Int)]=aJ (M.set (i+j) (t%4294967296)):=fA M (i+j) _
  simp only[go_sem,γ,reduceCtorEq,c1',aGR,hby,aGS,ex,ey,em,eij,hlt,hMz,ez,e1,e2,aGT,cC,bIR,aGU,uX,aGV,wZz j]
  refine aI (M.set (i+j) (t%4294967296),t/4294967296,j+1) ⟨by simp only; omega,by simp only[bMJ]; exact hM,bJB.set _ (bLY _ (by decide)),by simp only; omega,?_,ajK hz _ _ Om⟩ (by simp only; omega) ?_ (PH.aK PH.nil_le Sq)
  ·simp only
   have h3:=bKB (t%4294967296)
   have h4:4294967296 ^ (i+(j+1))*(t/4294967296)+4294967296 ^ (i+j)*(t%4294967296)=4294967296 ^ (i+j)*t:=by
    rw[← bMU,bMC,bLE,← bKV,bNQ]
   have h5:4294967296 ^ (i+j)*t=4294967296 ^ (i+j)*c+(4294967296 ^ (i+j)*(x*y)+4294967296 ^ (i+j)*z):=by rw[← ht,bKV,bKV]
   have h6:4294967296 ^ i*(x*val (b.take (j+1)))=4294967296 ^ i*(x*val (b.take j))+4294967296 ^ (i+j)*(x*y):=by
    rw[htb,bKV,bKV,Nat.pow_add]
    congr 1
    rw[Nat.mul_left_comm x,bLE]
   omega
  ·exact Lq
 ·have he:j=b.length:=by omega
  have c1':¬ (j:Int)<(b.length:Nat):=by omega
  subst he
  have hij:i+b.length<M.length:=by omega
  have hz0:M[i+b.length]=0:=hz _ _ (bKK _) (bKU hij)
  have bKB:=DR hij
  have hMz:(aJ M)[i+b.length]?=some [.int .u32 ((0:Nat):Int)]:=by rw[bK M hij,hz0]
  have eij:IntKind.i64.wrap ((i:Int)+((b.length:Nat):Int))=((i+b.length:Nat):Int):=fO Om
  have hlt:((i+b.length:Nat):Int)<((a.length+b.length:Nat):Int):=by omega
  have bIR:(aJ M).set (i+b.length) [.int .u32 ((c%4294967296:Nat):Int)]=aJ (M.set (i+b.length) c):=by
   rw[bLS hc]; exact fA M _ _
  simp only[go_sem,γ,reduceCtorEq,c1',YA,eij,cC,hlt,hMz,bIR]
  refine hK (M.set (i+b.length) c) _ _ ⟨by rw[bMJ]; exact hM,bJB.set _ hc,?_,fun j y hj hy=>?_⟩ (by unfold jS; exact Lq) Sq
  ·have h3:=bKB c
   rw[hz0,Nat.mul_zero,bMB] at h3
   rw[h3,bIX,bLG,hta,bLM,bLE]
  ·rw[List.getElem?_set_ne Om] at hy
   exact hz j y Om hy
theorem a9B {C:Ctx} (L:oZ C) (a b:List Nat) (ha:Lim a) (hb:Lim b) (h1:a.length≤1000) (h2:b.length≤1000) (F:PF) (f0:F 0=some (aF a)) (f1:F 1=some (aF b)) :
  aC.wp C (.seq (.region amF) (.seq (.seq (.region amG) (.block 0 (.loop XZ))) (.seq (.region YB) .ret))) (aT [.tmp 4,.tmp 5] (bZ (szV (val a*val b)))) F .nil:=by
 have hlen:IntKind.i64.wrap (((a.length:Nat):Int)+((b.length:Nat):Int))=((a.length+b.length:Nat):Int):=fO Om
 have hm1:((a.length+b.length:Nat):Int)*((4:Nat):Int)≤140737488355328:=by omega
 have hm2:((a.length+b.length:Nat):Int)≤9223372036854775807:=by omega
 have hz:bKL (a.length+b.length) [PV.int .u32 0]=aJ (bKL (a.length+b.length) 0):=by
  simp[aJ]
 simp only[go_sem,γ,amF,f0,f1,hlen,hm1,hm2,hz]
 refine aQ fun o ho=>?_
 simp only[go_sem,γ,reduceCtorEq,amG,f0]
 refine wp_loop (α:=List Nat × Nat) (fun t=>jS a b o t.2) (fun t=>PH.nil.set o (.rows 1 (aJ t.1))) (fun t=>t.2≤a.length∧CM a b t.1 t.2) (fun t=>a.length-t.2) (bKL (a.length+b.length) 0,0)
  ⟨by simp,by simp,tG _,by simp[val,qI],fun j x _ hx=>by rw[List.getElem?_replicate] at hx; split at hx<;>simp_all⟩ ?_ (PH.aK PH.nil_le Sq) ?_
 ·unfold jS
  exact Lq
 rintro⟨M,i⟩ ⟨hi,hI⟩
 simp only at hi hI
 simp only[go_sem,γ,reduceCtorEq,XZ,aUV,jS]
 by_cases c1:i<a.length
 ·have c1':(i:Int)<(a.length:Nat):=by omega
  have key:=bhC (C:=C) a b ha hb h1 h2 M i c1 hI o
  simp only[go_sem] at key
  simp only[go_sem,c1']
  refine key _ _ _ (by unfold jS; exact Lq) Sq ?_
  intro L' F' H' hI' hF' hH'
  have g34:=hF' 34 _ (by unfold jS; simp only[go_sem,γ,reduceCtorEq]; rfl)
  have g0:=hF' 0 _ (by unfold jS; simp only[go_sem,reduceCtorEq]; rfl)
  have g1:=hF' 1 _ (by unfold jS; simp only[go_sem,γ,reduceCtorEq]; rfl)
  have g6:=hF' 6 _ (by unfold jS; simp only[go_sem,γ,reduceCtorEq]; rfl)
  have g32:=hF' 32 _ (by unfold jS; simp only[go_sem,γ,reduceCtorEq]; rfl)
  have g33:=hF' 33 _ (by unfold jS; simp only[go_sem,γ,reduceCtorEq]; rfl)
  simp only[go_sem,aGW,g34,wZz i]
  refine aI (L',i+1) ⟨by simp only; omega,hI'⟩ (by simp only; omega) ?_ (PH.aK PH.nil_le hH')
  exact Lq
 ·have he:i=a.length:=by omega
  subst he
  have c1':¬ ((a.length:Nat):Int)<(a.length:Nat):=by omega
  have hV:val M=val a*val b:=by rw[hI.v,bLG]
  simp only[go_sem,γ,reduceCtorEq,YB]
  have hs:=L.sized _ hI.lim (by rw[hI.len]; omega)
  rw[hV] at hs
  refine oL (o:=o) (s:=1) (k:=a.length+b.length) (rs:=aJ M) (v:=szV (val a*val b)) ?_ rfl Sq (by rw[bU,hI.len]; exact bKK _) ?_
  ·rw[bKZ (by rw[bU,hI.len]; exact bKK _)]; exact hs
  ·simp only[go_sem,γ,reduceCtorEq,szV]
   exact aX (.inr rfl) .nil rfl PH.nil_le ⟨.refl _,rfl⟩
theorem boL {C:Ctx} (L:oZ C) (a b:List Nat) (ha:Lim a) (hb:Lim b) (la:a.length≤35184372087808) (lb:b.length≤35184372087808) :
  NR.wp C (aT aGP.res (bZ (opV (dS (val a) (val b)) (val a*val b)))) (PF.args [aF a,aF b]) .nil:=by
 simp only[go_sem,reduceCtorEq,NR,aUS,aUT,aGP]
 refine aA (L.large a ha la) rfl ?_
 by_cases c1:nl (val a)>512
 ·simp only[go_sem,γ,c1,amE]
  rw[show opV (dS (val a) (val b)) (val a*val b)=.tup [aF [],.int .i64 2] by simp[opV,dS,c1]]
  exact eF rfl
 simp only[go_sem,γ,c1]
 refine aA (L.large b hb lb) rfl ?_
 by_cases c2:nl (val b)>512
 ·simp only[go_sem,γ,reduceCtorEq,c2,amE]
  rw[show opV (dS (val a) (val b)) (val a*val b)=.tup [aF [],.int .i64 2] by simp[opV,dS,c2]]
  exact eF rfl
 have e:opV (dS (val a) (val b)) (val a*val b)=szV (val a*val b):=by simp[opV,dS,c1,c2]
 rw[e]
 simp only[go_sem,γ,reduceCtorEq,c2]
 refine bS .nil a2U PH.nil_le ?_
 simp only[go_sem,reduceCtorEq,aUU]
 have h1:=eZ ha
 have h2:=eZ hb
 have h1':((nl (val a):Nat):Int)≤(a.length:Nat):=by omega
 have h2':((nl (val b):Nat):Int)≤(b.length:Nat):=by omega
 refine bQ (mL a) (L.length a ha la) rfl PH.nil_le ?_
 simp only[go_sem,ν,γ,reduceCtorEq,h1',or_true,bLK,hJ ha]
 refine bQ (mL b) (L.length b hb lb) rfl PH.nil_le ?_
 simp only[go_sem,ν,γ,reduceCtorEq,h2',or_true,bLK,hJ hb]
 have va:=aR (val a)
 have vb:=aR (val b)
 have:=a9B L (aG (val a)) (aG (val b)) (aU _) (aU _) (by rw[aZ]; omega) (by rw[aZ]; omega)
 rw[va,vb] at this
 have:=fun F f0 f1=>this F f0 f1
 simp only[go_sem] at this
 exact this _ rfl rfl
open Go Go.Na
theorem afF {A P W Z:List Nat} {i:Nat} (hP:P.length=i) (hi:i<W.length):(aJ (A++(P++W.drop i)++Z))[A.length+i]?=some [.int .u32 ((W[i]:Nat):Int)]:=by
 have hl:A.length+i<(A++(P++W.drop i)++Z).length:=by simp; omega
 rw[bK _ hl]
 congr 4
 rw[List.getElem_append_left (by simp; omega),List.getElem_append_right Om,List.getElem_append_right Om,List.getElem_drop]
 congr 1
 omega
theorem DL {A P W Z:List Nat} {i:Nat} (hP:P.length=i) (hi:i<W.length) (v:Nat):(aJ (A++(P++W.drop i)++Z)).set (A.length+i) [.int .u32 (v:Int)]=aJ (A++((P++[v])++W.drop (i+1))++Z):=by
 rw[fA]
 congr 1
 rw[List.set_append_left _ _ (by simp; omega),bNX _ _ Om,bNX _ _ Om,bMH hi]
 rw[show A.length+i-A.length-P.length=0 by omega,List.set_cons_zero]
 simp
theorem beH {t:Nat} (h:t<18446744073709551616):jY .and .u64 (t:Int) 4294967295=some (.int .u64 ((t%4294967296:Nat):Int)):=by
 show some (PV.int .u64 (IntKind.u64.wrap (((BitVec.ofInt 64 (t:Int) &&& BitVec.ofInt 64 (4294967295:Int)).toNat:Nat):Int)))=_
 have e:BitVec.ofInt 64 (4294967295:Int)=BitVec.ofNat 64 4294967295:=by rfl
 rw[e,BitVec.ofInt_natCast,BitVec.toNat_and,BitVec.toNat_ofNat,BitVec.toNat_ofNat,bLS (by simpa using h)]
 have e2:(4294967295:Nat)%2 ^ 64=2 ^ 32-1:=by decide
 rw[e2,Nat.and_two_pow_sub_one_eq_mod]
 rw[bD (Nat.lt_of_lt_of_le (bLY _ (by decide)) (by decide))]
theorem beM {c f x:Nat} (hc:c<4294967296) (hf:f≤4294967296) (hx:x<4294967296):c+f*x<18446744073709551616∧(c+f*x)/4294967296<4294967296∧f*x≤4294967296*4294967295:=by
 have:f*x≤4294967296*4294967295:=Nat.mul_le_mul hf Om
 refine⟨by omega,?_,this⟩
 omega
def aHD (v:List Nat) (j o i c b:Nat) (f:Nat):PF:=((((((((PF.nil.set 0 (.osl o 1 j (v.length+1))).set 1 (aF v)).set 2 (.int .u64 f)).set 7 (.int .u64 c)).set 8 (.int .u64 b)).set 13 (aF v)).set 14 (.int .i64 (v.length:Nat))).set 15 (.int .i64 i))
def IH (n w m:Nat):Nat:=if w<m then w+4294967296 ^ n-m else w-m
theorem aHE {C:Ctx} (A W Z v:List Nat) (f:Nat) (hW:Lim W) (hv:Lim v) (hl:W.length=v.length+1) (h1:A.length+v.length≤100000) (hf:f≤4294967296) (bJT:val v*f≤val W+4294967296 ^ (v.length+1)) (o:Nat) :
  sA.wp C (aT tI.res (fun r H'=>r=.bool (decide (val W<val v*f))∧H'=PH.nil.set o (.rows 1 (aJ (A++dO (v.length+1) (IH (v.length+1) (val W) (val v*f))++Z)))))
   (PF.args [.osl o 1 A.length (v.length+1),aF v,.int .u64 f]) (PH.nil.set o (.rows 1 (aJ (A++W++Z)))):=by
 simp only[go_sem,γ,sA,NZ,OA,OB,tI]
 refine wp_loop (α:=List Nat × Nat × Nat) (fun t=>aHD v A.length o t.1.length t.2.1 t.2.2 f) (fun t=>PH.nil.set o (.rows 1 (aJ (A++(t.1++W.drop t.1.length)++Z))))
  (fun t=>t.1.length≤v.length∧Lim t.1∧t.2.1<4294967296∧t.2.2≤1∧val (W.take t.1.length)+4294967296 ^ t.1.length*t.2.2+4294967296 ^ t.1.length*t.2.1=val t.1+val (v.take t.1.length)*f) (fun t=>v.length-t.1.length) ([],0,0)
  ⟨by simp,by simp[Lim],by simp,by simp,by simp[val]⟩ ?_ (PH.aK PH.nil_le (by simp only[go_sem,bMW,bLK,bMY])) ?_
 ·unfold aHD
  exact Lq
 rintro⟨P,c,b⟩ ⟨hP,bJB,hc,hb,bIX⟩
 simp only at hP bJB hc hb bIX
 simp only[go_sem,γ,reduceCtorEq,KV,OC,aHD]
 by_cases c1:P.length<v.length
 ·have c1':(P.length:Int)<(v.length:Nat):=by omega
  have c2:P.length<W.length:=by omega
  have c2':(P.length:Int)<((v.length+1:Nat):Int):=by omega
  have hx:=hv _ (bKM c1)
  have hw:=hW _ (bKM c2)
  have htv:=bX v c1
  have htw:=bX W c2
  have hat:=afF (A:=A) (Z:=Z) (P:=P) rfl c2
  have bKB:=DL (A:=A) (Z:=Z) (P:=P) rfl c2
  generalize hxe:v[P.length]=x at *
  generalize hwe:W[P.length]=y at *
  have hvx:(aJ v)[P.length]?=some [.int .u32 ((x:Nat):Int)]:=by rw[bK v c1,hxe]
  obtain⟨k1,k2,k3⟩:=beM hc hf hx
  have ex:IntKind.u64.wrap ((x:Nat):Int)=((x:Nat):Int):=bD Om
  have ey:IntKind.u64.wrap ((y:Nat):Int)=((y:Nat):Int):=bD Om
  have em:IntKind.u64.wrap ((f:Int)*(x:Int))=((f*x:Nat):Int):=by
   rw[show (f:Int)*(x:Int)=((f*x:Nat):Int) by simp]
   exact bD Om
  have hlt64:c+f*x<18446744073709551616:=k1
  have ea:IntKind.u64.wrap ((c:Int)+((f*x:Nat):Int))=((c+f*x:Nat):Int):=eQ hlt64
  have eand:=beH hlt64
  have hvt:val (v.take (P.length+1))*f=val (v.take P.length)*f+4294967296 ^ P.length*(f*x):=by rw[htv,bLM,bLE,bLH x f]
  generalize f*x=fx at *
  have hmod:(c+fx)%4294967296<4294967296:=bLY _ (by decide)
  obtain⟨s1,s2,s3,s4⟩:=aKD (a:=y) (bor:=b) (b:=(c+fx)%4294967296) hw hmod hb (IntKind.u64.wrap (IntKind.u64.wrap ((y:Int)-(((c+fx)%4294967296:Nat):Int))-(b:Int))) (by rw[fI,fI]; omega)
  generalize hd:PS y b ((c+fx)%4294967296)=d at *
  generalize hbb:YS y b ((c+fx)%4294967296)=b' at *
  have hb':b'≤1:=by rw[← hbb]; unfold YS; split<;>omega
  have hs:=bKB d
  simp only[go_sem,γ,reduceCtorEq,c1',OD,hvx,OE,ex,em,ea,OF,c2',hat,ey,eand,OG,s1,hs,OH,a4D,s2,OI,uX,KW,dC (Om:P.length<9223372036854775807)]
  refine aI (P++[d],(c+fx)/4294967296,b') ⟨by simp; omega,bJB.app fun z hz=>by simp at hz; omega,k2,hb',?_⟩ (by simp; omega) ?_ (PH.aK PH.nil_le ?_)
  ·simp only
   rw[bKQ,bKX,iJ,htw,hvt,bMC,bLE,bLE]
   have h4:4294967296 ^ P.length*y+4294967296 ^ P.length*(4294967296*b')=4294967296 ^ P.length*d+4294967296 ^ P.length*((c+fx)%4294967296)+4294967296 ^ P.length*b:=by
    rw[← bKV,s3,bKV,bKV]
   have h5:4294967296 ^ P.length*(4294967296*((c+fx)/4294967296))+4294967296 ^ P.length*((c+fx)%4294967296)=4294967296 ^ P.length*c+4294967296 ^ P.length*fx:=by
    rw[← bKV,bNQ,bKV]
   omega
  ·simp only
   rw[bKQ,bKX]
   exact Lq
  ·simp only
   rw[bKQ,bKX]
   simp only[go_sem]
 ·have e:P.length=v.length:=by omega
  have c1':¬ (P.length:Int)<(v.length:Nat):=by omega
  have c2:v.length<W.length:=by omega
  have c2':((v.length:Nat):Int)<((v.length+1:Nat):Int):=by omega
  have hw:=hW _ (bKM c2)
  have htw:=bX W c2
  have hat:=afF (A:=A) (Z:=Z) (P:=P) e c2
  have bKB:=DL (A:=A) (Z:=Z) (P:=P) e c2
  have hWall:val (W.take (v.length+1))=val W:=by rw[bKZ Om]
  generalize hwe:W[v.length]=y at *
  have ey:IntKind.u64.wrap ((y:Nat):Int)=((y:Nat):Int):=bD Om
  have hP':=eN bJB
  rw[e] at bIX hP'
  rw[bLG] at bIX
  rw[hWall] at htw
  have hpow:4294967296 ^ (v.length+1)=4294967296 ^ v.length*4294967296:=bMC _ _
  have key:val W+4294967296 ^ v.length*(b+c)=val P+val v*f+4294967296 ^ v.length*y:=by rw[htw,bKV]; omega
  have hbc:b+c≤y+4294967296:=by
   rcases bLD (y+4294967296) (b+c) with h | h
   ·exfalso
    have:4294967296 ^ v.length*(y+4294967296+1)≤4294967296 ^ v.length*(b+c):=bMO _ h
    rw[bKV,bKV,Nat.mul_one] at this
    omega
   ·exact h
  have hlast:∃ d k:Nat,d<4294967296∧k≤1∧y+4294967296*k=d+(b+c)∧IntKind.u32.wrap (IntKind.u64.wrap (IntKind.u64.wrap ((y:Int)-(c:Int))-(b:Int)))=(d:Int)∧((IntKind.u64.wrap (IntKind.u64.wrap ((y:Int)-(c:Int))-(b:Int))/9223372036854775808==1)=decide (k=1)):=by
   rw[VT,fI,fI]
   by_cases h:y<b+c
   ·refine⟨y+4294967296-(b+c),1,by omega,by omega,by omega,by omega,?_⟩
    simp only[decide_true]
    exact bT Om
   ·refine⟨y-(b+c),0,by omega,by omega,by omega,by omega,?_⟩
    exact bF Om
  obtain⟨d,k,hd,hk,hy,w1,w2⟩:=hlast
  have hs:=bKB d
  have hN:val (P++[d])+val v*f=val W+4294967296 ^ (v.length+1)*k:=by
   have:4294967296 ^ v.length*y+4294967296 ^ v.length*(4294967296*k)=4294967296 ^ v.length*d+4294967296 ^ v.length*(b+c):=by rw[← bKV,hy,bKV]
   rw[iJ,e,hpow,bLE]
   omega
  have hLd:Lim (P++[d]):=bJB.app fun z hz=>by simp at hz; omega
  have hdl:=eN hLd
  rw[bKQ,bKX,e] at hdl
  have hk1:decide (k=1)=decide (val W<val v*f):=by
   congr 1
   apply propext
   constructor
   ·intro h; subst h; omega
   ·intro h
    rcases bNK k with h0 | h0
    ·subst h0; omega
    ·omega
  have hval':IH (v.length+1) (val W) (val v*f)=val (P++[d]):=by
   unfold IH
   split
   ·rename_i h
    have:k=1:=by simpa [h] using hk1
    subst this; omega
   ·rename_i h
    have:k=0:=by
     have:¬ k=1:=by simpa [h] using hk1
     omega
    subst this; omega
  have hD:dO (v.length+1) (IH (v.length+1) (val W) (val v*f))=P++[d]:=by
   have:=FI hLd
   rw[bKQ,bKX,e] at this
   rw[hval',this]
  have hdr:W.drop (v.length+1)=[]:=bNU Om
  simp only[go_sem,γ,reduceCtorEq,c1',KX,e,c2',hat,ey,KY,w1,hs,KZ,a4D,w2,hk1]
  refine aX (vs:=[.bool (decide (val W<val v*f))]) (.inr rfl) (PH.nil.set o (.rows 1 (aJ (A++(P++[d]++W.drop (v.length+1))++Z)))) rfl (PH.aK PH.nil_le Sq) ⟨rfl,?_⟩
  rw[hD,hdr,bMF]
end Go.PM
namespace Go.Na
theorem aTK {xs ys:List Nat} (hx:Lim xs) (hy:Lim ys) (hl:xs.length=ys.length) (hv:val xs=val ys):xs=ys:=by
 rw[← FI hx,← FI hy,hl,hv]
theorem blX {k n:Nat} {xs:List Nat} (hx:Lim xs) (hl:xs.length=k) (hv:val xs=n%4294967296 ^ k):dO k n=xs :=
 aTK (kW k n) hx (by rw[kA,hl]) (by rw[xM,hv])
end Go.Na
namespace Go.PM
open Go Go.Na
def aGX (v:List Nat) (j o i c:Nat):PF:=((((((PF.nil.set 0 (.osl o 1 j (v.length+1))).set 1 (aF v)).set 4 (.int .u64 c)).set 7 (aF v)).set 8 (.int .i64 (v.length:Nat))).set 9 (.int .i64 i))
theorem aPE {C:Ctx} (A W Z v:List Nat) (hW:Lim W) (hv:Lim v) (hl:W.length=v.length+1) (h1:A.length+v.length≤100000) (o:Nat) :
  uC.wp C (aT xB.res (fun r H'=>r=.tup []∧H'=PH.nil.set o (.rows 1 (aJ (A++dO (v.length+1) (val W+val v)++Z)))))
   (PF.args [.osl o 1 A.length (v.length+1),aF v]) (PH.nil.set o (.rows 1 (aJ (A++W++Z)))):=by
 simp only[go_sem,γ,uC,UM,UN,xB]
 refine wp_loop (α:=List Nat × Nat) (fun t=>aGX v A.length o t.1.length t.2) (fun t=>PH.nil.set o (.rows 1 (aJ (A++(t.1++W.drop t.1.length)++Z))))
  (fun t=>t.1.length≤v.length∧Lim t.1∧t.2≤1∧val (W.take t.1.length)+val (v.take t.1.length)=val t.1+4294967296 ^ t.1.length*t.2) (fun t=>v.length-t.1.length) ([],0)
  ⟨by simp,by simp[Lim],by simp,by simp[val]⟩ ?_ (PH.aK PH.nil_le (by simp only[go_sem,bMW,bLK,bMY])) ?_
 ·unfold aGX
  exact Lq
 rintro⟨P,c⟩ ⟨hP,bJB,hc,bIX⟩
 simp only at hP bJB hc bIX
 simp only[go_sem,γ,reduceCtorEq,UL,UO,aGX]
 by_cases c1:P.length<v.length
 ·have c1':(P.length:Int)<(v.length:Nat):=by omega
  have c2:P.length<W.length:=by omega
  have c2':(P.length:Int)<((v.length+1:Nat):Int):=by omega
  have hx:=hv _ (bKM c1)
  have hw:=hW _ (bKM c2)
  have htv:=bX v c1
  have htw:=bX W c2
  have hat:=afF (A:=A) (Z:=Z) (P:=P) rfl c2
  have bKB:=DL (A:=A) (Z:=Z) (P:=P) rfl c2
  generalize hxe:v[P.length]=x at *
  generalize hwe:W[P.length]=y at *
  have hvx:(aJ v)[P.length]?=some [.int .u32 ((x:Nat):Int)]:=by rw[bK v c1,hxe]
  have ex:IntKind.u64.wrap ((x:Nat):Int)=((x:Nat):Int):=bD Om
  have ey:IntKind.u64.wrap ((y:Nat):Int)=((y:Nat):Int):=bD Om
  have e1:IntKind.u64.wrap ((y:Int)+(x:Int))=((y+x:Nat):Int):=eQ Om
  have e2:IntKind.u64.wrap ((c:Int)+((y+x:Nat):Int))=((c+(y+x):Nat):Int):=eQ Om
  have hs:=bKB ((c+(y+x))%4294967296)
  simp only[go_sem,γ,reduceCtorEq,c1',UP,hvx,UQ,c2',hat,ex,ey,e1,e2,UR,cC,hs,US,uX,UT,dC (Om:P.length<9223372036854775807)]
  refine aI (P++[(c+(y+x))%4294967296],(c+(y+x))/4294967296) ⟨by simp; omega,bJB.app fun z hz=>by simp at hz; subst hz; exact bLY _ (by decide),by simp only; omega,?_⟩ (by simp; omega) ?_ (PH.aK PH.nil_le ?_)
  ·simp only
   rw[bKQ,bKX,iJ,htw,htv,bMC,bLE]
   have h5:4294967296 ^ P.length*(4294967296*((c+(y+x))/4294967296))+4294967296 ^ P.length*((c+(y+x))%4294967296)=4294967296 ^ P.length*c+(4294967296 ^ P.length*y+4294967296 ^ P.length*x):=by
    rw[← bKV,bNQ,bKV,bKV]
   omega
  ·simp only
   rw[bKQ,bKX]
   exact Lq
  ·simp only
   rw[bKQ,bKX]
   simp only[go_sem]
 ·have e:P.length=v.length:=by omega
  have c1':¬ (P.length:Int)<(v.length:Nat):=by omega
  have c2:v.length<W.length:=by omega
  have c2':((v.length:Nat):Int)<((v.length+1:Nat):Int):=by omega
  have hw:=hW _ (bKM c2)
  have htw:=bX W c2
  have hat:=afF (A:=A) (Z:=Z) (P:=P) e c2
  have bKB:=DL (A:=A) (Z:=Z) (P:=P) e c2
  have hWall:val (W.take (v.length+1))=val W:=by rw[bKZ Om]
  generalize hwe:W[v.length]=y at *
  have hP':=eN bJB
  rw[e] at bIX hP'
  rw[bLG] at bIX
  rw[hWall] at htw
  have ec:IntKind.u32.wrap ((c:Nat):Int)=((c:Nat):Int):=by rw[cC,bLS Om]
  have ey:IntKind.u32.wrap ((y:Int)+(c:Int))=(((y+c)%4294967296:Nat):Int):=by
   rw[show (y:Int)+(c:Int)=((y+c:Nat):Int) by omega,cC]
  have hs:=bKB ((y+c)%4294967296)
  have hLd:Lim (P++[(y+c)%4294967296]):=bJB.app fun z hz=>by simp at hz; subst hz; exact bLY _ (by decide)
  have hdl:=eN hLd
  rw[bKQ,bKX,e] at hdl
  have hD:dO (v.length+1) (val W+val v)=P++[(y+c)%4294967296]:=by
   refine blX hLd (by rw[bKQ,bKX,e]) ?_
   have:val W+val v=val (P++[(y+c)%4294967296])+4294967296 ^ (v.length+1)*((y+c)/4294967296):=by
    rw[iJ,e,bMC,bLE,bMU,← bKV,Nat.mod_add_div,bKV]
    omega
   rw[this,Nat.add_mul_mod_self_left,bLS hdl]
  have hdr:W.drop (v.length+1)=[]:=bNU Om
  simp only[go_sem,γ,reduceCtorEq,c1',UU,e,c2',hat,ec,ey,hs]
  refine aX (vs:=[]) (.inl rfl) (PH.nil.set o (.rows 1 (aJ (A++(P++[(y+c)%4294967296]++W.drop (v.length+1))++Z)))) rfl (PH.aK PH.nil_le Sq) ⟨rfl,?_⟩
  rw[hD,hdr,bMF]
def a3B (o n:Nat) (len:Nat):PF:=((PF.nil.set 0 (.osl o 1 0 len)).set 3 (.int .i64 n))
theorem aPC {C:Ctx} (xs:List Nat) (hx:Lim xs) (hl:xs.length≤35184372087808) (o:Nat):nF.wp C (aT rZ.res (fun r H'=>r=.int .i64 (nl (val xs):Nat)∧H'=PH.nil.set o (.rows 1 (aJ xs)))) (PF.args [.osl o 1 0 xs.length]) (PH.nil.set o (.rows 1 (aJ xs))):=by
 simp only[go_sem,γ,reduceCtorEq,nF,HF,HG,rZ]
 refine wp_loop (α:=Nat) (fun n=>a3B o n xs.length) (fun _=>PH.nil.set o (.rows 1 (aJ xs))) (fun n=>n≤xs.length∧∀ j x,n≤j→xs[j]?=some x→x=0) (fun n=>n) xs.length ⟨bKK _,fun j x h e=>by rw[bLW h] at e; cases e⟩ ?_ PH.le_refl ?_
 ·unfold a3B
  exact Lq
 rintro n ⟨hn,hz⟩
 have out:(∀ x,0<n→xs[n-1]?=some x→x≠0)→nl (val xs)=n:=fun h=>aWU hx hn hz h
 simp only[go_sem,γ,reduceCtorEq,HE,HH,a3B]
 by_cases h0:(n:Int)>0
 ·have hp:0<n:=by omega
  have hi:=bK xs (Om:n-1<xs.length)
  have hlt:((n-1:Nat):Int)<(xs.length:Nat):=by omega
  simp only[go_sem,γ,reduceCtorEq,h0,tU (Om:n≤9223372036854775807) hp,hi,hlt]
  by_cases hz0:xs[n-1]=0
  ·simp only[go_sem,γ,reduceCtorEq,bT (Om:((xs[n-1]:Nat):Int)=0),HI,tU (Om:n≤9223372036854775807) hp]
   refine aI (n-1) ⟨by omega,fun j x hj he=>?_⟩ Om ?_ PH.le_refl
   ·rcases bLD j n with h | h
    ·have:j=n-1:=by omega
     subst this
     rw[bKU Om] at he
     cases he; exact hz0
    ·exact hz j x h he
   ·exact Lq
  ·simp only[go_sem,γ,reduceCtorEq,bF (Om:((xs[n-1]:Nat):Int)≠0),rA]
   refine aX (.inr rfl) _ rfl PH.le_refl ⟨?_,rfl⟩
   rw[out fun x _ he=>by rw[bKU Om] at he; cases he; exact hz0]
   rfl
 ·simp only[go_sem,γ,reduceCtorEq,h0,rA]
  refine aX (.inr rfl) _ rfl PH.le_refl ⟨?_,rfl⟩
  rw[out fun x h=>by omega]
  rfl
end Go.PM
namespace Go.Na
structure Kn (V W top next Vr head u2 Wr p:Nat):Prop where
 hV:V=top*(4294967296*p)+next*p+Vr
 hW:W=head*(4294967296*p)+u2*p+Wr
 hVr:Vr<p
 hWr:Wr<p
 htop:2147483648≤top
 bJG:next<4294967296
 hu2:u2<4294967296
 hlt:W<V*4294967296
section
variable {V W top next Vr head u2 Wr p:Nat}
theorem Kn.low (K:Kn V W top next Vr head u2 Wr p):next*p+Vr<4294967296*p∧u2*p+Wr<4294967296*p:=by
 have h1:(next+1)*p≤4294967296*p:=bLO _ K.bJG
 have h2:(u2+1)*p≤4294967296*p:=bLO _ K.hu2
 rw[bLM,Nat.one_mul] at h1 h2
 have:=K.hVr
 have:=K.hWr
 omega
theorem Kn.ayQ (K:Kn V W top next Vr head u2 Wr p):0<V∧4294967296*p≤V∧0<p:=by
 have:=K.hVr
 have h:1*(4294967296*p)≤top*(4294967296*p):=bLO _ (by have:=K.htop; omega)
 have:=K.hV
 omega
theorem Kn.bsT (K:Kn V W top next Vr head u2 Wr p):W/V<4294967296:=by
 rw[bND K.ayQ.1,bLH]; exact K.hlt
theorem Kn.g0 (K:Kn V W top next Vr head u2 Wr p):W/V≤head/top:=by
 have ht:0<top:=by have:=K.htop; omega
 rw[Nat.le_div_iff_mul_le ht]
 have h1:W/V*V≤W:=Nat.div_mul_le_self W V
 have h2:W/V*(top*(4294967296*p))≤W/V*V:=bMO _ (by have:=K.hV; omega)
 have h3:=K.low.2
 have h4:=K.hW
 have h5:(W/V*top)*(4294967296*p)<(head+1)*(4294967296*p):=by
  rw[bLE,bLM,Nat.one_mul]; omega
 have:=Nat.lt_of_mul_lt_mul_right h5
 omega
theorem Kn.g1 (K:Kn V W top next Vr head u2 Wr p) {g r:Nat} (hg:g*top+r=head) (hq:W/V≤g) (h:g≥4294967296∨g*next>r*4294967296+u2):1≤g∧W/V≤g-1:=by
 have hql:=K.bsT
 have hdiv:=Nat.div_mul_le_self W V
 generalize W/V=Q at *
 rcases h with h | h
 ·omega
 ·have hne:Q≠g:=by
   intro e
   have h1:g*V≤W:=by rw[← e]; exact hdiv
   have h2:g*V=g*top*(4294967296*p)+g*next*p+g*Vr:=by rw[K.hV,bKV,bKV,bLE,bLE]
   have h3:(r*4294967296+u2+1)*p≤g*next*p:=bLO _ h
   rw[bLM,bLM,Nat.one_mul,bLE r] at h3
   have h4:g*top*(4294967296*p)+r*(4294967296*p)=head*(4294967296*p):=by rw[← bLM,hg]
   have:=K.hW
   have:=K.hWr
   omega
  omega
theorem Kn.g2 (K:Kn V W top next Vr head u2 Wr p) {g r:Nat} (hg:g*top+r=head) (hl:g≤4294967296) (h:g*next≤r*4294967296+u2):g≤W/V+1:=by
 rcases bNK g with e | e
 ·rw[e]; exact bKT _
 have h2:g*V=g*top*(4294967296*p)+g*next*p+g*Vr:=by rw[K.hV,bKV,bKV,bLE,bLE]
 have h3:g*next*p≤(r*4294967296+u2)*p:=bLO _ h
 rw[bLM,bLE r] at h3
 have h4:g*top*(4294967296*p)+r*(4294967296*p)=head*(4294967296*p):=by rw[← bLM,hg]
 have h5:g*Vr≤4294967296*Vr:=bLO _ hl
 have h6:4294967296*(Vr+1)≤4294967296*p:=bMO _ K.hVr
 have hV:=K.ayQ
 have hW:=K.hW
 have h7:(g-1)*V≤W:=by
  have:g*V=(g-1)*V+V:=by
   obtain⟨k,rfl⟩:∃ k,g=k+1:=⟨g-1,by omega⟩
   rw[bLM,Nat.one_mul]; rfl
  omega
 have:=(Nat.le_div_iff_mul_le hV.1).2 h7
 generalize W/V=Q at *
 clear h2 h3 h4 h5 h7
 omega
theorem Kn.g3 (K:Kn V W top next Vr head u2 Wr p) {g r:Nat} (hg:g*top+r=head) (hl:g≤4294967296) (hr:4294967296≤r):g≤W/V+1:=by
 have hlow:=K.low.1
 have hV:=K.ayQ
 have h2:g*V=g*top*(4294967296*p)+g*(next*p+Vr):=by rw[K.hV,bMU,bKV,bLE]
 have h3:g*(next*p+Vr)≤4294967296*(4294967296*p):=Nat.mul_le_mul hl Om
 have h4:g*top*(4294967296*p)+r*(4294967296*p)=head*(4294967296*p):=by rw[← bLM,hg]
 have h5:4294967296*(4294967296*p)≤r*(4294967296*p):=bLO _ hr
 have hW:=K.hW
 have h7:g*V≤W:=by omega
 have:=(Nat.le_div_iff_mul_le hV.1).2 h7
 generalize W/V=Q at *
 clear h2 h3 h4 h5 h7
 omega
theorem Kn.g4 (K:Kn V W top next Vr head u2 Wr p):head/top≤4294967296+1:=by
 have hlow:=K.low.1
 have hV:=K.ayQ
 have hW:=K.hW
 have hlt:=K.hlt
 have ht:=K.htop
 have h1:head<(top+1)*4294967296:=by
  have h2:V<(top+1)*(4294967296*p):=by rw[K.hV,bLM,Nat.one_mul]; omega
  have h3:V*4294967296≤(top+1)*(4294967296*p)*4294967296:=bLO _ (Nat.le_of_lt h2)
  have h4:head*(4294967296*p)<(top+1)*4294967296*(4294967296*p):=by
   have:(top+1)*(4294967296*p)*4294967296=(top+1)*4294967296*(4294967296*p):=by rw[bLE,bLH (4294967296*p) 4294967296,← bLE]
   omega
  exact Nat.lt_of_mul_lt_mul_right h4
 have h5:head/top<4294967296+2:=by
  rw[bND Om]
  omega
 omega
end
theorem tB:∀ (k n:Nat),dO (k+1) n=dO k n++[n/4294967296 ^ k%4294967296]
 | 0,n=>by simp[dO]
 | k+1,n=>by
  show (n%4294967296)::dO (k+1) (n/4294967296)=(n%4294967296)::dO k (n/4294967296)++[n/4294967296 ^ (k+1)%4294967296]
  rw[tB k (n/4294967296),Nat.div_div_eq_div_mul,bMC,bLH 4294967296]
  rfl
theorem sI {xs:List Nat} (h:Lim xs):∀ {k:Nat},k≤xs.length→val (xs.drop k)=val xs/4294967296 ^ k:=by
 intro k hk
 have e:val xs=val (xs.take k)+4294967296 ^ k*val (xs.drop k):=by
  conv=>lhs; rw[← bMX k xs,fK,bLB,bMN hk]
 have hl:=eN (h.take k)
 rw[bLB,bMN hk] at hl
 rw[e,Nat.add_mul_div_left _ _ (bMZ (by decide)),bNR hl,bLJ]
theorem UY {R s i u0 u1 X:Nat} (hs:s<32) (h:R/4294967296 ^ i=u0+4294967296*(u1+4294967296*X)):(R/2 ^ s)/4294967296 ^ i%4294967296=(4294967296*u1+u0)/2 ^ s%4294967296:=by
 rw[Nat.div_div_eq_div_mul,bLH (2 ^ s),← Nat.div_div_eq_div_mul,h]
 have hp:4294967296*4294967296=2 ^ s*(2 ^ (32-s)*4294967296):=by
  rw[← bLE,← Nat.pow_add,show s+(32-s)=32 by omega]
 have e:u0+4294967296*(u1+4294967296*X)=(4294967296*u1+u0)+2 ^ s*(2 ^ (32-s)*X*4294967296):=by
  have:4294967296*(4294967296*X)=2 ^ s*(2 ^ (32-s)*X*4294967296):=by
   rw[← bLE,hp,bLE,bLE,bLE,bLH 4294967296 X]
  rw[bKV,this]; omega
 rw[e,Nat.add_mul_div_left _ _ (bMZ (by decide)),Nat.add_mul_mod_self_right]
end Go.Na
namespace Go.PM
open Go Go.Na
theorem bpI {A W Z:List Nat} {i:Nat} (hi:i<W.length):(aJ (A++W++Z))[A.length+i]?=some [.int .u32 ((W[i]:Nat):Int)]:=by
 have hl:A.length+i<(A++W++Z).length:=by simp; omega
 rw[bK _ hl]
 congr 4
 rw[List.getElem_append_left (by simp; omega),List.getElem_append_right Om]
 congr 1
 omega
def dF (u v:PV) (n:Nat) (q:PV) (top next j s:Nat):PF:=((((((((PF.nil.set 8 (.int .u64 s)).set 9 (u)).set 10 (v)).set 11 (.int .i64 n)).set 12 (q)).set 13 (.int .u64 top)).set 14 (.int .u64 next)).set 15 (.int .i64 j))
def dG (u v:PV) (n:Nat) (q:PV) (top next j s g r:Nat):PF:=((((((((((PF.nil.set 8 (.int .u64 s)).set 9 (u)).set 10 (v)).set 11 (.int .i64 n)).set 12 (q)).set 13 (.int .u64 top)).set 14 (.int .u64 next)).set 15 (.int .i64 j)).set 17 (.int .u64 g)).set 18 (.int .u64 r))
theorem axK {C:Ctx} {V Wv top next Vr head u2 Wr p:Nat} (Kk:Kn V Wv top next Vr head u2 Wr p) (htop:top<4294967296) (o lu m j s:Nat) (v q:PV) (hjm:j+m+2<lu) (hlu:lu≤100000) (U:List Nat) (hU:(aJ U)[j+m]?=some [.int .u32 (u2:Nat)]) (K:cO) (F:PF) (H:PH)
  (hF:(dG (.osl o 1 0 lu) v (m+2) q top next j s (head/top) (head%top)).le F) (hH:H o=some (.rows 1 (aJ U)))
  (hK:∀ g r F',Wv/V≤g→g≤Wv/V+1→g≤4294967296→(dG (.osl o 1 0 lu) v (m+2) q top next j s g r).le F'→K .normal F' H) :
  aC.wp C (.block 4 (.loop sN)) K F H:=by
 have ht0:0<top:=by have:=Kk.htop; omega
 have hn:=Kk.bJG
 have hu2:=Kk.hu2
 simp only[go_sem]
 refine wp_loop (α:=Nat × Nat) (fun t=>dG (.osl o 1 0 lu) v (m+2) q top next j s t.1 t.2) (fun _=>H) (fun t=>t.1*top+t.2=head∧Wv/V≤t.1∧t.1≤4294967296+1∧t.2<4294967296) (fun t=>t.1) (head/top,head%top)
  ⟨by simp only; rw[bLH]; exact bNQ head top,Kk.g0,Kk.g4,Nat.lt_trans (bLY _ ht0) htop⟩ hF PH.le_refl ?_
 rintro⟨g,r⟩ ⟨hg,hq,hgl,hr⟩
 simp only at hg hq hgl hr
 have e1:IntKind.i64.wrap ((j:Int)+((m+2:Nat):Int))=((j+(m+2):Nat):Int):=fO Om
 have e2:IntKind.i64.wrap (((j+(m+2):Nat):Int)-2)=((j+m:Nat):Int):=by rw[wrap_i64 Om Om]; omega
 have hlt:((j+m:Nat):Int)<(lu:Nat):=by omega
 have eu2:IntKind.u64.wrap ((u2:Nat):Int)=((u2:Nat):Int):=bD Om
 have esh:shift .shl .u64 (r:Int) 32=some (.int .u64 ((2 ^ 32*r:Nat):Int)):=IC (s:=32) Om Om
 have e32:(2:Nat) ^ 32=4294967296:=by decide
 have eor:=orI (a:=2 ^ 32*r) (b:=u2) (n:=2 ^ 32*r+u2) Om Om (Nat.two_pow_add_eq_or_of_lt Om r).symm Om
 rw[e32] at esh eor
 have more:(g≥4294967296∨g*next>r*4294967296+u2)→∀ F':PF,(dG (.osl o 1 0 lu) v (m+2) q top next j s g r).le F'→aC.wp C (.block 5 (.seq (.region AI) (.seq (.region AJ) (.seq (.region AK) (.cond (.tmp 136) (.exit 4) .skip)))))
   (eI (fun t:Nat × Nat=>dG (.osl o 1 0 lu) v (m+2) q top next j s t.1 t.2) (fun _=>H) (fun t=>t.1*top+t.2=head∧Wv/V≤t.1∧t.1≤4294967296+1∧t.2<4294967296) (fun t=>t.1) g (dZ 4 K)) F' H:=by
  intro hc F' hF'
  obtain⟨g1,g2⟩:=Kk.g1 hg hq hc
  have f8:=hF' 8 _ (by unfold dG; simp only[go_sem,γ]; rfl)
  have f9:=hF' 9 _ (by unfold dG; simp only[go_sem,γ]; rfl)
  have f10:=hF' 10 _ (by unfold dG; simp only[go_sem,γ]; rfl)
  have f11:=hF' 11 _ (by unfold dG; simp only[go_sem,γ]; rfl)
  have f12:=hF' 12 _ (by unfold dG; simp only[go_sem,γ]; rfl)
  have f13:=hF' 13 _ (by unfold dG; simp only[go_sem,γ]; rfl)
  have f14:=hF' 14 _ (by unfold dG; simp only[go_sem,γ]; rfl)
  have f15:=hF' 15 _ (by unfold dG; simp only[go_sem,γ]; rfl)
  have f17:=hF' 17 _ (by unfold dG; simp only[go_sem,γ]; rfl)
  have f18:=hF' 18 _ (by unfold dG; simp only[go_sem,γ]; rfl)
  have w1:IntKind.u64.wrap ((g:Int)-1)=((g-1:Nat):Int):=by rw[wrap_u64 Om Om]; omega
  have w2:IntKind.u64.wrap ((r:Int)+(top:Int))=((r+top:Nat):Int):=eQ Om
  have hg':(g-1)*top+(r+top)=head:=by
   obtain⟨k,rfl⟩:∃ k,g=k+1:=⟨g-1,by omega⟩
   rw[bLM,Nat.one_mul] at hg
   simp only[Nat.add_sub_cancel]
   omega
  simp only[go_sem,δ,γ,AI,AJ,AK,f17,f18,f13,w1,w2]
  by_cases c:r+top≥4294967296
  ·have c':((r+top:Nat):Int)≥4294967296:=by omega
   simp only[go_sem,γ,c']
   refine hK (g-1) (r+top) _ g2 (Kk.g3 hg' Om c) Om ?_
   unfold dG
   exact Lq
  ·have c':¬ ((r+top:Nat):Int)≥4294967296:=by omega
   simp only[go_sem,c']
   refine aI (g-1,r+top) ⟨hg',g2,by simp only; omega,by simp only; omega⟩ (by simp only; omega) ?_ PH.le_refl
   unfold dG
   exact Lq
 simp only[go_sem,δ,γ,sN,UE,dG]
 by_cases c1:g≥4294967296
 ·have c1':(g:Int)≥4294967296:=by omega
  simp only[go_sem,γ,c1']
  have:=more (.inl c1)
  simp only[go_sem,δ,dG] at this
  refine this _ ?_
  exact Lq
 ·have c1':¬ (g:Int)≥4294967296:=by omega
  have hgn:g*next≤4294967295*4294967295:=Nat.mul_le_mul Om Om
  have em:IntKind.u64.wrap ((g:Int)*(next:Int))=((g*next:Nat):Int):=by
   rw[show (g:Int)*(next:Int)=((g*next:Nat):Int) by simp]
   exact bD Om
  simp only[go_sem,γ,reduceCtorEq,c1',em,esh,e1,e2,hlt,hH,hU,eu2,eor]
  by_cases c2:g*next>r*4294967296+u2
  ·have c2':((g*next:Nat):Int)>((4294967296*r+u2:Nat):Int):=by omega
   simp only[go_sem,c2']
   have:=more (.inr c2)
   simp only[go_sem,δ,dG] at this
   refine this _ ?_
   exact Lq
  ·have c2':¬ ((g*next:Nat):Int)>((4294967296*r+u2:Nat):Int):=by omega
   simp only[go_sem,c2']
   refine hK g r _ hq (Kk.g2 hg Om Om) Om ?_
   unfold dG
   exact Lq
end Go.PM
namespace Go.Na
theorem bwB {W v:List Nat} {m:Nat} (hW:Lim W) (hv:Lim v) (hlv:v.length=m+2) (hlW:W.length=m+3) (ht:2147483648≤v[m+1]) (hlt:val W<val v*4294967296) :
  Kn (val v) (val W) (v[m+1]) (v[m]) (val (v.take m)) (W[m+2]*4294967296+W[m+1]) (W[m]) (val (W.take m)) (4294967296 ^ m):=by
 have e1:val v=val (v.take m)+4294967296 ^ m*(v[m]+4294967296*v[m+1]):=by
  rw[qB v (Om:m<v.length)]
  congr 4
  have:v.drop (m+1)=[v[m+1]]:=by
   rw[bMH Om,bNU Om]
  rw[this]; simp[val]
 have e2:val W=val (W.take m)+4294967296 ^ m*(W[m]+4294967296*(W[m+1]+4294967296*W[m+2])):=by
  rw[qB W (Om:m<W.length)]
  congr 4
  have:W.drop (m+1)=[W[m+1],W[m+2]]:=by
   rw[bMH Om,bMH Om,bNU Om]
  rw[this]; simp[val]
 have l1:=eN (hv.take m)
 have l2:=eN (hW.take m)
 rw[bLB,bMN Om] at l1 l2
 refine⟨?_,?_,l1,l2,ht,hv _ (bKM _),hW _ (bKM _),hlt⟩
 ·rw[e1,bKV,bLH (4294967296 ^ m) (v[m]),← bLE (4294967296 ^ m),bLH (4294967296 ^ m*4294967296),bLH (4294967296 ^ m) 4294967296]
  omega
 ·rw[e2,bKV,bLH (4294967296 ^ m) (W[m]),← bLE (4294967296 ^ m),bLH (4294967296 ^ m*4294967296),bLH (4294967296 ^ m) 4294967296,bLH (W[m+2]),Nat.add_comm (4294967296*W[m+2])]
  omega
end Go.Na
namespace Go.PM
open Go Go.Na
structure axR (C:Ctx):Prop where
 subtract:∀ (A W Z v:List Nat) (f o:Nat),Lim W→Lim v→W.length=v.length+1→A.length+v.length≤100000→f≤4294967296→val v*f≤val W+4294967296 ^ (v.length+1) →
  aE C 142 [.osl o 1 A.length (v.length+1),aF v,.int .u64 f] (PH.nil.set o (.rows 1 (aJ (A++W++Z)))) (fun r H'=>r=.bool (decide (val W<val v*f))∧H'=PH.nil.set o (.rows 1 (aJ (A++dO (v.length+1) (IH (v.length+1) (val W) (val v*f))++Z))))
 restore:∀ (A W Z v:List Nat) (o:Nat),Lim W→Lim v→W.length=v.length+1→A.length+v.length≤100000 →
  aE C 139 [.osl o 1 A.length (v.length+1),aF v] (PH.nil.set o (.rows 1 (aJ (A++W++Z)))) (fun r H'=>r=.tup []∧H'=PH.nil.set o (.rows 1 (aJ (A++dO (v.length+1) (val W+val v)++Z))))
theorem azX (k n:Nat):dO k (n%4294967296 ^ k)=dO k n :=
 aTK (kW _ _) (kW _ _) (by rw[kA,kA]) (by rw[xM,xM,Nat.mod_mod])
theorem axJ {C:Ctx} (D:axR C) (A W Z v Q:List Nat) (m o oq lu s:Nat) (hne:oq≠o) (hW:Lim W) (hv:Lim v) (hlv:v.length=m+2) (hlW:W.length=m+3) (ht:2147483648≤v[m+1]) (hlt:val W<val v*4294967296)
  (hlu:lu=A.length+(m+3)+Z.length) (bJZ:lu≤10000) (hjq:A.length<Q.length) (K:cO) (F:PF) (H:PH) (hF:(dF (.osl o 1 0 lu) (aF v) (m+2) (.osl oq 1 0 Q.length) (v[m+1]) (v[m]) A.length s).le F)
  (hH:H o=some (.rows 1 (aJ (A++W++Z)))) (hHq:H oq=some (.rows 1 (aJ Q)))
  (hK:∀ F' H',(dF (.osl o 1 0 lu) (aF v) (m+2) (.osl oq 1 0 Q.length) (v[m+1]) (v[m]) A.length s).le F'→H' o=some (.rows 1 (aJ (A++dO (m+3) (val W%val v)++Z)))→H' oq=some (.rows 1 (aJ (Q.set A.length (val W/val v))))→K .normal F' H') :
  aC.wp C (.block 3 (.seq (.draw AG) (.seq (.draw AH) (.seq (.block 4 (.loop sN)) (.seq (.seq (.region AL) (.cond (.tmp 146) (.seq (.region AM) (.region AN)) .skip)) (.region sO)))))) K F H:=by
 have Kk:=bwB hW hv hlv hlW ht hlt
 have hgetU:∀ i (h:i<W.length),(aJ (A++W++Z))[A.length+i]?=some [.int .u32 ((W[i]:Nat):Int)]:=fun i h=>bpI h
 have g0:=hgetU (m+2) Om
 have g1:=hgetU (m+1) Om
 have g2:=hgetU m Om
 have hq:=Kk.bsT
 have htop:v[m+1]<4294967296:=hv _ (bKM _)
 have hu0:=hW _ (bKM (Om:m+2<W.length))
 have hu1:=hW _ (bKM (Om:m+1<W.length))
 have hVpos:=Kk.ayQ.1
 generalize hte:v[m+1]=top at *
 generalize hnx:v[m]=next at *
 generalize hw0:W[m+2]=u0 at *
 generalize hw1:W[m+1]=u1 at *
 generalize hw2:W[m]=u2 at *
 have f8:=hF 8 _ (by unfold dF; simp only[go_sem,γ]; rfl)
 have f9:=hF 9 _ (by unfold dF; simp only[go_sem,γ]; rfl)
 have f10:=hF 10 _ (by unfold dF; simp only[go_sem,γ]; rfl)
 have f11:=hF 11 _ (by unfold dF; simp only[go_sem,γ]; rfl)
 have f12:=hF 12 _ (by unfold dF; simp only[go_sem,γ]; rfl)
 have f13:=hF 13 _ (by unfold dF; simp only[go_sem,γ]; rfl)
 have f14:=hF 14 _ (by unfold dF; simp only[go_sem,γ]; rfl)
 have f15:=hF 15 _ (by unfold dF; simp only[go_sem,γ]; rfl)
 have e1:IntKind.i64.wrap ((A.length:Int)+((m+2:Nat):Int))=((A.length+(m+2):Nat):Int):=fO Om
 have e2:IntKind.i64.wrap (((A.length+(m+2):Nat):Int)-1)=((A.length+(m+1):Nat):Int):=by rw[wrap_i64 Om Om]; omega
 have c0:((A.length+(m+2):Nat):Int)<(lu:Nat):=by omega
 have c1:((A.length+(m+1):Nat):Int)<(lu:Nat):=by omega
 have eu0:IntKind.u64.wrap ((u0:Nat):Int)=((u0:Nat):Int):=bD Om
 have eu1:IntKind.u64.wrap ((u1:Nat):Int)=((u1:Nat):Int):=bD Om
 have esh:shift .shl .u64 (u0:Int) 32=some (.int .u64 ((2 ^ 32*u0:Nat):Int)):=IC (s:=32) Om Om
 have e32:(2:Nat) ^ 32=4294967296:=by decide
 have eor:=orI (a:=2 ^ 32*u0) (b:=u1) (n:=2 ^ 32*u0+u1) Om Om (Nat.two_pow_add_eq_or_of_lt Om u0).symm Om
 rw[e32] at esh eor
 have hcm:4294967296*u0+u1=u0*4294967296+u1:=by omega
 rw[hcm] at eor
 simp only[go_sem]
 refine bS H eC PH.le_refl ?_
 simp only[go_sem,γ,reduceCtorEq,AG,f9,f15,f11,e1,e2,c0,c1,hH,g0,g1,eu0,eu1,esh,eor]
 refine bS H eC PH.le_refl ?_
 have ht0:0<top:=by omega
 have htz:¬ ((top:Nat):Int)=0:=by omega
 generalize hhd:u0*4294967296+u1=head at *
 have equo:IntKind.u64.wrap (bME ((head:Nat):Int) ((top:Nat):Int))=((head/top:Nat):Int):=by
  rw[show bME ((head:Nat):Int) ((top:Nat):Int)=((head/top:Nat):Int) from rfl]
  exact bD (by have:=Kk.g4; omega)
 have erem:Int.tmod ((head:Nat):Int) ((top:Nat):Int)=((head%top:Nat):Int):=rfl
 simp only[go_sem,γ,AH,f13,htz,equo,erem]
 have guess:=axK (C:=C) Kk htop o lu m A.length s (aF v) (.osl oq 1 0 Q.length) Om Om (A++W++Z) g2
 simp only[go_sem] at guess
 refine guess _ _ H ?_ hH ?_
 ·unfold dG
  refine PF.aK (PF.aK (PF.aK (PF.aK (PF.aK (PF.aK (PF.aK (PF.aK (PF.aK (PF.aK PF.nil_le ?_) ?_) ?_) ?_) ?_) ?_) ?_) ?_) ?_) ?_<;>simp only[go_sem,γ,f8,f9,f10,f11,f12,f13,f14,f15]
 clear guess
 intro g r F' q1 q2 q3 hF'
 have h8:=hF' 8 _ (by unfold dG; simp only[go_sem,γ]; rfl)
 have h9:=hF' 9 _ (by unfold dG; simp only[go_sem,γ]; rfl)
 have h10:=hF' 10 _ (by unfold dG; simp only[go_sem,γ]; rfl)
 have h11:=hF' 11 _ (by unfold dG; simp only[go_sem,γ]; rfl)
 have h12:=hF' 12 _ (by unfold dG; simp only[go_sem,γ]; rfl)
 have h13:=hF' 13 _ (by unfold dG; simp only[go_sem,γ]; rfl)
 have h14:=hF' 14 _ (by unfold dG; simp only[go_sem,γ]; rfl)
 have h15:=hF' 15 _ (by unfold dG; simp only[go_sem,γ]; rfl)
 have h17:=hF' 17 _ (by unfold dG; simp only[go_sem,γ]; rfl)
 have e3:IntKind.i64.wrap (((A.length+(m+2):Nat):Int)+1)=((A.length+(m+3):Nat):Int):=by rw[wrap_i64 Om Om]; omega
 have c3:((A.length:Nat):Int)≤((A.length+(m+3):Nat):Int):=by omega
 have c4:((A.length+(m+3):Nat):Int)≤(lu:Nat):=by omega
 have e4:A.length+(m+3)-A.length=v.length+1:=by omega
 have hvl:v.length+1=m+3:=by omega
 have hdm:val v*(val W/val v)+val W%val v=val W:=bNQ _ _
 have hWlt:=eN hW
 rw[hlW] at hWlt
 have hmodlt:val W%val v<val v:=bLY _ hVpos
 have hvlt:=eN hv
 rw[hlv] at hvlt
 have hpow:4294967296 ^ (m+3)=4294967296 ^ (m+2)*4294967296:=bMC _ _
 generalize hQd:val W/val v=qd at *
 generalize hRd:val W%val v=rd at *
 have hfin:∀ (F2:PF) (H2:PH),F2 8=some (.int .u64 s)→F2 9=some (.osl o 1 0 lu)→F2 10=some (aF v)→F2 11=some (.int .i64 ((m+2:Nat):Int))→F2 12=some (.osl oq 1 0 Q.length)→F2 13=some (.int .u64 top)→F2 14=some (.int .u64 next)→F2 15=some (.int .i64 A.length)→F2 17=some (.int .u64 qd) →
   H2 o=some (.rows 1 (aJ (A++dO (m+3) rd++Z)))→H2 oq=some (.rows 1 (aJ Q))→aC.wp C (.region sO) (dZ 3 K) F2 H2:=by
  intro F2 H2 k8 k9 k10 k11 k12 k13 k14 k15 k17 kH kQ
  have hqr:(aJ Q)[A.length]?=some [.int .u32 ((Q[A.length]:Nat):Int)]:=bK Q hjq
  have hlq:((A.length:Nat):Int)<(Q.length:Nat):=by omega
  have eq:IntKind.u32.wrap ((qd:Nat):Int)=((qd:Nat):Int):=by rw[cC,bLS hq]
  have bIR:=fA Q A.length qd
  have bJJ:¬ o=oq:=fun h=>hne h.symm
  simp only[go_sem,γ,sO,k12,k15,k17,eq,hlq,kQ,hqr,bIR]
  refine hK _ _ ?_ (by simp only[go_sem,bJJ,kH]) Sq
  unfold dF
  refine PF.aK (PF.aK (PF.aK (PF.aK (PF.aK (PF.aK (PF.aK (PF.aK PF.nil_le ?_) ?_) ?_) ?_) ?_) ?_) ?_) ?_<;>simp only[go_sem,γ,k8,k9,k10,k11,k12,k13,k14,k15]
 have hle:(PH.nil.set o (.rows 1 (aJ (A++W++Z)))).le H:=PH.aK PH.nil_le hH
 have bJT:val v*g≤val W+4294967296 ^ (v.length+1):=by
  have:val v*g≤val v*(qd+1):=bMO _ q2
  rw[bKV,Nat.mul_one] at this
  rw[hvl,hpow]; omega
 simp only[go_sem,γ,reduceCtorEq,AL,h9,h15,h11,e1,e3,c3,c4,e4,h10,h17]
 refine fE (D.subtract A W Z v g o hW hv Om Om q3 bJT) rfl hle ?_
 rintro rr H' ⟨rfl,rfl⟩ -
 rw[PH.lJ]
 by_cases hgq:g=qd
 ·subst hgq
  have hneg:¬ val W<val v*g:=by omega
  have hN:IH (v.length+1) (val W) (val v*g)=rd:=by unfold IH; rw[if_neg hneg]; omega
  rw[hN,hvl]
  simp only[go_sem,γ,hneg]
  have:=hfin
  simp only[go_sem] at this
  refine this _ _ ?_ ?_ ?_ ?_ ?_ ?_ ?_ ?_ ?_ ?_ ?_<;>simp only[go_sem,γ,h8,h9,h10,h11,h12,h13,h14,h15,h17,hne,hHq]
 ·have hg1:g=qd+1:=by omega
  subst hg1
  rw[bKV,Nat.mul_one]
  have hneg:val W<val v*qd+val v:=by omega
  have hN:IH (v.length+1) (val W) (val v*qd+val v)=rd+4294967296 ^ (m+3)-val v:=by unfold IH; rw[if_pos hneg,hvl]; omega
  rw[hN]
  have w1:IntKind.u64.wrap (((qd+1:Nat):Int)-1)=((qd:Nat):Int):=by rw[wrap_u64 Om Om]; omega
  simp only[go_sem,γ,reduceCtorEq,hneg,AM,h17,w1,AN,h9,h15,h11,e1,e3,c3,c4,e4,h10]
  have hD':val (dO (v.length+1) (rd+4294967296 ^ (m+3)-val v))=rd+4294967296 ^ (m+3)-val v:=mO (by rw[hvl]; omega)
  refine fE (D.restore A (dO (v.length+1) (rd+4294967296 ^ (m+3)-val v)) Z v o (kW _ _) hv (kA _ _) Om) rfl (PH.aK PH.nil_le Sq) ?_
  rintro rr H' ⟨rfl,rfl⟩ -
  rw[PH.lJ,PH.set_set,hD']
  have hfinal:dO (v.length+1) (rd+4294967296 ^ (m+3)-val v+val v)=dO (m+3) rd:=by
   rw[hvl,← azX (m+3) (rd+4294967296 ^ (m+3)-val v+val v)]
   rw[show rd+4294967296 ^ (m+3)-val v+val v=rd+4294967296 ^ (m+3) by omega,Nat.add_mod_right,azX]
  rw[hfinal]
  simp only[go_sem]
  have:=hfin
  simp only[go_sem] at this
  refine this _ _ ?_ ?_ ?_ ?_ ?_ ?_ ?_ ?_ ?_ ?_ ?_<;>simp only[go_sem,γ,h8,h9,h10,h11,h12,h13,h14,h15,hne,hHq]
open Go
section
variable {C:Ctx} {K:cO} {F:PF} {H Hs:PH} {S:Spec}
theorem aQI {name:Nat} {vs:List PV} {R:PV→PH→Prop} {args:List aP} {st:Bool} {d:Option Nat} {K:PF→PH→Prop} (hS:S name vs=some ([],fun _=>R)) (h:aE C name vs .nil R) (ha:aP.evs F args=some vs)
  (hex:∀ G:PH,∃ r H',R r H'∧kN G .nil H') (hk:∀ r H',R r H'→kN H .nil H'→Hs.le (H.eJ .nil H')∧K (F.put d r) (H.eJ .nil H')):dOp C Hs S st (.call name args) d K F H:=by
 refine⟨vs,[],fun _=>R,ha,hS,fun o ho=>by simp at ho,by rw[HN]; exact h,fun G=>?_,fun r H' hr ha=>?_⟩
 ·obtain⟨r,H',h1,h2⟩:=hex G
  exact⟨r,H',h1,fun o x hx hn=>h2 o x hx (by simp[PH.nil])⟩
 ·rw[HN] at ha ⊢
  exact hk r H' hr ha
theorem PH.OM (H0:PH) (h:H0.le H):H.eJ H0 H0=H:=PH.ext fun q=>by
 rw[lI]
 cases e:H0 q with
 | none=>rfl
 | some x=>exact (h q x e).symm
theorem YI {o:Nat} {x:cS} (h:H o=some x):H.only [o]=PH.nil.set o x:=PH.ext fun q=>by
 rw[mM,bL]
 by_cases e:q=o
 ·subst e; simp[h]
 ·simp[e,alP]
theorem WF {name o:Nat} {x:cS} {vs:List PV} {v:PV} {R:PH→PV→PH→Prop} {args:List aP} {st:Bool} {d:Option Nat} {K:PF→PH→Prop} (hS:S name vs=some ([o],R)) (ho:H o=some x)
  (h:aE C name vs (PH.nil.set o x) (fun r H'=>r=v∧H'=PH.nil.set o x)) (hR1:R (PH.nil.set o x) v (PH.nil.set o x)) (hR2:∀ r H',R (PH.nil.set o x) r H'→r=v∧H'=PH.nil.set o x) (ha:aP.evs F args=some vs) (hle:Hs.le H) (hk:K (F.put d v) H) :
  dOp C Hs S st (.call name args) d K F H:=by
 have e:=YI ho
 refine⟨vs,[o],_,ha,hS,fun q hq=>?_,?_,fun G=>⟨v,_,by rw[e]; exact hR1,fun q y hy hn=>?_⟩,fun r H' hr _=>?_⟩
 ·simp at hq; subst hq; exact⟨x,ho⟩
 ·rw[e]
  exact h.post fun r H' hr=>⟨r,.refl _,by rw[hr.1,hr.2]; exact hR1⟩
 ·rw[e] at hn; rw[hy] at hn; cases hn
 ·rw[e] at hr
  obtain⟨rfl,rfl⟩:=hR2 r H' hr
  rw[e,PH.OM _ (by rw[← e]; exact DG H [o])]
  exact⟨hle,hk⟩
theorem aPU {c:aC} {α:Type} (Fs:α→PF) (Hs:α→PH) (Pr:α→Prop) (m:α→Nat) (a0:α) (o:Nat) {s:Nat} {rs:List (List PV)} (ho:H o=some (.rows s rs)) (h0:Pr a0) (hF:(Fs a0).le (F.frz o s rs)) (hH:(Hs a0).le (H.frz o s rs))
  (hb:∀ a,Pr a→c.wp C (eI Fs Hs Pr m (m a) K) (Fs a) (Hs a)):aC.wp C (.loop c) K F H :=
 ⟨α,Fs,Hs,Pr,m,a0,_,_,.step o ho (.refl _ _),h0,hF,hH,hb⟩
@[go_sem] theorem vW (o s:Nat) (rs:List (List PV)) (q:Nat):(H.frz o s rs) q=if q=o then none else (H q).map (cS.frz o s rs):=(rfl)
theorem baK {t u o1 o2 s1 s2 k1 k2:Nat} {rs1 rs2:List (List PV)} {R:PV→PH→Prop} {e:lO} (he:e=.normal∨e=.ret) (hne:o1≠o2) (h1:F t=some (.osl o1 s1 0 k1)) (h2:F u=some (.osl o2 s2 0 k2)) (ho1:H o1=some (.rows s1 rs1)) (ho2:H o2=some (.rows s2 rs2))
  (hk1:k1≤rs1.length) (hk2:k2≤rs2.length) (hp2:rs2.map (fun r=>r.map (PV.dE o1 s1 rs1))=rs2) (hp1:(rs1.take k1)=rs1.take k1) (hR:R (.tup [.sl s1 (rs1.take k1),.sl s2 (rs2.take k2)]) .nil):aT [.tmp t,.tmp u] R e F H:=by
 have key:∃ vs,dW.evs F H [.tmp t,.tmp u]=some vs∧∃ F1 H1 H2,iY (PF.nil.set 0 (aV vs)) H F1 H1∧H2.le H1∧∃ w,F1 0=some w∧R w H2:=by
  have bJJ:o2≠o1:=fun h=>hne h.symm
  have e2:(H.frz o1 s1 rs1) o2=some (.rows s2 rs2):=by rw[vW,if_neg bJJ,ho2]; simp only[bLT,cS.frz,hp2]
  refine⟨[.osl o1 s1 0 k1,.osl o2 s2 0 k2],by rw[lC,oI,h1,lC,oI,h2,pZ],_,_,.nil,.step o1 ho1 (.step o2 e2 (.refl _ _)),PH.nil_le,_,?_,hR⟩
  have a1:0+k1≤rs1.length:=by omega
  have a2:0+k2≤rs2.length:=by omega
  simp only[PF.frz,lK,if_true,aV,bLT,PV.frz,PV.rS,PV.dE,bMG,List.map_nil,true_and,if_pos a1,if_pos a2,bLK,if_neg bJJ]
 rcases he with rfl | rfl<;>exact key
end
end Go.PM
namespace Go.Na
structure mY (U0 V n lu lq:Nat) (k:Nat) (U Q:List Nat):Prop where
 lu':U.length=lu
 lq':Q.length=lq
 limU:Lim U
 limQ:Lim Q
 v:val U+val Q*V=U0
 r:val (U.drop k)<V
 z:∀ i x,i<k→Q[i]?=some x→x=0
theorem azY {U0 V n lu lq j:Nat} {U Q:List Nat} (h:mY U0 V n lu lq (j+1) U Q) (hV:V<4294967296 ^ n) (hj:j<lq) (hl:lu=lq+n) :
  val ((U.drop j).take (n+1))<V*4294967296∧mY U0 V n lu lq j (U.take j++dO (n+1) (val ((U.drop j).take (n+1))%V)++U.drop (j+(n+1))) (Q.set j (val ((U.drop j).take (n+1))/V)):=by
 have hlu:=h.lu'
 have hlq:=h.lq'
 have hVpos:0<V:=by have:=h.r; omega
 have hju:j<U.length:=by omega
 have e1:val (U.drop j)=U[j]+4294967296*val (U.drop (j+1)):=by rw[bMH hju]; rfl
 have hUj:=h.limU _ (bKM hju)
 have hlt:val (U.drop j)<V*4294967296:=by have:=h.r; omega
 have hlW:((U.drop j).take (n+1)).length=n+1:=by rw[bLB,bML]; omega
 have e2:val (U.drop j)=val ((U.drop j).take (n+1))+4294967296 ^ (n+1)*val (U.drop (j+(n+1))):=by
  conv=>lhs; rw[← bMX (n+1) (U.drop j),fK,hlW,List.drop_drop]
 have hpow:4294967296 ^ (n+1)=4294967296 ^ n*4294967296:=bMC _ _
 have hVB:V*4294967296≤4294967296 ^ n*4294967296:=bLO _ (Nat.le_of_lt hV)
 have hZ:val (U.drop (j+(n+1)))=0:=by
  rcases bNK (val (U.drop (j+(n+1)))) with h0 | h0
  ·exact h0
  ·have:=bMO (4294967296 ^ (n+1)) h0
   omega
 rw[hZ,Nat.mul_zero,bMB] at e2
 generalize hW:val ((U.drop j).take (n+1))=W at *
 have e3:val U=val (U.take j)+4294967296 ^ j*W:=by
  conv=>lhs; rw[← bMX j U,fK,bLB,bMN Om,e2]
 have hmod:W%V<V:=bLY _ hVpos
 have hdm:V*(W/V)+W%V=W:=bNQ _ _
 have hqB:W/V<4294967296:=by rw[bND hVpos,bLH]; omega
 have hD:val (dO (n+1) (W%V))=W%V:=mO Om
 have hQj:Q[j]=0:=h.z j _ Om (bKU Om)
 have bKB:=DR (Om:j<Q.length) (W/V)
 rw[hQj,Nat.mul_zero,bMB] at bKB
 have bIL:(U.take j).length=j:=by rw[bLB]; omega
 refine⟨by omega,?_,?_,?_,?_,?_,?_,?_⟩
 ·simp only[bKQ,kA,bML,bLB]; omega
 ·rw[bMJ]; exact hlq
 ·exact ((h.limU.take j).app (kW _ _)).app (h.limU.drop _)
 ·exact h.limQ.set _ hqB
 ·rw[bLI,fK,fK,bIL,hD,kA,hZ,Nat.mul_zero,bMB,bKB]
  have:=h.v
  have h5:(val Q+4294967296 ^ j*(W/V))*V=val Q*V+4294967296 ^ j*(V*(W/V)):=by
   rw[bLM,bLE,bLH (W/V) V]
  have h6:4294967296 ^ j*W=4294967296 ^ j*(V*(W/V))+4294967296 ^ j*(W%V):=by rw[← bKV,hdm]
  omega
 ·rw[bLI,List.drop_append_of_le_length Om,bNU Om,bMY,fK,hD,hZ,Nat.mul_zero,bMB]
  exact hmod
 ·intro i x hi hx
  rw[List.getElem?_set_ne Om] at hx
  exact h.z i x Om hx
end Go.Na
namespace Go.PM
open Go Go.Na
def dI (u v:PV) (n:Nat) (q:PV) (top next s:Nat) (j:Int):PF:=((((((((PF.nil.set 8 (.int .u64 s)).set 9 (u)).set 10 (v)).set 11 (.int .i64 n)).set 12 (q)).set 13 (.int .u64 top)).set 14 (.int .u64 next)).set 15 (.int .i64 j))
theorem pU (o s:Nat) (rs:List (List PV)) (L:List Nat):(aJ L).map (fun r=>r.map (PV.dE o s rs))=aJ L:=by
 unfold aJ
 rw[List.map_map]
 rfl
theorem aGH {C:Ctx} (D:axR C) (U0 m lu lq o o2 oq s:Nat) (v vfull:List Nat) (h2:o2≠o) (h3:oq≠o) (h4:oq≠o2) (hv:Lim v) (hlv:v.length=m+2) (hvf:(aJ vfull).take (m+2)=aJ v) (hvl:m+2≤vfull.length) (ht:2147483648≤v[m+1])
  (hlu:lu=lq+(m+2)) (bJZ:lu≤10000) (U:List Nat) (hI:mY U0 (val v) (m+2) lu lq lq U (bKL lq 0)) (K:cO) (F:PF) (H:PH)
  (hF:(dI (.osl o 1 0 lu) (.osl o2 1 0 (m+2)) (m+2) (.osl oq 1 0 lq) (v[m+1]) (v[m]) s ((lq:Int)-1)).le F) (hH:H o=some (.rows 1 (aJ U))) (hHv:H o2=some (.rows 1 (aJ vfull))) (hHq:H oq=some (.rows 1 (aJ (bKL lq 0))))
  (hK:∀ U' Q' F',mY U0 (val v) (m+2) lu lq 0 U' Q'→(dI (.osl o 1 0 lu) (aF v) (m+2) (.osl oq 1 0 lq) (v[m+1]) (v[m]) s (-1)).le F'→K .normal F' ((PH.nil.set o (.rows 1 (aJ U'))).set oq (.rows 1 (aJ Q')))) :
  aC.wp C (.block 2 (.loop AE)) K F H:=by
 have f8:=hF 8 _ (by unfold dI; simp only[go_sem,γ]; rfl)
 have f9:=hF 9 _ (by unfold dI; simp only[go_sem,γ]; rfl)
 have f10:=hF 10 _ (by unfold dI; simp only[go_sem,γ]; rfl)
 have f11:=hF 11 _ (by unfold dI; simp only[go_sem,γ]; rfl)
 have f12:=hF 12 _ (by unfold dI; simp only[go_sem,γ]; rfl)
 have f13:=hF 13 _ (by unfold dI; simp only[go_sem,γ]; rfl)
 have f14:=hF 14 _ (by unfold dI; simp only[go_sem,γ]; rfl)
 have f15:=hF 15 _ (by unfold dI; simp only[go_sem,γ]; rfl)
 have hne2:¬ o=o2:=fun h=>h2 h.symm
 have hne4:¬ oq=o2:=h4
 have hne3:¬ o=oq:=fun h=>h3 h.symm
 have hfi:∀ (k:IntKind) (n:Int),PV.frz o2 1 (aJ vfull) (.int k n)=.int k n:=fun _ _=>rfl
 have hfu:∀ l,PV.frz o2 1 (aJ vfull) (.osl o 1 0 l)=.osl o 1 0 l:=fun l=>by simp only[PV.frz,PV.rS,PV.dE,if_neg hne2]
 have hfq:∀ l,PV.frz o2 1 (aJ vfull) (.osl oq 1 0 l)=.osl oq 1 0 l:=fun l=>by simp only[PV.frz,PV.rS,PV.dE,if_neg hne4]
 have hfv:PV.frz o2 1 (aJ vfull) (.osl o2 1 0 (m+2))=aF v:=by
  have:0+(m+2)≤(aJ vfull).length:=by rw[bU]; omega
  simp only[PV.frz,PV.rS,PV.dE,if_true,true_and,if_pos this,bLK,hvf]
 simp only[go_sem]
 refine aPU (α:=Nat × List Nat × List Nat) (fun t=>dI (.osl o 1 0 lu) (aF v) (m+2) (.osl oq 1 0 lq) (v[m+1]) (v[m]) s ((t.1:Int)-1)) (fun t=>(PH.nil.set o (.rows 1 (aJ t.2.1))).set oq (.rows 1 (aJ t.2.2)))
  (fun t=>t.1≤lq∧mY U0 (val v) (m+2) lu lq t.1 t.2.1 t.2.2) (fun t=>t.1) (lq,U,bKL lq 0) o2 hHv ⟨bKK _,hI⟩ ?_ ?_ ?_
 ·unfold dI
  refine PF.aK (PF.aK (PF.aK (PF.aK (PF.aK (PF.aK (PF.aK (PF.aK PF.nil_le ?_) ?_) ?_) ?_) ?_) ?_) ?_) ?_<;>simp only[go_sem,f8,f9,f10,f11,f12,f13,f14,f15,hfi,hfu,hfq,hfv]
 ·refine PH.aK (PH.aK PH.nil_le ?_) ?_
  ·simp only[go_sem,hne2,hH,cS.frz,pU]
  ·simp only[go_sem,hne4,hHq,cS.frz,pU]
 rintro⟨k,U,Q⟩ ⟨hk,hI⟩
 simp only at hk hI
 simp only[go_sem,γ,AE,UD,dI]
 by_cases h0:0<k
 ·obtain⟨j,rfl⟩:∃ j,k=j+1:=⟨k-1,by omega⟩
  have hz:((j+1:Nat):Int)-1=(j:Int):=by omega
  have hge:(j:Int)≥0:=by omega
  have hVlt:val v<4294967296 ^ (m+2):=by have:=eN hv; rw[hlv] at this; exact this
  obtain⟨hlt,hI'⟩:=azY hI hVlt Om hlu
  have hUl:=hI.lu'
  have hQl:=hI.lq'
  have hA:(U.take j).length=j:=by rw[bLB]; omega
  have hWl:((U.drop j).take (m+3)).length=m+3:=by rw[bLB,bML]; omega
  have hsplit:U.take j++(U.drop j).take (m+3)++U.drop (j+(m+3))=U:=by
   rw[bLI,← List.drop_drop,bMX,bMX]
  have hZl:(U.drop (j+(m+3))).length=lu-(j+(m+3)):=by rw[bML,hUl]
  have key:=axJ (C:=C) D (U.take j) ((U.drop j).take (m+3)) (U.drop (j+(m+3))) v Q m o oq lu s h3 ((hI.limU.drop _).take _) hv hlv hWl ht hlt (by rw[hA,hZl]; omega) bJZ (by rw[hA]; omega)
  rw[hA,hsplit,hQl] at key
  have e15:IntKind.i64.wrap ((j:Int)-1)=(j:Int)-1:=wrap_i64 Om Om
  simp only[go_sem,hz,hge]
  simp only[go_sem] at key
  refine key _ _ _ ?_ (by simp only[go_sem,hne3]) Sq ?_
  ·unfold dF
   exact Lq
  ·intro F' H' hF' hH' hHq'
   have g8:=hF' 8 _ (by unfold dF; simp only[go_sem,γ]; rfl)
   have g9:=hF' 9 _ (by unfold dF; simp only[go_sem,γ]; rfl)
   have g10:=hF' 10 _ (by unfold dF; simp only[go_sem,γ]; rfl)
   have g11:=hF' 11 _ (by unfold dF; simp only[go_sem,γ]; rfl)
   have g12:=hF' 12 _ (by unfold dF; simp only[go_sem,γ]; rfl)
   have g13:=hF' 13 _ (by unfold dF; simp only[go_sem,γ]; rfl)
   have g14:=hF' 14 _ (by unfold dF; simp only[go_sem,γ]; rfl)
   have g15:=hF' 15 _ (by unfold dF; simp only[go_sem,γ]; rfl)
   simp only[go_sem,γ,UF,g15,e15]
   refine aI (j,_,_) ⟨by simp only; omega,hI'⟩ (by simp only; omega) ?_ (PH.aK (PH.aK PH.nil_le hH') hHq')
   refine PF.aK (PF.aK (PF.aK (PF.aK (PF.aK (PF.aK (PF.aK (PF.aK PF.nil_le ?_) ?_) ?_) ?_) ?_) ?_) ?_) ?_<;>simp only[go_sem,γ,g8,g9,g10,g11,g12,g13,g14]
 ·have:k=0:=by omega
  subst this
  have hz:¬ ((0:Nat):Int)-1≥0:=by decide
  simp only[go_sem,hz]
  refine hK U Q _ hI ?_
  unfold dI
  (repeat' (first|exact PF.nil_le|refine PF.aK ?_ ?_))<;>first|(simp only[go_sem,ο,γ,show ((0:Nat):Int)-1=-1 from rfl]<;>rfl)|rfl
open Go Go.Na
def rFr (o lu oq lq or n s i:Nat):PF:=((((((PF.nil.set 8 (.int .u64 s)).set 9 (.osl o 1 0 lu)).set 12 (.osl oq 1 0 lq)).set 19 (.osl or 1 0 n)).set 166 (.int .i64 n)).set 167 (.int .i64 i))
theorem btI {x s:Nat} (hs:s≤64):shift .shr .u64 (x:Int) (s:Int)=some (.int .u64 ((x/2 ^ s:Nat):Int)):=by
 unfold shift
 rw[if_neg Om]
 simp only
 have:min (Int.toNat (s:Int)) IntKind.u64.bits=s:=by
  rw[show IntKind.u64.bits=64 from rfl]; omega
 rw[this,Int.fdiv_eq_ediv_of_nonneg _ (by exact_mod_cast bKT _)]
 norm_cast
theorem aGI {C:Ctx} (o lu oq lq n s:Nat) (U Q:List Nat) (hs:s<32) (h3:oq≠o) (hU:Lim U) (hl:U.length=lu) (hn:n<lu) (bJZ:lu≤10000) (K:cO) (F:PF)
  (f8:F 8=some (.int .u64 s)) (f9:F 9=some (.osl o 1 0 lu)) (f11:F 11=some (.int .i64 n)) (f12:F 12=some (.osl oq 1 0 lq))
  (hK:∀ or F' H',or≠o→or≠oq→(rFr o lu oq lq or n s n).le F'→H' oq=some (.rows 1 (aJ Q))→H' or=some (.rows 1 (aJ (dO n (val U/2 ^ s))))→K .normal F' H') :
  aC.wp C (.seq (.region AO) (.seq (.region AP) (.block 6 (.loop AF)))) K F ((PH.nil.set o (.rows 1 (aJ U))).set oq (.rows 1 (aJ Q))):=by
 have hm1:((n:Nat):Int)*((4:Nat):Int)≤140737488355328:=by omega
 have hm2:((n:Nat):Int)≤9223372036854775807:=by omega
 have hz:bKL n [PV.int .u32 0]=aJ ([]++bKL n 0):=by
  simp[aJ]
 simp only[go_sem,AO,f11,hm1,hm2,hz]
 refine aQ fun or hor=>?_
 have n1:¬ or=oq:=(cX.1 hor).1
 have n2:¬ or=o:=(cX.1 (cX.1 hor).2).1
 have n1':¬ oq=or:=fun h=>n1 h.symm
 have n2':¬ o=or:=fun h=>n2 h.symm
 have n3:¬ oq=o:=h3
 have n3':¬ o=oq:=fun h=>n3 h.symm
 simp only[go_sem,γ,AP]
 refine wp_loop (α:=List Nat) (fun P=>rFr o lu oq lq or n s P.length) (fun P=>((PH.nil.set o (.rows 1 (aJ U))).set oq (.rows 1 (aJ Q))).set or (.rows 1 (aJ (P++bKL (n-P.length) 0)))) (fun P=>P.length≤n∧P=dO P.length (val U/2 ^ s)) (fun P=>n-P.length) []
  ⟨by simp,rfl⟩ ?_ ?_ ?_
 ·unfold rFr
  exact Lq
 ·refine PH.aK (PH.aK (PH.aK PH.nil_le ?_) ?_) ?_<;>simp only[go_sem,n1,n1',n2,n2',n3,n3',bMW]
 rintro P ⟨hP,hD⟩
 simp only[go_sem,γ,AF,UG,rFr]
 by_cases c1:P.length<n
 ·have c1':(P.length:Int)<(n:Nat):=by omega
  obtain⟨k,hk⟩:∃ k,n-P.length=k+1:=⟨n-P.length-1,by omega⟩
  have hin:(aJ (P++bKL (k+1) 0))[P.length]?=some [.int .u32 ((0:Nat):Int)]:=by
   rw[bK _ (by simp)]; simp
  have a0:P.length<U.length:=by omega
  have a1:P.length+1<U.length:=by omega
  have b0:(P.length:Int)<(lu:Nat):=by omega
  have b1:((P.length+1:Nat):Int)<(lu:Nat):=by omega
  have hu0:=hU _ (bKM a0)
  have hu1:=hU _ (bKM a1)
  have e:val U/4294967296 ^ P.length=U[P.length]+4294967296*(U[P.length+1]+4294967296*val (U.drop (P.length+2))):=by
   rw[← sI hU Om,bMH a0,bMH a1]
   rfl
  have hdig:=UY hs e
  have g0:=bK U a0
  have g1:=bK U a1
  generalize hx0:U[P.length]=u0 at *
  generalize hx1:U[P.length+1]=u1 at *
  have e1:IntKind.i64.wrap ((P.length:Int)+1)=((P.length+1:Nat):Int):=dC Om
  have eu0:IntKind.u64.wrap ((u0:Nat):Int)=((u0:Nat):Int):=bD Om
  have eu1:IntKind.u64.wrap ((u1:Nat):Int)=((u1:Nat):Int):=bD Om
  have esh:shift .shl .u64 (u1:Int) 32=some (.int .u64 ((2 ^ 32*u1:Nat):Int)):=IC (s:=32) Om Om
  have e32:(2:Nat) ^ 32=4294967296:=by decide
  have eor:=orI (a:=2 ^ 32*u1) (b:=u0) (n:=2 ^ 32*u1+u0) Om Om (Nat.two_pow_add_eq_or_of_lt Om u1).symm Om
  rw[e32] at esh eor
  have eshr:=btI (x:=4294967296*u1+u0) (s:=s) Om
  have bIR:(aJ (P++bKL (k+1) 0)).set P.length [.int .u32 (((4294967296*u1+u0)/2 ^ s%4294967296:Nat):Int)]=aJ ((P++[(4294967296*u1+u0)/2 ^ s%4294967296])++bKL k 0):=by
   rw[fA,wC]
  simp only[go_sem,γ,c1',UH]
  refine bS .nil eC PH.nil_le ?_
  simp only[go_sem,γ,reduceCtorEq,UI,c1',e1,b0,b1,n2',n3',g0,g1,eu0,eu1,esh,eor,eshr,cC,hk,hin,bIR]
  refine⟨PH.nil_le,?_⟩
  simp only[go_sem,γ,UJ,e1]
  refine aI (P++[(4294967296*u1+u0)/2 ^ s%4294967296]) ⟨by simp; omega,?_⟩ (by simp; omega) ?_ (PH.aK (PH.aK (PH.aK PH.nil_le ?_) ?_) ?_)
  ·rw[bKQ,bKX,tB,← hD,hdig]
  ·rw[bKQ,bKX]
   exact Lq
  ·simp only[go_sem,n2',n3']
  ·simp only[go_sem,n1']
  ·rw[bKQ,bKX,show n-(P.length+1)=k by omega]
   simp only[go_sem]
 ·have e:P.length=n:=by omega
  have c1':¬ (P.length:Int)<(n:Nat):=by omega
  have bKD:bKL (n-P.length) 0=[]:=by rw[show n-P.length=0 by omega]; rfl
  rw[e] at hD
  simp only[go_sem,c1',bKD,bMF]
  refine hK or _ _ n2 n1 ?_ (by simp only[go_sem,n1']) (by simp only[go_sem]; rw[← hD])
  unfold rFr
  rw[e]
  exact Lq
structure ayI (C:Ctx):Prop where
 L:oZ C
 D:axR C
 up:∀ (a:List Nat) (s:Nat),Lim a→s<32→a.length≤1000→aE C 143 [aF a,.int .u64 s] .nil (upR a s)
 short:∀ (a:List Nat) (d:Nat),Lim a→0<d→d<4294967296→a.length≤1000→aE C 140 [aF a,.int .u32 d] .nil (aD (.tup [aF (aG (val a/d)),.int .u32 ((val a%d:Nat):Int)]))
 lengthO:∀ (xs:List Nat) (o:Nat),Lim xs→xs.length≤35184372087808→aE C 138 [.osl o 1 0 xs.length] (PH.nil.set o (.rows 1 (aJ xs))) (fun r H'=>r=.int .i64 (nl (val xs):Nat)∧H'=PH.nil.set o (.rows 1 (aJ xs)))
def beX:Spec:=fun name vs=>match name,vs with
 | 143,[x,.int _ s]=>some ([],fun _=>upR (gY x) s.toNat)
 | 138,[.osl q _ _ _]=>some ([q],fun H0 r H'=>H'=H0∧∀ xs,Lim xs→H0 q=some (.rows 1 (aJ xs))→r=.int .i64 (nl (val xs):Nat))
 | _,_=>none
theorem aQP (a:List Nat) (s:Nat):beX 143 [aF a,.int .u64 s]=some ([],fun _=>upR a s):=by
 show some _=_; rw[dY,bNO]
theorem aLT (a:List Nat) (s:Nat):∀ G:PH,∃ r H',upR a s r H'∧kN G .nil H':=fun G=>by
 obtain⟨o,ho⟩:=G.fresh
 refine⟨_,_,⟨o,rfl,rfl⟩,fun q x hx _=>?_⟩
 rw[bL] at hx
 split at hx
 ·rename_i e; subst e; exact ho
 ·cases hx
theorem NV {xs ys:List Nat} (h:aJ xs=aJ ys):xs=ys:=by
 have:=congrArg gY (show aF xs=aF ys by show PV.sl 1 (aJ xs)=PV.sl 1 (aJ ys); rw[h])
 rwa [dY,dY] at this
theorem asI (q:Nat) (L:List Nat):(PH.nil.set q (.rows 1 (aJ L)))=(PH.nil.set q (.rows 1 (aJ L)))∧∀ xs,Lim xs→(PH.nil.set q (.rows 1 (aJ L))) q=some (.rows 1 (aJ xs))→(PV.int .i64 (nl (val L):Nat))=.int .i64 (nl (val xs):Nat):=by
 refine⟨rfl,fun xs hx e=>?_⟩
 rw[eS] at e
 have:aJ L=aJ xs:=(cS.rows.inj (bNA.inj e)).2
 rw[NV this]
def oO (A B:Nat):PV:=.tup [aF (aG (A/B)),aF (aG (A%B))]
def a2W (a b:List Nat) (s:Nat):PF:=(((PF.nil.set 0 (aF a)).set 1 (aF b)).set 8 (.int .u64 s))
theorem bpK {x s:Nat} (hs:s≤31) (h:x*2 ^ s<4294967296):shift .shl .u32 (x:Int) (s:Int)=some (.int .u32 ((x*2 ^ s:Nat):Int)):=by
 unfold shift
 rw[if_neg Om]
 simp only
 have:min (Int.toNat (s:Int)) IntKind.u32.bits=s:=by
  rw[show IntKind.u32.bits=32 from rfl]; omega
 rw[this,show (x:Int)*2 ^ s=((x*2 ^ s:Nat):Int) by simp,cC,bLS h]
theorem aNO {n i x:Nat} (hx:(bKL n 0)[i]?=some x):x=0:=by
 have:=bNC hx
 rw[List.mem_replicate] at this
 exact this.2
theorem a2Y {C:Ctx} (Lb:ayI C) (A B:Nat) (hB:B≠0) (hA:nl A≤900) (hBl:nl B≤900) :
  xA.wp C (aT DE.res (bZ (oO A B))) (PF.args [aF (aG A),aF (aG B)]) .nil:=by
 have LA:=aU A
 have LB:=aU B
 have vA:=aR A
 have vB:=aR B
 have lA:(aG A).length=nl A:=rfl
 have lB:(aG B).length=nl B:=rfl
 simp only[go_sem,γ,reduceCtorEq,xA,adZ,aeA,DE]
 refine aA (Lb.L.cmp _ _ LA LB Om Om) rfl ?_
 rw[vA,vB]
 by_cases c1:A<B
 ·have hc:dD A B<0:=by simp[dD,c1]
  simp only[go_sem,γ,reduceCtorEq,hc,aeB]
  refine aA (Lb.L.trim _ LA Om) rfl ?_
  rw[vA]
  simp only[go_sem,γ]
  refine aX (vs:=[.aB,aF (aG A)]) (.inr rfl) .nil rfl PH.nil_le ⟨?_,rfl⟩
  rw[oO,bNR c1,bLS c1,fC]
  refine .tup rfl fun j p q hp hq=>?_
  match j with
  | 0=>simp at hp hq; subst hp; subst hq; exact .nil 1
  | 1=>simp at hp hq; subst hp; subst hq; exact .refl _
  | j+2=>simp at hp
 have hc:¬ dD A B<0:=by
  unfold dD
  rw[if_neg c1]
  split<;>decide
 have hB0:0<B:=bMQ hB
 have hnB:nl B≠0:=fun h=>hB (gP.1 h)
 simp only[go_sem,γ,hc,aeC]
 by_cases c2:nl B=1
 ·have hBB:B<4294967296:=by have:=(gV B 1).1 Om; simpa using this
  have hlb:aG B=[B]:=mK hB hBB
  have hr:A%B<B:=bLY _ hB0
  have ew:IntKind.u64.wrap ((A%B:Nat):Int)=((A%B:Nat):Int):=bD Om
  rw[hlb]
  have hsh:=Lb.short (aG A) B LA hB0 hBB Om
  rw[vA] at hsh
  simp only[go_sem,ν,γ,reduceCtorEq,show (((1:Nat):Int)==1)=true from rfl,aeD]
  refine aA hsh rfl ?_
  simp only[go_sem,γ,aeE,ew]
  refine aA (Lb.L.make (A%B) Om) rfl ?_
  simp only[go_sem,γ]
  exact aX (vs:=[aF (aG (A/B)),aF (aG (A%B))]) (.inr rfl) .nil rfl PH.nil_le ⟨.refl _,rfl⟩
 obtain⟨m,hm⟩:∃ m,nl B=m+2:=⟨nl B-2,by omega⟩
 have hAB:nl B≤nl A:=fH Om
 obtain⟨bt,hbt,hbt0⟩:=aKN LB (n:=m+1) (by rw[vB]; exact hm)
 have hml:m+1<(aG B).length:=by omega
 have hbtl:bt<4294967296:=LB bt (bNC hbt)
 have hBv:B=val ((aG B).take (m+1))+4294967296 ^ (m+1)*bt:=by
  have h1:=bX (aG B) hml
  rw[bKZ Om,vB] at h1
  rw[bKU hml] at hbt
  rw[bNA.inj hbt] at h1
  exact h1
 have hBlow:=eN (LB.take (m+1))
 rw[bLB,bMN Om] at hBlow
 have bIR:(aJ (aG B))[m+1]?=some [.int .u32 ((bt:Nat):Int)]:=by
  rw[bK _ hml]
  rw[bKU hml] at hbt
  rw[bNA.inj hbt]
 have i1:IntKind.i64.wrap ((((aG B).length:Nat):Int)-1)=((m+1:Nat):Int):=by rw[wrap_i64 Om Om]; omega
 have hne1:¬ (((aG B).length:Nat):Int)=1:=by omega
 simp only[go_sem,bF hne1,aeF]
 refine wp_loop (α:=Nat) (fun s=>a2W (aG A) (aG B) s) (fun _=>.nil) (fun s=>s≤31∧bt*2 ^ s<4294967296) (fun s=>32-s) 0 ⟨by omega,by simpa using hbtl⟩ ?_ PH.nil_le ?_
 ·unfold a2W
  exact Lq
 rintro s ⟨hs,hbs⟩
 have esh:=bpK hs hbs
 simp only[go_sem,γ,reduceCtorEq,adY,aeG,a2W,i1,bIR,esh]
 refine kV ?_ ?_
 ·intro c3
  have c3':=of_decide_eq_true c3
  have hs30:s<31:=by
   rcases bLD s 31 with h | h
   ·exact h
   ·exfalso
    have h1:2147483648≤2 ^ s:=Nat.pow_le_pow_right (show 0<2 by decide) h
    have h2:1*2 ^ s≤bt*2 ^ s:=bLO _ Om
    omega
  have es:IntKind.u64.wrap ((s:Int)+1)=((s+1:Nat):Int):=by rw[wrap_u64 Om Om]; omega
  simp only[go_sem,γ,reduceCtorEq,aeH,es]
  refine aI (s+1) ⟨by omega,by rw[bMC,← bLE]; omega⟩ Om ?_ PH.nil_le
  exact Lq
 intro c3
 have c3':=of_decide_eq_false c3
 have hs32:s<32:=by omega
 have hp2:0<2 ^ s:=bMZ (by decide)
 have hVlo:2147483648*4294967296 ^ (m+1)≤B*2 ^ s:=by
  have h1:2147483648*4294967296 ^ (m+1)≤(bt*2 ^ s)*4294967296 ^ (m+1):=bLO _ Om
  have h2:(4294967296 ^ (m+1)*bt)*2 ^ s≤B*2 ^ s:=bLO _ Om
  have h3:(4294967296 ^ (m+1)*bt)*2 ^ s=(bt*2 ^ s)*4294967296 ^ (m+1):=by rw[bLE,bLH]
  omega
 have hVhi:B*2 ^ s<4294967296 ^ (m+2):=by
  have h0:(bt+1)*2 ^ s≤4294967296:=by
   have e32:(4294967296:Nat)=2 ^ (32-s)*2 ^ s:=by rw[← Nat.pow_add,show 32-s+s=32 by omega]
   have:bt<2 ^ (32-s):=by
    rcases bLD bt (2 ^ (32-s)) with h | h
    ·exact h
    ·have:=bLO (2 ^ s) h
     omega
   have:=bLO (2 ^ s) (show bt+1≤2 ^ (32-s) from this)
   omega
  have h1:B<(bt+1)*4294967296 ^ (m+1):=by rw[bLM,Nat.one_mul,bLH bt]; omega
  have h2:B*2 ^ s<(bt+1)*4294967296 ^ (m+1)*2 ^ s:=Nat.mul_lt_mul_of_pos_right h1 hp2
  have h3:(bt+1)*4294967296 ^ (m+1)*2 ^ s=(bt+1)*2 ^ s*4294967296 ^ (m+1):=Nat.mul_right_comm _ _ _
  have h4:(bt+1)*2 ^ s*4294967296 ^ (m+1)≤4294967296*4294967296 ^ (m+1):=bLO _ h0
  have h5:4294967296 ^ (m+2)=4294967296*4294967296 ^ (m+1):=by rw[bMC,bLH]
  omega
 have hAlt:A<4294967296 ^ nl A:=(gV A _).1 (bKK _)
 simp only[go_sem]
 refine bS .nil beX PH.nil_le ?_
 simp only[go_sem,γ,reduceCtorEq,TY]
 have ua:=Lb.up (aG A) s LA hs32 Om
 have ub:=Lb.up (aG B) s LB hs32 Om
 refine aQI (aQP (aG A) s) ua rfl (aLT _ _) ?_
 rintro r H' ⟨o,rfl,rfl⟩ -
 rw[PH.kJ,lA,vA]
 refine⟨PH.nil_le,?_⟩
 simp only[go_sem,γ,reduceCtorEq]
 refine aQI (aQP (aG B) s) ub rfl (aLT _ _) ?_
 rintro r H' ⟨o2,rfl,rfl⟩ hap
 rw[PH.kJ,lB,vB,hm]
 refine⟨PH.nil_le,?_⟩
 have hfr:=hap o2 _ (by rw[bL,if_pos rfl]) (by rfl)
 have n21:¬ o2=o:=(cX.1 hfr).1
 have n12:¬ o=o2:=fun h=>n21 h.symm
 have k1:((m+2:Nat):Int)≤((m+2+1:Nat):Int):=by omega
 have k2:IntKind.i64.wrap (((nl A+1:Nat):Int)-((m+2:Nat):Int))=((nl A+1-(m+2):Nat):Int):=by rw[wrap_i64 Om Om]; omega
 obtain⟨lq,hlq⟩:∃ lq,nl A+1-(m+2)=lq:=⟨_,rfl⟩
 have hlu:nl A+1=lq+(m+2):=by omega
 rw[hlq] at k2
 have k3:((lq:Nat):Int)*((4:Nat):Int)≤140737488355328:=by omega
 have k4:((lq:Nat):Int)≤9223372036854775807:=by omega
 have hz:bKL lq [PV.int .u32 0]=aJ (bKL lq 0):=by simp[aJ]
 have k5:m+2-0=m+2:=by omega
 simp only[go_sem,ν,γ,reduceCtorEq,lB,hm,k1,k5,TZ,UA,k2,k3,k4,hz]
 refine aQ fun oq hoq=>?_
 have q2:¬ oq=o2:=(cX.1 hoq).1
 have q1:¬ oq=o:=(cX.1 (cX.1 hoq).2).1
 have q2':¬ o2=oq:=fun h=>q2 h.symm
 have q1':¬ o=oq:=fun h=>q1 h.symm
 have hsn:dO (m+2+1) (B*2 ^ s)=dO (m+2) (B*2 ^ s)++[B*2 ^ s/4294967296 ^ (m+2)%4294967296]:=tB _ _
 have Lv:=kW (m+2) (B*2 ^ s)
 have lv:=kA (m+2) (B*2 ^ s)
 have vv:val (dO (m+2) (B*2 ^ s))=B*2 ^ s:=mO hVhi
 have hvf:(aJ (dO (m+2+1) (B*2 ^ s))).take (m+2)=aJ (dO (m+2) (B*2 ^ s)):=by
  unfold aJ
  rw[← List.map_take,hsn,List.take_append_of_le_length Om,bKZ Om]
 generalize hvv:dO (m+2) (B*2 ^ s)=v at *
 have lvf:(dO (m+2+1) (B*2 ^ s)).length=m+2+1:=kA _ _
 have gtop:∀ i (h:i<v.length),(aJ (dO (m+2+1) (B*2 ^ s)))[i]?=some [.int .u32 ((v[i]:Nat):Int)]:=by
  intro i h
  have h1:(aJ v)[i]?=some [.int .u32 ((v[i]:Nat):Int)]:=bK v h
  rw[← hvf,bNZ Om] at h1
  exact h1
 have g1:=gtop (m+1) Om
 have g0:=gtop m Om
 have htop:2147483648≤v[m+1]:=by
  have h1:=bX v (Om:m+1<v.length)
  rw[bKZ Om,vv] at h1
  have h2:=eN (Lv.take (m+1))
  rw[bLB,bMN Om] at h2
  rcases bLD v[m+1] 2147483648 with h | h
  ·exfalso
   have h3:4294967296 ^ (m+1)*(v[m+1]+1)≤4294967296 ^ (m+1)*2147483648:=bMO _ h
   rw[bKV,Nat.mul_one] at h3
   rw[bLH 2147483648] at hVlo
   omega
  ·exact h
 have ht1:=Lv _ (bKM (Om:m+1<v.length))
 have ht0:=Lv _ (bKM (Om:m<v.length))
 have w1:IntKind.u64.wrap ((v[m+1]:Nat):Int)=((v[m+1]:Nat):Int):=bD Om
 have w0:IntKind.u64.wrap ((v[m]:Nat):Int)=((v[m]:Nat):Int):=bD Om
 have j1:IntKind.i64.wrap (((m+2:Nat):Int)-1)=((m+1:Nat):Int):=by rw[wrap_i64 Om Om]; omega
 have j0:IntKind.i64.wrap (((m+2:Nat):Int)-2)=((m:Nat):Int):=by rw[wrap_i64 Om Om]; omega
 have d1:((m+1:Nat):Int)<((m+2:Nat):Int):=by omega
 have d0:((m:Nat):Int)<((m+2:Nat):Int):=by omega
 have jq:IntKind.i64.wrap ((lq:Int)-1)=(lq:Int)-1:=wrap_i64 Om Om
 simp only[go_sem,γ,reduceCtorEq]
 refine bS .nil eC PH.nil_le ?_
 simp only[go_sem,γ,reduceCtorEq,UB,j1,j0,d1,d0,q2',g1,g0,w1,w0,UC,jq]
 have hUlt:A*2 ^ s<4294967296 ^ (nl A+1):=by
  have h0:2 ^ s≤4294967296:=by
   have:(2:Nat) ^ s≤2 ^ 32:=Nat.pow_le_pow_right (by decide) Om
   simpa using this
  have h1:A*2 ^ s<4294967296 ^ nl A*2 ^ s:=Nat.mul_lt_mul_of_pos_right hAlt hp2
  have h2:4294967296 ^ nl A*2 ^ s≤4294967296 ^ nl A*4294967296:=bMO _ h0
  rw[bMC]; omega
 have LU:=kW (nl A+1) (A*2 ^ s)
 have lU:=kA (nl A+1) (A*2 ^ s)
 have vU:val (dO (nl A+1) (A*2 ^ s))=A*2 ^ s:=mO hUlt
 have hI:mY (A*2 ^ s) (val v) (m+2) (nl A+1) lq lq (dO (nl A+1) (A*2 ^ s)) (bKL lq 0):=by
  refine⟨lU,bNW,LU,tG _,by rw[vU,qI]; omega,?_,fun i x _ hx=>aNO hx⟩
  ·rw[sI LU Om,vU,vv,bND (bMZ (by decide))]
   have h1:A*2 ^ s<4294967296 ^ nl A*2 ^ s:=Nat.mul_lt_mul_of_pos_right hAlt hp2
   have hx:nl A=m+1+lq:=by omega
   have h2:4294967296 ^ nl A=4294967296 ^ (m+1)*4294967296 ^ lq:=by rw[hx,Nat.pow_add]
   have h3:2 ^ s≤2147483648:=by
    have:(2:Nat) ^ s≤2 ^ 31:=Nat.pow_le_pow_right (by decide) hs
    simpa using this
   have h4:4294967296 ^ nl A*2 ^ s≤(2147483648*4294967296 ^ (m+1))*4294967296 ^ lq:=by
    rw[h2,bLH (4294967296 ^ (m+1)*4294967296 ^ lq),← bLE]
    exact bLO _ (bLO _ h3)
   have h5:(2147483648*4294967296 ^ (m+1))*4294967296 ^ lq≤B*2 ^ s*4294967296 ^ lq:=bLO _ hVlo
   omega
 have key:=aGH (C:=C) Lb.D (A*2 ^ s) m (nl A+1) lq o o2 oq s v (dO (m+2+1) (B*2 ^ s)) n21 q1 q2 Lv lv hvf Om htop hlu Om _ hI
 simp only[go_sem,ο] at key
 refine key _ _ _ ?_ (by simp only[go_sem,n12,q1']) (by simp only[go_sem,q2']) Sq ?_
 ·unfold dI
  exact Lq
 clear key
 intro U' Q' F' hI' hF'
 have hu:val U'<val v:=by have:=hI'.r; rwa [bLK] at this
 have hv':=hI'.v
 rw[vv] at hu hv'
 have hVp:0<B*2 ^ s:=by omega
 have hQv:val Q'=A/B:=by
  have:A*2 ^ s/(B*2 ^ s)=val Q':=by
   rw[← hv',Nat.add_mul_div_right _ _ hVp,bNR hu,bLJ]
  rw[← this,Nat.mul_div_mul_right _ _ hp2]
 have hUv:val U'/2 ^ s=A%B:=by
  have:A*2 ^ s%(B*2 ^ s)=val U':=by rw[← hv',Nat.add_mul_mod_self_right,bLS hu]
  rw[← this,Nat.mul_mod_mul_right,Nat.mul_div_cancel _ hp2]
 have g8:=hF' 8 _ (by unfold dI; simp only[go_sem,ο,γ]; rfl)
 have g9:=hF' 9 _ (by unfold dI; simp only[go_sem,ο,γ]; rfl)
 have g11:=hF' 11 _ (by unfold dI; simp only[go_sem,ο,γ]; rfl)
 have g12:=hF' 12 _ (by unfold dI; simp only[go_sem,ο,γ]; rfl)
 have rest:=aGI (C:=C) o (nl A+1) oq lq (m+2) s U' Q' hs32 q1 hI'.limU hI'.lu' Om Om
 simp only[go_sem] at rest
 simp only[go_sem]
 refine rest _ _ g8 g9 g11 g12 ?_
 clear rest
 intro or F2 H2 r1 r2 hF2 hQ2 hR2
 rw[hUv] at hR2
 have k12:=hF2 12 _ (by unfold rFr; simp only[go_sem,γ]; rfl)
 have k19:=hF2 19 _ (by unfold rFr; simp only[go_sem,γ]; rfl)
 have hRlt:A%B<4294967296 ^ (m+2):=by
  have h1:A%B<B:=bLY _ hB0
  have h2:B<4294967296 ^ nl B:=(gV B _).1 (bKK _)
  rw[hm] at h2; omega
 have LR:=kW (m+2) (A%B)
 have lR:=kA (m+2) (A%B)
 have vR:val (dO (m+2) (A%B))=A%B:=mO hRlt
 have nQ:=eZ hI'.limQ
 have nR:=eZ LR
 have e1:=hI'.lq'
 generalize hRR:dO (m+2) (A%B)=R at *
 simp only[go_sem]
 refine bS .nil beX PH.nil_le ?_
 simp only[go_sem,γ,UK,k12]
 have LOq:=Lb.lengthO Q' oq hI'.limQ Om
 rw[e1] at LOq
 have LOr:=Lb.lengthO R or LR Om
 rw[lR] at LOr
 refine WF (o:=oq) (x:=.rows 1 (aJ Q')) (v:=.int .i64 (nl (val Q'):Nat)) rfl hQ2 LOq (asI oq Q') (fun r H' hr=>⟨hr.2 Q' hI'.limQ (by rw[eS]),hr.1⟩) rfl PH.nil_le ?_
 have c4:((nl (val Q'):Nat):Int)≤(lq:Nat):=by omega
 simp only[go_sem,ν,γ,reduceCtorEq,c4,k19,Nat.sub_zero]
 refine WF (o:=or) (x:=.rows 1 (aJ R)) (v:=.int .i64 (nl (val R):Nat)) rfl hR2 LOr (asI or R) (fun r H' hr=>⟨hr.2 R LR (by rw[eS]),hr.1⟩) rfl PH.nil_le ?_
 have c5:((nl (val R):Nat):Int)≤((m+2:Nat):Int):=by omega
 simp only[go_sem,ν,γ,reduceCtorEq,c5]
 refine baK (o1:=oq) (o2:=or) (s1:=1) (s2:=1) (k1:=nl (val Q')) (k2:=nl (val R)) (rs1:=aJ Q') (rs2:=aJ R) (.inr rfl) (fun h=>r2 h.symm) rfl rfl hQ2 hR2 (by rw[bU]; exact nQ) (by rw[bU]; exact nR) (pU _ _ _ _) rfl ⟨?_,rfl⟩
 have t1:(aJ Q').take (nl (val Q'))=aJ (aG (A/B)):=by
  have:=hJ hI'.limQ
  rw[hQv] at this ⊢
  exact this
 have t2:(aJ R).take (nl (val R))=aJ (aG (A%B)):=by
  have:=hJ LR
  rw[vR] at this ⊢
  exact this
 rw[t1,t2]
 exact .refl _
def bfU (a b:Nat):PF:=((PF.nil.set 0 (aF (aG a))).set 1 (aF (aG b)))
theorem boJ {C:Ctx} (L:oZ C) (hdiv:∀ A B:Nat,B≠0→nl A≤900→nl B≤900→aE C 136 [aF (aG A),aF (aG B)] .nil (aD (oO A B))) (a b:List Nat) (ha:Lim a) (hb:Lim b) (la:a.length≤35184372087808) (lb:b.length≤35184372087808) :
  NP.wp C (aT aGK.res (bZ (if dS (val a) (val b) then .tup [aF [],.int .i64 2] else .tup [aF (aG (bKN (val a) (val b))),.int .i64 0]))) (PF.args [aF a,aF b]) .nil:=by
 simp only[go_sem,reduceCtorEq,NP,aUL,aUM,aGK]
 refine aA (L.large a ha la) rfl ?_
 by_cases c1:nl (val a)>512
 ·simp only[go_sem,γ,c1,amD]
  rw[if_pos (by simp[dS,c1])]
  exact eF rfl
 simp only[go_sem,γ,c1]
 refine aA (L.large b hb lb) rfl ?_
 by_cases c2:nl (val b)>512
 ·simp only[go_sem,γ,reduceCtorEq,c2,amD]
  rw[if_pos (by simp[dS,c2])]
  exact eF rfl
 rw[if_neg (by simp[dS,c1,c2])]
 simp only[go_sem,γ,reduceCtorEq,c2,aUN]
 refine aA (L.trim a ha la) rfl ?_
 simp only[go_sem,γ]
 refine aA (L.trim b hb lb) rfl ?_
 simp only[go_sem,γ,reduceCtorEq]
 refine wp_loop (α:=Nat × Nat) (fun t=>bfU t.1 t.2) (fun _=>.nil) (fun t=>bKN t.1 t.2=bKN (val a) (val b)∧nl t.1≤512∧nl t.2≤512) (fun t=>t.2) (val a,val b) ⟨rfl,by simp only; omega,by simp only; omega⟩ ?_ PH.nil_le ?_
 ·unfold bfU
  exact Lq
 rintro⟨x,y⟩ ⟨hg,hx,hy⟩
 simp only at hg hx hy
 simp only[go_sem,γ,reduceCtorEq,aUK,aUO,bfU,aZ]
 by_cases c3:y=0
 ·subst c3
  have:¬ ((nl 0:Nat):Int)>0:=by rw[wA]; decide
  simp only[go_sem,γ,reduceCtorEq,this,aUR]
  refine aX (vs:=[aF (aG x),.int .i64 0]) (.inr rfl) .nil rfl PH.nil_le ⟨?_,rfl⟩
  rw[← hg,Nat.gcd_zero_right]
  exact .refl _
 ·have h0:nl y≠0:=fun h=>c3 (gP.1 h)
  have:((nl y:Nat):Int)>0:=by omega
  simp only[go_sem,γ,reduceCtorEq,this,aUP]
  refine aA (hdiv x y c3 Om Om) rfl ?_
  simp only[go_sem,γ,reduceCtorEq,oO,aUQ]
  have hlt:x%y<y:=bLY _ (bMQ c3)
  refine aI (y,x%y) ⟨?_,hy,?_⟩ hlt ?_ PH.nil_le
  ·simp only
   rw[← hg,Nat.gcd_comm y,← Nat.gcd_rec y x,Nat.gcd_comm]
  ·have:=fH (Nat.le_of_lt hlt)
   simp only; omega
  ·exact Lq
def lD (A B:Nat):PV:=if dS A B then .tup [aF [],aF [],.int .i64 2] else if B=0 then .tup [aF [],aF [],.int .i64 3] else .tup [aF (aG (A/B)),aF (aG (A%B)),.int .i64 0]
def a2X:Spec:=fun name vs=>match name,vs with
 | 138,[x]=>some ([],fun _=>aD (.int .i64 (nl (val (gY x)):Nat)))
 | 136,[x,y]=>some ([],fun _=>aD (oO (val (gY x)) (val (gY y))))
 | _,_=>none
theorem NM (xs:List Nat):a2X 138 [aF xs]=some ([],fun _=>aD (.int .i64 (nl (val xs):Nat))):=by
 show some _=_; rw[dY]
theorem aGG (A B:Nat):a2X 136 [aF (aG A),aF (aG B)]=some ([],fun _=>aD (oO A B)):=by
 show some _=_; rw[dY,dY,aR,aR]
theorem pW {res:List dW} {F:PF} {H:PH} {e:Int} (h:dW.evs F H res=some [.aB,.aB,.int .i64 e]):aT res (bZ (.tup [aF [],aF [],.int .i64 e])) .ret F H:=by
 refine aX (.inr rfl) .nil h PH.nil_le ⟨?_,rfl⟩
 refine .tup rfl fun j p q hp hq=>?_
 match j with
 | 0=>simp at hp hq; subst hp; subst hq; exact .nil 1
 | 1=>simp at hp hq; subst hp; subst hq; exact .nil 1
 | 2=>simp at hp hq; subst hp; subst hq; exact .refl _
 | j+3=>simp at hp
theorem boG {C:Ctx} (L:oZ C) (hdiv:∀ A B:Nat,B≠0→nl A≤900→nl B≤900→aE C 136 [aF (aG A),aF (aG B)] .nil (aD (oO A B))) (a b:List Nat) (ha:Lim a) (hb:Lim b) (la:a.length≤35184372087808) (lb:b.length≤35184372087808) :
  NN.wp C (aT aGF.res (bZ (lD (val a) (val b)))) (PF.args [aF a,aF b]) .nil:=by
 simp only[go_sem,reduceCtorEq,NN,aUE,aUF,aGF]
 refine aA (L.large a ha la) rfl ?_
 by_cases c1:nl (val a)>512
 ·simp only[go_sem,γ,c1,amB]
  rw[show lD (val a) (val b)=.tup [aF [],aF [],.int .i64 2] by simp[lD,dS,c1]]
  exact pW rfl
 simp only[go_sem,γ,c1]
 refine aA (L.large b hb lb) rfl ?_
 by_cases c2:nl (val b)>512
 ·simp only[go_sem,γ,reduceCtorEq,c2,amB]
  rw[show lD (val a) (val b)=.tup [aF [],aF [],.int .i64 2] by simp[lD,dS,c2]]
  exact pW rfl
 simp only[go_sem,γ,reduceCtorEq,c2,aUG]
 refine aA (L.length b hb lb) rfl ?_
 by_cases c3:val b=0
 ·have:((nl (val b):Nat):Int)=0:=by rw[c3,wA]; rfl
  simp only[go_sem,γ,bT this,aUH]
  rw[show lD (val a) (val b)=.tup [aF [],aF [],.int .i64 3] by simp[lD,dS,c1,c3,wA]]
  exact pW rfl
 have h0:nl (val b)≠0:=fun h=>c3 (gP.1 h)
 rw[show lD (val a) (val b)=.tup [aF (aG (val a/val b)),aF (aG (val a%val b)),.int .i64 0] by simp[lD,dS,c1,c2,c3]]
 simp only[go_sem,γ,bF (show ((nl (val b):Nat):Int)≠0 by omega)]
 refine bS .nil a2X PH.nil_le ?_
 simp only[go_sem,reduceCtorEq,aUI]
 have h1:=eZ ha
 have h2:=eZ hb
 have h1':((nl (val a):Nat):Int)≤(a.length:Nat):=by omega
 have h2':((nl (val b):Nat):Int)≤(b.length:Nat):=by omega
 refine bQ (NM a) (L.length a ha la) rfl PH.nil_le ?_
 simp only[go_sem,ν,γ,reduceCtorEq,h1',or_true,bLK,hJ ha]
 refine bQ (NM b) (L.length b hb lb) rfl PH.nil_le ?_
 simp only[go_sem,ν,γ,reduceCtorEq,h2',or_true,bLK,hJ hb]
 refine bQ (aGG (val a) (val b)) (hdiv _ _ c3 Om Om) rfl PH.nil_le ?_
 simp only[go_sem,γ,oO,aUJ]
 exact aX (.inr rfl) .nil rfl PH.nil_le ⟨.refl _,rfl⟩
def acB:Rg:=[iA 6 (.alloc [(.bool false),.aB,.aB]),iI 7 0]
def acC:Rg:=[iM 11 1,iM 12 2,iK2 13 131 11 12,iM 10 13,iE 14 10 0,iE 15 10 1,iM 8 14,iM 9 15]
def acD:Rg:=[iM 16 8,iK 17 128 16,iC 18 .gtr 17 1]
def acE:Rg:=[iM 20 1,iM 21 8,iK2 22 130 20 21,iM 19 22,iE 23 19 0,iE 24 19 1,iE 25 19 2,iM 1 23]
def acF:Rg:=[iM 27 2,iM 28 8,iK2 29 130 27 28,iM 26 29,iE 30 26 0,iE 31 26 1,iE 32 26 2,iM 2 30]
def FX:Rg:=[iM 33 1,iK 34 128 33,iC 35 .gtr 34 4096,iM 36 35,gM 37 2 36 false,gK 38 128 37 36 false,gC 39 .gtr 38 4096 36 false,iQ 40 36 39]
def uQ:Rg:=[iA 41 (.build [(.bool false),.aB,.aB] []),iS 3 6 41,iI 7 2]
def FY:Rg:=[iM 42 0,iM 43 42,gM 44 1 43 true,gK 45 128 44 43 true,gC 46 .gtr 45 0 43 true,iP 47 43 46,iM 48 1,iK 49 135 48,iM 50 2,iK 51 135 50,iA 52 (.build [(.bool false),.aB,.aB] [(0,1,(Tm 47)),(1,1,(Tm 49)),(2,1,(Tm 51))]),iS 3 6 52,iI 7 0]
def wO:aC:=(sq acB (.seq (sq acC (sq acD (.cond (Tm 18) (sq acE (.region acF)) .skip))) (.seq (sq FX (.cond (Tm 40) (sq uQ .ret) .skip)) (sq FY .ret))))
def a1O:List Nat:=[]
def nS:aW:=⟨3,53,wO,[.cell 6 (some 3),.tmp 7]⟩
def apB:Rg:=[iZ 4]
def apC:Rg:=[iM 8 0,iM 9 1,iK2 10 133 8 9,iM 7 10,iE 11 7 0,iE 12 7 1,iM 5 11,iM 6 12]
def apD:Rg:=[iM 13 5,iM 4 13]
def zW:aC:=(sq apB (sq apC (sq apD .ret)))
def a7U:List Nat:=[]
def MQ:aW:=⟨2,14,zW,[.tmp 4]⟩
def aBG:Rg:=[iA 1 (.box true (Tm 0)),iT 2 false]
def aBH:Rg:=[iF 3 1 1,iL 4 3,iK 5 128 4,iC 6 .eql 5 0,iM 2 6]
def GA:aC:=(sq aBG (sq aBH .ret))
def bfN:List Nat:=[1]
def acN:aW:=⟨1,7,GA,[.tmp 2]⟩
def aAZ:Rg:=[iA 4 (.alloc [(.bool false),.aB,.aB]),iI 5 0]
def aBA:Rg:=[iM 6 1,iC 7 .eql 6 0]
def aBB:Rg:=[iA 8 (.build [(.bool false),.aB,.aB] []),iS 3 4 8,iI 5 3]
def aBC:Rg:=[iM 9 0,iC 10 .lss 9 0,iM 11 1,iC 12 .lss 11 0,iA 13 (.eqb true (Tm 10) (Tm 12)),iM 14 0,iK 15 119 14,iM 16 1,iK 17 119 16,iA 18 (.call 120 [(Tm 13),(Tm 15),(Tm 17)]),iE 19 18 0,iE 20 18 1,iS 3 4 19,iM 5 20]
def FZ:aC:=(sq aAZ (.seq (sq aBA (.cond (Tm 7) (sq aBB .ret) .skip)) (sq aBC .ret)))
def bfL:List Nat:=[]
def SJ:aW:=⟨2,21,FZ,[.cell 4 (some 3),.tmp 5]⟩
def aQT:Rg:=[iZ 2]
def aQU:Rg:=[iM 3 0,iC 4 .lss 3 0]
def aQV:Rg:=[iM 5 0,iA 6 (.conv .u64 (Tm 5)),iA 7 (.un .neg (Tm 6)),iK 8 132 7,iM 2 8]
def aQW:Rg:=[iM 9 0,iA 10 (.conv .u64 (Tm 9)),iK 11 132 10,iM 2 11]
def MG:aC:=(sq aQT (.seq (sq aQU (.cond (Tm 4) (sq aQV .ret) .skip)) (sq aQW .ret)))
def bmD:List Nat:=[]
def aAP:aW:=⟨1,12,MG,[.tmp 2]⟩
def apE:Rg:=[iA 1 (.box true (Tm 0)),iT 2 false]
def apF:Rg:=[iF 4 2 1,iL 5 4,iK 6 128 5,iM 3 6]
def yG:Rg:=[iM 7 3,iC 8 .gtr 7 0,iM 9 8,gM 10 3 9 true,gC 11 .leq 10 4096 9 true,iP 12 9 11,iM 13 12,gF 14 1 1 13 true,gL 15 14 13 true,gK 16 128 15 13 true,gC 17 .leq 16 4096 13 true,iP 18 13 17,iM 2 18]
def zX:aC:=(sq apE (sq apF (sq yG .ret)))
def a7W:List Nat:=[1]
def MR:aW:=⟨1,19,zX,[.tmp 2]⟩
def acI:Rg:=[iA 1 (.box true (Tm 0)),iA 2 (.alloc [(.bool false),.aB,.aB]),iI 3 0]
def acJ:Rg:=[iO 4 3 1,iK 5 118 4,iA 6 (.un .not (Tm 5))]
def acK:Rg:=[iA 7 (.build [(.bool false),.aB,.aB] []),iS 3 2 7,iI 3 1]
def acL:Rg:=[iF 8 0 1,iL 9 8,iF 10 1 1,iL 11 10,iF 12 2 1,iL 13 12,iA 14 (.call 120 [(Tm 9),(Tm 11),(Tm 13)]),iE 15 14 0,iE 16 14 1,iS 3 2 15,iM 3 16]
def wP:aC:=(sq acI (.seq (sq acJ (.cond (Tm 6) (sq acK .ret) .skip)) (sq acL .ret)))
def a1R:List Nat:=[1]
def vP:aW:=⟨1,17,wP,[.cell 2 (some 3),.tmp 3]⟩
def aRG:Rg:=[iA 2 (.box true (Tm 0)),iA 3 (.box true (Tm 1)),iI 4 0,iI 5 0]
def aRH:Rg:=[iO 9 3 2,iK 10 118 9,iA 11 (.un .not (Tm 10)),iM 12 11,gO 13 3 3 12 false,gK 14 118 13 12 false,iG 15 (.un .not (Tm 14)) 12 false,iQ 16 12 15]
def alE:Rg:=[iI 4 0,iI 5 1]
def aRI:Rd:=[(iF 17 1 2,false),(iL 18 17,false),(iF 19 2 3,false),(iL 20 19,false),(iK2 21 121 18 20,true),(iF 22 1 3,true),(iL 23 22,true),(iF 24 2 2,true),(iL 25 24,true),(iK2 26 121 23 25,true),(iK2 27 129 21 26,true),(iM 6 27,false)]
def aRJ:Rd:=[(iF 28 0 2,false),(iL 29 28,false),(iM 30 29,false),(gO 31 3 2 30 true,false),(gK 32 122 31 30 true,true),(iG 33 (.un .not (Tm 32)) 30 true,true),(iP 34 30 33,true),(iF 35 0 3,true),(iL 36 35,true),(iM 37 36,false),(gO 38 3 3 37 true,false),(gK 39 122 38 37 true,true),(iG 40 (.un .not (Tm 39)) 37 true,false),(iP 41 37 40,false),(iM 7 34,false),(iM 8 41,false)]
def vO:Rg:=[iM 43 7,iM 44 43,gM 45 8 44 true,iP 46 44 45,iM 42 46]
def alF:Rg:=[iM 47 6,iA 48 (.un .neg (Tm 47)),iM 4 48,iI 5 0]
def CU:Rg:=[iM 50 7,iM 49 50]
def alG:Rg:=[iI 4 (-1),iI 5 0]
def SG:Rg:=[iM 52 8,iM 51 52]
def WN:Rg:=[iI 4 1,iI 5 0]
def WO:Rg:=[iM 53 6,iM 4 53,iI 5 0]
def MJ:aC:=(sq aRG (.seq (sq aRH (.cond (Tm 16) (sq alE .ret) .skip)) (dq aRI (dq aRJ (.seq (.block 0 (sq vO (.cond (Tm 42) (sq alF .ret) (sq CU (.cond (Tm 49) (sq alG .ret) (sq SG (.cond (Tm 51) (sq WN .ret) .skip))))))) (sq WO .ret))))))
def bmH:List Nat:=[2,3]
def aAS:aW:=⟨2,54,MJ,[.tmp 4,.tmp 5]⟩
def aQX:Rg:=[iA 2 (.box true (Tm 0)),iA 3 (.box true (Tm 1)),iA 4 (.alloc [(.bool false),.aB,.aB]),iI 5 0]
def aQY:Rg:=[iO 15 3 2,iK 16 118 15,iA 17 (.un .not (Tm 16)),iM 18 17,gO 19 3 3 18 false,gK 20 118 19 18 false,iG 21 (.un .not (Tm 20)) 18 false,iQ 22 18 21]
def alD:Rg:=[iA 23 (.build [(.bool false),.aB,.aB] []),iS 3 4 23,iI 5 1]
def aQZ:Rd:=[(iF 24 1 2,false),(iL 25 24,false),(iF 26 2 3,false),(iL 27 26,false),(iK2 28 121 25 27,true),(iF 29 1 3,true),(iL 30 29,true),(iF 31 2 2,true),(iL 32 31,true),(iK2 33 121 30 32,true),(iF 34 2 2,true),(iL 35 34,true),(iF 36 2 3,true),(iL 37 36,true),(iK2 38 121 35 37,true),(iM 6 28,false),(iM 7 33,false),(iM 8 38,false)]
def aRA:Rg:=[iF 39 0 2,iL 40 39,iF 41 0 3,iL 42 41,iA 43 (.eqb false (Tm 40) (Tm 42))]
def aRB:Rg:=[iM 45 6,iM 46 7,iK2 47 127 45 46,iM 44 47,iE 48 44 0,iE 49 44 1,iM 9 48,iM 10 49]
def aRC:Rg:=[iF 50 0 2,iL 51 50,iM 52 9,iM 53 8,iA 54 (.call 120 [(Tm 51),(Tm 52),(Tm 53)]),iE 55 54 0,iE 56 54 1,iS 3 4 55,iM 5 56]
def aRD:Rg:=[iM 57 6,iM 58 7,iK2 59 129 57 58,iC 60 .geq 59 0]
def aRE:Rg:=[iM 62 6,iM 63 7,iK2 64 134 62 63,iM 61 64,iE 65 61 0,iE 66 61 1,iM 11 65,iM 12 66]
def aRF:Rg:=[iF 67 0 2,iL 68 67,iM 69 11,iM 70 8,iA 71 (.call 120 [(Tm 68),(Tm 69),(Tm 70)]),iE 72 71 0,iE 73 71 1,iS 3 4 72,iM 5 73]
def aAQ:Rg:=[iM 75 7,iM 76 6,iK2 77 134 75 76,iM 74 77,iE 78 74 0,iE 79 74 1,iM 13 78,iM 14 79]
def aAR:Rg:=[iF 80 0 3,iL 81 80,iM 82 13,iM 83 8,iA 84 (.call 120 [(Tm 81),(Tm 82),(Tm 83)]),iE 85 84 0,iE 86 84 1,iS 3 4 85,iM 5 86]
def MI:aC:=(sq aQX (.seq (sq aQY (.cond (Tm 22) (sq alD .ret) .skip)) (dq aQZ (.seq (sq aRA (.cond (Tm 43) (sq aRB (sq aRC .ret)) .skip)) (.seq (sq aRD (.cond (Tm 60) (sq aRE (sq aRF .ret)) .skip)) (sq aAQ (sq aAR .ret)))))))
def bmF:List Nat:=[2,3]
def MH:aW:=⟨2,87,MI,[.cell 4 (some 3),.tmp 5]⟩
def aRN:Rg:=[iA 2 (.alloc [(.bool false),.aB,.aB]),iI 3 0]
def aRO:Rg:=[iA 9 (.call 132 [(.const (.int .u64 1))]),iA 10 (.build [(.bool false),.aB,.aB] [(2,1,(Tm 9))]),iA 4 (.alloc [(.bool false),.aB,.aB]),iS 3 4 10]
def aRP:Rg:=[iM 11 0,iN 12 11,iI 13 0]
def aRQ:Rg:=[iB 14 .lss 13 12]
def aRR:Rg:=[iX 15 3 11 13,iO 16 3 15,iA 6 (.alloc [(.bool false),.aB,.aB]),iS 3 6 16]
def aRS:Rg:=[iO 18 3 4,iO 19 3 6,iK2 20 113 18 19,iM 17 20,iE 21 17 0,iE 22 17 1,iA 7 (.alloc [(.bool false),.aB,.aB]),iS 3 7 21,iM 8 22]
def alH:Rg:=[iM 23 8,iC 24 .neq 23 0]
def aRT:Rg:=[iA 25 (.build [(.bool false),.aB,.aB] []),iM 26 8,iS 3 2 25,iM 3 26]
def aRU:Rg:=[iO 27 3 7,iS 3 4 27]
def aRV:Rg:=[iC 28 .add 13 1,iM 13 28]
def aBF:aC:=(sq aRQ (.seq (.cond (Tm 14) .skip (.exit 0)) (.seq (.block 1 (sq aRR (sq aRS (.seq (sq alH (.cond (Tm 24) (sq aRT .ret) .skip)) (.region aRU))))) (.region aRV))))
def WT:Rg:=[iO 29 3 4,iS 3 2 29,iI 3 0]
def MP:aC:=(sq aRN (sq aRO (.seq (sq aRP (.block 0 (.loop aBF))) (sq WT .ret))))
def bmN:List Nat:=[]
def WS:aW:=⟨1,30,MP,[.cell 2 (some 3),.tmp 3]⟩
theorem CoL.nil:CoL [] []:=.refl _
theorem CoL.cons {p q:PV} {ps qs:List PV} (h:Co p q) (hs:CoL ps qs):CoL (p::ps) (q::qs) :=
 ⟨by simp[hs.len],fun j a b ha hb=>by
  cases j with
  | zero=>simp at ha hb; subst ha; subst hb; exact h
  | succ j=>exact hs.at_ j a b (by simpa using ha) (by simpa using hb)⟩
theorem CoL.agg {ps qs:List PV} (h:CoL ps qs):Co (.agg ps) (.agg qs):=.agg h.len h.at_
theorem CoL.tup {ps qs:List PV} (h:CoL ps qs):Co (.tup ps) (.tup qs):=.tup h.len h.at_
structure qM (C:Ctx):Prop extends oZ C where
 bits:∀ xs,Lim xs→xs.length≤35184372087808→aE C 128 [aF xs] .nil (aD (.int .i64 (cE (val xs):Nat)))
 add:∀ xs ys,Lim xs→Lim ys→xs.length≤35184372087808→ys.length≤35184372087808→aE C 127 [aF xs,aF ys] .nil (aD (opV (dS (val xs) (val ys)) (val xs+val ys)))
 sub:∀ xs ys,Lim xs→Lim ys→xs.length≤35184372087808→ys.length≤35184372087808→aE C 134 [aF xs,aF ys] .nil (aD (pO (val xs) (val ys)))
 mul:∀ xs ys,Lim xs→Lim ys→xs.length≤35184372087808→ys.length≤35184372087808→aE C 133 [aF xs,aF ys] .nil (aD (opV (dS (val xs) (val ys)) (val xs*val ys)))
 gcd:∀ xs ys,Lim xs→Lim ys→xs.length≤35184372087808→ys.length≤35184372087808→aE C 131 [aF xs,aF ys] .nil (aD (if dS (val xs) (val ys) then .tup [aF [],.int .i64 2] else .tup [aF (aG (bKN (val xs) (val ys))),.int .i64 0]))
 div:∀ xs ys,Lim xs→Lim ys→xs.length≤35184372087808→ys.length≤35184372087808→aE C 130 [aF xs,aF ys] .nil (aD (lD (val xs) (val ys)))
theorem gI {a b:Nat} (ha:nl a≤512) (hb:nl b≤512):dS a b=false:=by
 simp[dS]; omega
theorem kI {a b m n:Nat} (ha:nl a≤m) (hb:nl b≤n):nl (a*b)≤m+n:=by
 rw[gV] at ha hb ⊢
 rw[Nat.pow_add]
 by_cases h:b=0
 ·subst h; exact Nat.mul_pos (bMZ (by decide)) (bMZ (by decide))
 ·calc a*b<4294967296 ^ m*b:=Nat.mul_lt_mul_of_pos_right ha (bMQ h)
   _≤4294967296 ^ m*4294967296 ^ n:=bMO _ (Nat.le_of_lt hb)
theorem xI {n:Nat} (h:nl n≤512):szV n=.tup [aF (aG n),.int .i64 0]:=by
 have:¬ nl n>512:=by omega
 simp[szV,szL,szE,this]
theorem a7T {C:Ctx} (L:qM C) (a b:List Nat) (ha:Lim a) (hb:Lim b) (la:a.length≤35184372087808) (lb:b.length≤35184372087808) (na:nl (val a)≤256) (nb:nl (val b)≤256) :
  zW.wp C (aT MQ.res (aD (aF (aG (val a*val b))))) (PF.args [aF a,aF b]) .nil:=by
 simp only[go_sem,γ,reduceCtorEq,zW,apB,apC,MQ]
 refine aA (L.mul a b ha hb la lb) rfl ?_
 have:=kI na nb
 rw[gI Om Om,opV,xI Om]
 simp only[go_sem,γ,reduceCtorEq,apD]
 refine aL (.inr rfl) rfl ?_
 rfl
abbrev eA (neg:Bool) (a b:List Nat):List PV:=[.bool neg,aF a,aF b]
theorem bfM {C:Ctx} (L:qM C) (neg:Bool) (a b:List Nat) (ha:Lim a) (la:a.length≤35184372087808) :
  GA.wp C (aT acN.res (aD (.bool (decide (val a=0))))) (PF.args [.agg (eA neg a b)]) .nil:=by
 simp only[go_sem,δ,γ,θ,GA,aBG,aBH,acN]
 refine aA (L.bits a ha la) rfl ?_
 simp only[go_sem,γ]
 refine aL (.inr rfl) rfl ?_
 have:=@jF (val a)
 by_cases c:val a=0
 ·rw[bT Om,decide_eq_true c]; rfl
 ·rw[bF Om,decide_eq_false c]; rfl
def cN (a b:Nat):Bool:=decide (0<cE b)&&decide (cE b≤4096)&&decide (cE a≤4096)
theorem a7V {C:Ctx} (L:qM C) (neg:Bool) (a b:List Nat) (ha:Lim a) (hb:Lim b) (la:a.length≤35184372087808) (lb:b.length≤35184372087808) :
  zX.wp C (aT MR.res (aD (.bool (cN (val a) (val b))))) (PF.args [.agg (eA neg a b)]) .nil:=by
 simp only[go_sem,γ,zX,apE,apF,MR]
 refine aA (L.bits b hb lb) rfl ?_
 by_cases c1:0<cE (val b)
 ·have c1':((cE (val b):Nat):Int)>0:=by omega
  by_cases c2:cE (val b)≤4096
  ·have c2':((cE (val b):Nat):Int)≤4096:=by omega
   simp only[go_sem,δ,γ,θ,yG,c1',c2']
   refine aA (L.bits a ha la) rfl ?_
   simp only[go_sem,γ]
   refine aL (.inr rfl) rfl ?_
   show PV.bool (decide _)=_
   rw[cN,decide_eq_true c1,decide_eq_true c2,bKS,bKS]
   congr 1
   rw[decide_eq_decide]
   omega
  ·have c2':¬ ((cE (val b):Nat):Int)≤4096:=by omega
   simp only[go_sem,γ,reduceCtorEq,yG,c1',c2']
   refine aL (.inr rfl) rfl ?_
   show PV.bool _=_
   simp[cN,c1,c2]
 ·have c1':¬ ((cE (val b):Nat):Int)>0:=by omega
  simp only[go_sem,γ,reduceCtorEq,yG,c1']
  refine aL (.inr rfl) rfl ?_
  show PV.bool _=_
  simp[cN,c1]
theorem bmC {C:Ctx} (L:qM C) (v:Int) (h1:-9223372036854775808≤v) (h2:v≤9223372036854775807) :
  MG.wp C (aT aAP.res (aD (aF (aG v.natAbs)))) (PF.args [.int .i64 v]) .nil:=by
 simp only[go_sem,γ,reduceCtorEq,MG,aQT,aQU,aAP]
 by_cases c:v<0
 ·have e:IntKind.u64.wrap (0-IntKind.u64.wrap v)=((v.natAbs:Nat):Int):=by
   rw[fI,fI]; omega
  simp only[go_sem,γ,reduceCtorEq,c,aQV,e]
  refine aA (L.make v.natAbs Om) rfl ?_
  simp only[go_sem,γ]
  refine aL (.inr rfl) rfl ?_
  rfl
 ·have e:IntKind.u64.wrap v=((v.natAbs:Nat):Int):=by
   rw[fI]; omega
  simp only[go_sem,γ,reduceCtorEq,c,aQW,e]
  refine aA (L.make v.natAbs Om) rfl ?_
  simp only[go_sem,γ]
  refine aL (.inr rfl) rfl ?_
  rfl
abbrev yF (e:Int):PV:=.tup [.agg (eA false [] []),.int .i64 e]
abbrev a1S (neg:Bool) (a b:Nat):PV:=.tup [.agg (eA neg (aG a) (aG b)),.int .i64 0]
def HC (neg:Bool) (a b:Nat):PV :=
 if cE (a/bKN a b)>4096∨cE (b/bKN a b)>4096 then yF 2 else a1S (neg&&decide (a/bKN a b≠0)) (a/bKN a b) (b/bKN a b)
theorem gJ {res:List dW} {F:PF} {H:PH} {e:Int} (h:dW.evs F H res=some [.agg [.bool false,.aB,.aB],.int .i64 e]):aT res (bZ (yF e)) .ret F H :=
 aX (.inr rfl) .nil h PH.nil_le ⟨CoL.tup (.cons (CoL.agg (.cons (.refl _) (.cons (.nil 1) (.cons (.nil 1) .nil)))) (.cons (.refl _) .nil)),rfl⟩
theorem azK {n:Nat}:cE n>1↔n>1:=by
 have:=kL n 1
 omega
theorem aeI {a n:Nat} (g:Nat) (h:nl a≤n):nl (a/g)≤n:=bNF (fH (Nat.div_le_self _ _)) h
theorem MM {C:Ctx} (L:qM C) (neg:Bool) (a b:List Nat) (ha:Lim a) (hb:Lim b) (la:a.length≤35184372087808) (lb:b.length≤35184372087808) (o:Nat) (F:PF) (H:PH)
  (f0:F 0=some (.bool neg)) (f1:F 1=some (aF a)) (f2:F 2=some (aF b)) (f6:F 6=some (.ptr o 3 0 0)) (f7:F 7=some (.int .i64 0)) (hH:H o=some (.rows 3 [[.bool false,.aB,.aB]])) :
  aC.wp C (.seq (.seq (.region FX) (.cond (.tmp 40) (.seq (.region uQ) .ret) .skip)) (.seq (.region FY) .ret)) (aT nS.res (bZ (if cE (val a)>4096∨cE (val b)>4096 then yF 2 else a1S (neg&&decide (val a≠0)) (val a) (val b)))) F H:=by
 have fin:∀ (r:List (List PV)) F H,F 6=some (.ptr o 3 0 0)→F 7=some (.int .i64 2)→H o=some (.rows 3 [[.bool false,.aB,.aB]])→aT nS.res (bZ (yF 2)) .ret F H:=by
  intro r F H h6 h7 h
  refine gJ ?_
  simp only[go_sem,δ,nS,h6,h7,h]
 simp only[go_sem,FX,f1]
 refine aA (L.bits a ha la) rfl ?_
 by_cases c1:cE (val a)>4096
 ·have c1':((cE (val a):Nat):Int)>4096:=by omega
  rw[if_pos (.inl c1)]
  simp only[go_sem,δ,γ,c1',uQ,f6,hH]
  exact fin [] _ _ (by simp only[go_sem,γ,f6]) rfl Sq
 ·have c1':¬ ((cE (val a):Nat):Int)>4096:=by omega
  simp only[go_sem,γ,c1',f2]
  refine aA (L.bits b hb lb) rfl ?_
  by_cases c2:cE (val b)>4096
  ·have c2':((cE (val b):Nat):Int)>4096:=by omega
   rw[if_pos (.inr c2)]
   simp only[go_sem,δ,γ,reduceCtorEq,c2',uQ,f6,hH]
   exact fin [] _ _ (by simp only[go_sem,γ,f6]) rfl Sq
  ·have c2':¬ ((cE (val b):Nat):Int)>4096:=by omega
   rw[if_neg Om]
   have last:∀ F:PF,F 1=some (aF a)→F 2=some (aF b)→F 6=some (.ptr o 3 0 0)→∀ (q:Bool),q=(neg&&decide (val a≠0))→F 47=some (.bool q) →
     True:=fun _ _ _ _ _ _ _=>trivial
   simp only[go_sem,γ,reduceCtorEq,c2',FY,f0,f1,f2,f6,hH]
   cases neg with
   | false =>
    simp only[go_sem,γ,reduceCtorEq,f0,f1,f2,f6,hH]
    refine aA (L.trim a ha la) rfl ?_
    simp only[go_sem,γ,f0,f1,f2,f6,hH]
    refine aA (L.trim b hb lb) rfl ?_
    simp only[go_sem,δ,γ,θ,f0,f1,f2,f6,hH,bKO]
    refine aX (.inr rfl) .nil (vs:=[.agg (eA false (aG (val a)) (aG (val b))),.int .i64 0]) ?_ PH.nil_le ⟨.refl _,rfl⟩
    simp only[go_sem,δ,γ,nS,f6,hH]
   | true =>
    simp only[go_sem,γ,f0,f1,f2,f6,hH]
    refine aA (L.bits a ha la) rfl ?_
    have e:decide (((cE (val a):Nat):Int)>0)=decide (val a≠0):=by
     have:=@jF (val a)
     rw[decide_eq_decide]; omega
    simp only[go_sem,γ,f0,f1,f2,f6,hH,e]
    refine aA (L.trim a ha la) rfl ?_
    simp only[go_sem,γ,f0,f1,f2,f6,hH]
    refine aA (L.trim b hb lb) rfl ?_
    simp only[go_sem,δ,γ,θ,f0,f1,f2,f6,hH,bKS]
    refine aX (.inr rfl) .nil (vs:=[.agg (eA (decide (val a≠0)) (aG (val a)) (aG (val b))),.int .i64 0]) ?_ PH.nil_le ⟨.refl _,rfl⟩
    simp only[go_sem,δ,γ,nS,f6,hH]
theorem a1N {C:Ctx} (L:qM C) (neg:Bool) (a b:List Nat) (ha:Lim a) (hb:Lim b) (la:a.length≤35184372087808) (lb:b.length≤35184372087808) (na:nl (val a)≤512) (nb:nl (val b)≤512) (h0:val b≠0) :
  wO.wp C (aT nS.res (bZ (HC neg (val a) (val b)))) (PF.args [.bool neg,aF a,aF b]) .nil:=by
 simp only[go_sem,δ,wO,acB,acC]
 refine aQ fun o ho=>?_
 simp only[go_sem,γ]
 refine aA (L.gcd a b ha hb la lb) rfl ?_
 rw[gI na nb]
 simp only[go_sem,γ,reduceCtorEq,acD]
 have hg0:bKN (val a) (val b)≠0:=by
  intro h; exact h0 (Nat.gcd_eq_zero_iff.1 h).2
 have hgl:nl (bKN (val a) (val b))≤512:=bNF (fH (Nat.gcd_le_right _ (bMQ h0))) nb
 have hll:(aG (bKN (val a) (val b))).length≤35184372087808:=by rw[aZ]; omega
 refine aA (L.bits _ (aU _) hll) rfl ?_
 rw[aR]
 by_cases c:bKN (val a) (val b)>1
 ·have c':((cE (bKN (val a) (val b)):Nat):Int)>1:=by have:=azK.2 c; omega
  simp only[go_sem,γ,c',acE]
  refine aA (L.div a _ ha (aU _) la hll) rfl ?_
  rw[aR,lD,gI na hgl,if_neg (by decide),if_neg hg0]
  simp only[go_sem,γ,acF]
  refine aA (L.div b _ hb (aU _) lb hll) rfl ?_
  rw[aR,lD,gI nb hgl,if_neg (by decide),if_neg hg0]
  simp only[go_sem,γ]
  have:=MM L neg (aG (val a/bKN (val a) (val b))) (aG (val b/bKN (val a) (val b))) (aU _) (aU _) (by rw[aZ]; have:=aeI (bKN (val a) (val b)) na; omega) (by rw[aZ]; have:=aeI (bKN (val a) (val b)) nb; omega) o
  rw[aR,aR] at this
  have:=fun F H=>this F H
  simp only[aC.wp,go_sem] at this
  exact this _ _ rfl rfl rfl rfl rfl Sq
 ·have c':¬ ((cE (bKN (val a) (val b)):Nat):Int)>1:=by have:=(@azK (bKN (val a) (val b))); omega
  have e1:bKN (val a) (val b)=1:=by omega
  simp only[go_sem,γ,c']
  rw[HC,e1,Nat.div_one,Nat.div_one]
  have:=MM L neg a b ha hb la lb o
  simp only[aC.wp,go_sem] at this
  exact this _ _ rfl rfl rfl rfl rfl Sq
structure EA (C:Ctx):Prop extends qM C where
 times:∀ a b,Lim a→Lim b→a.length≤35184372087808→b.length≤35184372087808→nl (val a)≤256→nl (val b)≤256→aE C 121 [aF a,aF b] .nil (aD (aF (aG (val a*val b))))
 zero:∀ neg a b,Lim a→a.length≤35184372087808→aE C 122 [.agg (eA neg a b)] .nil (aD (.bool (decide (val a=0))))
 valid:∀ neg a b,Lim a→Lim b→a.length≤35184372087808→b.length≤35184372087808→aE C 118 [.agg (eA neg a b)] .nil (aD (.bool (cN (val a) (val b))))
 abs:∀ v:Int,-9223372036854775808≤v→v≤9223372036854775807→aE C 119 [.int .i64 v] .nil (aD (aF (aG v.natAbs)))
 lowest:∀ neg a b,Lim a→Lim b→a.length≤35184372087808→b.length≤35184372087808→nl (val a)≤512→nl (val b)≤512→val b≠0→aE C 120 [.bool neg,aF a,aF b] .nil (aD (HC neg (val a) (val b)))
def adU (n d:Int):PV:=if d=0 then yF 3 else HC (decide (n<0) != decide (d<0)) n.natAbs d.natAbs
theorem mB {n k:Nat} (h:n<4294967296 ^ k):nl n≤k:=(gV _ _).2 h
theorem aEX (neg:Bool) (a b:Nat):∃ neg' x y e,HC neg a b=.tup [.agg (eA neg' x y),.int .i64 e]:=by
 unfold HC
 split
 ·exact⟨_,_,_,_,rfl⟩
 ·exact⟨_,_,_,_,rfl⟩
theorem bfK {C:Ctx} (L:EA C) (n d:Int) (h1:-9223372036854775808≤n) (h2:n≤9223372036854775807) (h3:-9223372036854775808≤d) (h4:d≤9223372036854775807) :
  FZ.wp C (aT SJ.res (bZ (adU n d))) (PF.args [.int .i64 n,.int .i64 d]) .nil:=by
 simp only[go_sem,δ,FZ,aAZ,aBA]
 refine aQ fun o ho=>?_
 unfold adU
 by_cases c:d=0
 ·subst c
  simp only[go_sem,ρ,δ,γ,aBB]
  refine gJ ?_
  simp only[go_sem,δ,γ,SJ]
 ·rw[if_neg c]
  simp only[go_sem,γ,reduceCtorEq,bF c,aBC]
  refine aA (L.abs n h1 h2) rfl ?_
  simp only[go_sem,γ]
  refine aA (L.abs d h3 h4) rfl ?_
  simp only[go_sem]
  have n1:nl n.natAbs≤2:=mB Om
  have n2:nl d.natAbs≤2:=mB Om
  have low:=L.lowest (decide (n<0) != decide (d<0)) (aG n.natAbs) (aG d.natAbs) (aU _) (aU _) (by rw[aZ]; omega) (by rw[aZ]; omega)
  rw[aR,aR] at low
  have low:=low Om Om Om
  refine aA low rfl ?_
  obtain⟨neg',x,y,e,hl⟩:=aEX (decide (n<0) != decide (d<0)) n.natAbs d.natAbs
  rw[hl]
  simp only[go_sem,δ,γ]
  exact aX (.inr rfl) .nil (vs:=[.agg (eA neg' x y),.int .i64 e]) (by simp only[go_sem,δ,γ,SJ]) PH.nil_le ⟨.refl _,rfl⟩
theorem fD {a b:Nat}:cN a b=true↔b≠0∧nl b≤128∧nl a≤128:=by
 have h1:=kM b 128
 have h2:=kM a 128
 have h3:=@jF b
 simp only[cN,bLF,decide_eq_true_eq]
 omega
def SS (neg:Bool) (a b:Nat):PV:=if cN a b then HC neg a b else yF 1
theorem a1Q {C:Ctx} (L:EA C) (neg:Bool) (a b:List Nat) (ha:Lim a) (hb:Lim b) (la:a.length≤35184372087808) (lb:b.length≤35184372087808) :
  wP.wp C (aT vP.res (bZ (SS neg (val a) (val b)))) (PF.args [.agg (eA neg a b)]) .nil:=by
 simp only[go_sem,δ,wP,acI,acJ]
 refine aQ fun o ho=>?_
 simp only[go_sem,δ,γ]
 refine aA (L.valid neg a b ha hb la lb) rfl ?_
 unfold SS
 cases hv:cN (val a) (val b) with
 | false =>
  simp only[go_sem,δ,γ,reduceCtorEq,acK,bKW]
  refine gJ ?_
  simp only[go_sem,δ,γ,vP]
 | true =>
  obtain⟨v1,v2,v3⟩:=fD.1 hv
  simp only[go_sem,δ,γ,θ,acL,bKR]
  refine aA (L.lowest neg a b ha hb la lb Om Om v1) rfl ?_
  obtain⟨neg',x,y,e,hl⟩:=aEX neg (val a) (val b)
  rw[hl]
  simp only[go_sem,δ,γ]
  exact aX (.inr rfl) .nil (vs:=[.agg (eA neg' x y),.int .i64 e]) (by simp only[go_sem,δ,γ,vP]) PH.nil_le ⟨.refl _,rfl⟩
def pK (n1:Bool) (a1 b1:Nat) (n2:Bool) (a2 b2:Nat):Int :=
 match n1&&decide (a1≠0),n2&&decide (a2≠0) with
 | true,true=>- dD (a1*b2) (a2*b1)
 | true,false=>-1
 | false,true=>1
 | false,false=>dD (a1*b2) (a2*b1)
def yD (n1:Bool) (a1 b1:Nat) (n2:Bool) (a2 b2:Nat):PV :=
 if cN a1 b1&&cN a2 b2 then .tup [.int .i64 (pK n1 a1 b1 n2 a2 b2),.int .i64 0] else .tup [.int .i64 0,.int .i64 1]
def fr1:PV→List Nat
 | .agg [_,a,_]=>gY a
 | _=>[]
def frS:Spec:=fun name vs=>match name,vs with
 | 121,[x,y]=>some ([],fun _=>aD (aF (aG (val (gY x)*val (gY y)))))
 | 129,[x,y]=>some ([],fun _=>aD (.int .i64 (dD (val (gY x)) (val (gY y)))))
 | 122,[x]=>some ([],fun _=>aD (.bool (decide (val (fr1 x)=0))))
 | _,_=>none
theorem tC (a b:List Nat):frS 121 [aF a,aF b]=some ([],fun _=>aD (aF (aG (val a*val b)))):=by
 show some _=_; rw[dY,dY]
theorem bmK (a b:List Nat):frS 129 [aF a,aF b]=some ([],fun _=>aD (.int .i64 (dD (val a) (val b)))):=by
 show some _=_; rw[dY,dY]
theorem WP (neg:Bool) (a b:List Nat):frS 122 [.agg (eA neg a b)]=some ([],fun _=>aD (.bool (decide (val a=0)))):=by
 show some _=_; rw[fr1,dY]
theorem beN (a b:Nat):IntKind.i64.wrap (0-dD a b)=- dD a b:=by
 unfold dD; split
 ·rfl
 ·split<;>rfl
theorem bmG {C:Ctx} (L:EA C) (n1 n2:Bool) (a1 b1 a2 b2:List Nat) (ha1:Lim a1) (hb1:Lim b1) (ha2:Lim a2) (hb2:Lim b2)
  (la1:a1.length≤35184372087808) (lb1:b1.length≤35184372087808) (la2:a2.length≤35184372087808) (lb2:b2.length≤35184372087808) :
  MJ.wp C (aT aAS.res (bZ (yD n1 (val a1) (val b1) n2 (val a2) (val b2)))) (PF.args [.agg (eA n1 a1 b1),.agg (eA n2 a2 b2)]) .nil:=by
 simp only[go_sem,δ,γ,MJ,aRG,aRH]
 refine aA (L.valid n1 a1 b1 ha1 hb1 la1 lb1) rfl ?_
 unfold yD
 cases hv:cN (val a1) (val b1) with
 | false =>
  simp only[go_sem,γ,reduceCtorEq,bKW,alE,bKO]
  exact aX (.inr rfl) .nil (vs:=[.int .i64 0,.int .i64 1]) rfl PH.nil_le ⟨.refl _,rfl⟩
 | true =>
  obtain⟨v1,v2,v3⟩:=fD.1 hv
  simp only[go_sem,δ,γ,bKR]
  refine aA (L.valid n2 a2 b2 ha2 hb2 la2 lb2) rfl ?_
  cases hw:cN (val a2) (val b2) with
  | false =>
   simp only[go_sem,γ,reduceCtorEq,bKW,alE,bLQ]
   exact aX (.inr rfl) .nil (vs:=[.int .i64 0,.int .i64 1]) rfl PH.nil_le ⟨.refl _,rfl⟩
  | true =>
   obtain⟨w1,w2,w3⟩:=fD.1 hw
   simp only[go_sem,γ,reduceCtorEq,bKR,bMI]
   refine bS .nil frS PH.nil_le ?_
   simp only[go_sem,δ,γ,θ,aRI]
   refine bQ (tC a1 b2) (L.times a1 b2 ha1 hb2 la1 lb2 Om Om) rfl PH.nil_le ?_
   simp only[go_sem,δ,γ,θ]
   refine bQ (tC a2 b1) (L.times a2 b1 ha2 hb1 la2 lb1 Om Om) rfl PH.nil_le ?_
   simp only[go_sem]
   have m1:=kI v3 w2
   have m2:=kI w3 v2
   have hc:=L.cmp (aG (val a1*val b2)) (aG (val a2*val b1)) (aU _) (aU _) (by rw[aZ]; omega) (by rw[aZ]; omega)
   have hs:=bmK (aG (val a1*val b2)) (aG (val a2*val b1))
   rw[aR,aR] at hc hs
   refine bQ hs hc rfl PH.nil_le ?_
   simp only[go_sem,γ]
   refine bS .nil frS PH.nil_le ?_
   have z1:(!decide (val a1=0))=decide (val a1≠0):=by by_cases h:val a1=0<;>simp[h]
   have z2:(!decide (val a2=0))=decide (val a2≠0):=by by_cases h:val a2=0<;>simp[h]
   have fin:∀ (F:PF) (A B:Bool),F 6=some (.int .i64 (dD (val a1*val b2) (val a2*val b1)))→F 7=some (.bool A)→F 8=some (.bool B)→A=(n1&&decide (val a1≠0))→B=(n2&&decide (val a2≠0)) →
     aC.wp C (.seq (.block 0 (.seq (.region vO) (.cond (.tmp 42) (.seq (.region alF) .ret) (.seq (.region CU) (.cond (.tmp 49) (.seq (.region alG) .ret) (.seq (.region SG) (.cond (.tmp 51) (.seq (.region WN) .ret) .skip))))))) (.seq (.region WO) .ret)) (aT aAS.res (bZ (.tup [.int .i64 (pK n1 (val a1) (val b1) n2 (val a2) (val b2)),.int .i64 0]))) F .nil:=by
    intro F A B f6 f7 f8 hA hB
    rw[pK,← hA,← hB]
    cases A<;>cases B
    ·simp only[go_sem,γ,reduceCtorEq,vO,CU,SG,WO,f6,f7,f8]
     exact aX (.inr rfl) .nil rfl PH.nil_le ⟨.refl _,rfl⟩
    ·simp only[go_sem,γ,reduceCtorEq,vO,CU,SG,WN,f6,f7,f8]
     exact aX (.inr rfl) .nil rfl PH.nil_le ⟨.refl _,rfl⟩
    ·simp only[go_sem,ο,γ,vO,CU,alG,f6,f7,f8]
     exact aX (.inr rfl) .nil rfl PH.nil_le ⟨.refl _,rfl⟩
    ·simp only[go_sem,γ,vO,alF,f6,f7,f8,beN]
     exact aX (.inr rfl) .nil rfl PH.nil_le ⟨.refl _,rfl⟩
   simp only[aC.wp,go_sem] at fin
   simp only[go_sem,δ,γ,θ,aRJ]
   cases n1 with
   | false =>
    simp only[go_sem,δ,γ,θ,reduceCtorEq]
    cases n2 with
    | false =>
     simp only[go_sem,γ,reduceCtorEq]
     exact fin _ false false rfl rfl rfl rfl rfl
    | true =>
     simp only[go_sem,δ,γ]
     refine bQ (WP true a2 b2) (L.zero true a2 b2 ha2 la2) rfl PH.nil_le ?_
     simp only[go_sem,γ,z2]
     exact fin _ false (decide (val a2≠0)) rfl rfl rfl rfl (by rw[bKS])
   | true =>
    simp only[go_sem,δ,γ]
    refine bQ (WP true a1 b1) (L.zero true a1 b1 ha1 la1) rfl PH.nil_le ?_
    simp only[go_sem,δ,γ,θ,z1]
    cases n2 with
    | false =>
     simp only[go_sem,γ,reduceCtorEq]
     exact fin _ (decide (val a1≠0)) false rfl rfl rfl (by rw[bKS]) rfl
    | true =>
     simp only[go_sem,δ,γ]
     refine bQ (WP true a2 b2) (L.zero true a2 b2 ha2 la2) rfl PH.nil_le ?_
     simp only[go_sem,γ,z2]
     exact fin _ (decide (val a1≠0)) (decide (val a2≠0)) rfl rfl rfl (by rw[bKS]) (by rw[bKS])
abbrev FV:=Bool × Nat × Nat
abbrev FR:=Except Int FV
def gQ (neg:Bool) (a b:Nat):FR :=
 if cE (a/bKN a b)>4096∨cE (b/bKN a b)>4096 then .error 2 else .ok (neg&&decide (a/bKN a b≠0),a/bKN a b,b/bKN a b)
def frV:FR→PV
 | .ok (n,a,b)=>a1S n a b
 | .error e=>yF e
theorem alU (neg:Bool) (a b:Nat):HC neg a b=frV (gQ neg a b):=by
 unfold HC gQ
 split<;>rfl
def gW:FV→FV→FR
 | (n1,a1,b1),(n2,a2,b2)=>if cN a1 b1&&cN a2 b2 then
   (if n1=n2 then gQ n1 (a1*b2+a2*b1) (b1*b2) else if a2*b1≤a1*b2 then gQ n1 (a1*b2-a2*b1) (b1*b2) else gQ n2 (a2*b1-a1*b2) (b1*b2))
  else .error 1
theorem aGL {a b m:Nat} (ha:nl a≤m) (hb:nl b≤m):nl (a+b)≤m+1:=by
 rw[gV] at ha hb ⊢
 rw[bMC]; omega
theorem SB (a b:Nat):(dD a b≥0)↔b≤a:=by
 unfold dD
 split
 ·constructor
  ·intro h; exact absurd h (by decide)
  ·intro h; omega
 ·split
  ·constructor
   ·intro h; omega
   ·intro h; decide
  ·constructor
   ·intro h; omega
   ·intro h; decide
theorem rR (r:FR):∃ neg' x y e,frV r=.tup [.agg (eA neg' x y),.int .i64 e]:=by
 rcases r with e | ⟨n,a,b⟩
 ·exact⟨_,_,_,_,rfl⟩
 ·exact⟨_,_,_,_,rfl⟩
theorem bmE {C:Ctx} (L:EA C) (n1 n2:Bool) (a1 b1 a2 b2:List Nat) (ha1:Lim a1) (hb1:Lim b1) (ha2:Lim a2) (hb2:Lim b2)
  (la1:a1.length≤35184372087808) (lb1:b1.length≤35184372087808) (la2:a2.length≤35184372087808) (lb2:b2.length≤35184372087808) :
  MI.wp C (aT MH.res (bZ (frV (gW (n1,val a1,val b1) (n2,val a2,val b2))))) (PF.args [.agg (eA n1 a1 b1),.agg (eA n2 a2 b2)]) .nil:=by
 simp only[go_sem,δ,γ,MI,aQX]
 refine aQ fun o ho=>?_
 simp only[go_sem,δ,γ,aQY]
 refine aA (L.valid n1 a1 b1 ha1 hb1 la1 lb1) rfl ?_
 simp only[gW]
 cases hv:cN (val a1) (val b1) with
 | false =>
  simp only[go_sem,δ,γ,reduceCtorEq,bKW,alD,bKO]
  refine gJ ?_
  simp only[go_sem,δ,γ,MH]
 | true =>
  obtain⟨v1,v2,v3⟩:=fD.1 hv
  simp only[go_sem,δ,γ,bKR]
  refine aA (L.valid n2 a2 b2 ha2 hb2 la2 lb2) rfl ?_
  cases hw:cN (val a2) (val b2) with
  | false =>
   simp only[go_sem,δ,γ,reduceCtorEq,bKW,alD,bLQ]
   refine gJ ?_
   simp only[go_sem,δ,γ,MH]
  | true =>
   obtain⟨w1,w2,w3⟩:=fD.1 hw
   simp only[go_sem,γ,reduceCtorEq,bKR,bMI]
   refine bS .nil frS PH.nil_le ?_
   simp only[go_sem,δ,γ,θ,aQZ]
   refine bQ (tC a1 b2) (L.times a1 b2 ha1 hb2 la1 lb2 Om Om) rfl PH.nil_le ?_
   simp only[go_sem,δ,γ,θ]
   refine bQ (tC a2 b1) (L.times a2 b1 ha2 hb1 la2 lb1 Om Om) rfl PH.nil_le ?_
   simp only[go_sem,γ]
   refine bQ (tC b1 b2) (L.times b1 b2 hb1 hb2 lb1 lb2 Om Om) rfl PH.nil_le ?_
   simp only[go_sem,γ]
   have m1:=kI v3 w2
   have m2:=kI w3 v2
   have m3:=kI v2 w2
   have d0:val b1*val b2≠0:=Nat.mul_ne_zero v1 w1
   generalize hA:val a1*val b2=A at *
   generalize hB:val a2*val b1=B at *
   generalize hD:val b1*val b2=D at *
   have fin:∀ (F:PF) (H:PH) (r:FR),(∃ neg' x y e,frV r=.tup [.agg (eA neg' x y),.int .i64 e]∧F 4=some (.ptr o 3 0 0)∧F 5=some (.int .i64 e)∧H o=some (.rows 3 [eA neg' x y]))→aT MH.res (bZ (frV r)) .ret F H:=by
    rintro F H r ⟨neg',x,y,e,he,f4,f5,hH⟩
    rw[he]
    exact aX (.inr rfl) .nil (vs:=[.agg (eA neg' x y),.int .i64 e]) (by simp only[go_sem,δ,MH,f4,f5,hH]) PH.nil_le ⟨.refl _,rfl⟩
   have eb:(n1==n2)=decide (n1=n2):=by cases n1<;>cases n2<;>rfl
   have low:∀ neg x,nl x≤257→aE C 120 [.bool neg,aF (aG x),aF (aG D)] .nil (aD (frV (gQ neg x D))):=by
    intro neg x hx
    have h1:(aG x).length≤35184372087808:=by rw[aZ]; omega
    have h2:(aG D).length≤35184372087808:=by rw[aZ]; omega
    have:=L.lowest neg (aG x) (aG D) (aU _) (aU _) h1 h2
    rw[aR,aR,alU] at this
    exact this Om Om d0
   have lA:(aG A).length≤35184372087808:=by rw[aZ]; omega
   have lB:(aG B).length≤35184372087808:=by rw[aZ]; omega
   simp only[go_sem,δ,γ,θ,aRA]
   by_cases c:n1=n2
   ·rw[if_pos c]
    have c':(n1==n2)=true:=by rw[eb,decide_eq_true c]
    simp only[go_sem,γ,c',aRB]
    have hadd:=L.add (aG A) (aG B) (aU _) (aU _) lA lB
    have nab:=aGL m1 m2
    rw[aR,aR,gI Om Om,opV,xI Om] at hadd
    refine aA hadd rfl ?_
    simp only[go_sem,δ,γ,θ,reduceCtorEq,aRC]
    refine aA (low n1 _ Om) rfl ?_
    obtain⟨neg',x,y,e,hl⟩:=rR (gQ n1 (A+B) D)
    rw[hl]
    simp only[go_sem,δ,γ]
    rw[← hl]
    exact fin _ _ _ ⟨neg',x,y,e,hl,by simp only[go_sem,γ],by simp only[go_sem,γ],by simp only[go_sem]⟩
   ·rw[if_neg c]
    have c':(n1==n2)=false:=by rw[eb,decide_eq_false c]
    simp only[go_sem,γ,c',aRD]
    have hc:=L.cmp (aG A) (aG B) (aU _) (aU _) lA lB
    rw[aR,aR] at hc
    refine aA hc rfl ?_
    have hsub:∀ X Y:Nat,nl X≤256→nl Y≤256→Y≤X→aE C 134 [aF (aG X),aF (aG Y)] .nil (aD (.tup [aF (aG (X-Y)),.int .i64 0])):=by
     intro X Y h1 h2 h
     have:=L.sub (aG X) (aG Y) (aU _) (aU _) (by rw[aZ]; omega) (by rw[aZ]; omega)
     have h3:=fH (Om:X-Y≤X)
     rw[aR,aR,pO,gI Om Om,if_neg (by decide),if_neg Om,xI Om] at this
     exact this
    by_cases g:B≤A
    ·have g':dD A B≥0:=(SB A B).2 g
     rw[if_pos g]
     simp only[go_sem,γ,g',aRE]
     refine aA (hsub A B Om Om g) rfl ?_
     simp only[go_sem,δ,γ,θ,aRF]
     have h3:=fH (Om:A-B≤A)
     refine aA (low n1 (A-B) Om) rfl ?_
     obtain⟨neg',x,y,e,hl⟩:=rR (gQ n1 (A-B) D)
     rw[hl]
     simp only[go_sem,δ,γ]
     rw[← hl]
     exact fin _ _ _ ⟨neg',x,y,e,hl,by simp only[go_sem,γ],by simp only[go_sem,γ],by simp only[go_sem]⟩
    ·have g':¬ dD A B≥0:=fun h=>g ((SB A B).1 h)
     rw[if_neg g]
     simp only[go_sem,γ,g',aAQ]
     refine aA (hsub B A Om Om Om) rfl ?_
     simp only[go_sem,δ,γ,θ,aAR]
     have h3:=fH (Om:B-A≤B)
     refine aA (low n2 (B-A) Om) rfl ?_
     obtain⟨neg',x,y,e,hl⟩:=rR (gQ n2 (B-A) D)
     rw[hl]
     simp only[go_sem,δ,γ]
     rw[← hl]
     exact fin _ _ _ ⟨neg',x,y,e,hl,by simp only[go_sem,γ],by simp only[go_sem,γ],by simp only[go_sem]⟩
structure RF where
 neg:Bool
 num:List Nat
 den:List Nat
abbrev RF.cells (x:RF):List PV:=eA x.neg x.num x.den
def RF.Ok (x:RF):Prop:=Lim x.num∧Lim x.den∧x.num.length≤35184372087808∧x.den.length≤35184372087808
def RF.v (x:RF):FV:=(x.neg,val x.num,val x.den)
abbrev frs (l:List RF):PV:=.sl 3 (l.map RF.cells)
def FV.rf:FV→RF
 | (n,a,b)=>⟨n,aG a,aG b⟩
def FV.Small:FV→Prop
 | (_,a,b)=>nl a≤900000∧nl b≤900000
theorem FV.bsZ (x:FV):x.rf.v=x:=by
 obtain⟨n,a,b⟩:=x
 show (n,val (aG a),val (aG b))=_
 rw[aR,aR]
def nK (l:List FV):FR:=l.foldlM gW (false,0,1)
theorem qW {neg:Bool} {a b:Nat} {r:FV} (h:gQ neg a b=.ok r):r.Small∧r.rf.Ok:=by
 unfold gQ at h
 split at h
 ·cases h
 ·rename_i hc
  have h1:=(kM (a/bKN a b) 128).1 Om
  have h2:=(kM (b/bKN a b) 128).1 Om
  injection h with h
  subst h
  refine⟨⟨by omega,by omega⟩,aU _,aU _,?_,?_⟩
  ·show (aG _).length≤_
   rw[aZ]; omega
  ·show (aG _).length≤_
   rw[aZ]; omega
theorem akW {x y r:FV} (h:gW x y=.ok r):r.rf.Ok:=by
 obtain⟨n1,a1,b1⟩:=x
 obtain⟨n2,a2,b2⟩:=y
 simp only[gW] at h
 split at h
 ·split at h
  ·exact (qW h).2
  ·split at h
   ·exact (qW h).2
   ·exact (qW h).2
 ·cases h
theorem TU {α β:Type} {f:β→α→Except Int β} (l:List α) (b:β) {k:Nat} (h:k<l.length):(l.take (k+1)).foldlM f b=((l.take k).foldlM f b).bind fun x=>f x l[k]:=by
 rw[bMA h,List.foldlM_append]
 cases (l.take k).foldlM f b with
 | error e=>rfl
 | ok x =>
  show ([l[k]]:List α).foldlM f x=f x l[k]
  rw[List.foldlM_cons]
  cases f x l[k]<;>rfl
theorem acG {α β:Type} {f:β→α→Except Int β} (l:List α) (b:β) {k:Nat} {e:Int} (h:(l.take k).foldlM f b=.error e):l.foldlM f b=.error e:=by
 conv=>lhs; rw[← bMX k l,List.foldlM_append,h]
 rfl
def biP (l:List RF) (o2 o4:Nat) (k:Nat):PF:=((((((PF.nil.set 2 (.ptr o2 3 0 0)).set 3 (.int .i64 0)).set 4 (.ptr o4 3 0 0)).set 11 (frs l)).set 12 (.int .i64 (l.length:Nat))).set 13 (.int .i64 k))
def YT (o2 o4:Nat) (c:List PV):PH:=(PH.nil.set o2 (.rows 3 [[.bool false,.aB,.aB]])).set o4 (.rows 3 [c])
theorem bmM {C:Ctx} (L:EA C) (hadd:∀ x y:RF,x.Ok→y.Ok→aE C 113 [.agg x.cells,.agg y.cells] .nil (aD (frV (gW x.v y.v)))) (l:List RF) (hl:∀ x∈l,x.Ok) (hlen:l.length≤9223372036854775807) :
  MP.wp C (aT WS.res (bZ (frV (nK (l.map RF.v))))) (PF.args [frs l]) .nil:=by
 simp only[go_sem,δ,MP,aRN]
 refine aQ fun o2 ho2=>?_
 simp only[go_sem,aRO]
 refine aA (L.make 1 (by decide)) rfl ?_
 simp only[go_sem,δ,γ]
 refine aQ fun o4 ho4=>?_
 have hne:o4≠o2:=by rintro rfl; simp only[bL,if_true] at ho4; cases ho4
 have bJJ:o2≠o4:=Ne.symm hne
 simp only[go_sem,δ,γ,reduceCtorEq,aRP]
 refine wp_loop (α:=Nat × FV × PV) (fun t=>biP l o2 o4 t.1) (fun t=>YT o2 o4 [.bool t.2.1.1,t.2.2,aF (aG t.2.1.2.2)]) (fun t=>t.1≤l.length∧((l.map RF.v).take t.1).foldlM gW (false,0,1)=.ok t.2.1∧(t.2.2=.aB∧t.2.1.2.1=0∨t.2.2=aF (aG t.2.1.2.1))∧(FV.rf t.2.1).Ok) (fun t=>l.length-t.1)
  (0,(false,0,1),.aB) ⟨bKT _,rfl,.inl ⟨rfl,rfl⟩,⟨aU _,aU _,?_,?_⟩⟩ ?_ ?_ ?_
 ·show (aG 0).length≤_
  rw[fC]; simp
 ·show (aG 1).length≤_
  rw[mK (by decide) (by decide)]; simp
 ·unfold biP
  (repeat' (first|exact PF.nil_le|refine PF.aK ?_ ?_))<;>first|(simp only[go_sem,γ,bKI]<;>rfl)|rfl
 ·unfold YT
  exact PH.aK (PH.aK PH.nil_le (by simp only[go_sem,bJJ,hne])) (by simp only[go_sem,bJJ,hne])
 rintro⟨k,⟨an,aa,ab⟩,cy⟩ ⟨hk,hf,hco,hacc⟩
 simp only at hk hf hco hacc ⊢
 have hco':CoL [.bool an,cy,aF (aG ab)] (FV.rf (an,aa,ab)).cells:=by
  refine .cons (.refl _) (.cons ?_ (.cons (.refl _) .nil))
  rcases hco with ⟨rfl,rfl⟩ | rfl
  ·show Co .aB (aF (aG 0))
   rw[fC]; exact .nil 1
  ·exact .refl _
 simp only[go_sem,γ,aBF,aRQ,biP]
 by_cases hlt:k<l.length
 ·have bIL:(k:Int)<(l.length:Nat):=by omega
  have hr:(l.map RF.cells)[k]?=some (l[k]).cells:=by simp[hlt]
  simp only[go_sem,δ,γ,bIL,aRR,hr]
  refine aQ fun o6 ho6=>?_
  have n64:o4≠o6:=by rintro rfl; simp only[YT,bL,if_true] at ho6; cases ho6
  have n62:o2≠o6:=by rintro rfl; simp only[YT,bL,if_true,if_neg bJJ] at ho6; cases ho6
  simp only[go_sem,δ,γ,aRS,YT,n64,n62,hne,bJJ]
  refine aA ((hadd (FV.rf (an,aa,ab)) l[k] hacc (hl _ (bKM hlt))).args (.cons (CoL.agg hco') (.cons (.refl _) .nil))) rfl ?_
  rw[FV.bsZ]
  have bIM:=TU (f:=gW) (l.map RF.v) (false,0,1) (k:=k) (by simpa using hlt)
  rw[hf] at bIM
  simp only[Except.bind,bMS] at bIM
  cases he:gW (an,aa,ab) (l[k]).v with
  | error e =>
   simp only[go_sem,δ,γ,frV]
   refine aQ fun o7 ho7=>?_
   have he0:e≠0:=by
    revert he
    obtain⟨n2,a2,b2⟩:=(l[k]).v
    simp only[gW,gQ]
    repeat' split
    all_goals (intro h; first | (injection h with h; subst h; decide) | cases h)
   have n72:o2≠o7:=by rintro rfl; simp only[bL,n62,bJJ,if_true,if_false] at ho7; cases ho7
   simp only[go_sem,δ,γ,alH,cQ he0,aRT,n72,n62,bJJ]
   rw[he] at bIM
   rw[nK,acG _ _ bIM]
   refine gJ ?_
   simp only[go_sem,δ,γ,WS]
  | ok r =>
   obtain⟨rn,ra,rb⟩:=r
   simp only[go_sem,δ,γ,frV]
   refine aQ fun o7 ho7=>?_
   have n74:o4≠o7:=by rintro rfl; simp only[bL,n64,if_true,if_false] at ho7; cases ho7
   have n72:o2≠o7:=by rintro rfl; simp only[bL,n62,bJJ,if_true,if_false] at ho7; cases ho7
   simp only[go_sem,σ,δ,γ,alH,aRU,n74,n72,n64,n62,hne,bJJ,Ne.symm n74,aRV,wZz k]
   rw[he] at bIM
   refine aI (k+1,(rn,ra,rb),aF (aG ra)) ⟨hlt,bIM,.inr rfl,akW he⟩ (by simp only; omega) ?_ ?_
   ·exact Lq
   ·refine PH.aK (PH.aK PH.nil_le ?_) ?_
    ·simp only[go_sem,bJJ,hne,n74,n72,n64,n62]
    ·simp only[go_sem,bJJ,hne,n74,n72,n64,n62]
 ·have bIL:¬ (k:Int)<(l.length:Nat):=by omega
  have:k=l.length:=by omega
  subst this
  rw[bKZ (by simp)] at hf
  rw[nK,hf]
  have hfin:bZ (frV (.ok (an,aa,ab))) (aV [.agg [.bool an,cy,aF (aG ab)],.int .i64 0]) .nil:=⟨CoL.tup (.cons (CoL.agg hco') (.cons (.refl _) .nil)),rfl⟩
  rcases hco with ⟨rfl,rfl⟩ | rfl
  ·simp only[go_sem,δ,γ,bIL,WT,YT,hne,bJJ]
   refine aX (.inr rfl) .nil ?_ PH.nil_le hfin
   simp only[go_sem,δ,γ,WS,hne,bJJ]
  ·simp only[go_sem,δ,γ,bIL,WT,YT,hne,bJJ]
   refine aX (.inr rfl) .nil ?_ PH.nil_le hfin
   simp only[go_sem,δ,γ,WS,hne,bJJ]
end Go.PM
