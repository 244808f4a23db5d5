/-
  Texts of ours, joined: Pm20 Pm20c Pm21 Pm22 Pm23 Pm24 Pm25 Pm26 Pm27 Pm29 Jf0 NaCode Pm30 Pm31 NaPlain NaW1 NaW2 NaW3 NaW4 NaW5 NaW6 NaW7 NaW8 NaW9 NaKn NaW10 NaW11 Pm32 NaW12 NaW13 NaW14 NaW15 FrCode FrW1 FrW2 FrW3 FrW4. No condition.
-/
import Derived.Test.YthbkofcdddghgaaGreatREnds1
import Derived.ProofKit
import Derived.OpenShut
set_option linter.unusedSimpArgs false
set_option linter.unusedVariables false
open Nat renaming reduceEqDiff → γ, reduceAdd → δ, reduceSub → ε, reduceMul → ζ, reduceLT → η, reduceLeDiff → θ, reduceBEq → τ
open Int renaming reduceLT → ι, reduceLE → κ, reduceEq → μ, reduceToNat → ν, reduceAdd → ξ, reduceNeg → ο, reduceBEq → ρ, reduceBNe → σ
open List renaming reduceReplicate → υ
open List renaming length_map → bIM, range → bIN, replicate → bIP, getElem_mem → bIR, length_append → bIU, getElem?_eq_getElem → bIW, mem_cons → bJA, length_singleton → bJC, take_of_length_le → bJD, length_take → bJF, getD_eq_getElem?_getD → bJG, all_eq_true → bJJ, append_assoc → bJM, take_length → bJN, drop_zero → bJO, getElem?_map → bJQ, not_mem_nil → bJR, mem_map → bJT, mem_singleton → bJU, getElem?_eq_some_iff → bJX, mem_append → bJY, getElem?_eq_none → bJZ, mem_range → bKB, drop_eq_getElem_cons → bKG, length_cons → bKH, length_set → bKI, map_append → bKJ, take_succ_eq_append_getElem → bKK, append_nil → bKM, length_drop → bKN, getElem_of_mem → bKQ, Sublist → bKS, getElem?_append_right → bKT, getElem_map → bKU, map_cons → bKV, nodup_append → bKW, length_nil → bKY, take_append_drop → bKZ, getElem?_append_left → bLC, mem_of_getElem? → bLD, nil_append → bLF, getElem?_take → bLP, drop_of_length_le → bLU, flatten_cons → bLV, getElem?_drop → bLW, length_replicate → bLX, set_append_right → bLY, eq_nil_of_length_eq_zero → bLZ, getElem?_take_of_lt → bMA
open Nat renaming le_refl → bIO, gcd → bIQ, zero_le → bIX, mul_add → bIZ, lt_or_ge → bJE, mul_assoc → bJH, mul_comm → bJK, zero_add → bJL, add_mul → bJP, mul_le_mul_right → bJS, mod_eq_of_lt → bJV, mod_lt → bKA, add_zero → bKD, pow_succ → bKE, min_eq_left → bKO, mul_le_mul_left → bKP, pos_of_ne_zero → bKR, add_assoc → bKX, pow_pos → bLA, div_lt_iff_lt_mul → bLG, sub_self → bLH, eq_zero_or_pos → bLK, div_add_mod → bLQ, div_eq_of_lt → bLR
open Bool renaming false_and → bIS, not_true → bIV, true_and → bIY, not_false → bJB, and_eq_true → bJI, and_false → bKC, and_true → bKL, and_assoc → bLJ, false_eq_true → bLL
open Option renaming map_eq_some_iff → bIT, map_some → bJW, some → bLB, getD_some → bLE, bind_eq_some_iff → bLN, bind_some → bLS
open Array renaming replicate → bKF, length_toList → bLI, getElem?_eq_getElem → bLO, getElem?_eq_some_iff → bLT
open Int renaming toNat_natCast → bLM
namespace Go.PM
open Go Go.RowKit
namespace Tbl
variable (T:Tbl)
def res:ResultVar→Option dU
 | .tmp t=>some (.tmp t)
 | .cell t ty=>match T.isAgg ty,T.size ty with
  | some true,some k=>some (.cell t (some k))
  | some false,_=>some (.cell t none)
  | _,_=>none
def aEB:List ResultVar→Option (List dU)
 | []=>some []
 | r::rs=>match T.res r,aEB rs with
  | some p,some ps=>some (p::ps)
  | _,_=>none
def func (fn:Func):Option aV :=
 match fn.body with
 | some c=>match T.code fn.ntmps c,T.aEB fn.results.toList with
  | some b,some rs=>some ⟨fn.params.size,fn.ntmps,b,rs⟩
  | _,_=>none
 | none=>none
end Tbl
section
variable {T:Tbl} {n:Nat} {E:Env} {F:PF} {H:PH} {a:Act} {w:World}
def NN (tmps:Array Value):ResultVar→Sem Value
 | .tmp t=>pure (tmps.getD t undef)
 | .cell a t=>do loadVar t (← asAddr (tmps.getD a undef))
theorem a7H {r:ResultVar} {p:dU} {pv:PV} (hr:T.res r=some p) (hv:p.ev F H=some pv) (hA:dT n E F a) (hW:bN E H w):∃ v,(NN a.tmps r).run T.P w=.ok v w∧aY E pv v:=by
 cases r with
 | tmp t =>
  simp[Tbl.res] at hr
  subst hr
  exact⟨_,rfl,hA.t t pv hv⟩
 | cell t ty =>
  simp only[Tbl.res] at hr
  split at hr
  ·rename_i k hg hs
   cases hr
   simp only[dU.ev] at hv
   split at hv
   ·rename_i q hq
    rw[bIT] at hv
    obtain⟨cs,hcs,rfl⟩:=hv
    obtain⟨b,off,hb,-⟩:=mK hW (hA.t t q hq) hcs
    obtain⟨u,h1,h2⟩:=SC (T:=T) hg hs hW (hA.t t q hq) hcs
    refine⟨u,?_,h2⟩
    rw[hb] at h1
    simpa [NN,hb,asAddr,Instr.loadAt,Instr.sureAddr] using h1
   ·cases hv
  ·rename_i hg
   cases hr
   simp only[dU.ev] at hv
   split at hv
   ·rename_i q hq
    split at hv
    ·rename_i v' hcs
     cases hv
     obtain⟨b,off,hb,-⟩:=mK hW (hA.t t q hq) hcs
     obtain⟨u,h1,h2⟩:=abG (T:=T) hg hW (hA.t t q hq) hcs
     refine⟨u,?_,h2⟩
     rw[hb] at h1
     simpa [NN,hb,asAddr,Instr.loadAt,Instr.sureAddr] using h1
    ·cases hv
   ·cases hv
  ·cases hr
theorem acQ (hA:dT n E F a) (hW:bN E H w):∀ (rs:List ResultVar) (ps:List dU) (pvs:List PV),T.aEB rs=some ps→dU.evs F H ps=some pvs →
  ∃ vs,(rs.mapM (NN a.tmps)).run T.P w=.ok vs w∧eO E pvs vs
 | [],ps,pvs,h1,h2=>by
  simp[Tbl.aEB] at h1; subst h1
  simp[dU.evs] at h2; subst h2
  exact⟨[],by simp,.nil⟩
 | r::rs,ps,pvs,h1,h2=>by
  simp only[Tbl.aEB] at h1
  split at h1
  ·rename_i p ps' hp hps
   cases h1
   simp only[dU.evs] at h2
   split at h2
   ·rename_i v vs hv hvs
    cases h2
    obtain⟨u,g1,g2⟩:=a7H hp hv hA hW
    obtain⟨us,k1,k2⟩:=acQ hA hW rs ps' vs hps hvs
    exact⟨u::us,by simp[List.mapM_cons,g1,k1],.cons g2 k2⟩
   ·cases h2
  ·cases h1
theorem aYO {pvs:List PV} {vs:List Value} (h:eO E pvs vs):aY E (aX pvs) (if h:vs.toArray.size=1 then vs.toArray[0] else .tuple vs.toArray):=by
 cases h with
 | nil=>exact .tup #[] rfl (by simp)
 | cons h t =>
  cases t with
  | nil=>exact h
  | cons h2 t2 =>
   rename_i p v q u ps us
   have bHZ:eO E (p::q::ps) (v::u::us):=.cons h (.cons h2 t2)
   rw[dif_neg (by simp)]
   exact .tup _ (by simpa using bHZ.len) (fun j pv w hp hw=>bHZ.at_ j pv w hp (by simpa using hw))
theorem aZA (fn:Func) (tmps:Array Value):results fn tmps=(do
  let vs ← fn.results.mapM (NN tmps)
  pure (if h:vs.size=1 then vs[0] else .tuple vs)):=by
 unfold results
 congr 1
theorem aJ {C:Ctx} (hCP:C.P=T.P) (hCN:C.num=T.num) {name:Nat} {args:List PV} {R:PV→PH→Prop} {fn:Func} {pf:aV} (hf:C.P.funcs[C.num name]?=some fn) (hnm:(fn.name=="runtime.NumGoroutine")=false)
  (hpf:T.func fn=some pf) (hlen:args.length≤pf.ntmps) (h:pf.body.wp C (aU pf.res R) (PF.args args) H):aD C name args H R:=by
 unfold Tbl.func at hpf
 split at hpf
 ·rename_i c hb
  split at hpf
  ·rename_i b rs hcode hress
   cases hpf
   refine⟨⟨fn,hf,by simp[hb],hnm⟩,fun E w vs hN hW hvs=>?_⟩
   have hvl:vs.size=args.length:=by simpa using hvs.len
   refine calls_of_wp hf hb ?_
   rw[hCP]
   have hA:dT fn.ntmps E (PF.args args) { tmps:=vs++bKF (fn.ntmps-vs.size) undef,defers:=[] }:=by
    refine⟨by simp only at hlen; simp; omega,rfl,fun i pv hi=>?_⟩
    have hil:i<vs.size:=by
     rw[hvl]
     rcases bJE i args.length with h' | h'
     ·exact h'
     ·simp[PF.args,bJZ h'] at hi
    simp only[Array.getD_eq_getD_getElem?]
    rw[Array.getElem?_append_left hil,bLO hil]
    exact hvs.at_ i pv _ hi (by simp[hil])
   refine aWF hCP hCN c b (aU rs R) _ E (PF.args args) H _ w hcode h hA hW (hN.trans hCN) fun e E' F' H' a' w' hA' hW' hE hK=>?_
   have key:aU rs R .ret F' H'→bodyPost T.P fn (fun e w'=>∃ v pv E' H',e=.returned v∧bN E' H' w'∧aY E' pv v∧Ext E H w E' H' w'∧R pv H') .ret a' w':=by
    rintro⟨pvs,hpvs,F1,H1,H2,hfz,hle,v0,hv0,hR⟩
    obtain⟨us,g1,g2⟩:=acQ hA' hW' fn.results.toList rs pvs hress hpvs
    have hpk:=aYO g2
    obtain⟨E2,k1,k2,k3⟩:=hfz.sound hW'
    have bIH:=k3 (fun _=>if h:us.toArray.size=1 then us.toArray[0] else .tuple us.toArray) (fun i pv hi=>by
     simp only[PF.set,upd] at hi
     split at hi
     ·cases hi; exact hpk
     ·cases hi) 0 v0 hv0
    refine⟨hA'.defers,_,?_,_,v0,E2,H2,rfl,k1.weaken hle,bIH,(hE.trans k2).drop hle,hR⟩
    rw[aZA,Array.mapM_eq_mapM_toList]
    simp[g1]
   cases e with
   | normal=>exact key hK
   | exit id=>exact hK.elim
   | ret=>exact key hK
  ·cases hpf
 ·cases hpf
end
end Go.PM
namespace Go.PM
open Go
inductive Co:PV→PV→Prop
 | refl (v:PV):Co v v
 | junk (v:PV):Co v .junk
 | nil (s:Nat):Co .aB (.sl s [])
 | osl0 (o s off s':Nat):Co (.osl o s off 0) (.sl s' [])
 | agg {cs ds:List PV} (hl:ds.length=cs.length) (h:∀ (j:Nat) p q,cs[j]?=some p→ds[j]?=some q→Co p q):Co (.agg cs) (.agg ds)
 | tup {cs ds:List PV} (hl:ds.length=cs.length) (h:∀ (j:Nat) p q,cs[j]?=some p→ds[j]?=some q→Co p q):Co (.tup cs) (.tup ds)
 | bJ {cs ds:List PV} (hl:ds.length=cs.length) (h:∀ (j:Nat) p q,cs[j]?=some p→ds[j]?=some q→Co p q):Co (.bJ cs) (.bJ ds)
 | sl {s:Nat} {rs ts:List (List PV)} (hl:ts.length=rs.length) (hr:∀ (i:Nat) r t,rs[i]?=some r→ts[i]?=some t→t.length=r.length)
   (h:∀ (i j:Nat) p q,at2 rs i j=some p→at2 ts i j=some q→Co p q):Co (.sl s rs) (.sl s ts)
structure CoL (ps qs:List PV):Prop where
 len:qs.length=ps.length
 at_:∀ (j:Nat) p q,ps[j]?=some p→qs[j]?=some q→Co p q
theorem CoL.refl (ps:List PV):CoL ps ps:=⟨rfl,fun j p q h k=>by rw[h] at k; cases k; exact .refl p⟩
theorem Co.sound {E:Env} {p q:PV} (h:Co p q):∀ {v:Value},aY E p v→aY E q v:=by
 induction h with
 | refl=>intro v r; exact r
 | junk=>intro v _; exact .junk v
 | nil s =>
  intro v r
  cases r
  exact .sl (fun _ _=>.bool false) (by simp) (by decide) (by simp) (by simp) (fun _ _=>rfl) (by simp[at2])
 | osl0 o s off s' =>
  intro v r
  cases r with
  | osl hb hsp bII hlen bID hn bHO=>exact .sl (fun _ _=>.bool false) (by simp) bID (by simp) (by simp) (fun _ _=>rfl) (by simp[at2])
 | agg hl h ih =>
  intro v r
  cases r with
  | agg vs hl' h1 hr =>
  refine .agg vs (hl'.trans hl.symm) h1 fun j q u hq hu=>?_
  have hj:=(bJX.1 hq).1
  have hp:=bIW (show j<_ by rw[hl] at hj; exact hj)
  exact ih j _ q hp hq (hr j _ u hp hu)
 | tup hl h ih =>
  intro v r
  cases r with
  | tup vs hl' hr =>
  refine .tup vs (hl'.trans hl.symm) fun j q u hq hu=>?_
  have hj:=(bJX.1 hq).1
  have hp:=bIW (show j<_ by rw[hl] at hj; exact hj)
  exact ih j _ q hp hq (hr j _ u hp hu)
 | bJ hl h ih =>
  intro v r
  cases r with
  | bJ u hsp hc h1 hr =>
  refine .bJ u hsp (fun j q hq=>?_) h1 fun j q hq=>?_
  ·have hj:=(bJX.1 hq).1
   exact hc j _ (bIW (show j<_ by rw[hl] at hj; exact hj))
  ·have hj:=(bJX.1 hq).1
   have hp:=bIW (show j<_ by rw[hl] at hj; exact hj)
   exact ih j _ q hp hq (hr j _ hp)
 | @sl s rs ts hl hrr h ih =>
  intro v r
  have key:∀ (i j:Nat) q,at2 ts i j=some q→∃ p,at2 rs i j=some p:=by
   intro i j q hq
   unfold at2 at hq ⊢
   rw[bLN] at hq
   obtain⟨t,ht,hq⟩:=hq
   have hi:=(bJX.1 ht).1
   have hr:=bIW (Om:i<rs.length)
   have:=hrr i _ t hr ht
   have hj:=(bJX.1 hq).1
   rw[hr]
   exact⟨(rs[i])[j]'Om,by simp⟩
  cases r with
  | sl u hcap bID hs ha h1 hr =>
  rw[← hl]
  refine .sl u Om bID (fun t ht=>?_) (fun hne=>?_) h1 fun i j q hq=>?_
  ·obtain⟨i,hi,rfl⟩:=bKQ ht
   have:=hrr i rs[i] ts[i] (by simp) (by simp)
   rw[this]
   exact hs _ (by simp)
  ·obtain⟨ad,e,sp,hc⟩:=ha (by rintro rfl; exact hne (bLZ (by simpa using hl)))
   refine⟨ad,e,sp,fun i j q hq=>?_⟩
   obtain⟨p,hp⟩:=key i j q hq
   exact hc i j p hp
  ·obtain⟨p,hp⟩:=key i j q hq
   exact ih i j p q hp hq (hr i j p hp)
theorem CoL.sound {E:Env}:∀ {ps qs:List PV} {vs:List Value},CoL ps qs→eO E ps vs→eO E qs vs
 | [],qs,vs,h,r=>by
  cases r
  have:qs=[]:=bLZ h.len
  subst this
  exact .nil
 | p::ps,qs,vs,h,r=>by
  cases r with
  | cons r1 r2 =>
  cases qs with
  | nil=>have:=h.len; simp at this
  | cons q qs =>
   refine .cons ((h.at_ 0 p q rfl rfl).sound r1) (CoL.sound ⟨by simpa using h.len,fun j x y a b=>h.at_ (j+1) x y (by simpa using a) (by simpa using b)⟩ r2)
theorem aD.args {C:Ctx} {name:Nat} {args args':List PV} {H:PH} {R:PV→PH→Prop} (h:aD C name args' H R) (hc:CoL args args'):aD C name args H R :=
 ⟨h.1,fun E w vs hN hW hvs=>h.2 E w vs hN hW (hc.sound hvs)⟩
theorem aD.post {C:Ctx} {name:Nat} {args:List PV} {H:PH} {R R':PV→PH→Prop} (h:aD C name args H R) (hR:∀ r H',R r H'→∃ r',Co r r'∧R' r' H'):aD C name args H R' :=
 ⟨h.1,fun E w vs hN hW hvs=>(h.2 E w vs hN hW hvs).mono fun e w' he=>by
  obtain⟨v,pv,E',H',rfl,hW',hr,hE,hp⟩:=he
  obtain⟨pv',hco,hp'⟩:=hR pv H' hp
  exact⟨v,pv',E',H',rfl,hW',hco.sound hr,hE,hp'⟩⟩
attribute [go_sem] List.getElem?_cons_succ List.getElem?_cons_zero and_self and_true true_and or_true true_or or_false false_or bIV bJB bJW bLS if_true if_false bKH bKY List.drop_succ_cons bJO List.take_succ_cons List.take_zero bKV List.map_nil bLB.injEq PV.bool.injEq PV.int.injEq aO PV.bin
@[go_sem] theorem bsW (k:IntKind) (a b:Int):jR .add k a b=some (.int k (k.wrap (a+b))):=(rfl)
@[go_sem] theorem btG (k:IntKind) (a b:Int):jR .sub k a b=some (.int k (k.wrap (a-b))):=(rfl)
@[go_sem] theorem btC (k:IntKind) (a b:Int):jR .mul k a b=some (.int k (k.wrap (a*b))):=(rfl)
@[go_sem] theorem btE (k:IntKind) (a b:Int):jR .quo k a b=if b=0 then none else some (.int k (k.wrap (a.tdiv b))):=(rfl)
@[go_sem] theorem btF (k:IntKind) (a b:Int):jR .rem k a b=if b=0 then none else some (.int k (a.tmod b)):=(rfl)
@[go_sem] theorem bsX (k:IntKind) (a b:Int):jR .eql k a b=some (.bool (a==b)):=(rfl)
@[go_sem] theorem btD (k:IntKind) (a b:Int):jR .neq k a b=some (.bool (a != b)):=(rfl)
@[go_sem] theorem btB (k:IntKind) (a b:Int):jR .lss k a b=some (.bool (decide (a<b))):=(rfl)
@[go_sem] theorem btA (k:IntKind) (a b:Int):jR .leq k a b=some (.bool (decide (a≤b))):=(rfl)
@[go_sem] theorem bsZ (k:IntKind) (a b:Int):jR .gtr k a b=some (.bool (decide (a>b))):=(rfl)
@[go_sem] theorem bsY (k:IntKind) (a b:Int):jR .geq k a b=some (.bool (decide (a≥b))):=(rfl)
section
variable {C:Ctx} {K:cN} {F:PF} {H:PH}
@[go_sem] theorem bEN:aC.wp C .skip K F H=K .normal F H:=(rfl)
@[go_sem] theorem bvF (ops:List bB):aC.wp C (.region ops) K F H=wpOps C ops (K .normal) F H:=(rfl)
@[go_sem] theorem boX (a b:aC):aC.wp C (.seq a b) K F H=a.wp C (iH C (b.wp C) K) F H:=(rfl)
@[go_sem] theorem bwO (id:Nat) (c:aC):aC.wp C (.block id c) K F H=c.wp C (dX id K) F H:=(rfl)
@[go_sem] theorem bEM (id:Nat):aC.wp C (.exit id) K F H=K (.exit id) F H:=(rfl)
@[go_sem] theorem bEY:aC.wp C .ret K F H=K .ret F H:=(rfl)
def QG (C:Ctx) (v:Option PV) (a b:aC) (K:cN) (F:PF) (H:PH):Prop :=
 match v with
 | some (.bool t)=>if t then a.wp C K F H else b.wp C K F H
 | _=>False
@[go_sem] theorem biQ (c:aP) (a b:aC):aC.wp C (.cond c a b) K F H=QG C (c.ev F) a b K F H:=(rfl)
@[go_sem] theorem btO (a b:aC):QG C (some (.bool true)) a b K F H=a.wp C K F H:=(rfl)
@[go_sem] theorem brX (a b:aC):QG C (some (.bool false)) a b K F H=b.wp C K F H:=(rfl)
theorem kO {t:Bool} {a b:aC} (h1:t=true→a.wp C K F H) (h2:t=false→b.wp C K F H):QG C (some (.bool t)) a b K F H:=by
 cases t
 ·exact h2 rfl
 ·exact h1 rfl
@[go_sem] theorem bsF (w:cN→PF→PH→Prop):iH C w K .normal F H=w K F H:=(rfl)
@[go_sem] theorem brM (w:cN→PF→PH→Prop):iH C w K .normal=w K:=(rfl)
@[go_sem] theorem bwB (w:cN→PF→PH→Prop) (id:Nat):iH C w K (.exit id)=K (.exit id):=(rfl)
@[go_sem] theorem bED (w:cN→PF→PH→Prop):iH C w K .ret=K .ret:=(rfl)
@[go_sem] theorem bpI (id:Nat):dX id K .normal=K .normal:=(rfl)
@[go_sem] theorem btK (id:Nat):dX id K .ret=K .ret:=(rfl)
@[go_sem] theorem RJ (id id':Nat):dX id K (.exit id') F H=if id'=id then K .normal F H else K (.exit id') F H:=(rfl)
@[go_sem] theorem bvD (K:PF→PH→Prop):wpOps C [] K F H=K F H:=(rfl)
@[go_sem] theorem bvE (d:Option Nat) (op:POp) (rest:List bB) (K:PF→PH→Prop):wpOps C (⟨d,op,none⟩::rest) K F H=wpOp C op d (wpOps C rest K) F H:=(rfl)
def sQ (C:Ctx) (v:Option PV) (want:Bool) (op:POp) (d:Option Nat) (rest:List bB) (K:PF→PH→Prop) (F:PF) (H:PH):Prop :=
 match v with
 | some (.bool b)=>if b=want then wpOp C op d (wpOps C rest K) F H else wpOps C rest K (F.put d (.tup [])) H
 | some (.tup [])=>wpOps C rest K (F.put d (.tup [])) H
 | _=>False
@[go_sem] theorem aLB (d:Option Nat) (op:POp) (t:Nat) (want:Bool) (rest:List bB) (K:PF→PH→Prop) :
  wpOps C (⟨d,op,some (t,want)⟩::rest) K F H=sQ C (F t) want op d rest K F H:=(rfl)
@[go_sem] theorem bvX (op:POp) (d:Option Nat) (rest:List bB) (K:PF→PH→Prop):sQ C (some (.bool true)) true op d rest K F H=wpOp C op d (wpOps C rest K) F H:=(rfl)
@[go_sem] theorem bvU (op:POp) (d:Option Nat) (rest:List bB) (K:PF→PH→Prop):sQ C (some (.bool false)) false op d rest K F H=wpOp C op d (wpOps C rest K) F H:=(rfl)
@[go_sem] theorem bvW (op:POp) (d:Option Nat) (rest:List bB) (K:PF→PH→Prop):sQ C (some (.bool true)) false op d rest K F H=wpOps C rest K (F.put d (.tup [])) H:=(rfl)
@[go_sem] theorem bvV (op:POp) (d:Option Nat) (rest:List bB) (K:PF→PH→Prop):sQ C (some (.bool false)) true op d rest K F H=wpOps C rest K (F.put d (.tup [])) H:=(rfl)
@[go_sem] theorem bsC (want:Bool) (op:POp) (d:Option Nat) (rest:List bB) (K:PF→PH→Prop):sQ C (some (.tup [])) want op d rest K F H=wpOps C rest K (F.put d (.tup [])) H:=(rfl)
@[go_sem] theorem bAV (d:Nat) (v:PV):F.put (some d) v=F.set d v:=(rfl)
@[go_sem] theorem bAU (v:PV):F.put none v=F:=(rfl)
@[go_sem] theorem lE (i j:Nat) (v:PV):(F.set i v) j=if j=i then some v else F j:=(rfl)
@[go_sem] theorem args_at (vs:List PV) (i:Nat):PF.args vs i=vs[i]?:=(rfl)
@[go_sem] theorem bFD (i:Nat):PF.nil i=none:=(rfl)
@[go_sem] theorem ZX (t:Nat):(aP.tmp t).ev F=F t:=(rfl)
@[go_sem] theorem bAK (v:PV):(aP.const v).ev F=some v:=(rfl)
@[go_sem] theorem bH (i j:Nat) (x:cP):(H.set i x) j=if j=i then some x else H j:=(rfl)
@[go_sem] theorem aiD (i:Nat):PH.nil i=none:=(rfl)
@[go_sem] theorem QJ:aP.evs F []=some []:=(rfl)
@[go_sem] theorem vQ (x:aP) (xs:List aP):aP.evs F (x::xs)=(match x.ev F,aP.evs F xs with | some v,some vs=>some (v::vs) | _,_=>none):=(rfl)
theorem cV {i j:Nat} {x:cP}:(H.set i x) j=none↔j≠i∧H j=none:=by
 rw[bH]
 split<;>simp_all
@[go_sem] theorem bsG (v:PV) (d:Option Nat) (K:PF→PH→Prop):bQ (some v) d K F H=K (F.put d v) H:=by
 simp[bQ]
theorem aQ {mk:Nat→PV} {x:cP} {d:Option Nat} {K:PF→PH→Prop} (h:∀ o,H o=none→K (F.put d (mk o)) (H.set o x)):kX (some (mk,x)) d K F H:=⟨mk,x,rfl,h⟩
@[go_sem] theorem bEW (x:aP) (d:Option Nat) (K:PF→PH→Prop):wpOp C (.mv x) d K F H=bQ (aO (.mv x) F H) d K F H:=(rfl)
@[go_sem] theorem bwN (x:aP) (d:Option Nat) (K:PF→PH→Prop):wpOp C (.same x) d K F H=bQ (aO (.same x) F H) d K F H:=(rfl)
@[go_sem] theorem bwM (c a b:aP) (d:Option Nat) (K:PF→PH→Prop):wpOp C (.pick c a b) d K F H=bQ (aO (.pick c a b) F H) d K F H:=(rfl)
@[go_sem] theorem bEH (o:BinOp) (x y:aP) (d:Option Nat) (K:PF→PH→Prop):wpOp C (.bin o x y) d K F H=bQ (aO (.bin o x y) F H) d K F H:=(rfl)
@[go_sem] theorem bEJ (n:Bool) (x y:aP) (d:Option Nat) (K:PF→PH→Prop):wpOp C (.eqb n x y) d K F H=bQ (aO (.eqb n x y) F H) d K F H:=(rfl)
@[go_sem] theorem bEK (n:Bool) (ks:List Sc) (x y:aP) (d:Option Nat) (K:PF→PH→Prop):wpOp C (.eqs n ks x y) d K F H=bQ (aO (.eqs n ks x y) F H) d K F H:=(rfl)
@[go_sem] theorem bEX (o:UnOp) (x:aP) (d:Option Nat) (K:PF→PH→Prop):wpOp C (.un o x) d K F H=bQ (aO (.un o x) F H) d K F H:=(rfl)
@[go_sem] theorem bwF (k:IntKind) (x:aP) (d:Option Nat) (K:PF→PH→Prop):wpOp C (.conv k x) d K F H=bQ (aO (.conv k x) F H) d K F H:=(rfl)
@[go_sem] theorem buW (z:List PV) (ps:List (Nat × Nat × aP)) (d:Option Nat) (K:PF→PH→Prop):wpOp C (.build z ps) d K F H=bQ (aO (.build z ps) F H) d K F H:=(rfl)
@[go_sem] theorem bwK (n:Option Nat) (p:aP) (d:Option Nat) (K:PF→PH→Prop):wpOp C (.load n p) d K F H=bQ (aO (.load n p) F H) d K F H:=(rfl)
@[go_sem] theorem bsR (x:aP) (d:Option Nat) (K:PF→PH→Prop):wpOp C (.bGX x) d K F H=bQ (aO (.bGX x) F H) d K F H:=(rfl)
@[go_sem] theorem bsK (off:Nat) (x:aP) (d:Option Nat) (K:PF→PH→Prop):wpOp C (.bHU off x) d K F H=bQ (aO (.bHU off x) F H) d K F H:=(rfl)
@[go_sem] theorem buY (off:Nat) (n:Option Nat) (x:aP) (d:Option Nat) (K:PF→PH→Prop):wpOp C (.field off n x) d K F H=bQ (aO (.field off n x) F H) d K F H:=(rfl)
@[go_sem] theorem bwH (s:Nat) (x i:aP) (d:Option Nat) (K:PF→PH→Prop):wpOp C (.bHD s x i) d K F H=bQ (aO (.bHD s x i) F H) d K F H:=(rfl)
@[go_sem] theorem bwG (n s:Nat) (x i:aP) (d:Option Nat) (K:PF→PH→Prop):wpOp C (.idxA n s x i) d K F H=bQ (aO (.idxA n s x i) F H) d K F H:=(rfl)
@[go_sem] theorem bwI (n s:Nat) (g:Bool) (x i:aP) (d:Option Nat) (K:PF→PH→Prop):wpOp C (.idxV n s g x i) d K F H=bQ (aO (.idxV n s g x i) F H) d K F H:=(rfl)
@[go_sem] theorem bsL (x i:aP) (d:Option Nat) (K:PF→PH→Prop):wpOp C (.bHR x i) d K F H=bQ (aO (.bHR x i) F H) d K F H:=(rfl)
@[go_sem] theorem bvB (s:Nat) (x:aP) (lo hi mx:Option aP) (d:Option Nat) (K:PF→PH→Prop):wpOp C (.slice s x lo hi mx) d K F H=bQ (aO (.slice s x lo hi mx) F H) d K F H:=(rfl)
@[go_sem] theorem bsS (n s:Nat) (x:aP) (lo hi mx:Option aP) (d:Option Nat) (K:PF→PH→Prop):wpOp C (.sliceA n s x lo hi mx) d K F H=bQ (aO (.sliceA n s x lo hi mx) F H) d K F H:=(rfl)
@[go_sem] theorem bpL (x:aP) (lo hi:Option aP) (d:Option Nat) (K:PF→PH→Prop):wpOp C (.bHL x lo hi) d K F H=bQ (aO (.bHL x lo hi) F H) d K F H:=(rfl)
@[go_sem] theorem bvY:PV.tJ .aB=some (.int .i64 0):=(rfl)
@[go_sem] theorem bEV (s:Nat) (rows:List (List PV)):PV.tJ (.sl s rows)=some (.int .i64 rows.length):=(rfl)
@[go_sem] theorem bAS (o s off n:Nat):PV.tJ (.osl o s off n)=some (.int .i64 n):=(rfl)
@[go_sem] theorem bEL (x:aP) (d:Option Nat) (K:PF→PH→Prop):wpOp C (.len x) d K F H=bQ (aO (.len x) F H) d K F H:=(rfl)
@[go_sem] theorem bsN (x:aP) (d:Option Nat) (K:PF→PH→Prop):wpOp C (.bHQ x) d K F H=bQ (aO (.bHQ x) F H) d K F H:=(rfl)
@[go_sem] theorem bwJ (x:aP) (d:Option Nat) (K:PF→PH→Prop):wpOp C (.lenM x) d K F H=bQ (aO (.lenM x) F H) d K F H:=(rfl)
@[go_sem] theorem buZ (n:Bool) (x:aP) (d:Option Nat) (K:PF→PH→Prop):wpOp C (.isNil n x) d K F H=bQ (aO (.isNil n x) F H) d K F H:=(rfl)
@[go_sem] theorem bsE:PV.BR .aB=some true:=(rfl)
@[go_sem] theorem buD (o s off len:Nat):PV.BR (.osl o s off len)=some false:=(rfl)
@[go_sem] theorem bsD (s:Nat) (r:List PV) (rs:List (List PV)):PV.BR (.sl s (r::rs))=some false:=(rfl)
@[go_sem] theorem bsJ (x:aP) (d:Option Nat) (K:PF→PH→Prop):wpOp C (.bIK x) d K F H=bQ (aO (.bIK x) F H) d K F H:=(rfl)
@[go_sem] theorem brU (x:aP) (i:Nat) (d:Option Nat) (K:PF→PH→Prop):wpOp C (.extract x i) d K F H=bQ (aO (.extract x i) F H) d K F H:=(rfl)
@[go_sem] theorem bsQ (m:Bool) (x y:aP) (d:Option Nat) (K:PF→PH→Prop):wpOp C (.bHJ m x y) d K F H=bQ (aO (.bHJ m x y) F H) d K F H:=(rfl)
@[go_sem] theorem bwL (n:Nat) (cs:List aP) (d:Option Nat) (K:PF→PH→Prop):wpOp C (.mkfn n cs) d K F H=bQ (aO (.mkfn n cs) F H) d K F H:=(rfl)
@[go_sem] theorem bsO (sh:MSh) (z:PV) (x k:aP) (ok:Bool) (d:Option Nat) (K:PF→PH→Prop):wpOp C (.lookup sh z x k ok) d K F H=bQ (aO (.lookup sh z x k ok) F H) d K F H:=(rfl)
@[go_sem] theorem boW (x:aP) (d:Option Nat) (K:PF→PH→Prop):wpOp C (.bGY x) d K F H=bQ (aO (.bGY x) F H) d K F H:=(rfl)
@[go_sem] theorem bwD (x:aP) (d:Option Nat) (K:PF→PH→Prop):wpOp C (.box true x) d K F H=bQ (aO (.box true x) F H) d K F H:=(rfl)
@[go_sem] theorem brT (s l:Nat) (z:List PV) (ps:List (Nat × aP)) (d:Option Nat) (K:PF→PH→Prop):wpOp C (.bGO true s l z ps) d K F H=bQ (aO (.bGO true s l z ps) F H) d K F H:=(rfl)
@[go_sem] theorem buV (cs:List PV) (d:Option Nat) (K:PF→PH→Prop):wpOp C (.alloc cs) d K F H=kX (cQ (.alloc cs) F) d K F H:=(rfl)
@[go_sem] theorem brV (s b:Nat) (z:List PV) (l c:aP) (d:Option Nat) (K:PF→PH→Prop):wpOp C (.bGS s b z l c) d K F H=kX (cQ (.bGS s b z l c) F) d K F H:=(rfl)
@[go_sem] theorem bvA (sh:MSh) (d:Option Nat) (K:PF→PH→Prop):wpOp C (.bIE sh) d K F H=kX (cQ (.bIE sh) F) d K F H:=(rfl)
@[go_sem] theorem bEI (x:aP) (d:Option Nat) (K:PF→PH→Prop):wpOp C (.box false x) d K F H=kX (cQ (.box false x) F) d K F H:=(rfl)
@[go_sem] theorem bsI (s l:Nat) (z:List PV) (ps:List (Nat × aP)) (d:Option Nat) (K:PF→PH→Prop):wpOp C (.bGO false s l z ps) d K F H=kX (cQ (.bGO false s l z ps) F) d K F H:=(rfl)
@[go_sem] theorem bvC (n:Nat) (p x:aP) (d:Option Nat) (K:PF→PH→Prop):wpOp C (.store n p x) d K F H=bV (.store n p x) F H (fun r H'=>K (F.put d r) H'):=(rfl)
@[go_sem] theorem bsH (s b:Nat) (x y:aP) (d:Option Nat) (K:PF→PH→Prop):wpOp C (.append s b x y) d K F H=bV (.append s b x y) F H (fun r H'=>K (F.put d r) H'):=(rfl)
@[go_sem] theorem bsP (sh:MSh) (x k v:aP) (d:Option Nat) (K:PF→PH→Prop):wpOp C (.bHG sh x k v) d K F H=bV (.bHG sh x k v) F H (fun r H'=>K (F.put d r) H'):=(rfl)
@[go_sem] theorem bsM (sh:MSh) (x k v:aP) (d:Option Nat) (K:PF→PH→Prop):wpOp C (.insert sh x k v) d K F H=bV (.insert sh x k v) F H (fun r H'=>K (F.put d r) H'):=(rfl)
@[go_sem] theorem bwE (n:Nat) (az:List aP) (d:Option Nat) (K:PF→PH→Prop):wpOp C (.call n az) d K F H=fU C n az [] d K F H:=(rfl)
@[go_sem] theorem buX (x:aP) (az:List aP) (d:Option Nat) (K:PF→PH→Prop):wpOp C (.bHT x az) d K F H=(∃ n cs,x.ev F=some (.fn n cs)∧fU C n az cs d K F H):=(rfl)
theorem PF.nil_le:PF.nil.le F:=fun _ _ h=>(by cases h)
theorem PF.aI {i:Nat} {v:PV} {G:PF} (h1:F.le G) (h2:G i=some v):(F.set i v).le G:=by
 intro j u hj
 rw[lE] at hj
 split at hj
 ·rename_i e; subst e; cases hj; exact h2
 ·exact h1 _ _ hj
theorem PF.le_refl:F.le F:=fun _ _ h=>h
theorem PH.nil_le:PH.nil.le H:=fun _ _ h=>(by cases h)
theorem PH.aI {i:Nat} {x:cP} {G:PH} (h1:H.le G) (h2:G i=some x):(H.set i x).le G:=by
 intro j u hj
 rw[bH] at hj
 split at hj
 ·rename_i e; subst e; cases hj; exact h2
 ·exact h1 _ _ hj
theorem PH.le_refl:H.le H:=fun _ _ h=>h
theorem wp_loop {c:aC} {α:Type} (Fs:α→PF) (Hs:α→PH) (Pr:α→Prop) (m:α→Nat) (a0:α) (h0:Pr a0) (hF:(Fs a0).le F) (hH:(Hs a0).le H)
  (hb:∀ a,Pr a→c.wp C (eF Fs Hs Pr m (m a) K) (Fs a) (Hs a)):aC.wp C (.loop c) K F H :=
 ⟨α,Fs,Hs,Pr,m,a0,F,H,.refl F H,h0,hF,hH,hb⟩
theorem aK {α:Type} {Fs:α→PF} {Hs:α→PH} {Pr:α→Prop} {m:α→Nat} {n:Nat} (a:α) (h0:Pr a) (hm:m a<n) (hF:(Fs a).le F) (hH:(Hs a).le H):eF Fs Hs Pr m n K .normal F H :=
 ⟨a,F,H,.refl F H,h0,hm,hF,hH⟩
@[go_sem] theorem buG {α:Type} {Fs:α→PF} {Hs:α→PH} {Pr:α→Prop} {m:α→Nat} {n:Nat} (id:Nat):eF Fs Hs Pr m n K (.exit id)=K (.exit id):=(rfl)
@[go_sem] theorem bvZ {α:Type} {Fs:α→PF} {Hs:α→PH} {Pr:α→Prop} {m:α→Nat} {n:Nat}:eF Fs Hs Pr m n K .ret=K .ret:=(rfl)
def aE (v:PV) (r:PV) (H:PH):Prop:=r=v∧H=PH.nil
theorem PH.kS:H.eN .nil .nil=H:=PH.ext fun o=>rfl
theorem aLA {name:Nat} {vs cs:List PV} {v:PV} {args:List aP} {d:Option Nat} {K:PF→PH→Prop} (h:aD C name (vs++cs) .nil (aE v)) (ha:aP.evs F args=some vs)
  (hk:K (F.put d v) H):fU C name args cs d K F H:=by
 refine .inl ⟨vs++cs,.nil,_,by rw[ha]; rfl,PH.nil_le,h,?_⟩
 rintro r H' ⟨rfl,rfl⟩ _
 rw[PH.kS]
 exact hk
theorem aA {name:Nat} {vs:List PV} {v:PV} {args:List aP} {d:Option Nat} {K:PF→PH→Prop} (h:aD C name vs .nil (aE v)) (ha:aP.evs F args=some vs)
  (hk:K (F.put d v) H):fU C name args [] d K F H:=aLA (cs:=[]) (by rw[bKM]; exact h) ha hk
theorem aM {res:List dU} {vs:List PV} {v:PV} {e:lH} (he:e=.normal∨e=.ret) (h:dU.evs F H res=some vs) (hv:aX vs=v):aU res (aE v) e F H:=by
 have key:∃ vs,dU.evs F H res=some vs∧∃ F1 H1 H2,hJ (PF.nil.set 0 (aX vs)) H F1 H1∧H2.le H1∧∃ u,F1 0=some u∧aE v u H2 :=
  ⟨vs,h,_,H,.nil,.refl _ _,PH.nil_le,v,by rw[lE,if_pos rfl,hv],rfl,rfl⟩
 rcases he with rfl | rfl<;>exact key
@[go_sem] theorem pN:dU.evs F H []=some []:=(rfl)
@[go_sem] theorem kU (x:dU) (xs:List dU):dU.evs F H (x::xs)=(match x.ev F H,dU.evs F H xs with | some v,some vs=>some (v::vs) | _,_=>none):=(rfl)
@[go_sem] theorem nP (t:Nat):dU.ev F H (.tmp t)=F t:=(rfl)
@[go_sem] theorem bEC (t:Nat):dU.ev F H (.cell t none)=(match F t with | some p=>(match loadCells H p 1 with | some [v]=>some v | _=>none) | none=>none):=(rfl)
@[go_sem] theorem bwA (t k:Nat):dU.ev F H (.cell t (some k))=(match F t with | some p=>(loadCells H p k).map .agg | none=>none):=(rfl)
end
section
variable {C:Ctx} {K:cN} {F:PF} {H Hs:PH} {S:Spec}
theorem bT {ops:List (bB × Bool)} (Hs:PH) (S:Spec) (hle:Hs.le H) (h:wpD C Hs S ops (K .normal) F H):aC.wp C (.draw ops) K F H:=⟨Hs,S,hle,h⟩
def eG:Spec:=fun _ _=>none
def dOp (C:Ctx) (Hs:PH) (S:Spec) (st:Bool) (op:POp) (d:Option Nat) (K:PF→PH→Prop) (F:PF) (H:PH):Prop:=(op.kind F).run C Hs S st (fun v H'=>K (F.put d v) H') H
@[go_sem] theorem bEF (K:PF→PH→Prop):wpD C Hs S [] K F H=K F H:=(rfl)
@[go_sem] theorem bEG (d:Option Nat) (op:POp) (st:Bool) (rest:List (bB × Bool)) (K:PF→PH→Prop):wpD C Hs S ((⟨d,op,none⟩,st)::rest) K F H=dOp C Hs S st op d (wpD C Hs S rest K) F H:=(rfl)
def vZ (C:Ctx) (Hs:PH) (S:Spec) (v:Option PV) (want st:Bool) (op:POp) (d:Option Nat) (rest:List (bB × Bool)) (K:PF→PH→Prop) (F:PF) (H:PH):Prop :=
 match v with
 | some (.bool b)=>if b=want then dOp C Hs S st op d (wpD C Hs S rest K) F H else wpD C Hs S rest K (F.put d (.tup [])) H
 | some (.tup [])=>wpD C Hs S rest K (F.put d (.tup [])) H
 | _=>False
@[go_sem] theorem bwC (d:Option Nat) (op:POp) (t:Nat) (want st:Bool) (rest:List (bB × Bool)) (K:PF→PH→Prop) :
  wpD C Hs S ((⟨d,op,some (t,want)⟩,st)::rest) K F H=vZ C Hs S (F t) want st op d rest K F H:=by
 have e1:wpD C Hs S ((⟨d,op,some (t,want)⟩,st)::rest) K F H=((⟨d,op,some (t,want)⟩:bB).kind F).run C Hs S st (fun v H'=>wpD C Hs S rest K (F.put d v) H') H:=(rfl)
 rw[e1]
 unfold bB.kind vZ
 simp only
 cases F t with
 | none=>rfl
 | some v =>
  cases v
  case bool b =>
   simp only
   by_cases hb:b=want
   ·rw[if_pos hb,if_pos hb]; rfl
   ·rw[if_neg hb,if_neg hb]; simp[Kind.run]
  case tup vs=>cases vs<;>simp[Kind.run]
  all_goals rfl
@[go_sem] theorem bvT (op:POp) (st:Bool) (d:Option Nat) (rest:List (bB × Bool)) (K:PF→PH→Prop):vZ C Hs S (some (.bool true)) true st op d rest K F H=dOp C Hs S st op d (wpD C Hs S rest K) F H:=(rfl)
@[go_sem] theorem bvQ (op:POp) (st:Bool) (d:Option Nat) (rest:List (bB × Bool)) (K:PF→PH→Prop):vZ C Hs S (some (.bool false)) false st op d rest K F H=dOp C Hs S st op d (wpD C Hs S rest K) F H:=(rfl)
@[go_sem] theorem bvS (op:POp) (st:Bool) (d:Option Nat) (rest:List (bB × Bool)) (K:PF→PH→Prop):vZ C Hs S (some (.bool true)) false st op d rest K F H=wpD C Hs S rest K (F.put d (.tup [])) H:=(rfl)
@[go_sem] theorem bvR (op:POp) (st:Bool) (d:Option Nat) (rest:List (bB × Bool)) (K:PF→PH→Prop):vZ C Hs S (some (.bool false)) true st op d rest K F H=wpD C Hs S rest K (F.put d (.tup [])) H:=(rfl)
@[go_sem] theorem bsB (want:Bool) (op:POp) (st:Bool) (d:Option Nat) (rest:List (bB × Bool)) (K:PF→PH→Prop):vZ C Hs S (some (.tup [])) want st op d rest K F H=wpD C Hs S rest K (F.put d (.tup [])) H:=(rfl)
@[go_sem] theorem bEZ (x:aP) (st:Bool) (d:Option Nat) (K:PF→PH→Prop):dOp C Hs S st (.mv x) d K F H=bQ (aO (.mv x) F (if st then Hs else H)) d K F H:=(rfl)
@[go_sem] theorem bAI (x:aP) (st:Bool) (d:Option Nat) (K:PF→PH→Prop):dOp C Hs S st (.same x) d K F H=bQ (aO (.same x) F (if st then Hs else H)) d K F H:=(rfl)
@[go_sem] theorem bAH (c a b:aP) (st:Bool) (d:Option Nat) (K:PF→PH→Prop):dOp C Hs S st (.pick c a b) d K F H=bQ (aO (.pick c a b) F (if st then Hs else H)) d K F H:=(rfl)
@[go_sem] theorem bEO (o:BinOp) (x y:aP) (st:Bool) (d:Option Nat) (K:PF→PH→Prop):dOp C Hs S st (.bin o x y) d K F H=bQ (aO (.bin o x y) F (if st then Hs else H)) d K F H:=(rfl)
@[go_sem] theorem bEQ (n:Bool) (x y:aP) (st:Bool) (d:Option Nat) (K:PF→PH→Prop):dOp C Hs S st (.eqb n x y) d K F H=bQ (aO (.eqb n x y) F (if st then Hs else H)) d K F H:=(rfl)
@[go_sem] theorem bER (n:Bool) (ks:List Sc) (x y:aP) (st:Bool) (d:Option Nat) (K:PF→PH→Prop):dOp C Hs S st (.eqs n ks x y) d K F H=bQ (aO (.eqs n ks x y) F (if st then Hs else H)) d K F H:=(rfl)
@[go_sem] theorem bFA (o:UnOp) (x:aP) (st:Bool) (d:Option Nat) (K:PF→PH→Prop):dOp C Hs S st (.un o x) d K F H=bQ (aO (.un o x) F (if st then Hs else H)) d K F H:=(rfl)
@[go_sem] theorem bAA (k:IntKind) (x:aP) (st:Bool) (d:Option Nat) (K:PF→PH→Prop):dOp C Hs S st (.conv k x) d K F H=bQ (aO (.conv k x) F (if st then Hs else H)) d K F H:=(rfl)
@[go_sem] theorem bvH (z:List PV) (ps:List (Nat × Nat × aP)) (st:Bool) (d:Option Nat) (K:PF→PH→Prop):dOp C Hs S st (.build z ps) d K F H=bQ (aO (.build z ps) F (if st then Hs else H)) d K F H:=(rfl)
@[go_sem] theorem bAF (n:Option Nat) (p:aP) (st:Bool) (d:Option Nat) (K:PF→PH→Prop):dOp C Hs S st (.load n p) d K F H=bQ (aO (.load n p) F (if st then Hs else H)) d K F H:=(rfl)
@[go_sem] theorem btY (x:aP) (st:Bool) (d:Option Nat) (K:PF→PH→Prop):dOp C Hs S st (.bGX x) d K F H=bQ (aO (.bGX x) F (if st then Hs else H)) d K F H:=(rfl)
@[go_sem] theorem btS (off:Nat) (x:aP) (st:Bool) (d:Option Nat) (K:PF→PH→Prop):dOp C Hs S st (.bHU off x) d K F H=bQ (aO (.bHU off x) F (if st then Hs else H)) d K F H:=(rfl)
@[go_sem] theorem bvI (off:Nat) (n:Option Nat) (x:aP) (st:Bool) (d:Option Nat) (K:PF→PH→Prop):dOp C Hs S st (.field off n x) d K F H=bQ (aO (.field off n x) F (if st then Hs else H)) d K F H:=(rfl)
@[go_sem] theorem bAC (s:Nat) (x i:aP) (st:Bool) (d:Option Nat) (K:PF→PH→Prop):dOp C Hs S st (.bHD s x i) d K F H=bQ (aO (.bHD s x i) F (if st then Hs else H)) d K F H:=(rfl)
@[go_sem] theorem bAB (n s:Nat) (x i:aP) (st:Bool) (d:Option Nat) (K:PF→PH→Prop):dOp C Hs S st (.idxA n s x i) d K F H=bQ (aO (.idxA n s x i) F (if st then Hs else H)) d K F H:=(rfl)
@[go_sem] theorem bAD (n s:Nat) (g:Bool) (x i:aP) (st:Bool) (d:Option Nat) (K:PF→PH→Prop):dOp C Hs S st (.idxV n s g x i) d K F H=bQ (aO (.idxV n s g x i) F (if st then Hs else H)) d K F H:=(rfl)
@[go_sem] theorem btT (x i:aP) (st:Bool) (d:Option Nat) (K:PF→PH→Prop):dOp C Hs S st (.bHR x i) d K F H=bQ (aO (.bHR x i) F (if st then Hs else H)) d K F H:=(rfl)
@[go_sem] theorem bvL (s:Nat) (x:aP) (lo hi mx:Option aP) (st:Bool) (d:Option Nat) (K:PF→PH→Prop):dOp C Hs S st (.slice s x lo hi mx) d K F H=bQ (aO (.slice s x lo hi mx) F (if st then Hs else H)) d K F H:=(rfl)
@[go_sem] theorem bpU (x:aP) (lo hi:Option aP) (st:Bool) (d:Option Nat) (K:PF→PH→Prop):dOp C Hs S st (.bHL x lo hi) d K F H=bQ (aO (.bHL x lo hi) F (if st then Hs else H)) d K F H:=(rfl)
@[go_sem] theorem bES (x:aP) (st:Bool) (d:Option Nat) (K:PF→PH→Prop):dOp C Hs S st (.len x) d K F H=bQ (aO (.len x) F (if st then Hs else H)) d K F H:=(rfl)
@[go_sem] theorem btU (x:aP) (st:Bool) (d:Option Nat) (K:PF→PH→Prop):dOp C Hs S st (.bHQ x) d K F H=bQ (aO (.bHQ x) F (if st then Hs else H)) d K F H:=(rfl)
@[go_sem] theorem bAE (x:aP) (st:Bool) (d:Option Nat) (K:PF→PH→Prop):dOp C Hs S st (.lenM x) d K F H=bQ (aO (.lenM x) F (if st then Hs else H)) d K F H:=(rfl)
@[go_sem] theorem bvJ (n:Bool) (x:aP) (st:Bool) (d:Option Nat) (K:PF→PH→Prop):dOp C Hs S st (.isNil n x) d K F H=bQ (aO (.isNil n x) F (if st then Hs else H)) d K F H:=(rfl)
@[go_sem] theorem btR (x:aP) (st:Bool) (d:Option Nat) (K:PF→PH→Prop):dOp C Hs S st (.bIK x) d K F H=bQ (aO (.bIK x) F (if st then Hs else H)) d K F H:=(rfl)
@[go_sem] theorem brZ (x:aP) (i:Nat) (st:Bool) (d:Option Nat) (K:PF→PH→Prop):dOp C Hs S st (.extract x i) d K F H=bQ (aO (.extract x i) F (if st then Hs else H)) d K F H:=(rfl)
@[go_sem] theorem btX (m:Bool) (x y:aP) (st:Bool) (d:Option Nat) (K:PF→PH→Prop):dOp C Hs S st (.bHJ m x y) d K F H=bQ (aO (.bHJ m x y) F (if st then Hs else H)) d K F H:=(rfl)
@[go_sem] theorem bAG (n:Nat) (cs:List aP) (st:Bool) (d:Option Nat) (K:PF→PH→Prop):dOp C Hs S st (.mkfn n cs) d K F H=bQ (aO (.mkfn n cs) F (if st then Hs else H)) d K F H:=(rfl)
@[go_sem] theorem btV (sh:MSh) (z:PV) (x k:aP) (ok:Bool) (st:Bool) (d:Option Nat) (K:PF→PH→Prop):dOp C Hs S st (.lookup sh z x k ok) d K F H=bQ (aO (.lookup sh z x k ok) F (if st then Hs else H)) d K F H:=(rfl)
@[go_sem] theorem bpK (x:aP) (st:Bool) (d:Option Nat) (K:PF→PH→Prop):dOp C Hs S st (.bGY x) d K F H=bQ (aO (.bGY x) F (if st then Hs else H)) d K F H:=(rfl)
@[go_sem] theorem bzZ (x:aP) (st:Bool) (d:Option Nat) (K:PF→PH→Prop):dOp C Hs S st (.box true x) d K F H=bQ (aO (.box true x) F (if st then Hs else H)) d K F H:=(rfl)
@[go_sem] theorem brY (s l:Nat) (z:List PV) (ps:List (Nat × aP)) (st:Bool) (d:Option Nat) (K:PF→PH→Prop):dOp C Hs S st (.bGO true s l z ps) d K F H=bQ (aO (.bGO true s l z ps) F (if st then Hs else H)) d K F H:=(rfl)
@[go_sem] theorem bvG (cs:List PV) (st:Bool) (d:Option Nat) (K:PF→PH→Prop):dOp C Hs S st (.alloc cs) d K F H=kX (cQ (.alloc cs) F) d K F H:=(rfl)
@[go_sem] theorem bsA (s b:Nat) (z:List PV) (l c:aP) (st:Bool) (d:Option Nat) (K:PF→PH→Prop):dOp C Hs S st (.bGS s b z l c) d K F H=kX (cQ (.bGS s b z l c) F) d K F H:=(rfl)
@[go_sem] theorem bvK (sh:MSh) (st:Bool) (d:Option Nat) (K:PF→PH→Prop):dOp C Hs S st (.bIE sh) d K F H=kX (cQ (.bIE sh) F) d K F H:=(rfl)
@[go_sem] theorem bEP (x:aP) (st:Bool) (d:Option Nat) (K:PF→PH→Prop):dOp C Hs S st (.box false x) d K F H=kX (cQ (.box false x) F) d K F H:=(rfl)
@[go_sem] theorem btQ (s l:Nat) (z:List PV) (ps:List (Nat × aP)) (st:Bool) (d:Option Nat) (K:PF→PH→Prop):dOp C Hs S st (.bGO false s l z ps) d K F H=kX (cQ (.bGO false s l z ps) F) d K F H:=(rfl)
@[go_sem] theorem bvM (n:Nat) (p x:aP) (st:Bool) (d:Option Nat) (K:PF→PH→Prop):dOp C Hs S st (.store n p x) d K F H=bV (.store n p x) F H (fun r H'=>Hs.le H'∧K (F.put d r) H'):=(rfl)
@[go_sem] theorem btP (s b:Nat) (x y:aP) (st:Bool) (d:Option Nat) (K:PF→PH→Prop):dOp C Hs S st (.append s b x y) d K F H=bV (.append s b x y) F H (fun r H'=>Hs.le H'∧K (F.put d r) H'):=(rfl)
@[go_sem] theorem btW (sh:MSh) (x k v:aP) (st:Bool) (d:Option Nat) (K:PF→PH→Prop):dOp C Hs S st (.bHG sh x k v) d K F H=bV (.bHG sh x k v) F H (fun r H'=>Hs.le H'∧K (F.put d r) H'):=(rfl)
theorem GH:H.only []=PH.nil:=PH.ext fun o=>by simp[PH.only,PH.nil]
theorem bK {name:Nat} {vs:List PV} {v:PV} {args:List aP} {st:Bool} {d:Option Nat} {K:PF→PH→Prop} (hS:S name vs=some ([],fun _=>aE v)) (h:aD C name vs .nil (aE v)) (ha:aP.evs F args=some vs)
  (hle:Hs.le H) (hk:K (F.put d v) H):dOp C Hs S st (.call name args) d K F H:=by
 refine⟨vs,[],fun _=>aE v,ha,hS,fun o ho=>by simp at ho,by rw[GH]; exact h,fun G=>⟨v,.nil,⟨rfl,rfl⟩,fun o x hx=>by simp[PH.nil] at hx⟩,?_⟩
 rintro r H' ⟨rfl,rfl⟩ -
 rw[GH,PH.kS]
 exact⟨hle,hk⟩
theorem QH {sh:MSh} {x k v:aP} {o:Nat} {kv vv:PV} {key:List KS} {g:fE} {st:Bool} {d:Option Nat} {K:PF→PH→Prop} (hx:x.ev F=some (.map o)) (hk:k.ev F=some kv) (hv:v.ev F=some vv) (hkey:keyOf sh kv=some key)
  (ho:H o=some (.map sh g)) (hg:g key=none) (hs:Hs o=none) (h:K (F.put d .junk) (H.set o (.map sh (g.upd key vv)))):dOp C Hs S st (.insert sh x k v) d K F H:=by
 refine⟨o,sh,key,vv,g,?_,ho,hg,hs,h⟩
 simp only[hx,hk,hv,hkey,bJW]
end
theorem wrap_i64 {n:Int} (h1:-9223372036854775808≤n) (h2:n≤9223372036854775807):IntKind.i64.wrap n=n:=by
 have e:IntKind.i64.wrap n=if decide (n%18446744073709551616≥9223372036854775808)=true then n%18446744073709551616-18446744073709551616 else n%18446744073709551616:=by
  simp[IntKind.wrap,IntKind.bits,IntKind.signed]
 rw[e]
 split
 ·rename_i h; simp only[decide_eq_true_eq] at h; omega
 ·rename_i h; simp only[decide_eq_true_eq] at h; omega
theorem xB {k:Nat} (h:k≤9223372036854775807):IntKind.i64.wrap (k:Int)=k:=wrap_i64 Om Om
theorem dE {k:Nat} (h:k<9223372036854775807):IntKind.i64.wrap ((k:Int)+1)=((k+1:Nat):Int):=by
 rw[wrap_i64 Om Om]; omega
theorem wZz (k:Nat) (h:k<9223372036854775807:=by omega):IntKind.i64.wrap ((k:Int)+1)=((k+1:Nat):Int):=dE h
theorem wrap_u64 {n:Int} (h1:0≤n) (h2:n<18446744073709551616):IntKind.u64.wrap n=n:=by
 have e:IntKind.u64.wrap n=n%18446744073709551616:=by
  simp[IntKind.wrap,IntKind.bits,IntKind.signed]
 rw[e]; omega
theorem wrap_u8 {n:Int} (h1:0≤n) (h2:n<256):IntKind.u8.wrap n=n:=by
 have e:IntKind.u8.wrap n=n%256:=by
  simp[IntKind.wrap,IntKind.bits,IntKind.signed]
 rw[e]; omega
abbrev ints (xs:List Int):PV:=.sl 1 (xs.map fun n=>[.int .i64 n])
open Go Go.RowKit
inductive CT where
 | int (k:IntKind)
 | bool
 | str
 | sl (es:List CT)
 deriving Inhabited
def oH (P:Program) (rec:TypeId→Option (List CT)):Nat→List Field→Option (List CT)
 | _,[]=>some []
 | k,f::fs=>match rec f.type with
  | some cts=>if f.offset=k∧P.cellsOf f.type=cts.length then (oH P rec (k+cts.length) fs).map (cts++·) else none
  | none=>none
def fJ (P:Program):Nat→TypeId→Option (List CT)
 | 0,_=>none
 | n+1,t=>match P.underlying t with
  | some .bool=>some [.bool]
  | some (.int k)=>some [.int k]
  | some .string=>some [.str]
  | some (.slice e)=>match fJ P n e with
   | some cts=>if P.cellsOf e=cts.length∧0<cts.length then some [.sl cts] else none
   | none=>none
  | some (.struct fs)=>match oH P (fJ P n) 0 fs.toList with
   | some cts=>if P.cellsOf t=cts.length then some cts else none
   | none=>none
  | some (.array k e)=>match fJ P n e with
   | some cts=>if P.cellsOf e=cts.length∧P.cellsOf t=k*cts.length then some (bIP k cts).flatten else none
   | none=>none
  | _=>none
inductive PV.Ty:CT→PV→Prop
 | int {k:IntKind} {n:Int} (h:(Lit.int k n).wf=true):PV.Ty (.int k) (.int k n)
 | bool (b:Bool):PV.Ty .bool (.bool b)
 | str {s:List UInt8} (h:s.length≤maxLen):PV.Ty .str (.str s)
 | sl {es:List CT} {rows:List (List PV)} (hr:∀ r∈rows,r.length=es.length) (hl:rows.length≤maxLen) (h:∀ (i j:Nat) pv ct,at2 rows i j=some pv→es[j]?=some ct→PV.Ty ct pv):PV.Ty (.sl es) (.sl es.length rows)
def Env.of (W:World) (num:Nat→FuncId):Env:=⟨fun b=>match W.heap[b]? with | some (.cells cs _ _)=>some cs | _=>none,fun _=>none,num⟩
theorem bN.start (W:World) (num:Nat→FuncId):bN (Env.of W num) PH.nil W:=by
 refine⟨fun b cs hb=>⟨fun x hx=>(by cases hx),?_⟩,fun o x hx=>(by cases hx),fun o n h=>(by cases h)⟩
 simp only[Env.of] at hb
 split at hb
 ·rename_i c ty fr h
  cases hb
  exact⟨ty,fr,h⟩
 ·cases hb
structure Reads (E:Env) (cts:List CT) (pvs:List PV) (cs:List Value):Prop where
 lp:pvs.length=cts.length
 lc:cs.length=cts.length
 rep:∀ (j:Nat) pv c,pvs[j]?=some pv→cs[j]?=some c→aY E pv c∧c.oneCell'=true
 ty:∀ (j:Nat) pv ct,pvs[j]?=some pv→cts[j]?=some ct→PV.Ty ct pv
theorem Reads.one {E:Env} {ct:CT} {pv:PV} {c:Value} (h:aY E pv c) (h1:c.oneCell'=true) (ht:PV.Ty ct pv):Reads E [ct] [pv] [c]:=by
 refine⟨rfl,rfl,fun j p u a b=>?_,fun j p u a b=>?_⟩
 ·cases j with
  | zero=>simp at a b; subst a; subst b; exact⟨h,h1⟩
  | succ j=>simp at a
 ·cases j with
  | zero=>simp at a b; subst a; subst b; exact ht
  | succ j=>simp at a
theorem Reads.append {E:Env} {ct1 ct2:List CT} {p1 p2:List PV} {c1 c2:List Value} (h:Reads E ct1 p1 c1) (k:Reads E ct2 p2 c2):Reads E (ct1++ct2) (p1++p2) (c1++c2):=by
 refine⟨by simp[h.lp,k.lp],by simp[h.lc,k.lc],fun j p u a b=>?_,fun j p u a b=>?_⟩
 ·rcases bJE j p1.length with hj | hj
  ·rw[bLC hj] at a
   rw[bLC (by rw[h.lc,← h.lp]; exact hj)] at b
   exact h.rep j p u a b
  ·rw[bKT hj] at a
   rw[bKT (by rw[h.lc,← h.lp]; exact hj)] at b
   rw[show j-c1.length=j-p1.length by rw[h.lc,h.lp]] at b
   exact k.rep _ p u a b
 ·rcases bJE j p1.length with hj | hj
  ·rw[bLC hj] at a
   rw[bLC (by rw[← h.lp]; exact hj)] at b
   exact h.ty j p u a b
  ·rw[bKT hj] at a
   rw[bKT (by rw[← h.lp]; exact hj)] at b
   rw[show j-ct1.length=j-p1.length by rw[h.lp]] at b
   exact k.ty _ p u a b
theorem YG {W:World} {num:Nat→FuncId} {a:Addr} {v:Value} (h:W.cell? a=some v):a.spot=none∧(Env.of W num).cell a.block a.off=some v:=by
 unfold World.cell? at h
 split at h
 ·rename_i c ty fr hb
  split at h
  ·cases h
  ·rename_i hs
   refine⟨by simpa using hs,?_⟩
   simp only[Env.cell,Env.of,hb]
   exact h
 ·cases h
inductive PV.Len (N:Nat):PV→Prop
 | flat {pv:PV} (h1:∀ n rows,pv≠.sl n rows) (h2:∀ vs,pv≠.agg vs):PV.Len N pv
 | sl {n:Nat} {rows:List (List PV)} (h:rows.length≤N) (hr:∀ r∈rows,∀ v∈r,PV.Len N v):PV.Len N (.sl n rows)
 | agg {vs:List PV} (h:∀ v∈vs,PV.Len N v):PV.Len N (.agg vs)
theorem PV.Len.int {N:Nat} (k:IntKind) (n:Int):PV.Len N (.int k n):=.flat (fun _ _ h=>by cases h) fun _ h=>by cases h
theorem PV.Len.bool {N:Nat} (b:Bool):PV.Len N (.bool b):=.flat (fun _ _ h=>by cases h) fun _ h=>by cases h
theorem PV.Len.str {N:Nat} (s:List UInt8):PV.Len N (.str s):=.flat (fun _ _ h=>by cases h) fun _ h=>by cases h
theorem PV.Len.rows {N n:Nat} {rows:List (List PV)} (h:PV.Len N (.sl n rows)):rows.length≤N∧∀ r∈rows,∀ v∈r,PV.Len N v:=by
 cases h with
 | flat h1 _=>exact absurd rfl (h1 n rows)
 | sl h1 h2=>exact⟨h1,h2⟩
theorem PV.Len.parts {N:Nat} {vs:List PV} (h:PV.Len N (.agg vs)):∀ v∈vs,PV.Len N v:=by
 cases h with
 | flat _ h2=>exact absurd rfl (h2 vs)
 | agg h=>exact h
structure UI {H:Type} (P:Program) (N:Nat) (S:TypeId→DataW H→Prop):Prop where
 sl:∀ t e elems spare,P.underlying t=some (.slice e)→S t (.slice elems spare)→elems.length≤N∧∀ d∈elems,S e d
 st:∀ t fs parts,P.underlying t=some (.struct fs)→S t (.agg parts)→∀ (i:Nat) g d,fs[i]?=some g→parts[i]?=some d→S g.type d
 ar:∀ t n e parts,P.underlying t=some (.array n e)→S t (.agg parts)→∀ d∈parts,S e d
theorem QE {H:Type} {P:Program} {A:(TypeId→DataW H→Prop)→Prop} {pv:PV} (h:∀ {N},PV.Len N pv):∀ N S,UI P N S→A S→∀ v∈[pv],PV.Len N v:=fun N S _ _ v hv=>by
 obtain rfl:=bJU.1 hv
 exact h
theorem ZZ {P:Program} {E:Env} {rec:TypeId→Option (List CT)} {H:Type} {f:TypeId→List Value→Option (DataW H × List MemPlace)}
  (ih:∀ t cs x cts,f t cs=some x→rec t=some cts→∃ pvs,Reads E cts pvs cs∧∀ N S,UI P N S→S t x.1→∀ v∈pvs,PV.Len N v) (cs:List Value) :
  ∀ (fs:List Field) (k:Nat) (cts:List CT),(∀ g∈fs,∃ x,f g.type ((cs.drop g.offset).take (P.cellsOf g.type))=some x)→oH P rec k fs=some cts →
   ∃ pvs,Reads E cts pvs ((cs.drop k).take cts.length)∧∀ N S,UI P N S→(∀ g∈fs,∀ x,f g.type ((cs.drop g.offset).take (P.cellsOf g.type))=some x→S g.type x.1)→∀ v∈pvs,PV.Len N v
 | [],k,cts,_,h=>by
  simp[oH] at h; subst h
  exact⟨[],⟨rfl,by simp,fun j p c a=>by simp at a,fun j p c a=>by simp at a⟩,fun _ _ _ _ v hv=>by cases hv⟩
 | g::fs,k,cts,hm,h=>by
  simp only[oH] at h
  split at h
  ·rename_i c1 h1
   split at h
   ·rename_i hc
    simp only[bIT] at h
    obtain⟨c2,h2,rfl⟩:=h
    obtain⟨x,hx⟩:=hm g (by simp)
    obtain⟨p1,r1,l1⟩:=ih _ _ _ _ hx h1
    rw[hc.1,hc.2] at r1
    obtain⟨p2,r2,l2⟩:=ZZ ih cs fs (k+c1.length) c2 (fun g' hg'=>hm g' (by simp[hg'])) h2
    refine⟨p1++p2,?_,fun N S hM hS v hv=>?_⟩
    ·have:=r1.append r2
     rw[bIU,List.take_add,List.drop_drop]
     exact this
    ·rcases bJY.1 hv with hv | hv
     ·exact l1 N S hM (hS g (by simp) x hx) v hv
     ·exact l2 N S hM (fun g' hg'=>hS g' (by simp[hg'])) v hv
   ·cases h
  ·cases h
theorem alJ {E:Env} {cts:List CT} {R:List PV→Prop} (h0:R []) (h1:∀ a b,R a→R b→R (a++b)) (cs:List Value) :
  ∀ n:Nat,(∀ i,i<n→∃ pvs,Reads E cts pvs ((cs.drop (i*cts.length)).take cts.length)∧R pvs)→∃ pvs,Reads E (bIP n cts).flatten pvs (cs.take (n*cts.length))∧R pvs
 | 0,_=>⟨[],⟨rfl,by simp,fun j p c a=>by simp at a,fun j p c a=>by simp at a⟩,h0⟩
 | n+1,h=>by
  obtain⟨p1,r1,q1⟩:=alJ h0 h1 cs n fun i hi=>h i Om
  obtain⟨p2,r2,q2⟩:=h n Om
  refine⟨p1++p2,?_,h1 _ _ q1 q2⟩
  rw[List.replicate_succ',List.flatten_append,List.flatten_singleton,Nat.succ_mul,List.take_add]
  exact r1.append r2
theorem bgZ {H:Type} {enc:TypeId × Value→H} {P:Program} {W:World} {base:Nat} {sp:Nat→Bool} {held:Bool} (num:Nat→FuncId) :
  ∀ (fuel m:Nat) (t:TypeId) (cs:List Value) (x:DataW H × List MemPlace) (cts:List CT),DataW.trod enc P W base sp held fuel t cs=some x→fJ P m t=some cts→∃ pvs,Reads (Env.of W num) cts pvs cs∧∀ N S,UI P N S→S t x.1→∀ v∈pvs,PV.Len N v:=by
 intro fuel
 induction fuel with
 | zero=>intro m t cs x cts h; simp[DataW.trod] at h
 | succ fuel ih =>
  intro m t cs x cts h hc
  cases m with
  | zero=>simp[fJ] at hc
  | succ m =>
   simp only[fJ] at hc
   split at hc
   ·rename_i hu
    cases hc
    obtain⟨b,rfl,-⟩:=DataW.trod_bool hu h
    exact⟨[.bool b],.one (.bool b) rfl (.bool b),QE (.bool b)⟩
   ·rename_i k hu
    cases hc
    obtain⟨n,rfl,-,hw⟩:=DataW.trod_int hu h
    exact⟨[.int k n],.one (.int k n) rfl (.int hw),QE (.int k n)⟩
   ·rename_i hu
    cases hc
    obtain⟨s,rfl,-,hs⟩:=DataW.trod_string hu h
    exact⟨[.str s.data.toList],.one (.str s) rfl (.str (by rw[bLI]; exact hs)),QE (.str _)⟩
   ·rename_i e hu
    split at hc
    ·rename_i ces he
     split at hc
     ·rename_i bHV
      cases hc
      rcases DataW.trod_slice hu h with ⟨rfl,-⟩ | ⟨a,len,cap,elems,rest,n,hn,rfl,hxe,-,hlen,hcap,hel,helem,-⟩
      ·refine⟨[.sl ces.length []],.one ?_ rfl (.sl (by simp) (by simp) (by simp[at2])),QE (.sl (bIX _) (fun r hr=>by cases hr))⟩
       exact .sl (fun _ _=>.bool false) (by simp) (by decide) (by simp) (by simp) (fun _ _=>rfl) (by simp[at2])
      ·cases hn
       have each:∀ i,i<len→∃ pvs us,(Reads (Env.of W num) ces pvs us∧∀ N S,UI P N S→(∀ d∈elems.map (·.1),S e d)→∀ v∈pvs,PV.Len N v)∧W.cells? base (a.add (i*ces.length)) ces.length=some us:=by
        intro i hi
        have h1:=helem i hi
        rw[bIW Om,bLN] at h1
        obtain⟨us,h2,h3⟩:=h1
        obtain⟨pvs,r,rl⟩:=ih m e us _ ces h3 he
        rw[bHV.1] at h2
        exact⟨pvs,us,⟨r,fun N S hM hS=>rl N S hM (hS _ (bJT.2 ⟨_,bIR _,rfl⟩))⟩,h2⟩
       have each':∀ i,∃ pvs,∃ us,i<len→(Reads (Env.of W num) ces pvs us∧∀ N S,UI P N S→(∀ d∈elems.map (·.1),S e d)→∀ v∈pvs,PV.Len N v)∧W.cells? base (a.add (i*ces.length)) ces.length=some us:=by
        intro i
        by_cases hi:i<len
        ·obtain⟨pvs,us,h1⟩:=each i hi
         exact⟨pvs,us,fun _=>h1⟩
        ·exact⟨[],[],fun h=>(hi h).elim⟩
       obtain⟨pf,hpf⟩:=Classical.axiomOfChoice each'
       obtain⟨uf,huf⟩:=Classical.axiomOfChoice hpf
       have hat:∀ i j pv,at2 ((bIN len).map pf) i j=some pv→i<len∧(pf i)[j]?=some pv:=by
        intro i j pv hp
        unfold at2 at hp
        rw[bJQ,bLN] at hp
        obtain⟨r,hr,hp⟩:=hp
        rw[bIT] at hr
        obtain⟨i',hi',rfl⟩:=hr
        have hi:i<len:=by simpa using (bJX.1 hi').1
        have:i'=i:=by simp[hi] at hi'; exact hi'.symm
        subst this
        exact⟨hi,hp⟩
       have hu2:∀ i j pv,at2 ((bIN len).map pf) i j=some pv→∃ v,(uf i)[j]?=some v∧j<ces.length∧aY (Env.of W num) pv v∧v.oneCell'=true:=by
        intro i j pv hp
        obtain⟨hi,hp'⟩:=hat i j pv hp
        obtain⟨⟨r,-⟩,-⟩:=huf i hi
        have hj:j<ces.length:=by rw[← r.lp]; exact (bJX.1 hp').1
        have hv:(uf i)[j]?=some ((uf i)[j]'(by rw[r.lc]; exact hj)):=bIW _
        exact⟨_,hv,hj,(r.rep j pv _ hp' hv).1,(r.rep j pv _ hp' hv).2⟩
       have hul:((bIN len).map pf).length=len:=by simp
       refine⟨[.sl ces.length ((bIN len).map pf)],.one ?_ rfl (.sl (fun r hr=>?_) (by rw[hul]; omega) fun i j pv ct hp hct=>?_),fun N S hM hS v hv=>?_⟩
       ·have key:=aY.sl (E:=Env.of W num) (size:=ces.length) (rows:=(bIN len).map pf) (a:=some a) (cap:=cap)
         (fun i j=>match at2 ((bIN len).map pf) i j with | some _=>((uf i)[j]?).getD (.bool false) | none=>.bool false) (by rw[hul]; exact hlen) hcap
         (fun r hr=>by
          simp only[bJT,bKB] at hr
          obtain⟨i,hi,rfl⟩:=hr
          exact (huf i hi).1.1.lp)
         (fun hne=>by
          have hl0:0<len:=by
           rcases bLK len with h | h
           ·subst h; exact (hne rfl).elim
           ·exact h
          have hsp:a.spot=none:=by
           obtain⟨⟨r,-⟩,hc⟩:=huf 0 hl0
           have h3:=(World.cells?_some hc).2.2 0 bHV.2
           rw[Nat.zero_mul,Addr.add_zero',Addr.add_zero',bIW (by rw[r.lc]; exact bHV.2)] at h3
           exact (YG (num:=num) h3).1
          refine⟨a,rfl,hsp,fun i j pv hp=>?_⟩
          obtain⟨hi,-⟩:=hat i j pv hp
          obtain⟨v,hv,hj,-⟩:=hu2 i j pv hp
          have h3:=(World.cells?_some (huf i hi).2).2.2 j hj
          rw[lJ hsp,add_plain,add_plain,hv] at h3
          have h4:=(YG (num:=num) h3).2
          simp only[hp,hv,bLE]
          exact h4)
         (fun i j=>by
          split
          ·rename_i pv hp
           obtain⟨v,hv,-,-,h1⟩:=hu2 i j pv hp
           simp[hv,h1]
          ·rfl)
         (fun i j pv hp=>by
          obtain⟨v,hv,-,h1,-⟩:=hu2 i j pv hp
          simp only[hp,hv,bLE]
          exact h1)
        rw[hul] at key
        exact key
       ·simp only[bJT,bKB] at hr
        obtain⟨i,hi,rfl⟩:=hr
        exact (huf i hi).1.1.lp
       ·obtain⟨hi,hp'⟩:=hat i j pv hp
        exact (huf i hi).1.1.ty j pv ct hp' hct
       ·rw[hxe] at hS
        obtain⟨m1,m2⟩:=hM.sl t e _ _ hu hS
        obtain rfl:=bJU.1 hv
        refine .sl (by rw[hul]; simpa [hel] using m1) fun r hr w hw=>?_
        simp only[bJT,bKB] at hr
        obtain⟨i,hi,rfl⟩:=hr
        exact (huf i hi).1.2 N S hM m2 w hw
     ·cases hc
    ·cases hc
   ·rename_i fs hu
    split at hc
    ·rename_i cts' hcf
     split at hc
     ·rename_i hlen
      cases hc
      obtain⟨xs,n,hn,hxe,hcl,hxl,hx⟩:=DataW.trod_struct hu h
      cases hn
      have:=ZZ (f:=DataW.trod enc P W base sp held fuel) (fun t cs x cts a b=>ih m t cs x cts a b) cs fs.toList 0 cts (fun g hg=>by
       obtain⟨i,hi,rfl⟩:=bKQ hg
       have:=hx i fs.toList[i] (by simp at hi; simp[hi])
       rw[this]
       exact⟨_,bIW (by simp at hi; omega)⟩) hcf
      rw[bJO,bJD Om] at this
      obtain⟨pvs,r,rl⟩:=this
      refine⟨pvs,r,fun N S hM hS=>rl N S hM fun g hg y hy=>?_⟩
      rw[hxe] at hS
      obtain⟨i,hi,rfl⟩:=bKQ hg
      have hi':i<fs.size:=by simpa using hi
      have:=hx i fs.toList[i] (by simp[hi'])
      rw[hy,bIW Om] at this
      refine hM.st t fs _ hu hS i fs.toList[i] y.1 (by simp[hi']) ?_
      rw[bJQ,bIW Om,← this]; rfl
     ·cases hc
    ·cases hc
   ·rename_i k e hu
    split at hc
    ·rename_i ces he
     split at hc
     ·rename_i bHV
      cases hc
      obtain⟨xs,n,hn,hxe,hcl,hxl,hx⟩:=DataW.trod_array hu h
      cases hn
      obtain⟨pvs,r,hq⟩:=alJ (E:=Env.of W num) (cts:=ces) (R:=fun pvs=>∀ N S,UI P N S→(∀ d:DataW H,d∈xs.map (fun y:DataW H × List MemPlace=>y.1)→S e d)→∀ v∈pvs,PV.Len N v) (fun _ _ _ _ v hv=>by cases hv)
       (fun a b ha hb N S hM hS v hv=>(bJY.1 hv).elim (ha N S hM hS v) (hb N S hM hS v)) cs k fun i hi=>by
        have h2:=hx i hi
        rw[bIW Om,bHV.1] at h2
        obtain⟨pvs,r,rl⟩:=ih m e _ _ ces h2 he
        exact⟨pvs,r,fun N S hM hS=>rl N S hM (hS _ (bJT.2 ⟨_,bIR _,rfl⟩))⟩
      rw[bJD Om] at r
      exact⟨pvs,r,fun N S hM hS=>hq N S hM (hM.ar t k e _ hu (by rw[hxe] at hS; exact hS))⟩
     ·cases hc
    ·cases hc
   ·cases hc
theorem adP {H:Type} {enc:TypeId × Value→H} {P:Program} {W:World} {base:Nat} {sp:Nat→Bool} {held:Bool} (num:Nat→FuncId)
  (fuel m:Nat) (t:TypeId) (cs:List Value) (x:DataW H × List MemPlace) (cts:List CT) (h:DataW.trod enc P W base sp held fuel t cs=some x) (hc:fJ P m t=some cts):∃ pvs,Reads (Env.of W num) cts pvs cs :=
 (bgZ num fuel m t cs x cts h hc).imp fun _ r=>r.1
open Go Go.RowKit Go.ChangeShapes Go.WideShapes
theorem Ext.below {E E':Env} {H':PH} {w w':World} (h:Ext E PH.nil w E' H' w'):Below w.heap.size w w' :=
 ⟨h.os,h.tape,h.output,h.size,fun k hk=>h.block k hk rfl⟩
theorem Below.trodAll {H:Type} {enc:TypeId × Value→H} {P:Program} (hl:laidOutB P=true) {W W':World} (hb:Below W.heap.size W W') :
  ∀ {ts:List TypeId} {vs:List Value} {ds:List (DataW H)} {ps:List MemPlace},(∀ t∈ts,P.readableRec t=true∧t<P.types.size)→DataW.TrodAll enc P W 0 (fun _=>true) true ts vs ds ps →
   DataW.TrodAll enc P W' 0 (fun b=>decide (b<W.heap.size)) true ts vs ds ps
 | [],[],[],ps,_,h=>h
 | [],_::_,_,_,_,h=>h.elim
 | [],[],_::_,_,_,h=>h.elim
 | _::_,[],_,_,_,h=>h.elim
 | _::_,_::_,[],_,_,h=>h.elim
 | t::ts,v::vs,d::ds,ps,ht,h=>by
  obtain⟨p,q,h1,h2,rfl⟩:=h
  have hlt:∀ x∈p,x.block<W.heap.size:=fun x hx=>DataW.TrodAll.lt (ts:=[t]) (vs:=[v]) (ds:=[d]) ⟨p,[],h1,rfl,(bKM p).symm⟩ x hx
  exact⟨p,q,Below.trod hl (ht t (by simp)).1 (ht t (by simp)).2 h1 hb hlt,Below.trodAll hl hb (fun u hu=>ht u (by simp[hu])) h2,rfl⟩
theorem a6U {H:Type} {enc:TypeId × Value→H} {P:Program} {f:Func} {s:ChangeSpec} {handsOn apart fresh:Bool} {W W':World} {args:Array Value} {ds gs:List (DataW H)} {before:List MemPlace} {bt:TypeId}
  (hl:laidOutB P=true) (hW:DataW.Whole enc P f.params.toList s.vars apart W args.toList ds gs before) (hb:Below W.heap.size W W') (hts:∀ t∈f.params.toList,P.readableRec t=true∧t<P.types.size)
  (hrt:f.resultTypes=#[bt]) (hbt:P.underlying bt=some .bool) (hv:s.vars=[]) (hr:(s.fn H (ds++gs)).results=[.lit (.bool true)]) (ha:(s.fn H (ds++gs)).args=ds) (hvs:(s.fn H (ds++gs)).vars=[]) :
  s.post enc P f apart fresh handsOn false W args (.bool true) W':=by
 obtain⟨p,q,hA,hV,rfl,hz,hn⟩:=hW
 rw[hv] at hV
 obtain⟨rfl,rfl⟩:=trodVars_none hV
 refine⟨ds,[],p++[],[],p,[],⟨p,[],hA,by rw[hv]; exact hV,rfl,hz,hn⟩,?_,?_,?_,hb.frame _,fun h=>by cases h⟩
 ·rw[hr,hrt]
  refine⟨[],[],⟨1,?_⟩,rfl,rfl⟩
  simp[DataW.trod,hbt,Value.cells,Value.resultList]
 ·rw[ha]
  exact Below.trodAll hl hb hts hA
 ·rw[hv,hvs]
  exact rfl
theorem a4Y {C:Ctx} {name:Nat} {W:World} {args:Array Value} {pvs:List PV} (h:aD C name pvs PH.nil (aE (.bool true))) (hr:eO (Env.of W C.num) pvs args.toList) :
  Calls C.P (C.num name) args W fun e W'=>e=.returned (.bool true)∧Below W.heap.size W W' :=
 (h.2 (Env.of W C.num) W args rfl (bN.start W C.num) hr).mono fun e W' he=>by
  obtain⟨v,pv,E',H',rfl,-,bIH,hE,rfl,-⟩:=he
  cases bIH
  exact⟨rfl,hE.below⟩
theorem aVU {H:Type} {enc:TypeId × Value→H} {P:Program} {W:World} {r:Reach} {base:Nat} {sp:Nat→Bool} {held:Bool} (num:Nat→FuncId) {t:TypeId} {v:Value} {d:DataW H} {ps:List MemPlace} {fs:Array Field} {n:Nat} {cts:List CT}
  (hu:P.underlying t=some (.struct fs)) (bHB:Value.okWide P W r base t v) (hd:DataW.Trod enc P W 0 sp held t v d ps) (hc:fJ P n t=some cts) :
  ∃ pvs,aY (Env.of W num) (.agg pvs) v∧pvs.length=cts.length∧∀ (j:Nat) pv ct,pvs[j]?=some pv→cts[j]?=some ct→PV.Ty ct pv:=by
 obtain⟨cs,rfl,-⟩:=okWide_struct hu bHB
 obtain⟨fuel,h⟩:=hd
 obtain⟨pvs,hr⟩:=adP num fuel n t _ _ cts h hc
 have hl:cs.size=pvs.length:=by have:=hr.lc; rw[hr.lp,← this]; simp[Value.cells]
 refine⟨pvs,.agg cs hl (fun u hu=>?_) (fun j pv u a b=>(hr.rep j pv u a (by simpa [Value.cells] using b)).1),hr.lp,hr.ty⟩
 obtain⟨j,hj,rfl⟩:=bKQ hu
 simp only[bLI] at hj
 exact (hr.rep j _ _ (bIW Om) (by simp[Value.cells,hj])).2
theorem rD {H:Type} {enc:TypeId × Value→H} {P:Program} {W:World} {sp:Nat→Bool} {held:Bool} (num:Nat→FuncId) {t:TypeId} {v:Value} {d:DataW H} {ps:List MemPlace} {n:Nat} {ct:CT}
  (hv:v.cells=#[v]) (hd:DataW.Trod enc P W 0 sp held t v d ps) (hc:fJ P n t=some [ct]):∃ pv,aY (Env.of W num) pv v∧PV.Ty ct pv:=by
 obtain⟨fuel,h⟩:=hd
 obtain⟨pvs,hr⟩:=adP num fuel n t _ _ [ct] h hc
 rw[hv] at hr
 have hl:=hr.lp
 cases pvs with
 | nil=>simp at hl
 | cons pv rest=>exact⟨pv,(hr.rep 0 pv v rfl rfl).1,hr.ty 0 pv ct rfl rfl⟩
def InK (k:IntKind) (n:Int):Prop:=k.min≤n∧n≤k.max
def bjE (k:IntKind) (xs:List Int):PV:=.sl 1 (xs.map fun n=>[.int k n])
theorem Ty.QU {k:IntKind} {pv:PV} (h:PV.Ty (.int k) pv):∃ n,pv=.int k n∧InK k n:=by
 cases h with
 | int h=>simp only[Lit.wf,bJI,decide_eq_true_eq] at h; exact⟨_,rfl,h⟩
theorem Ty.bnT {ct:CT} {pv:PV} (h:PV.Ty (.sl [ct]) pv):∃ vs:List PV,pv=.sl 1 (vs.map fun v=>[v])∧vs.length≤maxLen∧∀ v∈vs,PV.Ty ct v:=by
 cases h with
 | @sl es rows hr hl h =>
 have key:∀ r∈rows,r=[r.headD .junk]:=fun r hm=>by
  have:=hr r hm
  match r,this with
  | [x],_=>rfl
 have e:rows=(rows.map fun r=>r.headD .junk).map fun v=>[v]:=by
  rw[List.map_map]
  apply List.ext_getElem (by simp)
  intro n h1 h2
  simp only[bKU,Function.comp]
  exact key _ (bIR h1)
 refine⟨rows.map fun r=>r.headD .junk,by rw[← e]; rfl,by simpa using hl,fun v hv=>?_⟩
 rw[bJT] at hv
 obtain⟨r,hm,rfl⟩:=hv
 obtain⟨i,hi,rfl⟩:=bKQ hm
 refine h i 0 _ ct ?_ rfl
 have:=key rows[i] hm
 unfold at2
 rw[bIW hi,bLS,this]
 rfl
theorem Ty.beG {k:IntKind} {pv:PV} (h:PV.Ty (.sl [.int k]) pv):∃ xs:List Int,pv=bjE k xs∧xs.length≤maxLen∧∀ x∈xs,InK k x:=by
 obtain⟨vs,rfl,hl,hv⟩:=Ty.bnT h
 have e:vs=(vs.map fun v=>match v with | .int _ n=>n | _=>0).map fun n=>PV.int k n:=by
  rw[List.map_map]
  apply List.ext_getElem (by simp)
  intro n h1 h2
  simp only[bKU,Function.comp]
  obtain⟨m,hm,-⟩:=Ty.QU (hv _ (bIR h1))
  rw[hm]
 refine⟨vs.map fun v=>match v with | .int _ n=>n | _=>0,?_,by simpa using hl,fun x hx=>?_⟩
 ·unfold bjE
  conv=>lhs; rw[e]
  rw[List.map_map]
  rfl
 ·rw[bJT] at hx
  obtain⟨v,hm,rfl⟩:=hx
  obtain⟨m,rfl,hk⟩:=Ty.QU (hv v hm)
  exact hk
open Go Go.RowKit Go.ChangeShapes Go.WideShapes
inductive AT where
 | one (ct:CT)
 | struct (cts:List CT)
 deriving Inhabited
def aVT (P:Program) (n:Nat) (t:TypeId):Option AT :=
 match P.underlying t with
 | some .bool=>some (.one .bool)
 | some (.int k)=>some (.one (.int k))
 | some .string=>some (.one .str)
 | some (.slice _)=>match fJ P n t with
  | some [ct]=>some (.one ct)
  | _=>none
 | some (.struct _)=>(fJ P n t).map .struct
 | _=>none
def BL (P:Program) (n:Nat):List TypeId→Option (List AT)
 | []=>some []
 | t::ts=>match aVT P n t,BL P n ts with
  | some a,some az=>some (a::az)
  | _,_=>none
inductive AT.Ty:AT→PV→Prop
 | one {ct:CT} {pv:PV} (h:PV.Ty ct pv):AT.Ty (.one ct) pv
 | struct {cts:List CT} {pvs:List PV} (hl:pvs.length=cts.length) (h:∀ (j:Nat) pv ct,pvs[j]?=some pv→cts[j]?=some ct→PV.Ty ct pv):AT.Ty (.struct cts) (.agg pvs)
def AT.TyL:List AT→List PV→Prop
 | [],[]=>True
 | a::az,p::ps=>AT.Ty a p∧AT.TyL az ps
 | _,_=>False
section
variable {H:Type} {enc:TypeId × Value→H} {P:Program} {W:World} {sp:Nat→Bool} {held:Bool}
theorem bpR {r:Reach} {base:Nat} (num:Nat→FuncId) {t:TypeId} {v:Value} {d:DataW H} {ps:List MemPlace} {n:Nat} {a:AT}
  (bHB:Value.okWide P W r base t v) (hd:DataW.Trod enc P W 0 sp held t v d ps) (ha:aVT P n t=some a):∃ pv,aY (Env.of W num) pv v∧AT.Ty a pv:=by
 unfold aVT at ha
 cases n with
 | zero =>
  split at ha
  ·rename_i hu
   cases ha
   obtain⟨b,rfl⟩:=okWide_bool hu bHB
   obtain⟨pv,h1,h2⟩:=rD (n:=1) (ct:=.bool) num (by simp[Value.cells]) hd (by simp[fJ,hu])
   exact⟨pv,h1,.one h2⟩
  ·rename_i k hu
   cases ha
   obtain⟨b,rfl⟩:=okWide_int hu bHB
   obtain⟨pv,h1,h2⟩:=rD (n:=1) (ct:=.int k) num (by simp[Value.cells]) hd (by simp[fJ,hu])
   exact⟨pv,h1,.one h2⟩
  ·rename_i hu
   cases ha
   obtain⟨b,rfl⟩:=okWide_string hu bHB
   obtain⟨pv,h1,h2⟩:=rD (n:=1) (ct:=.str) num (by simp[Value.cells]) hd (by simp[fJ,hu])
   exact⟨pv,h1,.one h2⟩
  ·simp[fJ] at ha
  ·simp[fJ] at ha
  ·cases ha
 | succ n =>
  split at ha
  ·rename_i hu
   cases ha
   obtain⟨b,rfl⟩:=okWide_bool hu bHB
   obtain⟨pv,h1,h2⟩:=rD (n:=n+1) (ct:=.bool) num (by simp[Value.cells]) hd (by simp[fJ,hu])
   exact⟨pv,h1,.one h2⟩
  ·rename_i k hu
   cases ha
   obtain⟨b,rfl⟩:=okWide_int hu bHB
   obtain⟨pv,h1,h2⟩:=rD (n:=n+1) (ct:=.int k) num (by simp[Value.cells]) hd (by simp[fJ,hu])
   exact⟨pv,h1,.one h2⟩
  ·rename_i hu
   cases ha
   obtain⟨b,rfl⟩:=okWide_string hu bHB
   obtain⟨pv,h1,h2⟩:=rD (n:=n+1) (ct:=.str) num (by simp[Value.cells]) hd (by simp[fJ,hu])
   exact⟨pv,h1,.one h2⟩
  ·rename_i e hu
   split at ha
   ·rename_i ct hc
    cases ha
    obtain⟨x,len,cap,rfl⟩:=okWide_slice hu bHB
    obtain⟨pv,h1,h2⟩:=rD num (by simp[Value.cells]) hd hc
    exact⟨pv,h1,.one h2⟩
   ·cases ha
  ·rename_i fs hu
   rw[bIT] at ha
   obtain⟨cts,hc,rfl⟩:=ha
   obtain⟨pvs,h1,h2,h3⟩:=aVU num hu bHB hd hc
   exact⟨_,h1,.struct h2 h3⟩
  ·cases ha
theorem aLK {r:Reach} {base:Nat} (num:Nat→FuncId) {n:Nat}:∀ {ts:List TypeId} {vs:List Value} {ds:List (DataW H)} {ps:List MemPlace} {az:List AT},DataW.TrodAll enc P W 0 sp held ts vs ds ps →
  (∀ (j:Nat) t v,ts[j]?=some t→vs[j]?=some v→Value.okWide P W r base t v)→BL P n ts=some az→∃ pvs,eO (Env.of W num) pvs vs∧AT.TyL az pvs
 | [],[],_,_,az,_,_,h=>by
  simp[BL] at h
  subst h
  exact⟨[],.nil,trivial⟩
 | [],_::_,_,_,_,h,_,_=>h.elim
 | _::_,[],[],_,_,h,_,_=>h.elim
 | _::_,[],_::_,_,_,h,_,_=>h.elim
 | _::_,_::_,[],_,_,h,_,_=>h.elim
 | t::ts,v::vs,d::ds,ps,az,h,hv,ha=>by
  obtain⟨p,q,h1,h2,rfl⟩:=h
  simp only[BL] at ha
  split at ha
  ·rename_i a as' e1 e2
   cases ha
   obtain⟨pv,r1,t1⟩:=bpR num (hv 0 t v rfl rfl) h1 e1
   obtain⟨pvs,r2,t2⟩:=aLK num h2 (fun j t v a b=>hv (j+1) t v (by simpa using a) (by simpa using b)) e2
   exact⟨pv::pvs,.cons r1 r2,t1,t2⟩
  ·cases ha
theorem TrodAll.length:∀ {ts:List TypeId} {vs:List Value} {ds:List (DataW H)} {ps:List MemPlace},DataW.TrodAll enc P W 0 sp held ts vs ds ps→ds.length=ts.length
 | [],[],[],_,_=>rfl
 | [],[],_::_,_,h=>h.elim
 | [],_::_,_,_,h=>h.elim
 | _::_,[],[],_,h=>h.elim
 | _::_,[],_::_,_,h=>h.elim
 | _::_,_::_,[],_,h=>h.elim
 | t::ts,v::vs,d::ds,ps,h=>by
  obtain⟨p,q,h1,h2,rfl⟩:=h
  simp[TrodAll.length h2]
end
theorem auR {H:Type} {enc:TypeId × Value→H} {P:Program} {f:FuncId} {fn:Func} {s:ChangeSpec} {apart fresh handsOn:Bool} {bt:TypeId} {num:Nat→FuncId} {name n:Nat} {ats:List AT}
  (hl:laidOutB P=true) (hts:fn.params.toList.all (fun t=>P.readableRec t&&decide (t<P.types.size))=true) (hrt:fn.resultTypes=#[bt]) (hbt:P.underlying bt=some .bool) (hv:s.vars=[])
  (hs:∀ ds:List (DataW H),ds.length=fn.params.toList.length→(s.fn H ds).results=[.lit (.bool true)]∧(s.fn H ds).args=ds∧(s.fn H ds).vars=[])
  (hnum:num name=f) (ha:BL P n fn.params.toList=some ats) (h:∀ pvs,AT.TyL ats pvs→aD ⟨P,num⟩ name pvs PH.nil (aE (.bool true)))
  {W:World} {base:Nat} {args:Array Value} {ds gs:List (DataW H)} {before:List MemPlace}
  (bHB:∀ (j:Nat) t v,fn.params[j]?=some t→args[j]?=some v→Value.okWide P W .any base t v) (hW:DataW.Whole enc P fn.params.toList s.vars apart W args.toList ds gs before) :
  Calls P f args W fun e W'=>∃ v,e=.returned v∧s.post enc P fn apart fresh handsOn false W args v W':=by
 have hts':∀ t∈fn.params.toList,P.readableRec t=true∧t<P.types.size:=fun t ht=>by
  have:=bJJ.1 hts t ht
  simpa using this
 have hW':=hW
 obtain⟨p,q,hA,hV,rfl,hz,hn⟩:=hW
 rw[hv] at hV
 obtain⟨rfl,rfl⟩:=trodVars_none hV
 obtain⟨pvs,hr,ht⟩:=aLK num hA (fun j t v a b=>bHB j t v (by simpa using a) (by simpa using b)) ha
 have hlen:=TrodAll.length hA
 subst hnum
 obtain⟨r1,r2,r3⟩:=hs (ds++[]) (by simpa using hlen)
 refine (a4Y (C:=⟨P,num⟩) (h pvs ht) hr).mono fun e W' he=>?_
 obtain⟨rfl,hb⟩:=he
 exact⟨_,rfl,a6U hl hW' hb hts' hrt hbt hv r1 (by rw[r2]; simp) r3⟩
attribute [go_sem] nE fN setCells PV.cells PV.one bV storeAt cQ loadCells dO bnd PV.slice PV.intOf PV.eqs PV.eq1 PV.un keyOf KS.of KS.ofs KS.sh List.all_cons List.all_nil List.set_cons_zero List.set_cons_succ bIY bKL bIS bKC bJJ Bool.and_self
attribute [go_sem] Bool.bne_false Bool.bne_true Int.le_refl Int.lt_irrefl decide_true decide_false exists_eq_left exists_eq_left' bIM bLX bLM Int.natCast_nonneg Option.isSome_some Option.isSome_none bLE Option.getD_none decide_eq_true_eq decide_eq_false_iff_not bJL bKD bIO Nat.sub_zero
def bE (xs:List Int):List (List PV):=xs.map fun n=>[.int .i64 n]
theorem bF {a b:Int} (h:a≠b):(a==b)=false:=by simp[h]
theorem bS {a b:Int} (h:a=b):(a==b)=true:=by simp[h]
theorem cT {a b:Int} (h:a≠b):(a != b)=true:=by simp[h]
theorem bP {a b:Int} (h:a=b):(a != b)=false:=by simp[h]
section
variable {H:PH}
@[go_sem] theorem PH.set_set (o:Nat) (x y:cP):(H.set o x).set o y=H.set o y:=PH.ext fun q=>by
 simp only[bH]; split<;>rfl
@[go_sem] theorem dM (o:Nat) (x:cP):(H.set o x) o=some x:=by simp only[bH,if_true]
end
def aN (C:Ctx) (k:Nat) (pf:aV):Prop:=∀ (args:List PV) (H:PH) (R:PV→PH→Prop),args.length≤pf.ntmps→pf.body.wp C (aU pf.res R) (PF.args args) H→aD C k args H R
theorem aN.go {C:Ctx} {k:Nat} {pf:aV} (r:aN C k pf) {args:List PV} {H:PH} {R:PV→PH→Prop} (h:pf.body.wp C (aU pf.res R) (PF.args args) H) (hl:Nat.ble args.length pf.ntmps=true):aD C k args H R:=r args H R (Nat.le_of_ble_eq_true hl) h
abbrev Rg:=List bB
abbrev Rd:=List (bB×Bool)
def iM (d s:Nat):bB:=⟨some d,.mv (.tmp s),none⟩
def iI (d:Nat) (n:Int):bB:=⟨some d,.mv (.const (.int .i64 n)),none⟩
def iB (d:Nat) (o:BinOp) (x y:Nat):bB:=⟨some d,.bin o (.tmp x) (.tmp y),none⟩
def iC (d:Nat) (o:BinOp) (x:Nat) (n:Int):bB:=⟨some d,.bin o (.tmp x) (.const (.int .i64 n)),none⟩
def iL (d s:Nat):bB:=⟨some d,.load none (.tmp s),none⟩
def iX (d n x y:Nat):bB:=⟨some d,.bHD n (.tmp x) (.tmp y),none⟩
def iN (d x:Nat):bB:=⟨some d,.len (.tmp x),none⟩
def iF (d n x:Nat):bB:=⟨some d,.bHU n (.tmp x),none⟩
def iS (n p x:Nat):bB:=⟨none,.store n (.tmp p) (.tmp x),none⟩
def iA (d:Nat) (o:POp):bB:=⟨some d,o,none⟩
def iG (d:Nat) (o:POp) (g:Nat) (b:Bool):bB:=⟨some d,o,some (g,b)⟩
def iP (d a b:Nat):bB:=⟨some d,.pick (.tmp a) (.tmp b) (.const (.bool false)),none⟩
def iQ (d a b:Nat):bB:=⟨some d,.pick (.tmp a) (.const (.bool true)) (.tmp b),none⟩
def iO (d s a:Nat):bB:=⟨some d,.load (some s) (.tmp a),none⟩
def iE (d a n:Nat):bB:=⟨some d,.extract (.tmp a) n,none⟩
def iK (d f a:Nat):bB:=⟨some d,.call f [.tmp a],none⟩
def iK2 (d f a b:Nat):bB:=⟨some d,.call f [.tmp a,.tmp b],none⟩
def iT (d:Nat) (b:Bool):bB:=⟨some d,.mv (.const (.bool b)),none⟩
def iZ (d:Nat):bB:=⟨some d,.mv (.const .aB),none⟩
def gM (d s g:Nat) (b:Bool):bB:=⟨some d,.mv (.tmp s),some (g,b)⟩
def gL (d s g:Nat) (b:Bool):bB:=⟨some d,.load none (.tmp s),some (g,b)⟩
def gF (d n s g:Nat) (b:Bool):bB:=⟨some d,.bHU n (.tmp s),some (g,b)⟩
def gN (d s g:Nat) (b:Bool):bB:=⟨some d,.len (.tmp s),some (g,b)⟩
def gO (d n s g:Nat) (b:Bool):bB:=⟨some d,.load (some n) (.tmp s),some (g,b)⟩
def gK (d f a g:Nat) (b:Bool):bB:=⟨some d,.call f [.tmp a],some (g,b)⟩
def gK2 (d f a c g:Nat) (b:Bool):bB:=⟨some d,.call f [.tmp a,.tmp c],some (g,b)⟩
def gC (d:Nat) (o:BinOp) (x:Nat) (n:Int) (g:Nat) (b:Bool):bB:=⟨some d,.bin o (.tmp x) (.const (.int .i64 n)),some (g,b)⟩
def gB (d:Nat) (o:BinOp) (x y g:Nat) (b:Bool):bB:=⟨some d,.bin o (.tmp x) (.tmp y),some (g,b)⟩
def sq (r:Rg) (c:aC):aC:=.seq (.region r) c
def dq (r:Rd) (c:aC):aC:=.seq (.draw r) c
def Tm (n:Nat):aP:=.tmp n
def Ci (n:Int):aP:=.const (.int .i64 n)
@[go_sem] theorem bFY (d s:Nat):iM d s=⟨some d,.mv (.tmp s),none⟩:=(rfl)
@[go_sem] theorem bFV (d:Nat) (n:Int):iI d n=⟨some d,.mv (.const (.int .i64 n)),none⟩:=(rfl)
@[go_sem] theorem bFQ (d:Nat) (o:BinOp) (x y:Nat):iB d o x y=⟨some d,.bin o (.tmp x) (.tmp y),none⟩:=(rfl)
@[go_sem] theorem bFR (d:Nat) (o:BinOp) (x:Nat) (n:Int):iC d o x n=⟨some d,.bin o (.tmp x) (.const (.int .i64 n)),none⟩:=(rfl)
@[go_sem] theorem bFX (d s:Nat):iL d s=⟨some d,.load none (.tmp s),none⟩:=(rfl)
@[go_sem] theorem bGF (d n x y:Nat):iX d n x y=⟨some d,.bHD n (.tmp x) (.tmp y),none⟩:=(rfl)
@[go_sem] theorem bFZ (d x:Nat):iN d x=⟨some d,.len (.tmp x),none⟩:=(rfl)
@[go_sem] theorem bFT (d n x:Nat):iF d n x=⟨some d,.bHU n (.tmp x),none⟩:=(rfl)
@[go_sem] theorem bGD (n p x:Nat):iS n p x=⟨none,.store n (.tmp p) (.tmp x),none⟩:=(rfl)
@[go_sem] theorem bFP (d:Nat) (o:POp):iA d o=⟨some d,o,none⟩:=(rfl)
@[go_sem] theorem bFU (d:Nat) (o:POp) (g:Nat) (b:Bool):iG d o g b=⟨some d,o,some (g,b)⟩:=(rfl)
@[go_sem] theorem bGB (d a b:Nat):iP d a b=⟨some d,.pick (.tmp a) (.tmp b) (.const (.bool false)),none⟩:=(rfl)
@[go_sem] theorem bGC (d a b:Nat):iQ d a b=⟨some d,.pick (.tmp a) (.const (.bool true)) (.tmp b),none⟩:=(rfl)
@[go_sem] theorem bGA (d s a:Nat):iO d s a=⟨some d,.load (some s) (.tmp a),none⟩:=(rfl)
@[go_sem] theorem bFS (d a n:Nat):iE d a n=⟨some d,.extract (.tmp a) n,none⟩:=(rfl)
@[go_sem] theorem bFW (d f a:Nat):iK d f a=⟨some d,.call f [.tmp a],none⟩:=(rfl)
@[go_sem] theorem bFC (d f a b:Nat):iK2 d f a b=⟨some d,.call f [.tmp a,.tmp b],none⟩:=(rfl)
@[go_sem] theorem bGE (d:Nat) (b:Bool):iT d b=⟨some d,.mv (.const (.bool b)),none⟩:=(rfl)
@[go_sem] theorem bGG (d:Nat):iZ d=⟨some d,.mv (.const .aB),none⟩:=(rfl)
@[go_sem] theorem bFM (d s g:Nat) (b:Bool):gM d s g b=⟨some d,.mv (.tmp s),some (g,b)⟩:=(rfl)
@[go_sem] theorem bFL (d s g:Nat) (b:Bool):gL d s g b=⟨some d,.load none (.tmp s),some (g,b)⟩:=(rfl)
@[go_sem] theorem bFJ (d n s g:Nat) (b:Bool):gF d n s g b=⟨some d,.bHU n (.tmp s),some (g,b)⟩:=(rfl)
@[go_sem] theorem bFN (d s g:Nat) (b:Bool):gN d s g b=⟨some d,.len (.tmp s),some (g,b)⟩:=(rfl)
@[go_sem] theorem bFO (d n s g:Nat) (b:Bool):gO d n s g b=⟨some d,.load (some n) (.tmp s),some (g,b)⟩:=(rfl)
@[go_sem] theorem bFK (d f a g:Nat) (b:Bool):gK d f a g b=⟨some d,.call f [.tmp a],some (g,b)⟩:=(rfl)
@[go_sem] theorem bFB (d f a c g:Nat) (b:Bool):gK2 d f a c g b=⟨some d,.call f [.tmp a,.tmp c],some (g,b)⟩:=(rfl)
@[go_sem] theorem bFI (d:Nat) (o:BinOp) (x:Nat) (n:Int) (g:Nat) (b:Bool):gC d o x n g b=⟨some d,.bin o (.tmp x) (.const (.int .i64 n)),some (g,b)⟩:=(rfl)
@[go_sem] theorem bFH (d:Nat) (o:BinOp) (x y g:Nat) (b:Bool):gB d o x y g b=⟨some d,.bin o (.tmp x) (.tmp y),some (g,b)⟩:=(rfl)
@[go_sem] theorem bGH (r:Rg) (c:aC):sq r c=.seq (.region r) c:=(rfl)
@[go_sem] theorem bFG (r:Rd) (c:aC):dq r c=.seq (.draw r) c:=(rfl)
@[go_sem] theorem bFF (n:Nat):Tm n=.tmp n:=(rfl)
@[go_sem] theorem bFE (n:Int):Ci n=.const (.int .i64 n):=(rfl)
end Go.PM
namespace Go.PM
open Go
def FY:Rg:=[iI 2 0]
def FZ:Rg:=[iM 4 0,iN 5 4,iM 3 5]
def GA:Rg:=[iM 6 3,iC 7 .gtr 6 0,iM 8 7,gM 9 0 8 true,gM 10 3 8 true,gC 11 .sub 10 1 8 true,iG 12 (.bHD 1 (Tm 9) (Tm 11)) 8 true,gL 13 12 8 true,iG 14 (.bin .eql (Tm 13) (.const (.int .u32 0))) 8 true,iP 15 8 14]
def GB:Rg:=[iM 16 3,iC 17 .sub 16 1,iM 3 17]
def FX:aC:=(.seq (sq GA (.cond (Tm 15) .skip (.exit 0))) (.block 1 (.region GB)))
def qP:Rg:=[iM 18 3,iM 2 18]
def mW:aC:=(sq FY (sq FZ (.seq (.block 0 (.loop FX)) (sq qP .ret))))
def aYI:List Nat:=[]
def rL:aV:=⟨1,19,mW,[.tmp 2]⟩
def anF:Rg:=[iT 2 false]
def anG:Rg:=[iM 3 0,iK 4 138 3,iC 5 .gtr 4 512,iM 2 5]
def zT:aC:=(sq anF (sq anG .ret))
def a5R:List Nat:=[]
def MF:aV:=⟨1,6,zT,[.tmp 2]⟩
def anS:Rg:=[iZ 2,iI 3 0]
def anT:Rg:=[iM 5 0,iK 6 138 5,iM 4 6]
def anU:Rg:=[iM 7 4,iC 8 .gtr 7 512]
def anV:Rg:=[iZ 2,iI 3 2]
def anW:Rg:=[iM 9 0,iM 10 4,iM 11 4,iA 12 (.slice 1 (Tm 9) none (some (Tm 10)) (some (Tm 11))),iM 2 12,iI 3 0]
def zV:aC:=(sq anS (sq anT (.seq (sq anU (.cond (Tm 8) (sq anV .ret) .skip)) (sq anW .ret))))
def a5W:List Nat:=[]
def MK:aV:=⟨1,13,zV,[.tmp 2,.tmp 3]⟩
def aBY:Rg:=[iZ 2]
def aBZ:Rg:=[iM 4 0,iA 5 (.conv .u32 (Tm 4)),iM 6 0,iA 7 (.bin .shr (Tm 6) (.const (.int .u64 32))),iA 8 (.conv .u32 (Tm 7)),iA 9 (.bGO true 1 2 [(.int .u32 0)] [(0,(Tm 5)),(1,(Tm 8))]),iM 3 9]
def aCA:Rg:=[iM 10 3,iM 11 3,iK 12 138 11,iA 13 (.slice 1 (Tm 10) none (some (Tm 12)) none),iM 2 13]
def GC:aC:=(sq aBY (sq aBZ (sq aCA .ret)))
def beZ:List Nat:=[9]
def acE:aV:=⟨1,14,GC,[.tmp 2]⟩
def aCS:Rg:=[iZ 2]
def aCT:Rg:=[iM 3 0,iM 4 0,iK 5 138 4,iA 6 (.slice 1 (Tm 3) none (some (Tm 5)) none),iA 7 (.append 1 4 (.const .aB) (Tm 6)),iM 2 7]
def GD:aC:=(sq aCS (sq aCT .ret))
def bfC:List Nat:=[]
def acI:aV:=⟨1,8,GD,[.tmp 2]⟩
def aPA:Rg:=[iI 4 0]
def aPB:Rg:=[iM 8 0,iK 9 138 8,iM 10 1,iK 11 138 10,iM 5 9,iM 6 11]
def aPC:Rg:=[iM 13 5,iM 14 6,iB 15 .lss 13 14,iM 12 15]
def aPD:Rg:=[iI 4 (-1)]
def aPE:Rg:=[iM 17 5,iM 18 6,iB 19 .gtr 17 18,iM 16 19]
def aPF:Rg:=[iI 4 1]
def aPG:Rg:=[iM 20 5,iC 21 .sub 20 1,iM 7 21]
def aPH:Rg:=[iM 22 7,iC 23 .geq 22 0]
def aPI:Rd:=[(iM 27 0,false),(iM 28 7,false),(iX 29 1 27 28,false),(iL 30 29,false),(iM 31 1,false),(iM 32 7,false),(iX 33 1 31 32,false),(iL 34 33,false),(iB 35 .lss 30 34,false),(iM 26 35,false)]
def aPJ:Rg:=[iI 4 (-1)]
def aBN:Rd:=[(iM 37 0,false),(iM 38 7,false),(iX 39 1 37 38,false),(iL 40 39,false),(iM 41 1,false),(iM 42 7,false),(iX 43 1 41 42,false),(iL 44 43,false),(iB 45 .gtr 40 44,false),(iM 36 45,false)]
def aBO:Rg:=[iI 4 1]
def aBP:Rg:=[iM 24 7,iC 25 .sub 24 1,iM 7 25]
def aBM:aC:=(.seq (sq aPH (.cond (Tm 23) .skip (.exit 1))) (.seq (.block 2 (.block 3 (dq aPI (.cond (Tm 26) (sq aPJ .ret) (dq aBN (.cond (Tm 36) (sq aBO .ret) .skip)))))) (.region aBP)))
def aBQ:Rg:=[iI 4 0]
def LZ:aC:=(sq aPA (sq aPB (.seq (.block 0 (sq aPC (.cond (Tm 12) (sq aPD .ret) (sq aPE (.cond (Tm 16) (sq aPF .ret) .skip))))) (.seq (sq aPG (.block 1 (.loop aBM))) (sq aBQ .ret)))))
def bmN:List Nat:=[]
def aBL:aV:=⟨2,46,LZ,[.tmp 4]⟩
def aOU:Rg:=[iZ 4,iI 5 0]
def aOV:Rg:=[iM 9 0,iK 10 137 9,iM 11 10,gM 12 1 11 false,gK 13 137 12 11 false,iQ 14 11 13]
def aiK:Rg:=[iZ 4,iI 5 2]
def aOW:Rd:=[(iM 15 0,true),(iM 16 0,false),(iK 17 138 16,true),(iA 18 (.slice 1 (Tm 15) none (some (Tm 17)) none),true),(iM 19 1,true),(iM 20 1,true),(iK 21 138 20,true),(iA 22 (.slice 1 (Tm 19) none (some (Tm 21)) none),false),(iM 0 18,false),(iM 1 22,false)]
def aOX:Rg:=[iM 23 0,iN 24 23,iM 25 1,iN 26 25,iB 27 .lss 24 26]
def aOY:Rg:=[iM 28 1,iM 29 0,iM 0 28,iM 1 29]
def aiL:Rg:=[iM 30 0,iN 31 30,iC 32 .add 31 1,iA 33 (.bGS 1 4 [(.int .u32 0)] (Tm 32) (Tm 32)),iM 6 33]
def aiM:Rg:=[iA 7 (.mv (.const (.int .u64 0)))]
def aiN:Rg:=[iM 34 0,iN 35 34,iI 36 0]
def aOZ:Rg:=[iB 37 .lss 36 35]
def aAW:Rg:=[iM 38 36,iM 8 38]
def aAX:Rg:=[iM 39 7,iM 40 0,iM 41 8,iX 42 1 40 41,iL 43 42,iA 44 (.conv .u64 (Tm 43)),iB 45 .add 39 44,iM 7 45]
def aAY:Rg:=[iM 46 8,iM 47 1,iN 48 47,iB 49 .lss 46 48]
def aAZ:Rg:=[iM 50 7,iM 51 1,iM 52 8,iX 53 1 51 52,iL 54 53,iA 55 (.conv .u64 (Tm 54)),iB 56 .add 50 55,iM 7 56]
def VW:Rg:=[iM 57 6,iM 58 8,iM 59 7,iA 60 (.conv .u32 (Tm 59)),iX 61 1 57 58,iS 1 61 60]
def VX:Rg:=[iM 62 7,iA 63 (.bin .shr (Tm 62) (.const (.int .u64 32))),iM 7 63]
def VY:Rg:=[iC 64 .add 36 1,iM 36 64]
def VV:aC:=(sq aOZ (.seq (.cond (Tm 37) .skip (.exit 0)) (.seq (.block 1 (sq aAW (sq aAX (.seq (sq aAY (.cond (Tm 49) (.region aAZ) .skip)) (sq VW (.region VX)))))) (.region VY))))
def VZ:Rg:=[iM 65 6,iM 66 0,iN 67 66,iM 68 7,iA 69 (.conv .u32 (Tm 68)),iX 70 1 65 67,iS 1 70 69]
def WA:Rg:=[iM 71 6,iK 72 141 71,iE 73 72 0,iE 74 72 1,iM 4 73,iM 5 74]
def LW:aC:=(sq aOU (.seq (sq aOV (.cond (Tm 14) (sq aiK .ret) .skip)) (dq aOW (.seq (sq aOX (.cond (Tm 27) (.region aOY) .skip)) (sq aiL (sq aiM (.seq (sq aiN (.block 0 (.loop VV))) (sq VZ (sq WA .ret)))))))))
def bmK:List Nat:=[]
def aAV:aV:=⟨2,75,LW,[.tmp 4,.tmp 5]⟩
def aQC:Rg:=[iZ 4,iI 5 0]
def aQD:Rg:=[iM 11 0,iK 12 137 11,iM 13 12,gM 14 1 13 false,gK 15 137 14 13 false,iQ 16 13 15,iM 10 16]
def aiY:Rg:=[iZ 4,iI 5 2]
def aQE:Rg:=[iM 18 0,iM 19 1,iK2 20 129 18 19,iC 21 .lss 20 0,iM 17 21]
def aQF:Rg:=[iZ 4,iI 5 4]
def aQG:Rd:=[(iM 22 0,true),(iM 23 0,false),(iK 24 138 23,true),(iA 25 (.slice 1 (Tm 22) none (some (Tm 24)) none),true),(iM 26 1,true),(iM 27 1,true),(iK 28 138 27,true),(iA 29 (.slice 1 (Tm 26) none (some (Tm 28)) none),false),(iM 0 25,false),(iM 1 29,false)]
def aiZ:Rg:=[iM 30 0,iN 31 30,iA 32 (.bGS 1 4 [(.int .u32 0)] (Tm 31) (Tm 31)),iM 6 32]
def ajA:Rg:=[iA 7 (.mv (.const (.int .u64 0)))]
def ajB:Rg:=[iM 33 0,iN 34 33,iI 35 0]
def aQH:Rg:=[iB 36 .lss 35 34]
def aCL:Rg:=[iM 37 35,iM 8 37]
def aCM:Rg:=[iM 38 0,iM 39 8,iX 40 1 38 39,iL 41 40,iA 42 (.conv .u64 (Tm 41)),iM 43 7,iB 44 .sub 42 43,iM 9 44]
def aCN:Rg:=[iM 45 8,iM 46 1,iN 47 46,iB 48 .lss 45 47]
def aCO:Rg:=[iM 49 9,iM 50 1,iM 51 8,iX 52 1 50 51,iL 53 52,iA 54 (.conv .u64 (Tm 53)),iB 55 .sub 49 54,iM 9 55]
def WI:Rg:=[iM 56 6,iM 57 8,iM 58 9,iA 59 (.conv .u32 (Tm 58)),iX 60 1 56 57,iS 1 60 59]
def WJ:Rg:=[iM 61 9,iA 62 (.bin .shr (Tm 61) (.const (.int .u64 63))),iM 7 62]
def WK:Rg:=[iC 63 .add 35 1,iM 35 63]
def WH:aC:=(sq aQH (.seq (.cond (Tm 36) .skip (.exit 1)) (.seq (.block 2 (sq aCL (sq aCM (.seq (sq aCN (.cond (Tm 48) (.region aCO) .skip)) (sq WI (.region WJ)))))) (.region WK))))
def WL:Rg:=[iM 64 6,iK 65 141 64,iE 66 65 0,iE 67 65 1,iM 4 66,iM 5 67]
def ML:aC:=(sq aQC (.seq (.block 0 (sq aQD (.cond (Tm 10) (sq aiY .ret) (sq aQE (.cond (Tm 17) (sq aQF .ret) .skip))))) (dq aQG (sq aiZ (sq ajA (.seq (sq ajB (.block 1 (.loop WH))) (sq WL .ret)))))))
def bmW:List Nat:=[]
def aCK:aV:=⟨2,68,ML,[.tmp 4,.tmp 5]⟩
def aPY:Rg:=[iZ 4,iI 5 0]
def aPZ:Rg:=[iM 12 0,iK 13 137 12,iM 14 13,gM 15 1 14 false,gK 16 137 15 14 false,iQ 17 14 16]
def aiR:Rg:=[iZ 4,iI 5 2]
def aQA:Rd:=[(iM 18 0,true),(iM 19 0,false),(iK 20 138 19,true),(iA 21 (.slice 1 (Tm 18) none (some (Tm 20)) none),true),(iM 22 1,true),(iM 23 1,true),(iK 24 138 23,true),(iA 25 (.slice 1 (Tm 22) none (some (Tm 24)) none),false),(iM 0 21,false),(iM 1 25,false)]
def aiS:Rg:=[iM 26 0,iN 27 26,iM 28 1,iN 29 28,iB 30 .add 27 29,iA 31 (.bGS 1 4 [(.int .u32 0)] (Tm 30) (Tm 30)),iM 6 31]
def aiT:Rg:=[iM 32 0,iN 33 32,iI 34 0]
def aQB:Rg:=[iB 35 .lss 34 33]
def aiU:Rg:=[iM 36 34,iX 37 1 32 34,iL 38 37,iM 7 36,iM 8 38]
def aiV:Rg:=[iA 9 (.mv (.const (.int .u64 0)))]
def aiW:Rg:=[iM 39 1,iN 40 39,iI 41 0]
def aCC:Rg:=[iB 42 .lss 41 40]
def aCD:Rg:=[iM 43 41,iX 44 1 39 41,iL 45 44,iM 10 43,iM 11 45]
def aCE:Rg:=[iM 46 9,iM 47 8,iA 48 (.conv .u64 (Tm 47)),iM 49 11,iA 50 (.conv .u64 (Tm 49)),iB 51 .mul 48 50,iM 52 6,iM 53 7,iM 54 10,iB 55 .add 53 54,iX 56 1 52 55,iL 57 56,iA 58 (.conv .u64 (Tm 57)),iB 59 .add 51 58,iB 60 .add 46 59,iM 9 60]
def aCF:Rg:=[iM 61 6,iM 62 7,iM 63 10,iB 64 .add 62 63,iM 65 9,iA 66 (.conv .u32 (Tm 65)),iX 67 1 61 64,iS 1 67 66]
def aCG:Rg:=[iM 68 9,iA 69 (.bin .shr (Tm 68) (.const (.int .u64 32))),iM 9 69]
def aCH:Rg:=[iC 70 .add 41 1,iM 41 70]
def WD:aC:=(sq aCC (.seq (.cond (Tm 42) .skip (.exit 2)) (.seq (.block 3 (sq aCD (sq aCE (sq aCF (.region aCG))))) (.region aCH))))
def WF:Rg:=[iM 71 6,iM 72 7,iM 73 1,iN 74 73,iB 75 .add 72 74,iM 76 9,iA 77 (.conv .u32 (Tm 76)),iX 78 1 71 75,iS 1 78 77]
def aCI:Rg:=[iC 79 .add 34 1,iM 34 79]
def WE:aC:=(sq aQB (.seq (.cond (Tm 35) .skip (.exit 0)) (.seq (.block 1 (sq aiU (sq aiV (.seq (sq aiW (.block 2 (.loop WD))) (.region WF))))) (.region aCI))))
def WG:Rg:=[iM 80 6,iK 81 141 80,iE 82 81 0,iE 83 81 1,iM 4 82,iM 5 83]
def MG:aC:=(sq aPY (.seq (sq aPZ (.cond (Tm 17) (sq aiR .ret) .skip)) (dq aQA (sq aiS (.seq (sq aiT (.block 0 (.loop WE))) (sq WG .ret))))))
def bmU:List Nat:=[]
def aCB:aV:=⟨2,84,MG,[.tmp 4,.tmp 5]⟩
def aBC:Rg:=[iI 2 0]
def aBD:Rg:=[iM 6 0,iK 7 138 6,iM 3 7]
def aBE:Rg:=[iM 8 3,iC 9 .eql 8 0]
def aBF:Rg:=[iI 2 0]
def aBG:Rg:=[iM 10 3,iC 11 .sub 10 1,iC 12 .mul 11 32,iM 4 12]
def aBH:Rg:=[iM 13 0,iM 14 3,iC 15 .sub 14 1,iX 16 1 13 15,iL 17 16,iM 5 17]
def aBI:Rg:=[iM 18 5,iA 19 (.bin .gtr (Tm 18) (.const (.int .u32 0)))]
def aBJ:Rg:=[iM 22 4,iC 23 .add 22 1,iM 4 23]
def aBK:Rg:=[iM 20 5,iA 21 (.bin .shr (Tm 20) (.const (.int .u64 1))),iM 5 21]
def aBB:aC:=(.seq (sq aBI (.cond (Tm 19) .skip (.exit 0))) (.seq (.block 1 (.region aBJ)) (.region aBK)))
def anE:Rg:=[iM 24 4,iM 2 24]
def FW:aC:=(sq aBC (sq aBD (.seq (sq aBE (.cond (Tm 9) (sq aBF .ret) .skip)) (sq aBG (.seq (sq aBH (.block 0 (.loop aBB))) (sq anE .ret))))))
def beW:List Nat:=[]
def abS:aV:=⟨1,25,FW,[.tmp 2]⟩
def aPR:Rg:=[iZ 4,iI 5 0]
def aPS:Rg:=[iM 8 0,iK 9 137 8,iM 10 9,gM 11 1 10 false,gK 12 137 11 10 false,iQ 13 10 12]
def aiQ:Rg:=[iZ 4,iI 5 2]
def aPT:Rg:=[iM 14 0,iK 15 135 14,iM 16 1,iK 17 135 16,iM 0 15,iM 1 17]
def aPU:Rg:=[iM 18 1,iN 19 18,iC 20 .gtr 19 0]
def aPV:Rg:=[iM 22 0,iM 23 1,iK2 24 136 22 23,iM 21 24,iE 25 21 0,iE 26 21 1,iM 6 25,iM 7 26]
def aPW:Rg:=[iM 27 1,iM 28 7,iM 0 27,iM 1 28]
def aPQ:aC:=(.seq (sq aPU (.cond (Tm 20) .skip (.exit 0))) (.block 1 (sq aPV (.region aPW))))
def aPX:Rg:=[iM 29 0,iM 4 29,iI 5 0]
def MD:aC:=(sq aPR (.seq (sq aPS (.cond (Tm 13) (sq aiQ .ret) .skip)) (sq aPT (.seq (.block 0 (.loop aPQ)) (sq aPX .ret)))))
def bmS:List Nat:=[]
def aBW:aV:=⟨2,30,MD,[.tmp 4,.tmp 5]⟩
def aPK:Rg:=[iZ 4,iZ 5,iI 6 0]
def aPL:Rg:=[iM 10 0,iK 11 137 10,iM 12 11,gM 13 1 12 false,gK 14 137 13 12 false,iQ 15 12 14,iM 9 15]
def aiO:Rg:=[iZ 4,iZ 5,iI 6 2]
def aPM:Rg:=[iM 17 1,iK 18 138 17,iC 19 .eql 18 0,iM 16 19]
def aPN:Rg:=[iZ 4,iZ 5,iI 6 3]
def aPO:Rd:=[(iM 21 0,true),(iM 22 0,false),(iK 23 138 22,true),(iA 24 (.slice 1 (Tm 21) none (some (Tm 23)) none),true),(iM 25 1,true),(iM 26 1,true),(iK 27 138 26,true),(iA 28 (.slice 1 (Tm 25) none (some (Tm 27)) none),false),(iK2 29 136 24 28,true),(iM 20 29,false),(iE 30 20 0,false),(iE 31 20 1,false),(iM 7 30,false),(iM 8 31,false)]
def aPP:Rg:=[iM 32 7,iM 33 8,iM 4 32,iM 5 33,iI 6 0]
def MB:aC:=(sq aPK (.seq (.block 0 (sq aPL (.cond (Tm 9) (sq aiO .ret) (sq aPM (.cond (Tm 16) (sq aPN .ret) .skip))))) (dq aPO (sq aPP .ret))))
def bmP:List Nat:=[]
def aBR:aV:=⟨2,34,MB,[.tmp 4,.tmp 5,.tmp 6]⟩
def anJ:Rg:=[iZ 4,iA 5 (.mv (.const (.int .u32 0)))]
def anK:Rg:=[iM 9 0,iN 10 9,iA 11 (.bGS 1 4 [(.int .u32 0)] (Tm 10) (Tm 10)),iM 6 11]
def anL:Rg:=[iA 7 (.mv (.const (.int .u64 0)))]
def anM:Rg:=[iM 12 0,iN 13 12,iC 14 .sub 13 1,iM 8 14]
def anN:Rg:=[iM 15 8,iC 16 .geq 15 0]
def anO:Rg:=[iM 19 7,iA 20 (.bin .shl (Tm 19) (.const (.int .u64 32))),iM 21 0,iM 22 8,iX 23 1 21 22,iL 24 23,iA 25 (.conv .u64 (Tm 24)),iB 26 .or 20 25,iM 7 26]
def anP:Rg:=[iM 27 6,iM 28 8,iM 29 7,iM 30 1,iA 31 (.conv .u64 (Tm 30)),iB 32 .quo 29 31,iA 33 (.conv .u32 (Tm 32)),iX 34 1 27 28,iS 1 34 33]
def anQ:Rg:=[iM 35 7,iM 36 1,iA 37 (.conv .u64 (Tm 36)),iB 38 .rem 35 37,iM 7 38]
def anR:Rg:=[iM 17 8,iC 18 .sub 17 1,iM 8 18]
def anI:aC:=(.seq (sq anN (.cond (Tm 16) .skip (.exit 0))) (.seq (.block 1 (sq anO (sq anP (.region anQ)))) (.region anR)))
def acG:Rg:=[iM 39 6,iM 40 6,iK 41 138 40,iA 42 (.slice 1 (Tm 39) none (some (Tm 41)) none),iM 43 7,iA 44 (.conv .u32 (Tm 43)),iM 4 42,iM 5 44]
def zU:aC:=(sq anJ (sq anK (sq anL (.seq (sq anM (.block 0 (.loop anI))) (sq acG .ret)))))
def a5U:List Nat:=[]
def MJ:aV:=⟨2,45,zU,[.tmp 4,.tmp 5]⟩
def a5Y:Rg:=[iZ 4]
def a5Z:Rg:=[iM 9 0,iN 10 9,iC 11 .add 10 1,iA 12 (.bGS 1 4 [(.int .u32 0)] (Tm 11) (Tm 11)),iM 5 12]
def a6A:Rg:=[iA 6 (.mv (.const (.int .u64 0)))]
def a6B:Rg:=[iM 13 0,iN 14 13,iI 15 0]
def a6C:Rg:=[iB 16 .lss 15 14]
def a6D:Rg:=[iM 17 15,iX 18 1 13 15,iL 19 18,iM 7 17,iM 8 19]
def a6E:Rg:=[iM 20 6,iM 21 8,iA 22 (.conv .u64 (Tm 21)),iM 23 1,iB 24 .shl 22 23,iB 25 .or 20 24,iM 6 25]
def a6F:Rg:=[iM 26 5,iM 27 7,iM 28 6,iA 29 (.conv .u32 (Tm 28)),iX 30 1 26 27,iS 1 30 29]
def a6G:Rg:=[iM 31 6,iA 32 (.bin .shr (Tm 31) (.const (.int .u64 32))),iM 6 32]
def a6H:Rg:=[iC 33 .add 15 1,iM 15 33]
def aQI:aC:=(sq a6C (.seq (.cond (Tm 16) .skip (.exit 0)) (.seq (.block 1 (sq a6D (sq a6E (sq a6F (.region a6G))))) (.region a6H))))
def aQJ:Rg:=[iM 34 5,iM 35 0,iN 36 35,iM 37 6,iA 38 (.conv .u32 (Tm 37)),iX 39 1 34 36,iS 1 39 38]
def aQK:Rg:=[iM 40 5,iM 4 40]
def WM:aC:=(sq a5Y (sq a5Z (sq a6A (.seq (sq a6B (.block 0 (.loop aQI))) (sq aQJ (sq aQK .ret))))))
def bqY:List Nat:=[]
def nup:aV:=⟨2,41,WM,[.tmp 4]⟩
def abU:Rg:=[iZ 4,iZ 5]
def abV:Rg:=[iM 21 0,iM 22 1,iK2 23 129 21 22,iC 24 .lss 23 0]
def abW:Rg:=[iM 25 0,iK 26 135 25,iZ 4,iM 5 26]
def abX:Rg:=[iM 27 1,iN 28 27,iC 29 .eql 28 1]
def abY:Rg:=[iM 31 0,iM 32 1,iA 33 (.bHD 1 (Tm 32) (Ci 0)),iL 34 33,iK2 35 140 31 34,iM 30 35,iE 36 30 0,iE 37 30 1,iM 6 36,iM 7 37]
def abZ:Rg:=[iM 38 6,iM 39 7,iA 40 (.conv .u64 (Tm 39)),iK 41 132 40,iM 4 38,iM 5 41]
def acA:Rg:=[iA 8 (.mv (.const (.int .u64 0)))]
def acB:Rg:=[iM 42 1,iM 43 1,iN 44 43,iC 45 .sub 44 1,iX 46 1 42 45,iL 47 46,iM 48 8,iB 49 .shl 47 48,iA 50 (.bin .lss (Tm 49) (.const (.int .u32 2147483648)))]
def acC:Rg:=[iM 51 8,iA 52 (.bin .add (Tm 51) (.const (.int .u64 1))),iM 8 52]
def abT:aC:=(.seq (sq acB (.cond (Tm 50) .skip (.exit 0))) (.block 1 (.region acC)))
def SE:Rd:=[(iM 53 0,false),(iM 54 8,false),(iK2 55 143 53 54,true),(iM 56 1,true),(iM 57 8,true),(iK2 58 143 56 57,true),(iM 59 1,true),(iN 60 59,true),(iA 61 (.slice 1 (Tm 58) none (some (Tm 60)) none),false),(iM 9 55,false),(iM 10 61,false)]
def SF:Rg:=[iM 62 10,iN 63 62,iM 11 63]
def SG:Rg:=[iM 64 9,iN 65 64,iM 66 11,iB 67 .sub 65 66,iA 68 (.bGS 1 4 [(.int .u32 0)] (Tm 67) (Tm 67)),iM 12 68]
def SH:Rd:=[(iM 69 10,false),(iM 70 11,false),(iC 71 .sub 70 1,false),(iX 72 1 69 71,false),(iL 73 72,false),(iA 74 (.conv .u64 (Tm 73)),false),(iM 75 10,false),(iM 76 11,false),(iC 77 .sub 76 2,false),(iX 78 1 75 77,false),(iL 79 78,false),(iA 80 (.conv .u64 (Tm 79)),false),(iM 13 74,false),(iM 14 80,false)]
def SI:Rg:=[iM 81 12,iN 82 81,iC 83 .sub 82 1,iM 15 83]
def SJ:Rg:=[iM 84 15,iC 85 .geq 84 0]
def zJ:Rd:=[(iM 88 9,false),(iM 89 15,false),(iM 90 11,false),(iB 91 .add 89 90,false),(iX 92 1 88 91,false),(iL 93 92,false),(iA 94 (.conv .u64 (Tm 93)),false),(iA 95 (.bin .shl (Tm 94) (.const (.int .u64 32))),false),(iM 96 9,false),(iM 97 15,false),(iM 98 11,false),(iB 99 .add 97 98,false),(iC 100 .sub 99 1,false),(iX 101 1 96 100,false),(iL 102 101,false),(iA 103 (.conv .u64 (Tm 102)),false),(iB 104 .or 95 103,false),(iM 16 104,false)]
def zK:Rd:=[(iM 105 16,false),(iM 106 13,false),(iB 107 .quo 105 106,false),(iM 108 16,false),(iM 109 13,false),(iB 110 .rem 108 109,false),(iM 17 107,false),(iM 18 110,false)]
def SK:Rg:=[iM 111 17,iA 112 (.bin .geq (Tm 111) (.const (.int .u64 4294967296))),iM 113 112,gM 114 17 113 false,gM 115 14 113 false,gB 116 .mul 114 115 113 false,gM 117 18 113 false,iG 118 (.bin .shl (Tm 117) (.const (.int .u64 32))) 113 false,gM 119 9 113 false,gM 120 15 113 false,gM 121 11 113 false,gB 122 .add 120 121 113 false,gC 123 .sub 122 2 113 false,iG 124 (.bHD 1 (Tm 119) (Tm 123)) 113 false,gL 125 124 113 false,iG 126 (.conv .u64 (Tm 125)) 113 false,gB 127 .or 118 126 113 false,gB 128 .gtr 116 127 113 false,iQ 129 113 128]
def zL:Rg:=[iM 130 17,iA 131 (.bin .sub (Tm 130) (.const (.int .u64 1))),iM 17 131]
def zM:Rg:=[iM 132 18,iM 133 13,iB 134 .add 132 133,iM 18 134]
def zN:Rg:=[iM 135 18,iA 136 (.bin .geq (Tm 135) (.const (.int .u64 4294967296)))]
def rZ:aC:=(.seq (sq SK (.cond (Tm 129) .skip (.exit 4))) (.block 5 (sq zL (sq zM (sq zN (.cond (Tm 136) (.exit 4) .skip))))))
def zO:Rg:=[iM 137 9,iM 138 15,iM 139 15,iM 140 11,iB 141 .add 139 140,iC 142 .add 141 1,iA 143 (.slice 1 (Tm 137) (some (Tm 138)) (some (Tm 142)) none),iM 144 10,iM 145 17,iA 146 (.call 142 [(Tm 143),(Tm 144),(Tm 145)])]
def zP:Rg:=[iM 147 17,iA 148 (.bin .sub (Tm 147) (.const (.int .u64 1))),iM 17 148]
def zQ:Rg:=[iM 149 9,iM 150 15,iM 151 15,iM 152 11,iB 153 .add 151 152,iC 154 .add 153 1,iA 155 (.slice 1 (Tm 149) (some (Tm 150)) (some (Tm 154)) none),iM 156 10,iK2 157 139 155 156]
def sA:Rg:=[iM 158 12,iM 159 15,iM 160 17,iA 161 (.conv .u32 (Tm 160)),iX 162 1 158 159,iS 1 162 161]
def SL:Rg:=[iM 86 15,iC 87 .sub 86 1,iM 15 87]
def zH:aC:=(.seq (sq SJ (.cond (Tm 85) .skip (.exit 2))) (.seq (.block 3 (dq zJ (dq zK (.seq (.block 4 (.loop rZ)) (.seq (sq zO (.cond (Tm 146) (sq zP (.region zQ)) .skip)) (.region sA)))))) (.region SL)))
def zR:Rg:=[iM 163 11,iA 164 (.bGS 1 4 [(.int .u32 0)] (Tm 163) (Tm 163)),iM 19 164]
def zS:Rg:=[iM 165 19,iN 166 165,iI 167 0]
def SM:Rg:=[iB 168 .lss 167 166]
def SN:Rg:=[iM 169 167,iM 20 169]
def SO:Rd:=[(iM 170 19,false),(iM 171 20,false),(iM 172 9,false),(iM 173 20,false),(iC 174 .add 173 1,false),(iX 175 1 172 174,false),(iL 176 175,false),(iA 177 (.conv .u64 (Tm 176)),false),(iA 178 (.bin .shl (Tm 177) (.const (.int .u64 32))),false),(iM 179 9,false),(iM 180 20,false),(iX 181 1 179 180,false),(iL 182 181,false),(iA 183 (.conv .u64 (Tm 182)),false),(iB 184 .or 178 183,false),(iM 185 8,false),(iB 186 .shr 184 185,false),(iA 187 (.conv .u32 (Tm 186)),false),(iX 188 1 170 171,false),(iS 1 188 187,true)]
def SP:Rg:=[iC 189 .add 167 1,iM 167 189]
def zI:aC:=(sq SM (.seq (.cond (Tm 168) .skip (.exit 6)) (.seq (.block 7 (sq SN (.draw SO))) (.region SP))))
def SQ:Rd:=[(iM 190 12,true),(iM 191 12,false),(iK 192 138 191,true),(iA 193 (.slice 1 (Tm 190) none (some (Tm 192)) none),true),(iM 194 19,true),(iM 195 19,true),(iK 196 138 195,true),(iA 197 (.slice 1 (Tm 194) none (some (Tm 196)) none),false),(iM 4 193,false),(iM 5 197,false)]
def wG:aC:=(sq abU (.seq (sq abV (.cond (Tm 24) (sq abW .ret) .skip)) (.seq (sq abX (.cond (Tm 29) (sq abY (sq abZ .ret)) .skip)) (sq acA (.seq (.block 0 (.loop abT)) (dq SE (sq SF (sq SG (dq SH (.seq (sq SI (.block 2 (.loop zH))) (sq zR (.seq (sq zS (.block 6 (.loop zI))) (dq SQ .ret)))))))))))))
def aYE:List Nat:=[]
def BZ:aV:=⟨2,198,wG,[.tmp 4,.tmp 5]⟩
def MM:Rg:=[iT 6 false]
def MN:Rg:=[iA 7 (.mv (.const (.int .u64 0))),iA 8 (.mv (.const (.int .u64 0)))]
def MO:Rg:=[iM 13 1,iN 14 13,iI 15 0]
def MP:Rg:=[iB 16 .lss 15 14]
def MQ:Rg:=[iM 17 15,iX 18 1 13 15,iL 19 18,iM 9 17,iM 10 19]
def MR:Rg:=[iM 20 7,iM 21 2,iM 22 10,iA 23 (.conv .u64 (Tm 22)),iB 24 .mul 21 23,iB 25 .add 20 24,iM 7 25]
def MT:Rg:=[iM 26 0,iM 27 9,iX 28 1 26 27,iL 29 28,iA 30 (.conv .u64 (Tm 29)),iM 31 7,iA 32 (.bin .and (Tm 31) (.const (.int .u64 4294967295))),iB 33 .sub 30 32,iM 34 8,iB 35 .sub 33 34,iM 11 35]
def MU:Rg:=[iM 36 0,iM 37 9,iM 38 11,iA 39 (.conv .u32 (Tm 38)),iX 40 1 36 37,iS 1 40 39]
def MW:Rg:=[iM 41 11,iA 42 (.bin .shr (Tm 41) (.const (.int .u64 63))),iM 8 42]
def MX:Rg:=[iM 43 7,iA 44 (.bin .shr (Tm 43) (.const (.int .u64 32))),iM 7 44]
def JI:Rg:=[iC 45 .add 15 1,iM 15 45]
def JH:aC:=(sq MP (.seq (.cond (Tm 16) .skip (.exit 0)) (.seq (.block 1 (sq MQ (sq MR (sq MT (sq MU (sq MW (.region MX))))))) (.region JI))))
def JJ:Rg:=[iM 46 0,iM 47 1,iN 48 47,iX 49 1 46 48,iL 50 49,iA 51 (.conv .u64 (Tm 50)),iM 52 7,iB 53 .sub 51 52,iM 54 8,iB 55 .sub 53 54,iM 12 55]
def JK:Rg:=[iM 56 0,iM 57 1,iN 58 57,iM 59 12,iA 60 (.conv .u32 (Tm 59)),iX 61 1 56 58,iS 1 61 60]
def JL:Rg:=[iM 62 12,iA 63 (.bin .shr (Tm 62) (.const (.int .u64 63))),iA 64 (.bin .eql (Tm 63) (.const (.int .u64 1))),iM 6 64]
def rM:aC:=(sq MM (sq MN (.seq (sq MO (.block 0 (.loop JH))) (sq JJ (sq JK (sq JL .ret))))))
def aCR:List Nat:=[]
def sU:aV:=⟨3,65,rM,[.tmp 6]⟩
def SS:Rg:=[iA 4 (.mv (.const (.int .u64 0)))]
def ST:Rg:=[iM 7 1,iN 8 7,iI 9 0]
def SU:Rg:=[iB 10 .lss 9 8]
def SV:Rg:=[iM 11 9,iX 12 1 7 9,iL 13 12,iM 5 11,iM 6 13]
def SW:Rg:=[iM 14 4,iM 15 0,iM 16 5,iX 17 1 15 16,iL 18 17,iA 19 (.conv .u64 (Tm 18)),iM 20 6,iA 21 (.conv .u64 (Tm 20)),iB 22 .add 19 21,iB 23 .add 14 22,iM 4 23]
def SX:Rg:=[iM 24 0,iM 25 5,iM 26 4,iA 27 (.conv .u32 (Tm 26)),iX 28 1 24 25,iS 1 28 27]
def SY:Rg:=[iM 29 4,iA 30 (.bin .shr (Tm 29) (.const (.int .u64 32))),iM 4 30]
def SZ:Rg:=[iC 31 .add 9 1,iM 9 31]
def SR:aC:=(sq SU (.seq (.cond (Tm 10) .skip (.exit 0)) (.seq (.block 1 (sq SV (sq SW (sq SX (.region SY))))) (.region SZ))))
def TA:Rg:=[iM 32 0,iM 33 1,iN 34 33,iX 35 1 32 34,iL 36 35,iM 37 4,iA 38 (.conv .u32 (Tm 37)),iB 39 .add 36 38,iX 40 1 32 34,iS 1 40 39]
def tK:aC:=(sq SS (.seq (sq ST (.block 0 (.loop SR))) (.region TA)))
def aKM:List Nat:=[]
def wH:aV:=⟨2,41,tK,[]⟩
section
variable {C:Ctx} {K:cN} {F:PF} {H:PH}
theorem PH.kB (o:Nat) (x:cP):H.eN .nil (PH.nil.set o x)=H.set o x:=PH.ext fun q=>by
 rw[lC]; simp only[bH,aiD]; split<;>simp_all
theorem PH.lD (o:Nat) (x y:cP):H.eN (PH.nil.set o x) (PH.nil.set o y)=H.set o y:=PH.ext fun q=>by
 rw[lC]; simp only[bH,aiD]; split<;>simp_all
theorem fD {name:Nat} {vs:List PV} {H0:PH} {R:PV→PH→Prop} {args:List aP} {d:Option Nat} {K:PF→PH→Prop} (h:aD C name vs H0 R) (ha:aP.evs F args=some vs) (hle:H0.le H)
  (hk:∀ r H',R r H'→kG H H0 H'→K (F.put d r) (H.eN H0 H')):fU C name args [] d K F H :=
 .inl ⟨vs,H0,R,by rw[ha]; simp,hle,h,hk⟩
theorem aW {res:List dU} {R:PV→PH→Prop} {vs:List PV} {e:lH} (he:e=.normal∨e=.ret) (H0:PH) (h:dU.evs F H res=some vs) (hle:H0.le H) (hR:R (aX vs) H0):aU res R e F H:=by
 have key:∃ vs,dU.evs F H res=some vs∧∃ F1 H1 H2,hJ (PF.nil.set 0 (aX vs)) H F1 H1∧H2.le H1∧∃ u,F1 0=some u∧R u H2 :=
  ⟨vs,h,_,H,H0,.refl _ _,hle,aX vs,by rw[lE,if_pos rfl],hR⟩
 rcases he with rfl | rfl<;>exact key
theorem aEC {t o s k:Nat} {rs:List (List PV)} {R:PV→PH→Prop} {e:lH} (he:e=.normal∨e=.ret) (h:F t=some (.osl o s 0 k)) (ho:H o=some (.rows s rs)) (hk:k≤rs.length) (hR:R (.sl s (rs.take k)) .nil) :
  aU [.tmp t] R e F H:=by
 have key:∃ vs,dU.evs F H [.tmp t]=some vs∧∃ F1 H1 H2,hJ (PF.nil.set 0 (aX vs)) H F1 H1∧H2.le H1∧∃ u,F1 0=some u∧R u H2:=by
  refine⟨[.osl o s 0 k],by rw[kU,nP,h,pN],_,_,.nil,.step o ho (.refl _ _),PH.nil_le,.sl s (rs.take k),?_,hR⟩
  have:0+k≤rs.length:=by omega
  simp only[PF.frz,lE,if_true,aX,bJW,PV.frz,PV.rF,PV.dB,true_and,if_pos this,bJO]
 rcases he with rfl | rfl<;>exact key
def bZ (v:PV) (r:PV) (H:PH):Prop:=Co r v∧H=PH.nil
theorem aD.brL {name:Nat} {args:List PV} {H:PH} {v:PV} (h:aD C name args H (bZ v)):aD C name args H (aE v) :=
 h.post fun r H' ⟨h1,h2⟩=>⟨v,h1,rfl,h2⟩
theorem aE.brL {v r:PV} {H:PH} (h:aE v r H):bZ v r H:=by
 obtain⟨rfl,rfl⟩:=h
 exact⟨.refl _,rfl⟩
theorem wY {s b:Nat} {y:PV} {src:List (List PV)} {K:PV→PH→Prop} (hy:dO H s y=some src) (hr:roomFor 0 src.length b) (h0:src=[]→K .aB H)
  (h1:src≠[]→∀ o,H o=none→K (.osl o s 0 src.length) (H.set o (.rows s src))):lT H s b .aB y K:=⟨src,hy,hr,h0,h1⟩
theorem wZ {o s b len:Nat} {rs:List (List PV)} {y:PV} {src:List (List PV)} {K:PV→PH→Prop} (hy:dO H s y=some src) (hr:roomFor len src.length b) (ho:H o=some (.rows s rs)) (hl:len≤rs.length)
  (h0:K (.osl o s 0 (len+src.length)) (H.set o (.rows s (rs.take len++src))))
  (h1:∀ o',H o'=none→K (.osl o' s 0 (len+src.length)) (H.set o' (.rows s (rs.take len++src)))):lT H s b (.osl o s 0 len) y K :=
 ⟨src,hy,rfl,rfl,hr,rs,ho,hl,h0,h1⟩
end
def bM (H:PH) (s:Nat) (v:PV) (rows:List (List PV)):Prop :=
 (rows=[]∧v=.aB)∨∃ q rs,v=.osl q s 0 rows.length∧H q=some (.rows s rs)∧rows.length≤rs.length∧rs.take rows.length=rows
def Seen (s:Nat) (v:PV) (rows:List (List PV)):Prop:=(rows=[]∧v=.aB)∨v=.sl s rows
section
variable {C:Ctx} {K:cN} {F:PF} {H:PH} {s b:Nat} {v y:PV} {rows src:List (List PV)}
theorem bM.nil:bM H s .aB []:=.inl ⟨rfl,rfl⟩
theorem bM.view (h:bM H s v rows):dO H s v=some rows:=by
 rcases h with ⟨rfl,rfl⟩ | ⟨q,rs,rfl,h1,h2,h3⟩
 ·rfl
 ·have:0+rows.length≤rs.length:=by omega
  simp only[dO,if_true,h1,true_and,if_pos this,bJO,h3]
theorem Seen.view (h:Seen s v rows):dO H s v=some rows:=by
 rcases h with ⟨rfl,rfl⟩ | rfl
 ·rfl
 ·simp[dO]
theorem bM.ext {H':PH} (h:bM H s v rows) (hk:∀ o x,H o=some x→H' o=some x):bM H' s v rows:=by
 rcases h with h | ⟨q,rs,h0,h1,h2,h3⟩
 ·exact .inl h
 ·exact .inr ⟨q,rs,h0,hk q _ h1,h2,h3⟩
theorem fR {K:PV→PH→Prop} (h:bM H s v rows) (hy:dO H s y=some src) (hr:roomFor rows.length src.length b)
  (hk:∀ v' H',bM H' s v' (rows++src)→(∀ o x,H o=some x→(∀ l,v≠.osl o s 0 l)→H' o=some x)→K v' H'):lT H s b v y K:=by
 rcases h with ⟨rfl,rfl⟩ | ⟨q,rs,rfl,h1,h2,h3⟩
 ·refine⟨src,hy,hr,fun e=>?_,fun e o ho=>?_⟩
  ·subst e
   exact hk _ _ (.inl ⟨rfl,rfl⟩) fun o x ho _=>ho
  ·refine hk _ _ (.inr ⟨o,src,rfl,by simp only[bH,if_true],bIO _,by simp⟩) fun o' x ho' _=>?_
   have:o'≠o:=by rintro rfl; rw[ho] at ho'; cases ho'
   simp only[bH,if_neg this,ho']
 ·have hlen:(rows++src).length=rows.length+src.length:=bIU
  refine⟨src,hy,rfl,rfl,hr,rs,h1,h2,?_,fun o ho=>?_⟩
  ·rw[h3]
   refine hk _ _ (.inr ⟨q,rows++src,by rw[hlen],by simp only[bH,if_true],bIO _,bJN⟩) fun o' x ho' hne=>?_
   have:o'≠q:=by rintro rfl; exact hne _ rfl
   simp only[bH,if_neg this,ho']
  ·rw[h3]
   refine hk _ _ (.inr ⟨o,rows++src,by rw[hlen],by simp only[bH,if_true],bIO _,bJN⟩) fun o' x ho' hne=>?_
   have h6:o'≠o:=by rintro rfl; rw[ho] at ho'; cases ho'
   simp only[bH,if_neg h6,ho']
def Pure (u:PV):Prop:=∀ q s rs,PV.frz q s rs u=u
theorem bM.frz (h:bM H s v rows):∃ v1,Seen s v1 rows∧∀ F:PF,∃ F1 H1,hJ F H F1 H1∧(∀ t,F t=some v→F1 t=some v1)∧∀ i u,F i=some u→Pure u→F1 i=some u:=by
 rcases h with ⟨rfl,rfl⟩ | ⟨q,rs,rfl,h1,h2,h3⟩
 ·exact⟨.aB,.inl ⟨rfl,rfl⟩,fun F=>⟨F,H,.refl _ _,fun t h=>h,fun i u h _=>h⟩⟩
 ·refine⟨.sl s rows,.inr rfl,fun F=>⟨_,_,.step q h1 (.refl _ _),fun t ht=>?_,fun i u hi hp=>?_⟩⟩
  ·have:0+rows.length≤rs.length:=by omega
   simp only[PF.frz,ht,bJW,PV.frz,PV.rF,PV.dB,if_true,true_and,if_pos this,bJO,h3]
  ·simp only[PF.frz,hi,bJW]
   rw[hp]
theorem aZB {t:Nat} {e:lH} (he:e=.normal∨e=.ret) (h:bM H s v rows) (ht:F t=some v):aU [.tmp t] (bZ (.sl s rows)) e F H:=by
 rcases h with ⟨rfl,rfl⟩ | ⟨q,rs,rfl,h1,h2,h3⟩
 ·exact aW (vs:=[.aB]) he .nil (by rw[kU,nP,ht,pN]) PH.nil_le ⟨.nil s,rfl⟩
 ·exact aEC he ht h1 h2 ⟨by rw[h3]; exact .refl _,rfl⟩
end
end Go.PM
namespace Go.PM
open Go
section
variable {C:Ctx} {F:PF} {H:PH}
@[go_sem] theorem qG (o s:Nat) (rs:List (List PV)) (i:Nat):(F.frz o s rs) i=(F i).map (PV.frz o s rs):=(rfl)
theorem nU {name t o s k:Nat} {rs:List (List PV)} {v:PV} {d:Option Nat} {K:PF→PH→Prop} (h:aD C name [.sl s (rs.take k)] .nil (aE v)) (ht:F t=some (.osl o s 0 k)) (ho:H o=some (.rows s rs)) (hk:k≤rs.length)
  (hK:K ((F.frz o s rs).put d v) (H.frz o s rs)):fU C name [.tmp t] [] d K F H:=by
 refine .inr ⟨_,_,.step o ho (.refl _ _),[.sl s (rs.take k)],.nil,aE v,?_,PH.nil_le,h,?_⟩
 ·have:0+k≤rs.length:=by omega
  simp only[vQ,QJ,ZX,qG,ht,bJW,PV.frz,PV.rF,PV.dB,if_true,true_and,if_pos this,bJO,bKM]
 ·rintro r H' ⟨rfl,rfl⟩ -
  rw[PH.kS]
  exact hK
end
end Go.PM
namespace Go.Na
def val:List Nat→Nat
 | []=>0
 | x::xs=>x+4294967296*val xs
def Lim (xs:List Nat):Prop:=∀ x∈xs,x<4294967296
def aG (n:Nat):List Nat:=if h:n=0 then [] else (n%4294967296)::aG (n/4294967296)
termination_by n
decreasing_by exact Nat.div_lt_self (bKR h) (by decide)
def nl (n:Nat):Nat:=(aG n).length
theorem eU:aG 0=[]:=by rw[aG]; simp
theorem pI {n:Nat} (h:n≠0):aG n=(n%4294967296)::aG (n/4294967296):=by rw[aG]; simp[h]
theorem mB {n:Nat} (h:n≠0) (hb:n<4294967296):aG n=[n]:=by
 rw[pI h,bJV hb,bLR hb,eU]
theorem aR (n:Nat):val (aG n)=n:=by
 induction n using Nat.strongRecOn with
 | _ n ih =>
  by_cases h:n=0
  ·subst h; rw[eU]; rfl
  ·rw[pI h,val,ih _ (Nat.div_lt_self (bKR h) (by decide))]
   exact Nat.mod_add_div n 4294967296
theorem aT (n:Nat):Lim (aG n):=by
 induction n using Nat.strongRecOn with
 | _ n ih =>
  by_cases h:n=0
  ·subst h; rw[eU]; intro x hx; cases hx
  ·rw[pI h]
   intro x hx
   rw[bJA] at hx
   rcases hx with rfl | hx
   ·exact bKA _ (by decide)
   ·exact ih _ (Nat.div_lt_self (bKR h) (by decide)) x hx
theorem vE:nl 0=0:=by rw[nl,eU]; rfl
theorem a5P {n:Nat} (h:n≠0):nl n=nl (n/4294967296)+1:=by rw[nl,pI h]; rfl
theorem gI (n k:Nat):nl n≤k↔n<4294967296 ^ k:=by
 induction k generalizing n with
 | zero =>
  by_cases h:n=0
  ·subst h; simp[vE]
  ·rw[a5P h]; simp; omega
 | succ k ih =>
  by_cases h:n=0
  ·subst h; simp[vE,bLA]
  ·rw[a5P h,Nat.succ_le_succ_iff,ih,bKE,bLG (by decide)]
theorem fX {n:Nat}:nl n=0↔n=0:=by
 have:=gI n 0
 simp at this
 exact this
theorem fC (xs ys:List Nat):val (xs++ys)=val xs+4294967296 ^ xs.length*val ys:=by
 induction xs with
 | nil=>simp[val]
 | cons x xs ih =>
  simp only[List.cons_append,val,bKH,ih,bKE]
  rw[bIZ,bKX,← bJH,bJK 4294967296 (4294967296 ^ xs.length)]
theorem eJ {xs:List Nat} (h:Lim xs):val xs<4294967296 ^ xs.length:=by
 induction xs with
 | nil=>simp[val]
 | cons x xs ih =>
  have h1:=h x (by simp)
  have h2:=ih fun y hy=>h y (by simp[hy])
  simp only[val,bKH,bKE]
  have:4294967296*(val xs+1)≤4294967296*4294967296 ^ xs.length:=bKP _ h2
  rw[bIZ,Nat.mul_one] at this
  rw[bJK (4294967296 ^ xs.length)]
  omega
theorem Lim.app {xs ys:List Nat} (h:Lim xs) (k:Lim ys):Lim (xs++ys):=fun x hx=>by
 rw[bJY] at hx
 exact hx.elim (h x) (k x)
theorem Lim.take {xs:List Nat} (h:Lim xs) (n:Nat):Lim (xs.take n):=fun x hx=>h x (List.mem_of_mem_take hx)
theorem Lim.drop {xs:List Nat} (h:Lim xs) (n:Nat):Lim (xs.drop n):=fun x hx=>h x (List.mem_of_mem_drop hx)
theorem Lim.set {xs:List Nat} (h:Lim xs) (i:Nat) {v:Nat} (hv:v<4294967296):Lim (xs.set i v):=fun x hx=>by
 rcases List.mem_or_eq_of_mem_set hx with h1 | h1
 ·exact h x h1
 ·subst h1; exact hv
theorem sS (n:Nat):Lim (bIP n 0):=fun x hx=>by
 rw[List.mem_replicate] at hx; rw[hx.2]; decide
theorem pV (n:Nat):val (bIP n 0)=0:=by
 induction n with
 | zero=>rfl
 | succ n ih=>simp[List.replicate_succ,val,ih]
theorem a5H {xs:List Nat} (h:Lim xs) (hl:∀ x,xs.getLast?=some x→x≠0):aG (val xs)=xs:=by
 induction xs with
 | nil=>simp[val,eU]
 | cons x xs ih =>
  have hx:=h x (by simp)
  have hxs:Lim xs:=fun y hy=>h y (by simp[hy])
  cases xs with
  | nil =>
   have:=hl x (by simp)
   simp only[val,Nat.mul_zero,bKD]
   exact mB this hx
  | cons y ys =>
   have ih':=ih hxs fun z hz=>hl z (by rw[List.getLast?_cons_cons]; exact hz)
   have h0:val (y::ys)≠0:=fun e=>by rw[e,eU] at ih'; cases ih'
   have hne:x+4294967296*val (y::ys)≠0:=by
    have:0<4294967296*val (y::ys):=Nat.mul_pos (by decide) (bKR h0)
    omega
   show aG (x+4294967296*val (y::ys))=_
   rw[pI hne]
   have e1:(x+4294967296*val (y::ys))%4294967296=x:=by rw[Nat.add_mul_mod_self_left,bJV hx]
   have e2:(x+4294967296*val (y::ys))/4294967296=val (y::ys):=by rw[Nat.add_mul_div_left _ _ (by decide),bLR hx,bJL]
   rw[e1,e2,ih']
theorem aHJ {xs:List Nat} {n:Nat} (h:∀ j x,n≤j→xs[j]?=some x→x=0):val (xs.take n)=val xs:=by
 have e:xs.drop n=bIP (xs.drop n).length 0:=by
  apply List.ext_getElem (by simp)
  intro i h1 h2
  rw[List.getElem_replicate,List.getElem_drop]
  exact h (n+i) _ Om (bIW _)
 conv=>rhs; rw[← bKZ n xs,fC,e,pV]
 simp
theorem HE {xs:List Nat} (hx:Lim xs) {n:Nat} (hn:n≤xs.length) (h:∀ j x,n≤j→xs[j]?=some x→x=0) (h0:∀ x,0<n→xs[n-1]?=some x→x≠0):xs.take n=aG (val xs):=by
 rw[← aHJ h,a5H (hx.take n)]
 intro x hl
 rw[List.getLast?_eq_getElem?,bJF,bKO hn] at hl
 rcases bLK n with e | e
 ·subst e; simp at hl
 ·rw[bMA Om] at hl
  exact h0 x e hl
theorem aRY {xs:List Nat} (hx:Lim xs) {n:Nat} (hn:n≤xs.length) (h:∀ j x,n≤j→xs[j]?=some x→x=0) (h0:∀ x,0<n→xs[n-1]?=some x→x≠0):nl (val xs)=n:=by
 rw[nl,← HE hx hn h h0,bJF]; omega
theorem eS {xs:List Nat} (h:Lim xs):nl (val xs)≤xs.length:=(gI _ _).2 (eJ h)
theorem jE {xs : List Nat} (h : Lim xs) : xs.take (nl (val xs)) = aG (val xs) := by
  have hl := eS h
  have e : val (xs.take (nl (val xs)) ++ xs.drop (nl (val xs))) = val xs := by rw [bKZ]
  rw [fC, bJF, bKO hl] at e
  have h1 := eJ (h.take (nl (val xs)))
  rw [bJF, bKO hl] at h1
  have h2 := (gI (val xs) (nl (val xs))).1 (bIO _)
  have hd : val (xs.drop (nl (val xs))) = 0 := by
    rcases bLK (val (xs.drop (nl (val xs)))) with h | h
    · exact h
    · have := bKP (4294967296 ^ nl (val xs)) h
      omega
  have hz : ∀ j x, nl (val xs) ≤ j → xs[j]? = some x → x = 0 := by
    have zero : ∀ ys : List Nat, val ys = 0 → ∀ y ∈ ys, y = 0 := by
      intro ys
      induction ys with
      | nil => intro _ y hy; cases hy
      | cons z zs ih =>
        intro hv y hy
        simp only [val] at hv
        rw [bJA] at hy
        rcases hy with rfl | hy
        · omega
        · exact ih (by have : 4294967296 * val zs = 0 := by omega
                       rcases Nat.mul_eq_zero.1 this with h | h
                       · cases h
                       · exact h) y hy
    intro j x hj hx
    refine zero _ hd x ?_
    rw [List.mem_iff_getElem?]
    exact ⟨j - nl (val xs), by rw [bLW, Nat.add_sub_cancel' hj]; exact hx⟩
  refine HE h hl hz fun x hpos hx e => ?_
  subst e
  have hz2 : ∀ j x, nl (val xs) - 1 ≤ j → xs[j]? = some x → x = 0 := fun j y hj hy => by
    rcases bJE j (nl (val xs)) with h3 | h3
    · have : j = nl (val xs) - 1 := by omega
      subst this; rw [hx] at hy; cases hy; rfl
    · exact hz j y h3 hy
  have h3 := aHJ hz2
  have h4 := eJ (h.take (nl (val xs) - 1))
  rw [h3, bJF, bKO Om] at h4
  have := (gI (val xs) (nl (val xs) - 1)).2 h4
  omega
theorem aFO {xs:List Nat} (h:Lim xs) {n:Nat} (hn:nl (val xs)=n+1):∃ x,xs[n]?=some x∧x≠0:=by
 have hl:=eS h
 refine⟨xs[n]'Om,bIW _,fun e=>?_⟩
 have e1:=jE h
 have hv:=aR (val xs)
 rw[← e1,hn,bKK Om,e,fC] at hv
 simp only[val,Nat.mul_zero,bKD] at hv
 have h4:=eJ (h.take n)
 rw[hv,bJF,bKO Om] at h4
 have:=(gI (val xs) n).2 h4
 omega
theorem pP (xs:List Nat) {k:Nat} (h:k<xs.length):val xs=val (xs.take k)+4294967296 ^ k*(xs[k]+4294967296*val (xs.drop (k+1))):=by
 conv=>lhs; rw[← bKZ k xs,fC,bJF,bKO Om,bKG h]
 rfl
theorem YJ {xs ys:List Nat} (hx:Lim xs) {k:Nat} (h1:k<xs.length) (h2:k<ys.length) (hd:xs.drop (k+1)=ys.drop (k+1)) (h:xs[k]<ys[k]):val xs<val ys:=by
 rw[pP xs h1,pP ys h2,hd]
 have h3:=eJ (hx.take k)
 rw[bJF,bKO Om] at h3
 have h4:4294967296 ^ k*(xs[k]+4294967296*val (ys.drop (k+1))+1)≤4294967296 ^ k*(ys[k]+4294967296*val (ys.drop (k+1))):=bKP _ Om
 rw[bIZ _ _ 1,Nat.mul_one] at h4
 omega
def dA (a b:Nat):Int:=if a<b then -1 else if b<a then 1 else 0
theorem alG {xs ys:List Nat} {k:Nat} (h1:k<xs.length) (h2:k<ys.length) (hd:xs.drop (k+1)=ys.drop (k+1)) (h:xs[k]=ys[k]):xs.drop k=ys.drop k:=by
 rw[bKG h1,bKG h2,hd,h]
theorem eY {a b:Nat} (h:a≤b):nl a≤nl b:=(gI a _).2 (Nat.lt_of_le_of_lt h ((gI b _).1 (bIO _)))
theorem auD {xs:List Nat} (h:Lim xs) {j:Nat} (hj:j<nl (val xs)):∃ (h1:j<xs.length) (h2:j<(aG (val xs)).length),xs[j]=(aG (val xs))[j]:=by
 have hl:=eS h
 refine⟨by omega,hj,?_⟩
 have e:=jE h
 have:(xs.take (nl (val xs)))[j]?=(aG (val xs))[j]?:=by rw[e]
 rw[bMA hj,bIW Om,bIW hj] at this
 exact bLB.inj this
def cD (n:Nat):Nat:=if h:n=0 then 0 else cD (n/2)+1
termination_by n
decreasing_by exact Nat.div_lt_self (bKR h) (by decide)
theorem gY:cD 0=0:=by rw[cD]; simp
theorem mR {n:Nat} (h:n≠0):cD n=cD (n/2)+1:=by rw[cD]; simp[h]
theorem kE (n k:Nat):cD n≤k↔n<2 ^ k:=by
 induction k generalizing n with
 | zero =>
  by_cases h:n=0
  ·subst h; simp[gY]
  ·rw[mR h]; simp; omega
 | succ k ih =>
  by_cases h:n=0
  ·subst h; simp[gY,bLA]
  ·rw[mR h,Nat.succ_le_succ_iff,ih,bKE,bLG (by decide)]
theorem iV {n:Nat}:cD n=0↔n=0:=by
 have:=kE n 0
 simp at this
 exact this
theorem auP {hi lo k:Nat} (hl:lo<2 ^ k) (hh:hi≠0):cD (lo+2 ^ k*hi)=k+cD hi:=by
 apply Nat.le_antisymm
 ·rw[kE,Nat.pow_add]
  have h1:=(kE hi _).1 (bIO _)
  have:2 ^ k*(hi+1)≤2 ^ k*2 ^ cD hi:=bKP _ h1
  rw[bIZ,Nat.mul_one] at this
  omega
 ·obtain⟨b,hb⟩:∃ b,cD hi=b+1:=⟨cD hi-1,by have:=mt iV.1 hh; omega⟩
  rw[hb]
  rcases bJE (cD (lo+2 ^ k*hi)) (k+(b+1)) with h | h
  ·have h1:=(kE (lo+2 ^ k*hi) (k+b)).1 Om
   rw[Nat.pow_add] at h1
   have h2:¬ hi<2 ^ b:=fun h=>by have:=(kE hi b).2 h; omega
   have:2 ^ k*2 ^ b≤2 ^ k*hi:=bKP _ Om
   omega
  ·exact h
theorem kF (n k:Nat):cD n≤32*k↔nl n≤k:=by
 rw[kE,gI,Nat.pow_mul]
end Go.Na
namespace Go.PM
theorem Lq {F F':PF} (h:F.le F':=by (repeat' (first|exact PF.nil_le|refine PF.aI ?_ ?_))<;>first|(simp only[go_sem,γ,δ,ε,ζ,η,θ,ι,κ,μ,ν,ξ,ο,ρ,σ,τ,υ,reduceIte,reduceCtorEq]<;>rfl)|rfl|assumption):F.le F':=h
end Go.PM
namespace Go.PM
open Go Go.Na
abbrev aH (xs:List Nat):List (List PV):=xs.map fun (n:Nat)=>[PV.int .u32 (n:Int)]
abbrev aF (xs:List Nat):PV:=.sl 1 (xs.map fun (n:Nat)=>[PV.int .u32 (n:Int)])
theorem bU (xs:List Nat):(aH xs).length=xs.length:=by simp
theorem bL (xs:List Nat) {i:Nat} (h:i<xs.length):(aH xs)[i]?=some [.int .u32 (xs[i]:Nat)]:=by simp[h]
theorem anD (xs:List Nat) (k:Nat):aF (xs.take k)=.sl 1 ((xs.map fun (n:Nat)=>[PV.int .u32 (n:Int)]).take k):=by rw[aF,List.map_take]
theorem cB (n:Nat):IntKind.u32.wrap (n:Int)=((n%4294967296:Nat):Int):=by
 have e:IntKind.u32.wrap (n:Int)=(n:Int)%4294967296:=by simp[IntKind.wrap,IntKind.bits,IntKind.signed]
 rw[e]; rfl
theorem tC {k:Nat} (h:k≤9223372036854775807) (h0:0<k):IntKind.i64.wrap ((k:Int)-1)=((k-1:Nat):Int):=by
 rw[wrap_i64 Om Om]; omega
def aYF (xs:List Nat) (n:Nat):PF:=((PF.nil.set 0 (aF xs)).set 3 (.int .i64 n))
theorem aYH {C:Ctx} (xs:List Nat) (hx:Lim xs) (hl:xs.length≤35184372087808):mW.wp C (aU rL.res (aE (.int .i64 (nl (val xs):Nat)))) (PF.args [aF xs]) .nil:=by
 simp only[go_sem,γ,reduceCtorEq,mW,FY,FZ,rL]
 refine wp_loop (α:=Nat) (aYF xs) (fun _=>.nil) (fun n=>n≤xs.length∧∀ j x,n≤j→xs[j]?=some x→x=0) (fun n=>n) xs.length ⟨bIO _,fun j x h e=>by rw[bJZ h] at e; cases e⟩ ?_ PH.nil_le ?_
 ·unfold aYF
  exact Lq
 rintro n ⟨hn,hz⟩
 have out:(∀ x,0<n→xs[n-1]?=some x→x≠0)→nl (val xs)=n:=fun h=>aRY hx hn hz h
 simp only[go_sem,γ,reduceCtorEq,FX,GA,aYF]
 by_cases h0:(n:Int)>0
 ·have hp:0<n:=by omega
  have hi:=bL xs (Om:n-1<xs.length)
  simp only[go_sem,γ,reduceCtorEq,h0,tC (Om:n≤9223372036854775807) hp,hi]
  by_cases hz0:xs[n-1]=0
  ·simp only[go_sem,γ,reduceCtorEq,bS (Om:((xs[n-1]:Nat):Int)=0),GB,tC (Om:n≤9223372036854775807) hp]
   refine aK (n-1) ⟨by omega,fun j x hj he=>?_⟩ Om ?_ PH.nil_le
   ·rcases bJE j n with h | h
    ·have:j=n-1:=by omega
     subst this
     rw[bIW Om] at he
     cases he; exact hz0
    ·exact hz j x h he
   ·exact Lq
  ·simp only[go_sem,γ,reduceCtorEq,bF (Om:((xs[n-1]:Nat):Int)≠0),qP]
   refine aM (.inr rfl) rfl ?_
   rw[out fun x _ he=>by rw[bIW Om] at he; cases he; exact hz0]
   rfl
 ·simp only[go_sem,γ,reduceCtorEq,h0,qP]
  refine aM (.inr rfl) rfl ?_
  rw[out fun x h=>by omega]
  rfl
theorem a5Q {C:Ctx} (xs:List Nat) (hlen:aD C 138 [aF xs] .nil (aE (.int .i64 (nl (val xs):Nat)))):zT.wp C (aU MF.res (aE (.bool (decide (nl (val xs)>512))))) (PF.args [aF xs]) .nil:=by
 simp only[go_sem,reduceCtorEq,zT,anF,anG,MF]
 refine aA hlen rfl ?_
 simp only[go_sem,γ]
 refine aM (.inr rfl) rfl ?_
 simp only[aX,PV.bool.injEq,decide_eq_decide]
 omega
def szL (n:Nat):List Nat:=if nl n>512 then [] else aG n
def szE (n:Nat):Int:=if nl n>512 then 2 else 0
def szV (n:Nat):PV:=.tup [aF (szL n),.int .i64 (szE n)]
theorem a5V {C:Ctx} (xs:List Nat) (hx:Lim xs) (hlen:aD C 138 [aF xs] .nil (aE (.int .i64 (nl (val xs):Nat)))):zV.wp C (aU MK.res (bZ (szV (val xs)))) (PF.args [aF xs]) .nil:=by
 simp only[go_sem,reduceCtorEq,zV,anS,anT,MK]
 refine aA hlen rfl ?_
 simp only[go_sem,γ,anU]
 by_cases h:nl (val xs)>512
 ·have h':((nl (val xs):Nat):Int)>512:=by omega
  simp only[go_sem,h',anV]
  refine aW (vs:=[.aB,.int .i64 2]) (.inr rfl) .nil rfl PH.nil_le ⟨?_,rfl⟩
  rw[szV,szL,szE,if_pos h,if_pos h]
  refine .tup rfl fun j p q hp hq=>?_
  match j with
  | 0=>simp at hp hq; subst hp; subst hq; exact .nil 1
  | 1=>simp at hp hq; subst hp; subst hq; exact .refl _
  | j+2=>simp at hp
 ·have h':¬ ((nl (val xs):Nat):Int)>512:=by omega
  have hl:=eS hx
  have hc:((nl (val xs):Nat):Int)≤(xs.length:Nat):=by omega
  simp only[go_sem,ν,γ,reduceCtorEq,h',anW,hc,or_true,bJO]
  refine aW (.inr rfl) .nil rfl PH.nil_le ⟨?_,rfl⟩
  rw[szV,szL,szE,if_neg h,if_neg h,← jE hx,anD]
  exact .refl _
theorem beY {C:Ctx} (v:Nat) (hv:v<18446744073709551616) (hlen:∀ xs,Lim xs→xs.length≤35184372087808→aD C 138 [aF xs] .nil (aE (.int .i64 (nl (val xs):Nat)))) :
  GC.wp C (aU acE.res (aE (aF (aG v)))) (PF.args [.int .u64 v]) .nil:=by
 have e1:IntKind.u32.wrap ((v:Nat):Int)=((v%4294967296:Nat):Int):=cB v
 have e2:Int.fdiv ((v:Nat):Int) 4294967296=((v/4294967296:Nat):Int):=by
  rw[Int.fdiv_eq_ediv_of_nonneg _ (by decide)]; rfl
 have hd:v/4294967296<4294967296:=by omega
 have e3:IntKind.u32.wrap ((v/4294967296:Nat):Int)=((v/4294967296:Nat):Int):=by rw[cB,bJV hd]
 have hL:Lim [v%4294967296,v/4294967296]:=by
  intro x hx
  simp only[bJA,List.mem_nil_iff,or_false] at hx
  rcases hx with rfl | rfl
  ·exact bKA _ (by decide)
  ·exact hd
 have bHB:val [v%4294967296,v/4294967296]=v:=by simp only[val,Nat.mul_zero,bKD]; exact Nat.mod_add_div v 4294967296
 have hs:∀ a b:Int,PV.bin .shr (.int .u64 a) (.int .u64 b)=shift .shr .u64 a b:=fun _ _=>rfl
 have hsh:shift .shr .u64 (v:Int) 32=some (.int .u64 ((v/4294967296:Nat):Int)):=by
  unfold shift
  rw[if_neg (by decide)]
  simp only
  have:min (Int.toNat 32) IntKind.u64.bits=32:=by decide
  rw[this]
  rw[show (2:Int) ^ 32=4294967296 by decide,e2]
 simp only[go_sem,υ,δ,γ,η,θ,ζ,reduceCtorEq,GC,aBY,aBZ,acE,e1,hsh,e3]
 have hb:(2:Nat)*1≤16777216:=by decide
 simp only[go_sem,γ,aCA]
 refine aA (hlen [v%4294967296,v/4294967296] hL (by simp)) rfl ?_
 have hl:=eS hL
 rw[bHB] at hl ⊢
 have hc:((nl v:Nat):Int)≤((2:Nat):Int):=by simp at hl; omega
 simp only[go_sem,ν,δ,γ,reduceCtorEq,hc,or_true,bJO]
 refine aM (.inr rfl) rfl ?_
 have:=jE hL
 rw[bHB] at this
 rw[← this,anD]
 rfl
theorem bfB {C:Ctx} (xs:List Nat) (hx:Lim xs) (hl:xs.length≤35184372087808) (hlen:aD C 138 [aF xs] .nil (aE (.int .i64 (nl (val xs):Nat)))) :
  GD.wp C (aU acI.res (bZ (aF (aG (val xs))))) (PF.args [aF xs]) .nil:=by
 simp only[go_sem,reduceCtorEq,GD,aCS,aCT,acI]
 refine aA hlen rfl ?_
 have hn:=eS hx
 have hc:((nl (val xs):Nat):Int)≤(xs.length:Nat):=by omega
 simp only[go_sem,ν,γ,reduceCtorEq,hc,or_true,bJO]
 refine fR (rows:=[]) (src:=aH (aG (val xs))) .nil ?_ ?_ fun v H' ho _=>?_
 ·simp only[go_sem]
  rw[← jE hx,← List.map_take]
 ·unfold roomFor
  rw[bU]
  have:(aG (val xs)).length=nl (val xs):=rfl
  simp only[bKY,maxLen]
  omega
 ·exact aZB (.inr rfl) (by simpa using ho) rfl
end Go.PM
theorem Sq {p:Prop} (h:p:=by simp only[go_sem,γ,δ,ε,ζ,η,θ,ι,κ,μ,ν,ξ,ο,ρ,σ,τ,υ,reduceIte,reduceCtorEq]):p:=h
theorem Ev {p:Prop} (h:p:=by simp only[go_sem,γ,δ,ε,ζ,η,θ,ι,κ,μ,ν,ξ,ο,ρ,σ,τ,υ,reduceIte,reduceCtorEq]<;>rfl):p:=h
namespace Go.PM
open Go Go.Na
def aYA (xs ys:List Nat) (i:Int):PF:=(((PF.nil.set 0 (aF xs)).set 1 (aF ys)).set 7 (.int .i64 i))
theorem bmM {C:Ctx} (xs ys:List Nat) (hx:Lim xs) (hy:Lim ys) (lx:xs.length≤35184372087808) (ly:ys.length≤35184372087808) (hlx:aD C 138 [aF xs] .nil (aE (.int .i64 (nl (val xs):Nat)))) (hly:aD C 138 [aF ys] .nil (aE (.int .i64 (nl (val ys):Nat)))) :
  LZ.wp C (aU aBL.res (aE (.int .i64 (dA (val xs) (val ys))))) (PF.args [aF xs,aF ys]) .nil:=by
 simp only[go_sem,reduceCtorEq,LZ,aPA,aPB,aBL]
 refine aA hlx Ev ?_
 simp only[go_sem,γ]
 refine aA hly Ev ?_
 simp only[go_sem,γ,aPC]
 have bx:=eS hx
 have by':=eS hy
 by_cases c1:nl (val xs)<nl (val ys)
 ·have c1':((nl (val xs):Nat):Int)<(nl (val ys):Nat):=by omega
  simp only[go_sem,ο,c1',aPD]
  refine aM (.inr rfl) Ev ?_
  have:val xs<val ys:=by
   rcases bJE (val xs) (val ys) with h | h
   ·exact h
   ·have:=eY h; omega
  simp[aX,dA,this]
 have c1':¬ ((nl (val xs):Nat):Int)<(nl (val ys):Nat):=by omega
 simp only[go_sem,γ,c1',aPE]
 by_cases c2:nl (val xs)>nl (val ys)
 ·have c2':((nl (val xs):Nat):Int)>(nl (val ys):Nat):=by omega
  simp only[go_sem,c2',aPF]
  refine aM (.inr rfl) Ev ?_
  have:val ys<val xs:=by
   rcases bJE (val ys) (val xs) with h | h
   ·exact h
   ·have:=eY h; omega
  have h2:¬ val xs<val ys:=by omega
  simp[aX,dA,this,h2]
 have c2':¬ ((nl (val xs):Nat):Int)>(nl (val ys):Nat):=by omega
 have hn:nl (val xs)=nl (val ys):=by omega
 simp only[go_sem,γ,c2',aPG]
 have ex:=aR (val xs)
 have ey:=aR (val ys)
 have LX:=aT (val xs)
 have LY:=aT (val ys)
 refine wp_loop (α:=Nat) (fun k=>aYA xs ys ((k:Int)-1)) (fun _=>.nil) (fun k=>k≤nl (val xs)∧(aG (val xs)).drop k=(aG (val ys)).drop k) (fun k=>k) (nl (val xs)) ⟨bIO _,?_⟩ ?_ PH.nil_le ?_
 ·rw[bLU (by rw[nl]; exact bIO _),bLU (by rw[hn,nl]; exact bIO _)]
 ·unfold aYA
  (repeat' (first|exact PF.nil_le|refine PF.aI ?_ ?_))<;>first|(simp only[go_sem,γ,reduceCtorEq,wrap_i64 (show -9223372036854775808≤((nl (val xs):Nat):Int)-1 by omega) (show ((nl (val xs):Nat):Int)-1≤9223372036854775807 by omega)]<;>rfl)|rfl
 rintro k ⟨hk,hd⟩
 simp only[go_sem,γ,reduceCtorEq,aBM,aPH,aYA]
 by_cases h0:0<k
 ·obtain⟨m,rfl⟩:∃ m,k=m+1:=⟨k-1,by omega⟩
  have hz:((m+1:Nat):Int)-1=(m:Int):=by omega
  have hge:(m:Int)≥0:=by omega
  obtain⟨x1,x2,x3⟩:=auD hx (Om:m<nl (val xs))
  obtain⟨y1,y2,y3⟩:=auD hy (Om:m<nl (val ys))
  simp only[go_sem,hz,hge]
  refine bT .nil eG PH.nil_le ?_
  simp only[go_sem,γ,reduceCtorEq,aPI,bL xs x1,bL ys y1]
  by_cases c3:xs[m]<ys[m]
  ·simp only[go_sem,ο,show ((xs[m]:Nat):Int)<(ys[m]:Nat) by omega,aPJ]
   refine aM (.inr rfl) Ev ?_
   have:=YJ LX x2 y2 hd (by rw[← x3,← y3]; exact c3)
   rw[ex,ey] at this
   simp[aX,dA,this]
  ·simp only[go_sem,show ¬ ((xs[m]:Nat):Int)<(ys[m]:Nat) by omega]
   refine bT .nil eG PH.nil_le ?_
   simp only[go_sem,γ,reduceCtorEq,aBN,bL xs x1,bL ys y1]
   by_cases c4:xs[m]>ys[m]
   ·simp only[go_sem,show ((xs[m]:Nat):Int)>(ys[m]:Nat) by omega,aBO]
    refine aM (.inr rfl) Ev ?_
    have:=YJ LY y2 x2 hd.symm (by rw[← x3,← y3]; exact c4)
    rw[ex,ey] at this
    have h2:¬ val xs<val ys:=by omega
    simp[aX,dA,this,h2]
   ·simp only[go_sem,γ,reduceCtorEq,show ¬ ((xs[m]:Nat):Int)>(ys[m]:Nat) by omega,aBP]
    refine aK m ⟨by omega,alG x2 y2 hd (by rw[← x3,← y3]; omega)⟩ Om ?_ PH.nil_le
    (repeat' (first|exact PF.nil_le|refine PF.aI ?_ ?_))<;>first|(simp only[go_sem,γ,reduceCtorEq,wrap_i64 (Om:-9223372036854775808≤(m:Int)-1) (Om:(m:Int)-1≤9223372036854775807)]<;>rfl)|rfl
 ·have:k=0:=by omega
  subst this
  have hz:¬ ((0:Nat):Int)-1≥0:=by decide
  simp only[go_sem,hz,aBQ]
  refine aM (.inr rfl) Ev ?_
  rw[bJO,bJO] at hd
  have:val xs=val ys:=by rw[← ex,← ey,hd]
  simp[aX,dA,this]
def aBA (k:Nat) (v:Nat):PF:=((PF.nil.set 4 (.int .i64 k)).set 5 (.int .u32 v))
theorem beV {C:Ctx} (xs:List Nat) (hx:Lim xs) (lx:xs.length≤35184372087808) (hlx:aD C 138 [aF xs] .nil (aE (.int .i64 (nl (val xs):Nat)))) :
  FW.wp C (aU abS.res (aE (.int .i64 (cD (val xs):Nat)))) (PF.args [aF xs]) .nil:=by
 simp only[go_sem,reduceCtorEq,FW,aBC,aBD,abS]
 refine aA hlx Ev ?_
 simp only[go_sem,γ,aBE]
 have bx:=eS hx
 by_cases c1:nl (val xs)=0
 ·simp only[go_sem,bS (show ((nl (val xs):Nat):Int)=0 by omega),aBF]
  refine aM (.inr rfl) Ev ?_
  have:val xs=0:=fX.1 c1
  simp[aX,this,gY]
 obtain⟨n,hn⟩:∃ n,nl (val xs)=n+1:=⟨nl (val xs)-1,by omega⟩
 obtain⟨t,ht,ht0⟩:=aFO hx hn
 have htl:t<4294967296:=hx t (bLD ht)
 have hnl:n<xs.length:=by omega
 have hv:val xs=val (xs.take n)+4294967296 ^ n*t:=by
  have e:=jE hx
  have:=aR (val xs)
  have hg:xs[n]=t:=by rw[bIW hnl] at ht; exact bLB.inj ht
  rw[← e,hn,bKK hnl,hg,fC,bJF,bKO Om] at this
  simp only[val,Nat.mul_zero,bKD] at this
  exact this.symm
 have hb:cD (val xs)=32*n+cD t:=by
  have h3:=eJ (hx.take n)
  rw[bJF,bKO Om] at h3
  rw[hv,show (4294967296:Nat) ^ n=2 ^ (32*n) by rw[Nat.pow_mul]] at *
  exact auP h3 ht0
 have bGV:(aH xs)[n]?=some [.int .u32 (t:Nat)]:=by
  rw[bL xs hnl]
  rw[bIW hnl] at ht
  rw[bLB.inj ht]
 have e1:IntKind.i64.wrap (((nl (val xs):Nat):Int)-1)=(n:Int):=by rw[wrap_i64 Om Om]; omega
 have e2:IntKind.i64.wrap ((n:Int)*32)=((32*n:Nat):Int):=by rw[wrap_i64 Om Om]; omega
 simp only[go_sem,γ,reduceCtorEq,bF (show ((nl (val xs):Nat):Int)≠0 by omega),aBG,aBH,e1,e2,bGV]
 refine wp_loop (α:=Nat × Nat) (fun a=>aBA a.1 a.2) (fun _=>.nil) (fun a=>a.1+cD a.2=32*n+cD t∧a.2<4294967296) (fun a=>a.2) (32*n,t) ⟨rfl,htl⟩ ?_ PH.nil_le ?_
 ·unfold aBA
  exact Lq
 rintro⟨k,v⟩ ⟨hk,hlt⟩
 simp only at hk hlt
 have hk32:cD t≤32:=(kE t 32).2 htl
 simp only[go_sem,γ,aBB,aBI,aBA]
 by_cases c2:(v:Int)>0
 ·have hv0:v≠0:=by omega
  have hsh:PV.bin .shr (.int .u32 (v:Int)) (.int .u64 1)=some (.int .u32 ((v/2:Nat):Int)):=by
   show shift .shr .u32 (v:Int) 1=_
   unfold shift
   rw[if_neg (by decide)]
   simp only
   have:min (Int.toNat 1) IntKind.u32.bits=1:=by decide
   rw[this,show (2:Int) ^ 1=2 by decide,Int.fdiv_eq_ediv_of_nonneg _ (by decide)]
   rfl
  have hsh':shift .shr .u32 (v:Int) 1=some (.int .u32 ((v/2:Nat):Int)):=hsh
  simp only[go_sem,γ,c2,aBJ,aBK,hsh,hsh',wZz k]
  refine aK (k+1,v/2) ⟨?_,?_⟩ (Nat.div_lt_self Om (by decide)) ?_ PH.nil_le
  ·have:=mR hv0
   simp only; omega
  ·simp only; omega
  ·exact Lq
 ·have:v=0:=by omega
  subst this
  simp only[go_sem,γ,c2,anE]
  refine aM (.inr rfl) Ev ?_
  rw[gY] at hk
  simp only[aX,PV.int.injEq,true_and]
  omega
structure oP (C:Ctx):Prop where
 length:∀ xs,Lim xs→xs.length≤35184372087808→aD C 138 [aF xs] .nil (aE (.int .i64 (nl (val xs):Nat)))
 large:∀ xs,Lim xs→xs.length≤35184372087808→aD C 137 [aF xs] .nil (aE (.bool (decide (nl (val xs)>512))))
 sized:∀ xs,Lim xs→xs.length≤35184372087808→aD C 141 [aF xs] .nil (aE (szV (val xs)))
 trim:∀ xs,Lim xs→xs.length≤35184372087808→aD C 135 [aF xs] .nil (aE (aF (aG (val xs))))
 make:∀ v:Nat,v<18446744073709551616→aD C 132 [.int .u64 v] .nil (aE (aF (aG v)))
 cmp:∀ xs ys,Lim xs→Lim ys→xs.length≤35184372087808→ys.length≤35184372087808→aD C 129 [aF xs,aF ys] .nil (aE (.int .i64 (dA (val xs) (val ys))))
def gQ:PV→List Nat
 | .sl _ rows=>rows.map fun r=>match r with | [.int _ n]=>n.toNat | _=>0
 | _=>[]
theorem dW (xs:List Nat):gQ (aF xs)=xs:=by
 simp[gQ,List.map_map,Function.comp_def]
def aXZ:Spec:=fun name vs=>match name,vs with
 | 138,[x]=>some ([],fun _=>aE (.int .i64 (nl (val (gQ x)):Nat)))
 | _,_=>none
theorem mC (xs:List Nat):aXZ 138 [aF xs]=some ([],fun _=>aE (.int .i64 (nl (val xs):Nat))):=by
 show some _=_; rw[dW]
theorem vG (P:List Nat) (k v:Nat):(P++bIP (k+1) 0).set P.length v=(P++[v])++bIP k 0:=by
 rw[bLY _ _ (bIO _),bLH,List.replicate_succ,List.set_cons_zero,bJM]
 rfl
theorem eT (L:List Nat) (i v:Nat):(aH L).set i [.int .u32 (v:Int)]=aH (L.set i v):=by
 unfold aH; rw[List.map_set]
theorem gW (P:List Nat) (v:Nat):val (P++[v])=val P+4294967296 ^ P.length*v:=by
 rw[fC]; simp[val]
theorem bX (xs:List Nat) {i:Nat} (h:i<xs.length):val (xs.take (i+1))=val (xs.take i)+4294967296 ^ i*xs[i]:=by
 rw[bKK h,gW,bJF,bKO Om]
theorem uG {v:Nat}:shift .shr .u64 (v:Int) 32=some (.int .u64 ((v/4294967296:Nat):Int)):=by
 unfold shift
 rw[if_neg (by decide)]
 simp only
 have:min (Int.toNat 32) IntKind.u64.bits=32:=by decide
 rw[this,show (2:Int) ^ 32=4294967296 by decide,Int.fdiv_eq_ediv_of_nonneg _ (by decide)]
 rfl
theorem eM {a b:Nat} (h:a+b<18446744073709551616):IntKind.u64.wrap ((a:Int)+(b:Int))=((a+b:Nat):Int):=by
 rw[wrap_u64 Om Om]; omega
theorem bD {a:Nat} (h:a<18446744073709551616):IntKind.u64.wrap (a:Int)=(a:Int):=wrap_u64 Om Om
def abR (a b:List Nat) (o i c:Nat):PF:=(((((((PF.nil.set 0 (aF a)).set 1 (aF b)).set 6 (.osl o 1 0 (a.length+1))).set 7 (.int .u64 c)).set 35 (.int .i64 (a.length:Nat))).set 34 (aF a)).set 36 (.int .i64 i))
theorem anC {C:Ctx} (L:oP C) (a b:List Nat) (ha:Lim a) (hb:Lim b) (hl:b.length≤a.length) (h1:a.length≤1000) (F:PF) (f0:F 0=some (aF a)) (f1:F 1=some (aF b)) :
  aC.wp C (.seq (.region aiL) (.seq (.region aiM) (.seq (.seq (.region aiN) (.block 0 (.loop VV))) (.seq (.region VZ) (.seq (.region WA) .ret))))) (aU [.tmp 4,.tmp 5] (bZ (szV (val a+val b)))) F .nil:=by
 have hlen:IntKind.i64.wrap ((a.length:Int)+1)=((a.length+1:Nat):Int):=dE Om
 have hm1:((a.length+1:Nat):Int)*((4:Nat):Int)≤140737488355328:=by omega
 have hm2:((a.length+1:Nat):Int)≤9223372036854775807:=by omega
 have hz:bIP (a.length+1) [PV.int .u32 0]=aH ([]++bIP (a.length+1) 0):=by
  simp[aH]
 simp only[go_sem,γ,aiL,f0,hlen,hm1,hm2,hz]
 refine aQ fun o ho=>?_
 simp only[go_sem,γ,reduceCtorEq,aiM,aiN,f0]
 refine wp_loop (α:=List Nat × Nat × Nat) (fun s=>abR a b s.2.2 s.1.length s.2.1) (fun s=>PH.nil.set s.2.2 (.rows 1 (aH (s.1++bIP (a.length+1-s.1.length) 0))))
  (fun s=>s.1.length≤a.length∧Lim s.1∧s.2.1≤1∧val s.1+4294967296 ^ s.1.length*s.2.1=val (a.take s.1.length)+val (b.take s.1.length)) (fun s=>a.length-s.1.length) ([],0,o) ⟨by simp,by simp[Lim],by simp,by simp[val]⟩ ?_ ?_ ?_
 ·unfold abR
  exact Lq
 ·exact PH.aI PH.nil_le (by simp only[go_sem,bKY])
 rintro⟨P,c,q⟩ ⟨hP,bHF,hc,bHB⟩
 simp only at hP bHF hc bHB
 simp only[go_sem,γ,reduceCtorEq,VV,aOZ,abR]
 by_cases c1:P.length<a.length
 ·have c1':(P.length:Int)<(a.length:Nat):=by omega
  have hai:=ha _ (bIR c1)
  obtain⟨k,hk⟩:∃ k,a.length+1-P.length=k+1:=⟨a.length-P.length,by omega⟩
  have hin:(aH (P++bIP (k+1) 0))[P.length]?=some [.int .u32 ((0:Nat):Int)]:=by
   rw[bL _ (by simp)]; simp
  have hlast:a.length+1-(P.length+1)=k:=by omega
  have c2':(P.length:Int)<((a.length+1:Nat):Int):=by omega
  have fin:∀ (t:Nat) (F':PF) (H':PH),t<2*4294967296→val P+4294967296 ^ P.length*t=val (a.take (P.length+1))+val (b.take (P.length+1)) →
    F' 0=some (aF a)→F' 1=some (aF b)→F' 6=some (.osl q 1 0 (a.length+1))→F' 7=some (.int .u64 (t:Nat))→F' 8=some (.int .i64 P.length)→F' 34=some (aF a)→F' 35=some (.int .i64 (a.length:Nat))→F' 36=some (.int .i64 P.length) →
    H' q=some (.rows 1 (aH (P++bIP (k+1) 0)))→∀ K:cN,(∀ P' c' F2 H2,P'.length=P.length+1→Lim P'→c'≤1→val P'+4294967296 ^ P'.length*c'=val (a.take (P.length+1))+val (b.take (P.length+1))→(abR a b q P'.length c').le F2→H2 q=some (.rows 1 (aH (P'++bIP k 0)))→K .normal F2 H2) →
    aC.wp C (.seq (.region VW) (.region VX)) (dX 1 (iH C (aC.wp C (.region VY)) K)) F' H':=by
   intro t F' H' ht hv g0 g1 g6 g7 g8 g34 g35 g36 gH K hK
   have bGV:(aH (P++bIP (k+1) 0)).set P.length [.int .u32 ((t%4294967296:Nat):Int)]=aH ((P++[t%4294967296])++bIP k 0):=by
    rw[eT,vG]
   simp only[go_sem,γ,VW,g6,g8,g7,cB,c2',gH,hin,bGV,VX,uG,VY,g36,dE (Om:P.length<9223372036854775807)]
   refine hK (P++[t%4294967296]) (t/4294967296) _ _ (by simp) (bHF.app fun x hx=>by simp at hx; subst hx; exact bKA _ (by decide)) Om ?_ ?_ Sq
   ·rw[gW,bIU,bJC,bKE,bJH,bKX,← bIZ,Nat.mod_add_div]
    exact hv
   ·unfold abR
    rw[bIU,bJC]
    refine PF.aI (PF.aI (PF.aI (PF.aI (PF.aI (PF.aI (PF.aI PF.nil_le ?_) ?_) ?_) ?_) ?_) ?_) ?_<;>simp only[go_sem,γ,reduceCtorEq,g0,g1,g6,g34,g35]
  have hta:=bX a c1
  have ea:IntKind.u64.wrap ((a[P.length]:Nat):Int)=((a[P.length]:Nat):Int):=bD Om
  have es:IntKind.u64.wrap ((c:Nat)+((a[P.length]:Nat):Int))=((c+a[P.length]:Nat):Int):=eM Om
  simp only[go_sem,γ,reduceCtorEq,c1',aAW,aAX,bL a c1,ea,es,aAY]
  by_cases c3:P.length<b.length
  ·have c3':(P.length:Int)<(b.length:Nat):=by omega
   have hbi:=hb _ (bIR c3)
   have htb:=bX b c3
   have eb:IntKind.u64.wrap ((b[P.length]:Nat):Int)=((b[P.length]:Nat):Int):=bD Om
   have es2:IntKind.u64.wrap (((c+a[P.length]:Nat):Int)+((b[P.length]:Nat):Int))=((c+a[P.length]+b[P.length]:Nat):Int):=eM Om
   simp only[go_sem,γ,reduceCtorEq,c3',aAZ,bL b c3,eb,es2]
   refine fin (c+a[P.length]+b[P.length]) _ _ Om ?_ ?_ ?_ ?_ ?_ ?_ ?_ ?_ ?_ ?_ _ ?_
   ·rw[hta,htb,bIZ,bIZ]; omega
   any_goals simp only[go_sem,γ,reduceCtorEq,hk]
   intro P' c' F2 H2 e1 e2 e3 e4 e5 e6
   rw[← e1] at e4
   refine aK (P',c',q) ⟨by simp only; omega,e2,e3,e4⟩ (by simp only; omega) e5 (PH.aI PH.nil_le ?_)
   simp only
   rw[e1,hlast]; exact e6
  ·have c3':¬ (P.length:Int)<(b.length:Nat):=by omega
   have htb:val (b.take (P.length+1))=val (b.take P.length):=by rw[bJD Om,bJD Om]
   simp only[go_sem,c3']
   refine fin (c+a[P.length]) _ _ Om ?_ ?_ ?_ ?_ ?_ ?_ ?_ ?_ ?_ ?_ _ ?_
   ·rw[hta,htb,bIZ]; omega
   any_goals simp only[go_sem,γ,reduceCtorEq,hk]
   intro P' c' F2 H2 e1 e2 e3 e4 e5 e6
   rw[← e1] at e4
   refine aK (P',c',q) ⟨by simp only; omega,e2,e3,e4⟩ (by simp only; omega) e5 (PH.aI PH.nil_le ?_)
   simp only
   rw[e1,hlast]; exact e6
 ·have e:P.length=a.length:=by omega
  have c1':¬ (P.length:Int)<(a.length:Nat):=by omega
  have hk:bIP (a.length+1-P.length) 0=[0]:=by rw[show a.length+1-P.length=1 by omega]; rfl
  have hin:(aH (P++[0]))[a.length]?=some [.int .u32 ((0:Nat):Int)]:=by
   rw[bL _ (by simp; omega)]
   simp[e]
  have bGV:(aH (P++[0])).set a.length [.int .u32 ((c%4294967296:Nat):Int)]=aH (P++[c]):=by
   have:=vG P 0 (c%4294967296)
   simp only[List.replicate_zero,bKM,bJL,List.replicate_one] at this
   rw[← e,eT,this,bJV Om]
  have c2':(a.length:Int)<((a.length+1:Nat):Int):=by omega
  have hV:val (P++[c])=val a+val b:=by
   rw[gW,bHB,e,bJN,bJD hl]
  have hLc:Lim (P++[c]):=bHF.app fun x hx=>by simp at hx; omega
  simp only[go_sem,γ,reduceCtorEq,c1',VZ,cB,hk,hin,c2',bGV,WA]
  have hs:=L.sized _ hLc (by simp; omega)
  rw[hV] at hs
  refine nU (o:=q) (s:=1) (k:=a.length+1) (rs:=aH (P++[c])) (v:=szV (val a+val b)) ?_ rfl Sq (by rw[bU]; simp; omega) ?_
  ·rw[bJD (by rw[bU]; simp; omega)]; exact hs
  ·simp only[go_sem,γ,reduceCtorEq,szV]
   exact aW (.inr rfl) .nil rfl PH.nil_le ⟨.refl _,rfl⟩
def opV (big:Bool) (n:Nat):PV:=if big then .tup [aF [],.int .i64 2] else szV n
def dP (a b:Nat):Bool:=decide (nl a>512)||decide (nl b>512)
theorem eC {res:List dU} {F:PF} {H:PH} {e:Int} (h:dU.evs F H res=some [.aB,.int .i64 e]):aU res (bZ (.tup [aF [],.int .i64 e])) .ret F H:=by
 refine aW (.inr rfl) .nil h PH.nil_le ⟨?_,rfl⟩
 refine .tup rfl fun j p q hp hq=>?_
 match j with
 | 0=>simp at hp hq; subst hp; subst hq; exact .nil 1
 | 1=>simp at hp hq; subst hp; subst hq; exact .refl _
 | j+2=>simp at hp
theorem aZ (n:Nat):(aG n).length=nl n:=rfl
theorem gS {xs:List Nat} (h:Lim xs):(xs.map fun (n:Nat)=>[PV.int .u32 (n:Int)]).take (nl (val xs))=(aG (val xs)).map fun (n:Nat)=>[PV.int .u32 (n:Int)]:=by
 rw[← List.map_take,jE h]
theorem bmJ {C:Ctx} (L:oP C) (a b:List Nat) (ha:Lim a) (hb:Lim b) (la:a.length≤35184372087808) (lb:b.length≤35184372087808) :
  LW.wp C (aU aAV.res (bZ (opV (dP (val a) (val b)) (val a+val b)))) (PF.args [aF a,aF b]) .nil:=by
 simp only[go_sem,reduceCtorEq,LW,aOU,aOV,aAV]
 refine aA (L.large a ha la) rfl ?_
 by_cases c1:nl (val a)>512
 ·simp only[go_sem,γ,c1,aiK]
  rw[show opV (dP (val a) (val b)) (val a+val b)=.tup [aF [],.int .i64 2] by simp[opV,dP,c1]]
  exact eC rfl
 simp only[go_sem,γ,c1]
 refine aA (L.large b hb lb) rfl ?_
 by_cases c2:nl (val b)>512
 ·simp only[go_sem,γ,reduceCtorEq,c2,aiK]
  rw[show opV (dP (val a) (val b)) (val a+val b)=.tup [aF [],.int .i64 2] by simp[opV,dP,c2]]
  exact eC rfl
 have e:opV (dP (val a) (val b)) (val a+val b)=szV (val a+val b):=by simp[opV,dP,c1,c2]
 rw[e]
 simp only[go_sem,γ,reduceCtorEq,c2]
 refine bT .nil aXZ PH.nil_le ?_
 simp only[go_sem,reduceCtorEq,aOW]
 have h1:=eS ha
 have h2:=eS hb
 have h1':((nl (val a):Nat):Int)≤(a.length:Nat):=by omega
 have h2':((nl (val b):Nat):Int)≤(b.length:Nat):=by omega
 refine bK (mC a) (L.length a ha la) rfl PH.nil_le ?_
 simp only[go_sem,ν,γ,reduceCtorEq,h1',or_true,bJO,gS ha]
 refine bK (mC b) (L.length b hb lb) rfl PH.nil_le ?_
 simp only[go_sem,ν,γ,reduceCtorEq,h2',or_true,bJO,gS hb,aOX,aZ]
 have va:=aR (val a)
 have vb:=aR (val b)
 by_cases c3:nl (val a)<nl (val b)
 ·have c3':((nl (val a):Nat):Int)<(nl (val b):Nat):=by omega
  simp only[go_sem,γ,reduceCtorEq,c3',aOY]
  have:=anC L (aG (val b)) (aG (val a)) (aT _) (aT _) (by rw[aZ,aZ]; omega) (by rw[aZ]; omega)
  rw[va,vb,Nat.add_comm] at this
  exact this _ rfl rfl
 ·have c3':¬ ((nl (val a):Nat):Int)<(nl (val b):Nat):=by omega
  simp only[go_sem,c3']
  have:=anC L (aG (val a)) (aG (val b)) (aT _) (aT _) (by rw[aZ,aZ]; omega) (by rw[aZ]; omega)
  rw[va,vb] at this
  exact this _ rfl rfl
theorem eZ (n:Int):IntKind.u64.wrap n=n%18446744073709551616:=by simp[IntKind.wrap,IntKind.bits,IntKind.signed]
theorem TY (n:Int):IntKind.u32.wrap n=n%4294967296:=by simp[IntKind.wrap,IntKind.bits,IntKind.signed]
theorem aZN {v:Int}:shift .shr .u64 v 63=some (.int .u64 (v/9223372036854775808)):=by
 unfold shift
 rw[if_neg (by decide)]
 simp only
 have:min (Int.toNat 63) IntKind.u64.bits=63:=by decide
 rw[this,show (2:Int) ^ 63=9223372036854775808 by decide,Int.fdiv_eq_ediv_of_nonneg _ (by decide)]
def OE (a bor b:Nat):Nat:=(a+4294967296-bor-b)%4294967296
def WW (a bor b:Nat):Nat:=if a<bor+b then 1 else 0
theorem aFE {a bor b:Nat} (ha:a<4294967296) (hb:b<4294967296) (hc:bor≤1) (v:Int) (hv:v=((a:Int)-bor-b)%18446744073709551616) :
  IntKind.u32.wrap v=((OE a bor b:Nat):Int)∧v/9223372036854775808=((WW a bor b:Nat):Int)∧a+4294967296*WW a bor b=OE a bor b+b+bor∧OE a bor b<4294967296:=by
 rw[TY]
 unfold OE WW
 split<;>omega
def acH (a b:List Nat) (o i c:Nat):PF:=(((((((PF.nil.set 0 (aF a)).set 1 (aF b)).set 6 (.osl o 1 0 a.length)).set 7 (.int .u64 c)).set 33 (aF a)).set 34 (.int .i64 (a.length:Nat))).set 35 (.int .i64 i))
theorem a5X {C:Ctx} (L:oP C) (a b:List Nat) (ha:Lim a) (hb:Lim b) (hle:val b≤val a) (hl:b.length≤a.length) (h1:a.length≤1000) (F:PF) (f0:F 0=some (aF a)) (f1:F 1=some (aF b)) :
  aC.wp C (.seq (.region aiZ) (.seq (.region ajA) (.seq (.seq (.region ajB) (.block 1 (.loop WH))) (.seq (.region WL) .ret)))) (aU [.tmp 4,.tmp 5] (bZ (szV (val a-val b)))) F .nil:=by
 have hm1:((a.length:Nat):Int)*((4:Nat):Int)≤140737488355328:=by omega
 have hm2:((a.length:Nat):Int)≤9223372036854775807:=by omega
 have hz:bIP a.length [PV.int .u32 0]=aH ([]++bIP a.length 0):=by
  simp[aH]
 simp only[go_sem,γ,aiZ,f0,hm1,hm2,hz]
 refine aQ fun o ho=>?_
 simp only[go_sem,γ,reduceCtorEq,ajA,ajB,f0]
 refine wp_loop (α:=List Nat × Nat × Nat) (fun s=>acH a b s.2.2 s.1.length s.2.1) (fun s=>PH.nil.set s.2.2 (.rows 1 (aH (s.1++bIP (a.length-s.1.length) 0))))
  (fun s=>s.1.length≤a.length∧Lim s.1∧s.2.1≤1∧val (a.take s.1.length)+4294967296 ^ s.1.length*s.2.1=val s.1+val (b.take s.1.length)) (fun s=>a.length-s.1.length) ([],0,o) ⟨by simp,by simp[Lim],by simp,by simp[val]⟩ ?_ ?_ ?_
 ·unfold acH
  exact Lq
 ·exact PH.aI PH.nil_le (by simp only[go_sem,bKY])
 rintro⟨P,c,q⟩ ⟨hP,bHF,hc,bHB⟩
 simp only at hP bHF hc bHB
 simp only[go_sem,γ,reduceCtorEq,WH,aQH,acH]
 by_cases c1:P.length<a.length
 ·have c1':(P.length:Int)<(a.length:Nat):=by omega
  have hai:=ha _ (bIR c1)
  obtain⟨k,hk⟩:∃ k,a.length-P.length=k+1:=⟨a.length-P.length-1,by omega⟩
  have hin:(aH (P++bIP (k+1) 0))[P.length]?=some [.int .u32 ((0:Nat):Int)]:=by
   rw[bL _ (by simp)]; simp
  have hlast:a.length-(P.length+1)=k:=by omega
  have hta:=bX a c1
  have fin:∀ (t:Nat) (v:Int) (F':PF) (H':PH),t<4294967296→v=((a[P.length]:Int)-c-t)%18446744073709551616→val (b.take (P.length+1))=val (b.take P.length)+4294967296 ^ P.length*t →
    F' 0=some (aF a)→F' 1=some (aF b)→F' 6=some (.osl q 1 0 a.length)→F' 9=some (.int .u64 v)→F' 8=some (.int .i64 P.length)→F' 33=some (aF a)→F' 34=some (.int .i64 (a.length:Nat))→F' 35=some (.int .i64 P.length) →
    H' q=some (.rows 1 (aH (P++bIP (k+1) 0)))→∀ K:cN,(∀ P' c' F2 H2,P'.length=P.length+1→Lim P'→c'≤1→val (a.take (P.length+1))+4294967296 ^ P'.length*c'=val P'+val (b.take (P.length+1))→(acH a b q P'.length c').le F2→H2 q=some (.rows 1 (aH (P'++bIP k 0)))→K .normal F2 H2) →
    aC.wp C (.seq (.region WI) (.region WJ)) (dX 2 (iH C (aC.wp C (.region WK)) K)) F' H':=by
   intro t v F' H' ht hv htb g0 g1 g6 g9 g8 g33 g34 g35 gH K hK
   obtain⟨e1,e2,e3,e4⟩:=aFE hai ht hc v hv
   have bGV:(aH (P++bIP (k+1) 0)).set P.length [.int .u32 ((OE a[P.length] c t:Nat):Int)]=aH ((P++[OE a[P.length] c t])++bIP k 0):=by
    rw[eT,vG]
   simp only[go_sem,γ,WI,g6,g8,g9,e1,c1',gH,hin,bGV,WJ,aZN,e2,WK,g35,dE (Om:P.length<9223372036854775807)]
   refine hK (P++[OE a[P.length] c t]) (WW a[P.length] c t) _ _ (by simp) (bHF.app fun x hx=>by simp at hx; subst hx; exact e4) (by unfold WW; split<;>omega) ?_ ?_ Sq
   ·rw[gW,bIU,bJC,bKE,bJH,hta,htb,bKX,← bIZ,e3,bIZ,bIZ]
    omega
   ·unfold acH
    rw[bIU,bJC]
    refine PF.aI (PF.aI (PF.aI (PF.aI (PF.aI (PF.aI (PF.aI PF.nil_le ?_) ?_) ?_) ?_) ?_) ?_) ?_<;>simp only[go_sem,γ,reduceCtorEq,g0,g1,g6,g33,g34]
  have ea:IntKind.u64.wrap ((a[P.length]:Nat):Int)=((a[P.length]:Nat):Int):=bD Om
  simp only[go_sem,γ,reduceCtorEq,c1',aCL,aCM,bL a c1,ea,aCN]
  by_cases c3:P.length<b.length
  ·have c3':(P.length:Int)<(b.length:Nat):=by omega
   have hbi:=hb _ (bIR c3)
   have htb:=bX b c3
   have eb:IntKind.u64.wrap ((b[P.length]:Nat):Int)=((b[P.length]:Nat):Int):=bD Om
   simp only[go_sem,γ,reduceCtorEq,c3',aCO,bL b c3,eb]
   refine fin b[P.length] (IntKind.u64.wrap (IntKind.u64.wrap ((a[P.length]:Int)-(c:Int))-(b[P.length]:Int))) _ _ hbi (by rw[eZ,eZ]; omega) htb ?_ ?_ ?_ ?_ ?_ ?_ ?_ ?_ ?_ _ ?_
   any_goals simp only[go_sem,γ,reduceCtorEq,hk]
   intro P' c' F2 H2 e1 e2 e3 e4 e5 e6
   rw[← e1] at e4
   refine aK (P',c',q) ⟨by simp only; omega,e2,e3,e4⟩ (by simp only; omega) e5 (PH.aI PH.nil_le ?_)
   simp only
   rw[e1,hlast]; exact e6
  ·have c3':¬ (P.length:Int)<(b.length:Nat):=by omega
   have htb:val (b.take (P.length+1))=val (b.take P.length)+4294967296 ^ P.length*0:=by rw[bJD Om,bJD Om]; simp
   simp only[go_sem,c3']
   refine fin 0 (IntKind.u64.wrap ((a[P.length]:Int)-(c:Int))) _ _ (by decide) (by rw[eZ]; omega) htb ?_ ?_ ?_ ?_ ?_ ?_ ?_ ?_ ?_ _ ?_
   any_goals simp only[go_sem,γ,reduceCtorEq,hk]
   intro P' c' F2 H2 e1 e2 e3 e4 e5 e6
   rw[← e1] at e4
   refine aK (P',c',q) ⟨by simp only; omega,e2,e3,e4⟩ (by simp only; omega) e5 (PH.aI PH.nil_le ?_)
   simp only
   rw[e1,hlast]; exact e6
 ·have e:P.length=a.length:=by omega
  have c1':¬ (P.length:Int)<(a.length:Nat):=by omega
  have hk:bIP (a.length-P.length) 0=[]:=by rw[show a.length-P.length=0 by omega]; rfl
  have hV:val P=val a-val b:=by
   rw[e,bJN,bJD hl] at bHB
   have hlt:=eJ bHF
   rw[e] at hlt
   rcases bLK c with h | h
   ·subst h; omega
   ·have:c=1:=by omega
    subst this; omega
  simp only[go_sem,γ,reduceCtorEq,c1',hk,bKM,WL]
  have hs:=L.sized _ bHF Om
  rw[hV] at hs
  refine nU (o:=q) (s:=1) (k:=a.length) (rs:=aH P) (v:=szV (val a-val b)) ?_ rfl Sq (by rw[bU]; omega) ?_
  ·rw[bJD (by rw[bU]; omega)]; exact hs
  ·simp only[go_sem,γ,reduceCtorEq,szV]
   exact aW (.inr rfl) .nil rfl PH.nil_le ⟨.refl _,rfl⟩
def pB (a b:Nat):PV:=if dP a b then .tup [aF [],.int .i64 2] else if a<b then .tup [aF [],.int .i64 4] else szV (a-b)
theorem bmV {C:Ctx} (L:oP C) (a b:List Nat) (ha:Lim a) (hb:Lim b) (la:a.length≤35184372087808) (lb:b.length≤35184372087808) :
  ML.wp C (aU aCK.res (bZ (pB (val a) (val b)))) (PF.args [aF a,aF b]) .nil:=by
 simp only[go_sem,reduceCtorEq,ML,aQC,aQD,aCK]
 refine aA (L.large a ha la) rfl ?_
 by_cases c1:nl (val a)>512
 ·simp only[go_sem,γ,c1,aiY]
  rw[show pB (val a) (val b)=.tup [aF [],.int .i64 2] by simp[pB,dP,c1]]
  exact eC rfl
 simp only[go_sem,γ,c1]
 refine aA (L.large b hb lb) rfl ?_
 by_cases c2:nl (val b)>512
 ·simp only[go_sem,γ,reduceCtorEq,c2,aiY]
  rw[show pB (val a) (val b)=.tup [aF [],.int .i64 2] by simp[pB,dP,c2]]
  exact eC rfl
 simp only[go_sem,γ,reduceCtorEq,c2,aQE]
 refine aA (L.cmp a b ha hb la lb) rfl ?_
 by_cases c3:val a<val b
 ·have hc:dA (val a) (val b)<0:=by simp[dA,c3]
  simp only[go_sem,γ,hc,aQF]
  rw[show pB (val a) (val b)=.tup [aF [],.int .i64 4] by simp[pB,dP,c1,c2,c3]]
  exact eC rfl
 have hc:¬ dA (val a) (val b)<0:=by
  unfold dA
  rw[if_neg c3]
  split<;>decide
 rw[show pB (val a) (val b)=szV (val a-val b) by simp[pB,dP,c1,c2,c3]]
 simp only[go_sem,γ,hc]
 refine bT .nil aXZ PH.nil_le ?_
 simp only[go_sem,reduceCtorEq,aQG]
 have h1:=eS ha
 have h2:=eS hb
 have h1':((nl (val a):Nat):Int)≤(a.length:Nat):=by omega
 have h2':((nl (val b):Nat):Int)≤(b.length:Nat):=by omega
 refine bK (mC a) (L.length a ha la) rfl PH.nil_le ?_
 simp only[go_sem,ν,γ,reduceCtorEq,h1',or_true,bJO,gS ha]
 refine bK (mC b) (L.length b hb lb) rfl PH.nil_le ?_
 simp only[go_sem,ν,γ,reduceCtorEq,h2',or_true,bJO,gS hb]
 have va:=aR (val a)
 have vb:=aR (val b)
 have hm:=eY (Om:val b≤val a)
 have:=a5X L (aG (val a)) (aG (val b)) (aT _) (aT _) Om (by rw[aZ,aZ]; omega) (by rw[aZ]; omega)
 rw[va,vb] at this
 exact this _ rfl rfl
end Go.PM
namespace Go.Na
def dL:Nat→Nat→List Nat
 | 0,_=>[]
 | k+1,n=>(n%4294967296)::dL k (n/4294967296)
theorem jT:∀ k n,(dL k n).length=k
 | 0,_=>rfl
 | k+1,n=>by simp[dL,jT k]
theorem EB {xs:List Nat} (h:Lim xs):dL xs.length (val xs)=xs:=by
 induction xs with
 | nil=>rfl
 | cons x xs ih =>
  have hx:=h x (by simp)
  have e1:(x+4294967296*val xs)%4294967296=x:=by omega
  have e2:(x+4294967296*val xs)/4294967296=val xs:=by omega
  simp only[bKH,dL,val]
  rw[e1,e2,ih fun y hy=>h y (by simp[hy])]
theorem kP:∀ k n,Lim (dL k n)
 | 0,_=>fun x hx=>by cases hx
 | k+1,n=>fun x hx=>by
  simp only[dL,bJA] at hx
  rcases hx with rfl | hx
  ·exact bKA _ (by decide)
  ·exact kP k _ x hx
theorem wS:∀ k n,val (dL k n)=n%4294967296 ^ k
 | 0,n=>by simp[dL,val,Nat.mod_one]
 | k+1,n=>by
  simp only[dL,val,wS k]
  rw[bKE,bJK (4294967296 ^ k) 4294967296,Nat.mod_mul]
theorem mF {k n:Nat} (h:n<4294967296 ^ k):val (dL k n)=n:=by rw[wS,bJV h]
end Go.Na
namespace Go.PM
open Go Go.Na
theorem btL {a b:Nat} (ha:a<18446744073709551616) (hb:b<18446744073709551616):(BitVec.ofInt 64 (a:Int) ||| BitVec.ofInt 64 (b:Int)).toNat=a ||| b:=by
 rw[BitVec.ofInt_natCast,BitVec.ofInt_natCast,BitVec.toNat_or,BitVec.toNat_ofNat,BitVec.toNat_ofNat,bJV (by simpa using ha),bJV (by simpa using hb)]
theorem aCX {c x s:Nat} (hc:c<2 ^ s) (h:c+2 ^ s*x<18446744073709551616):c ||| (2 ^ s*x)=c+2 ^ s*x:=by
 rw[Nat.or_comm,← Nat.two_pow_add_eq_or_of_lt hc,Nat.add_comm]
theorem orI {a b n:Nat} (ha:a<18446744073709551616) (hb:b<18446744073709551616) (h:a ||| b=n) (hn:n<18446744073709551616):jR .or .u64 (a:Int) (b:Int)=some (.int .u64 (n:Int)):=by
 show some (PV.int .u64 (IntKind.u64.wrap (((BitVec.ofInt 64 (a:Int) ||| BitVec.ofInt 64 (b:Int)).toNat:Nat):Int)))=_
 rw[btL ha hb,h,bD hn]
theorem GW {x s:Nat} (hs:s≤64) (h:x*2 ^ s<18446744073709551616):shift .shl .u64 (x:Int) (s:Int)=some (.int .u64 ((2 ^ s*x:Nat):Int)):=by
 unfold shift
 rw[if_neg Om]
 simp only
 have:min (Int.toNat (s:Int)) IntKind.u64.bits=s:=by
  rw[show IntKind.u64.bits=64 from rfl]; omega
 rw[this,show (x:Int)*2 ^ s=((x*2 ^ s:Nat):Int) by simp,bD h,bJK]
def bfD (a:List Nat) (s o i c:Nat):PF:=(((((((PF.nil.set 0 (aF a)).set 1 (.int .u64 s)).set 5 (.osl o 1 0 (a.length+1))).set 6 (.int .u64 c)).set 13 (aF a)).set 14 (.int .i64 (a.length:Nat))).set 15 (.int .i64 i))
def upR (a:List Nat) (s:Nat) (r:PV) (H:PH):Prop:=∃ o,r=.osl o 1 0 (a.length+1)∧H=PH.nil.set o (.rows 1 (aH (dL (a.length+1) (val a*2 ^ s))))
theorem bqX {C:Ctx} (a:List Nat) (s:Nat) (ha:Lim a) (hs:s<32) (h1:a.length≤1000):WM.wp C (aU nup.res (upR a s)) (PF.args [aF a,.int .u64 s]) .nil:=by
 have hlen:IntKind.i64.wrap ((a.length:Int)+1)=((a.length+1:Nat):Int):=dE Om
 have hm1:((a.length+1:Nat):Int)*((4:Nat):Int)≤140737488355328:=by omega
 have hm2:((a.length+1:Nat):Int)≤9223372036854775807:=by omega
 have hz:bIP (a.length+1) [PV.int .u32 0]=aH ([]++bIP (a.length+1) 0):=by
  simp[aH]
 have h2s:2 ^ s≤2147483648:=Nat.pow_le_pow_right (show 0<2 by decide) (Om:s≤31)
 have h2s0:0<2 ^ s:=bLA (by decide)
 simp only[go_sem,γ,reduceCtorEq,WM,a5Y,a5Z,nup,hlen,hm1,hm2,hz]
 refine aQ fun o ho=>?_
 simp only[go_sem,γ,reduceCtorEq,a6A,a6B]
 refine wp_loop (α:=List Nat × Nat × Nat) (fun t=>bfD a s t.2.2 t.1.length t.2.1) (fun t=>PH.nil.set t.2.2 (.rows 1 (aH (t.1++bIP (a.length+1-t.1.length) 0))))
  (fun t=>t.1.length≤a.length∧Lim t.1∧t.2.1<2 ^ s∧val t.1+4294967296 ^ t.1.length*t.2.1=val (a.take t.1.length)*2 ^ s) (fun t=>a.length-t.1.length) ([],0,o) ⟨by simp,by simp[Lim],h2s0,by simp[val]⟩ ?_ ?_ ?_
 ·unfold bfD
  exact Lq
 ·exact PH.aI PH.nil_le (by simp only[go_sem,bKY])
 rintro⟨P,c,q⟩ ⟨hP,bHF,hc,bHB⟩
 simp only at hP bHF hc bHB
 simp only[go_sem,γ,reduceCtorEq,aQI,a6C,bfD]
 by_cases c1:P.length<a.length
 ·have c1':(P.length:Int)<(a.length:Nat):=by omega
  have hai:=ha _ (bIR c1)
  obtain⟨k,hk⟩:∃ k,a.length+1-P.length=k+1:=⟨a.length-P.length,by omega⟩
  have hin:(aH (P++bIP (k+1) 0))[P.length]?=some [.int .u32 ((0:Nat):Int)]:=by
   rw[bL _ (by simp)]; simp
  have hlast:a.length+1-(P.length+1)=k:=by omega
  have c2':(P.length:Int)<((a.length+1:Nat):Int):=by omega
  have hta:=bX a c1
  generalize hx:a[P.length]=x at *
  have hxs:x*2 ^ s≤4294967295*2147483648:=Nat.mul_le_mul Om h2s
  have ex:IntKind.u64.wrap ((x:Nat):Int)=((x:Nat):Int):=bD Om
  have hxs':2 ^ s*x=x*2 ^ s:=bJK _ _
  have esh:shift .shl .u64 (x:Int) (s:Int)=some (.int .u64 ((2 ^ s*x:Nat):Int)):=GW Om Om
  have eor:=orI (a:=c) (b:=2 ^ s*x) (n:=c+2 ^ s*x) Om Om (aCX hc Om) Om
  have hdig:(c+2 ^ s*x)/4294967296<2 ^ s:=by
   rw[bLG (by decide)]
   have:2 ^ s*(x+1)≤2 ^ s*4294967296:=bKP _ Om
   rw[bIZ,Nat.mul_one] at this
   omega
  have bGV:(aH (P++bIP (k+1) 0)).set P.length [.int .u32 (((c+2 ^ s*x)%4294967296:Nat):Int)]=aH ((P++[(c+2 ^ s*x)%4294967296])++bIP k 0):=by
   rw[eT,vG]
  have hax:(aH a)[P.length]?=some [.int .u32 ((x:Nat):Int)]:=by rw[bL a c1,hx]
  simp only[go_sem,γ,reduceCtorEq,c1',a6D,a6E,hax,ex,esh,eor,a6F,cB,hk,c2',hin,bGV,a6G,uG,a6H,dE (Om:P.length<9223372036854775807)]
  refine aK (P++[(c+2 ^ s*x)%4294967296],(c+2 ^ s*x)/4294967296,q) ⟨by simp; omega,bHF.app fun y hy=>by simp at hy; subst hy; exact bKA _ (by decide),hdig,?_⟩ (by simp; omega) ?_ (PH.aI PH.nil_le ?_)
  ·simp only
   rw[gW,bIU,bJC,bKE,bJH,bKX,← bIZ,Nat.mod_add_div,hta,bIZ,bJP,← bKX,bHB,hxs',bJH]
  ·simp only
   rw[bIU,bJC]
   exact Lq
  ·simp only
   rw[bIU,bJC,hlast]
   simp only[go_sem]
 ·have e:P.length=a.length:=by omega
  have c1':¬ (P.length:Int)<(a.length:Nat):=by omega
  have hk:bIP (a.length+1-P.length) 0=[0]:=by rw[show a.length+1-P.length=1 by omega]; rfl
  have hin:(aH (P++[0]))[a.length]?=some [.int .u32 ((0:Nat):Int)]:=by
   rw[bL _ (by simp; omega)]
   simp[e]
  have bGV:(aH (P++[0])).set a.length [.int .u32 ((c%4294967296:Nat):Int)]=aH (P++[c]):=by
   have:=vG P 0 (c%4294967296)
   simp only[List.replicate_zero,bKM,bJL,List.replicate_one] at this
   rw[← e,eT,this,bJV Om]
  have c2':(a.length:Int)<((a.length+1:Nat):Int):=by omega
  have hV:val (P++[c])=val a*2 ^ s:=by
   rw[gW,bHB,e,bJN]
  have hLc:Lim (P++[c]):=bHF.app fun x hx=>by simp at hx; omega
  have hD:dL (a.length+1) (val a*2 ^ s)=P++[c]:=by
   have:=EB hLc
   rw[hV,bIU,bJC,e] at this
   exact this
  simp only[go_sem,γ,reduceCtorEq,c1',aQJ,cB,hk,hin,c2',bGV,aQK]
  exact aW (vs:=[.osl q 1 0 (a.length+1)]) (.inr rfl) (PH.nil.set q (.rows 1 (aH (P++[c])))) Ev (PH.aI PH.nil_le Sq) ⟨q,rfl,by rw[hD]⟩
def aiX (a:List Nat) (d o k r:Nat):PF:=(((((PF.nil.set 0 (aF a)).set 1 (.int .u32 d)).set 6 (.osl o 1 0 a.length)).set 7 (.int .u64 r)).set 8 (.int .i64 ((k:Int)-1)))
theorem a5T {C:Ctx} (L:oP C) (a:List Nat) (d:Nat) (ha:Lim a) (hd0:0<d) (hd:d<4294967296) (h1:a.length≤1000) :
  zU.wp C (aU MJ.res (aE (.tup [aF (aG (val a/d)),.int .u32 ((val a%d:Nat):Int)]))) (PF.args [aF a,.int .u32 d]) .nil:=by
 have hm1:((a.length:Nat):Int)*((4:Nat):Int)≤140737488355328:=by omega
 have hm2:((a.length:Nat):Int)≤9223372036854775807:=by omega
 have hz:bIP a.length [PV.int .u32 0]=aH (bIP a.length 0++[]):=by
  simp[aH]
 simp only[go_sem,γ,reduceCtorEq,zU,anJ,anK,MJ,hm1,hm2,hz]
 refine aQ fun o ho=>?_
 simp only[go_sem,γ,reduceCtorEq,anL,anM]
 refine wp_loop (α:=Nat × List Nat × Nat × Nat) (fun t=>aiX a d t.2.2.2 t.1 t.2.2.1) (fun t=>PH.nil.set t.2.2.2 (.rows 1 (aH (bIP t.1 0++t.2.1))))
  (fun t=>t.1+t.2.1.length=a.length∧Lim t.2.1∧t.2.2.1<d∧val t.2.1*d+t.2.2.1=val (a.drop t.1)) (fun t=>t.1) (a.length,[],0,o) ⟨by simp,by simp[Lim],hd0,by simp[val]⟩ ?_ ?_ ?_
 ·unfold aiX
  (repeat' (first|exact PF.nil_le|refine PF.aI ?_ ?_))<;>first|(simp only[go_sem,γ,reduceCtorEq,wrap_i64 (Om:-9223372036854775808≤((a.length:Nat):Int)-1) (Om:((a.length:Nat):Int)-1≤9223372036854775807)]<;>rfl)|rfl
 ·exact PH.aI PH.nil_le Sq
 rintro⟨k,S,r,q⟩ ⟨hk,bHF,hr,bHB⟩
 simp only at hk bHF hr bHB
 simp only[go_sem,γ,reduceCtorEq,anI,anN,aiX]
 by_cases h0:0<k
 ·obtain⟨m,rfl⟩:∃ m,k=m+1:=⟨k-1,by omega⟩
  have hzz:((m+1:Nat):Int)-1=(m:Int):=by omega
  have hge:(m:Int)≥0:=by omega
  have hml:m<a.length:=by omega
  have hlt:(m:Int)<(a.length:Nat):=by omega
  have hai:=ha _ (bIR hml)
  have hdrop:val (a.drop m)=a[m]+4294967296*val (a.drop (m+1)):=by rw[bKG hml]; rfl
  generalize hx:a[m]=x at *
  have hax:(aH a)[m]?=some [.int .u32 ((x:Nat):Int)]:=by rw[bL a hml,hx]
  have ex:IntKind.u64.wrap ((x:Nat):Int)=((x:Nat):Int):=bD Om
  have ed:IntKind.u64.wrap ((d:Nat):Int)=((d:Nat):Int):=bD Om
  have esh:shift .shl .u64 (r:Int) 32=some (.int .u64 ((2 ^ 32*r:Nat):Int)):=GW (s:=32) Om Om
  have e32:(2:Nat) ^ 32=4294967296:=by decide
  have eor:=orI (a:=2 ^ 32*r) (b:=x) (n:=2 ^ 32*r+x) Om Om (Nat.two_pow_add_eq_or_of_lt Om r).symm Om
  rw[e32] at esh eor
  have hq:(4294967296*r+x)/d<4294967296:=by
   rw[bLG hd0]
   have:4294967296*(r+1)≤4294967296*d:=bKP _ hr
   omega
  have hdd:¬ ((d:Nat):Int)=0:=by omega
  have equo:IntKind.u64.wrap (Int.tdiv ((4294967296*r+x:Nat):Int) ((d:Nat):Int))=(((4294967296*r+x)/d:Nat):Int):=by
   rw[show Int.tdiv ((4294967296*r+x:Nat):Int) ((d:Nat):Int)=(((4294967296*r+x)/d:Nat):Int) from rfl]
   exact bD Om
  have erem:Int.tmod ((4294967296*r+x:Nat):Int) ((d:Nat):Int)=(((4294967296*r+x)%d:Nat):Int):=rfl
  have ec:IntKind.u32.wrap (((4294967296*r+x)/d:Nat):Int)=(((4294967296*r+x)/d:Nat):Int):=by rw[cB,bJV hq]
  have bIH:bIP (m+1) 0++S=bIP m 0++(0::S):=by
   rw[List.replicate_succ',bJM]; rfl
  have hin:(aH (bIP m 0++(0::S)))[m]?=some [.int .u32 ((0:Nat):Int)]:=by
   rw[bL _ (by simp)]; simp
  have bGV:(aH (bIP m 0++(0::S))).set m [.int .u32 (((4294967296*r+x)/d:Nat):Int)]=aH (bIP m 0++(((4294967296*r+x)/d)::S)):=by
   rw[eT,bLY _ _ (by simp)]; simp
  simp only[go_sem,γ,reduceCtorEq,hzz,hge,anO,esh,hax,ex,eor,anP,ed,hdd,equo,ec,hlt,bIH,hin,bGV,anQ,erem,anR]
  refine aK (m,((4294967296*r+x)/d)::S,(4294967296*r+x)%d,q) ⟨by simp only[bKH]; omega,fun y hy=>?_,bKA _ hd0,?_⟩ (by simp only; omega) ?_ (PH.aI PH.nil_le Sq)
  ·rw[bJA] at hy
   rcases hy with rfl | hy
   ·exact hq
   ·exact bHF y hy
  ·simp only[val]
   rw[hdrop,← bHB,bJP,bIZ,bJH]
   have:=bLQ (4294967296*r+x) d
   rw[bJK d] at this
   omega
  ·(repeat' (first|exact PF.nil_le|refine PF.aI ?_ ?_))<;>first|(simp only[go_sem,γ,reduceCtorEq,wrap_i64 (Om:-9223372036854775808≤(m:Int)-1) (Om:(m:Int)-1≤9223372036854775807)]<;>rfl)|rfl
 ·have:k=0:=by omega
  subst this
  have hzz:¬ ((0:Nat):Int)-1≥0:=by decide
  rw[bJO] at bHB
  have hS:S.length=a.length:=by omega
  have hq:val S=val a/d:=by
   rw[← bHB,bJK,Nat.mul_add_div hd0,bLR hr,bKD]
  have hrm:r=val a%d:=by rw[← bHB,bJK,Nat.mul_add_mod,bJV hr]
  have hn0:bIP 0 0++S=S:=by simp
  simp only[go_sem,υ,γ,reduceCtorEq,hzz,acG,bLF]
  have hl:=L.length S bHF Om
  have hnl:=eS bHF
  have hc:((nl (val S):Nat):Int)≤(S.length:Nat):=by omega
  refine nU (o:=q) (s:=1) (k:=a.length) (rs:=aH S) (v:=.int .i64 (nl (val S):Nat)) ?_ Sq Sq (by rw[bU]; omega) ?_
  ·rw[bJD (by rw[bU]; omega)]; exact hl
  ·have hfz:PV.frz q 1 (aH S) (.osl q 1 0 a.length)=aF S:=by
    have:0+a.length≤(aH S).length:=by rw[bU]; omega
    simp only[PV.frz,PV.rF,PV.dB,if_true,true_and,if_pos this,bJO]
    rw[bJD (by rw[bU]; omega)]
   have hfi:∀ n:Int,∀ k,PV.frz q 1 (aH S) (.int k n)=.int k n:=fun _ _=>rfl
   have er:IntKind.u32.wrap ((r:Nat):Int)=((r:Nat):Int):=by rw[cB,bJV Om]
   simp only[go_sem,ν,γ,reduceCtorEq,hfz,hfi,hc,or_true,bJO,gS bHF,er]
   refine aW (vs:=[aF (aG (val S)),.int .u32 ((r:Nat):Int)]) (.inr rfl) .nil Ev PH.nil_le ⟨?_,rfl⟩
   simp only[aX,← hq,← hrm]
end Go.PM
namespace Go.Na
theorem CL {L:List Nat} {i:Nat} (h:i<L.length) (v:Nat):val (L.set i v)+4294967296 ^ i*L[i]=val L+4294967296 ^ i*v:=by
 have h':i<(L.set i v).length:=by rw[bKI]; exact h
 rw[pP L h,pP (L.set i v) h',List.getElem_set_self,List.take_set_of_le (bIO _),List.drop_set_of_lt Om,bIZ,bIZ]
 omega
theorem afX {L:List Nat} {i:Nat} (h:∀ (j x:Nat),i≤j→L[j]?=some x→x=0) (k v:Nat) (hk:k<i):∀ (j x:Nat),i≤j→(L.set k v)[j]?=some x→x=0:=fun j x hj hx=>by
 rw[List.getElem?_set_ne Om] at hx
 exact h j x hj hx
end Go.Na
namespace Go.PM
open Go Go.Na
def jK (a b:List Nat) (o i:Nat):PF:=((((((PF.nil.set 0 (aF a)).set 1 (aF b)).set 6 (.osl o 1 0 (a.length+b.length))).set 32 (aF a)).set 33 (.int .i64 (a.length:Nat))).set 34 (.int .i64 i))
def aYJ (a b:List Nat) (o i x c j:Nat):PF:=((((((((((((PF.nil.set 0 (aF a)).set 1 (aF b)).set 6 (.osl o 1 0 (a.length+b.length))).set 32 (aF a)).set 33 (.int .i64 (a.length:Nat))).set 34 (.int .i64 i)).set 7 (.int .i64 i)).set 8 (.int .u32 x)).set 9 (.int .u64 c)).set 39 (aF b)).set 40 (.int .i64 (b.length:Nat))).set 41 (.int .i64 j))
structure BI (a b L:List Nat) (i:Nat):Prop where
 len:L.length=a.length+b.length
 lim:Lim L
 v:val L=val (a.take i)*val b
 z:∀ j x,i+b.length≤j→L[j]?=some x→x=0
theorem aOT {x y:Nat} (hx:x<4294967296) (hy:y<4294967296):IntKind.u64.wrap ((x:Int)*(y:Int))=((x*y:Nat):Int):=by
 have:x*y≤4294967295*4294967295:=Nat.mul_le_mul Om Om
 rw[show (x:Int)*(y:Int)=((x*y:Nat):Int) by simp]
 exact bD Om
theorem fH {a b:Nat} (h:a+b≤9223372036854775807):IntKind.i64.wrap ((a:Int)+(b:Int))=((a+b:Nat):Int):=by
 rw[wrap_i64 Om Om]; omega
theorem bfA {C:Ctx} (a b:List Nat) (ha:Lim a) (hb:Lim b) (h1:a.length≤1000) (h2:b.length≤1000) (L:List Nat) (i:Nat) (hi:i<a.length) (hI:BI a b L i) (q:Nat) (K:cN) (F:PF) (H:PH) (hF:(jK a b q i).le F) (hH:H q=some (.rows 1 (aH L)))
  (hK:∀ L' F' H',BI a b L' (i+1)→(jK a b q i).le F'→H' q=some (.rows 1 (aH L'))→K .normal F' H') :
  aC.wp C (.block 1 (.seq (.region aiU) (.seq (.region aiV) (.seq (.seq (.region aiW) (.block 2 (.loop WD))) (.region WF))))) K F H:=by
 have f0:=hF 0 _ (by unfold jK; simp only[go_sem,reduceCtorEq]; rfl)
 have f1:=hF 1 _ (by unfold jK; simp only[go_sem,γ,reduceCtorEq]; rfl)
 have f6:=hF 6 _ (by unfold jK; simp only[go_sem,γ,reduceCtorEq]; rfl)
 have f32:=hF 32 _ (by unfold jK; simp only[go_sem,γ,reduceCtorEq]; rfl)
 have f33:=hF 33 _ (by unfold jK; simp only[go_sem,γ,reduceCtorEq]; rfl)
 have f34:=hF 34 _ (by unfold jK; simp only[go_sem,γ,reduceCtorEq]; rfl)
 have hx:=ha _ (bIR hi)
 have hta:=bX a hi
 generalize hxe:a[i]=x at *
 have hax:(aH a)[i]?=some [.int .u32 ((x:Nat):Int)]:=by rw[bL a hi,hxe]
 simp only[go_sem,γ,aiU,aiV,aiW,f32,f34,f1,hax]
 refine wp_loop (α:=List Nat × Nat × Nat) (fun t=>aYJ a b q i x t.2.1 t.2.2) (fun t=>PH.nil.set q (.rows 1 (aH t.1)))
  (fun t=>t.2.2≤b.length∧t.1.length=a.length+b.length∧Lim t.1∧t.2.1<4294967296∧val t.1+4294967296 ^ (i+t.2.2)*t.2.1=val (a.take i)*val b+4294967296 ^ i*(x*val (b.take t.2.2))∧∀ j y,i+b.length≤j→t.1[j]?=some y→y=0) (fun t=>b.length-t.2.2) (L,0,0)
  ⟨by simp,hI.len,hI.lim,by simp,by simp[val,hI.v],hI.z⟩ ?_ (PH.aI PH.nil_le hH) ?_
 ·unfold aYJ
  exact Lq
 rintro⟨M,c,j⟩ ⟨hj,hM,bHF,hc,bHB,hz⟩
 simp only at hj hM bHF hc bHB hz
 simp only[go_sem,γ,reduceCtorEq,WD,aCC,aYJ]
 by_cases c1:j<b.length
 ·have c1':(j:Int)<(b.length:Nat):=by omega
  have hy:=hb _ (bIR c1)
  have htb:=bX b c1
  generalize hye:b[j]=y at *
  have hby:(aH b)[j]?=some [.int .u32 ((y:Nat):Int)]:=by rw[bL b c1,hye]
  have hij:i+j<M.length:=by omega
  have hz0:=bHF _ (bIR hij)
  have bIF:=CL hij
  generalize hze:M[i+j]=z at *
  have hMz:(aH M)[i+j]?=some [.int .u32 ((z:Nat):Int)]:=by rw[bL M hij,hze]
  have ex:IntKind.u64.wrap ((x:Nat):Int)=((x:Nat):Int):=bD Om
  have ey:IntKind.u64.wrap ((y:Nat):Int)=((y:Nat):Int):=bD Om
  have ez:IntKind.u64.wrap ((z:Nat):Int)=((z:Nat):Int):=bD Om
  have em:=aOT hx hy
  have hxy:x*y≤4294967295*4294967295:=Nat.mul_le_mul Om Om
  have e1:IntKind.u64.wrap (((x*y:Nat):Int)+(z:Int))=((x*y+z:Nat):Int):=eM Om
  have e2:IntKind.u64.wrap ((c:Int)+((x*y+z:Nat):Int))=((c+(x*y+z):Nat):Int):=eM Om
  have eij:IntKind.i64.wrap ((i:Int)+(j:Int))=((i+j:Nat):Int):=fH Om
  have hlt:((i+j:Nat):Int)<((a.length+b.length:Nat):Int):=by omega
  generalize ht:c+(x*y+z)=t at *
  have htt:t<4294967296*4294967296:=by omega
  have bGV:(aH M).set (i+j) [.int .u32 ((t%4294967296:Nat):Int)]=aH (M.set (i+j) (t%4294967296)):=eT M (i+j) _
  simp only[go_sem,γ,reduceCtorEq,c1',aCD,hby,aCE,ex,ey,em,eij,hlt,hMz,ez,e1,e2,aCF,cB,bGV,aCG,uG,aCH,wZz j]
  refine aK (M.set (i+j) (t%4294967296),t/4294967296,j+1) ⟨by simp only; omega,by simp only[bKI]; exact hM,bHF.set _ (bKA _ (by decide)),by simp only; omega,?_,afX hz _ _ Om⟩ (by simp only; omega) ?_ (PH.aI PH.nil_le Sq)
  ·simp only
   have h3:=bIF (t%4294967296)
   have h4:4294967296 ^ (i+(j+1))*(t/4294967296)+4294967296 ^ (i+j)*(t%4294967296)=4294967296 ^ (i+j)*t:=by
    rw[← bKX,bKE,bJH,← bIZ,bLQ]
   have h5:4294967296 ^ (i+j)*t=4294967296 ^ (i+j)*c+(4294967296 ^ (i+j)*(x*y)+4294967296 ^ (i+j)*z):=by rw[← ht,bIZ,bIZ]
   have h6:4294967296 ^ i*(x*val (b.take (j+1)))=4294967296 ^ i*(x*val (b.take j))+4294967296 ^ (i+j)*(x*y):=by
    rw[htb,bIZ,bIZ,Nat.pow_add]
    congr 1
    rw[Nat.mul_left_comm x,bJH]
   omega
  ·exact Lq
 ·have he:j=b.length:=by omega
  have c1':¬ (j:Int)<(b.length:Nat):=by omega
  subst he
  have hij:i+b.length<M.length:=by omega
  have hz0:M[i+b.length]=0:=hz _ _ (bIO _) (bIW hij)
  have bIF:=CL hij
  have hMz:(aH M)[i+b.length]?=some [.int .u32 ((0:Nat):Int)]:=by rw[bL M hij,hz0]
  have eij:IntKind.i64.wrap ((i:Int)+((b.length:Nat):Int))=((i+b.length:Nat):Int):=fH Om
  have hlt:((i+b.length:Nat):Int)<((a.length+b.length:Nat):Int):=by omega
  have bGV:(aH M).set (i+b.length) [.int .u32 ((c%4294967296:Nat):Int)]=aH (M.set (i+b.length) c):=by
   rw[bJV hc]; exact eT M _ _
  simp only[go_sem,γ,reduceCtorEq,c1',WF,eij,cB,hlt,hMz,bGV]
  refine hK (M.set (i+b.length) c) _ _ ⟨by rw[bKI]; exact hM,bHF.set _ hc,?_,fun j y hj hy=>?_⟩ (by unfold jK; exact Lq) Sq
  ·have h3:=bIF c
   rw[hz0,Nat.mul_zero,bKD] at h3
   rw[h3,bHB,bJN,hta,bJP,bJH]
  ·rw[List.getElem?_set_ne Om] at hy
   exact hz j y Om hy
theorem a5S {C:Ctx} (L:oP C) (a b:List Nat) (ha:Lim a) (hb:Lim b) (h1:a.length≤1000) (h2:b.length≤1000) (F:PF) (f0:F 0=some (aF a)) (f1:F 1=some (aF b)) :
  aC.wp C (.seq (.region aiS) (.seq (.seq (.region aiT) (.block 0 (.loop WE))) (.seq (.region WG) .ret))) (aU [.tmp 4,.tmp 5] (bZ (szV (val a*val b)))) F .nil:=by
 have hlen:IntKind.i64.wrap (((a.length:Nat):Int)+((b.length:Nat):Int))=((a.length+b.length:Nat):Int):=fH Om
 have hm1:((a.length+b.length:Nat):Int)*((4:Nat):Int)≤140737488355328:=by omega
 have hm2:((a.length+b.length:Nat):Int)≤9223372036854775807:=by omega
 have hz:bIP (a.length+b.length) [PV.int .u32 0]=aH (bIP (a.length+b.length) 0):=by
  simp[aH]
 simp only[go_sem,γ,aiS,f0,f1,hlen,hm1,hm2,hz]
 refine aQ fun o ho=>?_
 simp only[go_sem,γ,reduceCtorEq,aiT,f0]
 refine wp_loop (α:=List Nat × Nat) (fun t=>jK a b o t.2) (fun t=>PH.nil.set o (.rows 1 (aH t.1))) (fun t=>t.2≤a.length∧BI a b t.1 t.2) (fun t=>a.length-t.2) (bIP (a.length+b.length) 0,0)
  ⟨by simp,by simp,sS _,by simp[val,pV],fun j x _ hx=>by rw[List.getElem?_replicate] at hx; split at hx<;>simp_all⟩ ?_ (PH.aI PH.nil_le Sq) ?_
 ·unfold jK
  exact Lq
 rintro⟨M,i⟩ ⟨hi,hI⟩
 simp only at hi hI
 simp only[go_sem,γ,reduceCtorEq,WE,aQB,jK]
 by_cases c1:i<a.length
 ·have c1':(i:Int)<(a.length:Nat):=by omega
  have key:=bfA (C:=C) a b ha hb h1 h2 M i c1 hI o
  simp only[go_sem] at key
  simp only[go_sem,c1']
  refine key _ _ _ (by unfold jK; exact Lq) Sq ?_
  intro L' F' H' hI' hF' hH'
  have g34:=hF' 34 _ (by unfold jK; simp only[go_sem,γ,reduceCtorEq]; rfl)
  have g0:=hF' 0 _ (by unfold jK; simp only[go_sem,reduceCtorEq]; rfl)
  have g1:=hF' 1 _ (by unfold jK; simp only[go_sem,γ,reduceCtorEq]; rfl)
  have g6:=hF' 6 _ (by unfold jK; simp only[go_sem,γ,reduceCtorEq]; rfl)
  have g32:=hF' 32 _ (by unfold jK; simp only[go_sem,γ,reduceCtorEq]; rfl)
  have g33:=hF' 33 _ (by unfold jK; simp only[go_sem,γ,reduceCtorEq]; rfl)
  simp only[go_sem,aCI,g34,wZz i]
  refine aK (L',i+1) ⟨by simp only; omega,hI'⟩ (by simp only; omega) ?_ (PH.aI PH.nil_le hH')
  exact Lq
 ·have he:i=a.length:=by omega
  subst he
  have c1':¬ ((a.length:Nat):Int)<(a.length:Nat):=by omega
  have hV:val M=val a*val b:=by rw[hI.v,bJN]
  simp only[go_sem,γ,reduceCtorEq,WG]
  have hs:=L.sized _ hI.lim (by rw[hI.len]; omega)
  rw[hV] at hs
  refine nU (o:=o) (s:=1) (k:=a.length+b.length) (rs:=aH M) (v:=szV (val a*val b)) ?_ rfl Sq (by rw[bU,hI.len]; exact bIO _) ?_
  ·rw[bJD (by rw[bU,hI.len]; exact bIO _)]; exact hs
  ·simp only[go_sem,γ,reduceCtorEq,szV]
   exact aW (.inr rfl) .nil rfl PH.nil_le ⟨.refl _,rfl⟩
theorem bmT {C:Ctx} (L:oP C) (a b:List Nat) (ha:Lim a) (hb:Lim b) (la:a.length≤35184372087808) (lb:b.length≤35184372087808) :
  MG.wp C (aU aCB.res (bZ (opV (dP (val a) (val b)) (val a*val b)))) (PF.args [aF a,aF b]) .nil:=by
 simp only[go_sem,reduceCtorEq,MG,aPY,aPZ,aCB]
 refine aA (L.large a ha la) rfl ?_
 by_cases c1:nl (val a)>512
 ·simp only[go_sem,γ,c1,aiR]
  rw[show opV (dP (val a) (val b)) (val a*val b)=.tup [aF [],.int .i64 2] by simp[opV,dP,c1]]
  exact eC rfl
 simp only[go_sem,γ,c1]
 refine aA (L.large b hb lb) rfl ?_
 by_cases c2:nl (val b)>512
 ·simp only[go_sem,γ,reduceCtorEq,c2,aiR]
  rw[show opV (dP (val a) (val b)) (val a*val b)=.tup [aF [],.int .i64 2] by simp[opV,dP,c2]]
  exact eC rfl
 have e:opV (dP (val a) (val b)) (val a*val b)=szV (val a*val b):=by simp[opV,dP,c1,c2]
 rw[e]
 simp only[go_sem,γ,reduceCtorEq,c2]
 refine bT .nil aXZ PH.nil_le ?_
 simp only[go_sem,reduceCtorEq,aQA]
 have h1:=eS ha
 have h2:=eS hb
 have h1':((nl (val a):Nat):Int)≤(a.length:Nat):=by omega
 have h2':((nl (val b):Nat):Int)≤(b.length:Nat):=by omega
 refine bK (mC a) (L.length a ha la) rfl PH.nil_le ?_
 simp only[go_sem,ν,γ,reduceCtorEq,h1',or_true,bJO,gS ha]
 refine bK (mC b) (L.length b hb lb) rfl PH.nil_le ?_
 simp only[go_sem,ν,γ,reduceCtorEq,h2',or_true,bJO,gS hb]
 have va:=aR (val a)
 have vb:=aR (val b)
 have:=a5S L (aG (val a)) (aG (val b)) (aT _) (aT _) (by rw[aZ]; omega) (by rw[aZ]; omega)
 rw[va,vb] at this
 have:=fun F f0 f1=>this F f0 f1
 simp only[go_sem] at this
 exact this _ rfl rfl
open Go Go.Na
theorem acU {A P W Z:List Nat} {i:Nat} (hP:P.length=i) (hi:i<W.length):(aH (A++(P++W.drop i)++Z))[A.length+i]?=some [.int .u32 ((W[i]:Nat):Int)]:=by
 have hl:A.length+i<(A++(P++W.drop i)++Z).length:=by simp; omega
 rw[bL _ hl]
 congr 4
 rw[List.getElem_append_left (by simp; omega),List.getElem_append_right Om,List.getElem_append_right Om,List.getElem_drop]
 congr 1
 omega
theorem CF {A P W Z:List Nat} {i:Nat} (hP:P.length=i) (hi:i<W.length) (v:Nat):(aH (A++(P++W.drop i)++Z)).set (A.length+i) [.int .u32 (v:Int)]=aH (A++((P++[v])++W.drop (i+1))++Z):=by
 rw[eT]
 congr 1
 rw[List.set_append_left _ _ (by simp; omega),bLY _ _ Om,bLY _ _ Om,bKG hi]
 rw[show A.length+i-A.length-P.length=0 by omega,List.set_cons_zero]
 simp
theorem bcD {t:Nat} (h:t<18446744073709551616):jR .and .u64 (t:Int) 4294967295=some (.int .u64 ((t%4294967296:Nat):Int)):=by
 show some (PV.int .u64 (IntKind.u64.wrap (((BitVec.ofInt 64 (t:Int) &&& BitVec.ofInt 64 (4294967295:Int)).toNat:Nat):Int)))=_
 have e:BitVec.ofInt 64 (4294967295:Int)=BitVec.ofNat 64 4294967295:=by rfl
 rw[e,BitVec.ofInt_natCast,BitVec.toNat_and,BitVec.toNat_ofNat,BitVec.toNat_ofNat,bJV (by simpa using h)]
 have e2:(4294967295:Nat)%2 ^ 64=2 ^ 32-1:=by decide
 rw[e2,Nat.and_two_pow_sub_one_eq_mod]
 rw[bD (Nat.lt_of_lt_of_le (bKA _ (by decide)) (by decide))]
theorem bcI {c f x:Nat} (hc:c<4294967296) (hf:f≤4294967296) (hx:x<4294967296):c+f*x<18446744073709551616∧(c+f*x)/4294967296<4294967296∧f*x≤4294967296*4294967295:=by
 have:f*x≤4294967296*4294967295:=Nat.mul_le_mul hf Om
 refine⟨by omega,?_,this⟩
 omega
def aCP (v:List Nat) (j o i c b:Nat) (f:Nat):PF:=((((((((PF.nil.set 0 (.osl o 1 j (v.length+1))).set 1 (aF v)).set 2 (.int .u64 f)).set 7 (.int .u64 c)).set 8 (.int .u64 b)).set 13 (aF v)).set 14 (.int .i64 (v.length:Nat))).set 15 (.int .i64 i))
def HB (n w m:Nat):Nat:=if w<m then w+4294967296 ^ n-m else w-m
theorem aCQ {C:Ctx} (A W Z v:List Nat) (f:Nat) (hW:Lim W) (hv:Lim v) (hl:W.length=v.length+1) (h1:A.length+v.length≤100000) (hf:f≤4294967296) (bHX:val v*f≤val W+4294967296 ^ (v.length+1)) (o:Nat) :
  rM.wp C (aU sU.res (fun r H'=>r=.bool (decide (val W<val v*f))∧H'=PH.nil.set o (.rows 1 (aH (A++dL (v.length+1) (HB (v.length+1) (val W) (val v*f))++Z)))))
   (PF.args [.osl o 1 A.length (v.length+1),aF v,.int .u64 f]) (PH.nil.set o (.rows 1 (aH (A++W++Z)))):=by
 simp only[go_sem,γ,rM,MM,MN,MO,sU]
 refine wp_loop (α:=List Nat × Nat × Nat) (fun t=>aCP v A.length o t.1.length t.2.1 t.2.2 f) (fun t=>PH.nil.set o (.rows 1 (aH (A++(t.1++W.drop t.1.length)++Z))))
  (fun t=>t.1.length≤v.length∧Lim t.1∧t.2.1<4294967296∧t.2.2≤1∧val (W.take t.1.length)+4294967296 ^ t.1.length*t.2.2+4294967296 ^ t.1.length*t.2.1=val t.1+val (v.take t.1.length)*f) (fun t=>v.length-t.1.length) ([],0,0)
  ⟨by simp,by simp[Lim],by simp,by simp,by simp[val]⟩ ?_ (PH.aI PH.nil_le (by simp only[go_sem,bKY,bJO,bLF])) ?_
 ·unfold aCP
  exact Lq
 rintro⟨P,c,b⟩ ⟨hP,bHF,hc,hb,bHB⟩
 simp only at hP bHF hc hb bHB
 simp only[go_sem,γ,reduceCtorEq,JH,MP,aCP]
 by_cases c1:P.length<v.length
 ·have c1':(P.length:Int)<(v.length:Nat):=by omega
  have c2:P.length<W.length:=by omega
  have c2':(P.length:Int)<((v.length+1:Nat):Int):=by omega
  have hx:=hv _ (bIR c1)
  have hw:=hW _ (bIR c2)
  have htv:=bX v c1
  have htw:=bX W c2
  have hat:=acU (A:=A) (Z:=Z) (P:=P) rfl c2
  have bIF:=CF (A:=A) (Z:=Z) (P:=P) rfl c2
  generalize hxe:v[P.length]=x at *
  generalize hwe:W[P.length]=y at *
  have hvx:(aH v)[P.length]?=some [.int .u32 ((x:Nat):Int)]:=by rw[bL v c1,hxe]
  obtain⟨k1,k2,k3⟩:=bcI hc hf hx
  have ex:IntKind.u64.wrap ((x:Nat):Int)=((x:Nat):Int):=bD Om
  have ey:IntKind.u64.wrap ((y:Nat):Int)=((y:Nat):Int):=bD Om
  have em:IntKind.u64.wrap ((f:Int)*(x:Int))=((f*x:Nat):Int):=by
   rw[show (f:Int)*(x:Int)=((f*x:Nat):Int) by simp]
   exact bD Om
  have hlt64:c+f*x<18446744073709551616:=k1
  have ea:IntKind.u64.wrap ((c:Int)+((f*x:Nat):Int))=((c+f*x:Nat):Int):=eM hlt64
  have eand:=bcD hlt64
  have hvt:val (v.take (P.length+1))*f=val (v.take P.length)*f+4294967296 ^ P.length*(f*x):=by rw[htv,bJP,bJH,bJK x f]
  generalize f*x=fx at *
  have hmod:(c+fx)%4294967296<4294967296:=bKA _ (by decide)
  obtain⟨s1,s2,s3,s4⟩:=aFE (a:=y) (bor:=b) (b:=(c+fx)%4294967296) hw hmod hb (IntKind.u64.wrap (IntKind.u64.wrap ((y:Int)-(((c+fx)%4294967296:Nat):Int))-(b:Int))) (by rw[eZ,eZ]; omega)
  generalize hd:OE y b ((c+fx)%4294967296)=d at *
  generalize hbb:WW y b ((c+fx)%4294967296)=b' at *
  have hb':b'≤1:=by rw[← hbb]; unfold WW; split<;>omega
  have hs:=bIF d
  simp only[go_sem,γ,reduceCtorEq,c1',MQ,hvx,MR,ex,em,ea,MT,c2',hat,ey,eand,MU,s1,hs,MW,aZN,s2,MX,uG,JI,dE (Om:P.length<9223372036854775807)]
  refine aK (P++[d],(c+fx)/4294967296,b') ⟨by simp; omega,bHF.app fun z hz=>by simp at hz; omega,k2,hb',?_⟩ (by simp; omega) ?_ (PH.aI PH.nil_le ?_)
  ·simp only
   rw[bIU,bJC,gW,htw,hvt,bKE,bJH,bJH]
   have h4:4294967296 ^ P.length*y+4294967296 ^ P.length*(4294967296*b')=4294967296 ^ P.length*d+4294967296 ^ P.length*((c+fx)%4294967296)+4294967296 ^ P.length*b:=by
    rw[← bIZ,s3,bIZ,bIZ]
   have h5:4294967296 ^ P.length*(4294967296*((c+fx)/4294967296))+4294967296 ^ P.length*((c+fx)%4294967296)=4294967296 ^ P.length*c+4294967296 ^ P.length*fx:=by
    rw[← bIZ,bLQ,bIZ]
   omega
  ·simp only
   rw[bIU,bJC]
   exact Lq
  ·simp only
   rw[bIU,bJC]
   simp only[go_sem]
 ·have e:P.length=v.length:=by omega
  have c1':¬ (P.length:Int)<(v.length:Nat):=by omega
  have c2:v.length<W.length:=by omega
  have c2':((v.length:Nat):Int)<((v.length+1:Nat):Int):=by omega
  have hw:=hW _ (bIR c2)
  have htw:=bX W c2
  have hat:=acU (A:=A) (Z:=Z) (P:=P) e c2
  have bIF:=CF (A:=A) (Z:=Z) (P:=P) e c2
  have hWall:val (W.take (v.length+1))=val W:=by rw[bJD Om]
  generalize hwe:W[v.length]=y at *
  have ey:IntKind.u64.wrap ((y:Nat):Int)=((y:Nat):Int):=bD Om
  have hP':=eJ bHF
  rw[e] at bHB hP'
  rw[bJN] at bHB
  rw[hWall] at htw
  have hpow:4294967296 ^ (v.length+1)=4294967296 ^ v.length*4294967296:=bKE _ _
  have key:val W+4294967296 ^ v.length*(b+c)=val P+val v*f+4294967296 ^ v.length*y:=by rw[htw,bIZ]; omega
  have hbc:b+c≤y+4294967296:=by
   rcases bJE (y+4294967296) (b+c) with h | h
   ·exfalso
    have:4294967296 ^ v.length*(y+4294967296+1)≤4294967296 ^ v.length*(b+c):=bKP _ h
    rw[bIZ,bIZ,Nat.mul_one] at this
    omega
   ·exact h
  have hlast:∃ d k:Nat,d<4294967296∧k≤1∧y+4294967296*k=d+(b+c)∧IntKind.u32.wrap (IntKind.u64.wrap (IntKind.u64.wrap ((y:Int)-(c:Int))-(b:Int)))=(d:Int)∧((IntKind.u64.wrap (IntKind.u64.wrap ((y:Int)-(c:Int))-(b:Int))/9223372036854775808==1)=decide (k=1)):=by
   rw[TY,eZ,eZ]
   by_cases h:y<b+c
   ·refine⟨y+4294967296-(b+c),1,by omega,by omega,by omega,by omega,?_⟩
    simp only[decide_true]
    exact bS Om
   ·refine⟨y-(b+c),0,by omega,by omega,by omega,by omega,?_⟩
    exact bF Om
  obtain⟨d,k,hd,hk,hy,w1,w2⟩:=hlast
  have hs:=bIF d
  have hN:val (P++[d])+val v*f=val W+4294967296 ^ (v.length+1)*k:=by
   have:4294967296 ^ v.length*y+4294967296 ^ v.length*(4294967296*k)=4294967296 ^ v.length*d+4294967296 ^ v.length*(b+c):=by rw[← bIZ,hy,bIZ]
   rw[gW,e,hpow,bJH]
   omega
  have hLd:Lim (P++[d]):=bHF.app fun z hz=>by simp at hz; omega
  have hdl:=eJ hLd
  rw[bIU,bJC,e] at hdl
  have hk1:decide (k=1)=decide (val W<val v*f):=by
   congr 1
   apply propext
   constructor
   ·intro h; subst h; omega
   ·intro h
    rcases bLK k with h0 | h0
    ·subst h0; omega
    ·omega
  have hval':HB (v.length+1) (val W) (val v*f)=val (P++[d]):=by
   unfold HB
   split
   ·rename_i h
    have:k=1:=by simpa [h] using hk1
    subst this; omega
   ·rename_i h
    have:k=0:=by
     have:¬ k=1:=by simpa [h] using hk1
     omega
    subst this; omega
  have hD:dL (v.length+1) (HB (v.length+1) (val W) (val v*f))=P++[d]:=by
   have:=EB hLd
   rw[bIU,bJC,e] at this
   rw[hval',this]
  have hdr:W.drop (v.length+1)=[]:=bLU Om
  simp only[go_sem,γ,reduceCtorEq,c1',JJ,e,c2',hat,ey,JK,w1,hs,JL,aZN,w2,hk1]
  refine aW (vs:=[.bool (decide (val W<val v*f))]) (.inr rfl) (PH.nil.set o (.rows 1 (aH (A++(P++[d]++W.drop (v.length+1))++Z)))) rfl (PH.aI PH.nil_le Sq) ⟨rfl,?_⟩
  rw[hD,hdr,bKM]
end Go.PM
namespace Go.Na
theorem aOQ {xs ys:List Nat} (hx:Lim xs) (hy:Lim ys) (hl:xs.length=ys.length) (hv:val xs=val ys):xs=ys:=by
 rw[← EB hx,← EB hy,hl,hv]
theorem bkF {k n:Nat} {xs:List Nat} (hx:Lim xs) (hl:xs.length=k) (hv:val xs=n%4294967296 ^ k):dL k n=xs :=
 aOQ (kP k n) hx (by rw[jT,hl]) (by rw[wS,hv])
end Go.Na
namespace Go.PM
open Go Go.Na
def aCJ (v:List Nat) (j o i c:Nat):PF:=((((((PF.nil.set 0 (.osl o 1 j (v.length+1))).set 1 (aF v)).set 4 (.int .u64 c)).set 7 (aF v)).set 8 (.int .i64 (v.length:Nat))).set 9 (.int .i64 i))
theorem aKL {C:Ctx} (A W Z v:List Nat) (hW:Lim W) (hv:Lim v) (hl:W.length=v.length+1) (h1:A.length+v.length≤100000) (o:Nat) :
  tK.wp C (aU wH.res (fun r H'=>r=.tup []∧H'=PH.nil.set o (.rows 1 (aH (A++dL (v.length+1) (val W+val v)++Z)))))
   (PF.args [.osl o 1 A.length (v.length+1),aF v]) (PH.nil.set o (.rows 1 (aH (A++W++Z)))):=by
 simp only[go_sem,γ,tK,SS,ST,wH]
 refine wp_loop (α:=List Nat × Nat) (fun t=>aCJ v A.length o t.1.length t.2) (fun t=>PH.nil.set o (.rows 1 (aH (A++(t.1++W.drop t.1.length)++Z))))
  (fun t=>t.1.length≤v.length∧Lim t.1∧t.2≤1∧val (W.take t.1.length)+val (v.take t.1.length)=val t.1+4294967296 ^ t.1.length*t.2) (fun t=>v.length-t.1.length) ([],0)
  ⟨by simp,by simp[Lim],by simp,by simp[val]⟩ ?_ (PH.aI PH.nil_le (by simp only[go_sem,bKY,bJO,bLF])) ?_
 ·unfold aCJ
  exact Lq
 rintro⟨P,c⟩ ⟨hP,bHF,hc,bHB⟩
 simp only at hP bHF hc bHB
 simp only[go_sem,γ,reduceCtorEq,SR,SU,aCJ]
 by_cases c1:P.length<v.length
 ·have c1':(P.length:Int)<(v.length:Nat):=by omega
  have c2:P.length<W.length:=by omega
  have c2':(P.length:Int)<((v.length+1:Nat):Int):=by omega
  have hx:=hv _ (bIR c1)
  have hw:=hW _ (bIR c2)
  have htv:=bX v c1
  have htw:=bX W c2
  have hat:=acU (A:=A) (Z:=Z) (P:=P) rfl c2
  have bIF:=CF (A:=A) (Z:=Z) (P:=P) rfl c2
  generalize hxe:v[P.length]=x at *
  generalize hwe:W[P.length]=y at *
  have hvx:(aH v)[P.length]?=some [.int .u32 ((x:Nat):Int)]:=by rw[bL v c1,hxe]
  have ex:IntKind.u64.wrap ((x:Nat):Int)=((x:Nat):Int):=bD Om
  have ey:IntKind.u64.wrap ((y:Nat):Int)=((y:Nat):Int):=bD Om
  have e1:IntKind.u64.wrap ((y:Int)+(x:Int))=((y+x:Nat):Int):=eM Om
  have e2:IntKind.u64.wrap ((c:Int)+((y+x:Nat):Int))=((c+(y+x):Nat):Int):=eM Om
  have hs:=bIF ((c+(y+x))%4294967296)
  simp only[go_sem,γ,reduceCtorEq,c1',SV,hvx,SW,c2',hat,ex,ey,e1,e2,SX,cB,hs,SY,uG,SZ,dE (Om:P.length<9223372036854775807)]
  refine aK (P++[(c+(y+x))%4294967296],(c+(y+x))/4294967296) ⟨by simp; omega,bHF.app fun z hz=>by simp at hz; subst hz; exact bKA _ (by decide),by simp only; omega,?_⟩ (by simp; omega) ?_ (PH.aI PH.nil_le ?_)
  ·simp only
   rw[bIU,bJC,gW,htw,htv,bKE,bJH]
   have h5:4294967296 ^ P.length*(4294967296*((c+(y+x))/4294967296))+4294967296 ^ P.length*((c+(y+x))%4294967296)=4294967296 ^ P.length*c+(4294967296 ^ P.length*y+4294967296 ^ P.length*x):=by
    rw[← bIZ,bLQ,bIZ,bIZ]
   omega
  ·simp only
   rw[bIU,bJC]
   exact Lq
  ·simp only
   rw[bIU,bJC]
   simp only[go_sem]
 ·have e:P.length=v.length:=by omega
  have c1':¬ (P.length:Int)<(v.length:Nat):=by omega
  have c2:v.length<W.length:=by omega
  have c2':((v.length:Nat):Int)<((v.length+1:Nat):Int):=by omega
  have hw:=hW _ (bIR c2)
  have htw:=bX W c2
  have hat:=acU (A:=A) (Z:=Z) (P:=P) e c2
  have bIF:=CF (A:=A) (Z:=Z) (P:=P) e c2
  have hWall:val (W.take (v.length+1))=val W:=by rw[bJD Om]
  generalize hwe:W[v.length]=y at *
  have hP':=eJ bHF
  rw[e] at bHB hP'
  rw[bJN] at bHB
  rw[hWall] at htw
  have ec:IntKind.u32.wrap ((c:Nat):Int)=((c:Nat):Int):=by rw[cB,bJV Om]
  have ey:IntKind.u32.wrap ((y:Int)+(c:Int))=(((y+c)%4294967296:Nat):Int):=by
   rw[show (y:Int)+(c:Int)=((y+c:Nat):Int) by omega,cB]
  have hs:=bIF ((y+c)%4294967296)
  have hLd:Lim (P++[(y+c)%4294967296]):=bHF.app fun z hz=>by simp at hz; subst hz; exact bKA _ (by decide)
  have hdl:=eJ hLd
  rw[bIU,bJC,e] at hdl
  have hD:dL (v.length+1) (val W+val v)=P++[(y+c)%4294967296]:=by
   refine bkF hLd (by rw[bIU,bJC,e]) ?_
   have:val W+val v=val (P++[(y+c)%4294967296])+4294967296 ^ (v.length+1)*((y+c)/4294967296):=by
    rw[gW,e,bKE,bJH,bKX,← bIZ,Nat.mod_add_div,bIZ]
    omega
   rw[this,Nat.add_mul_mod_self_left,bJV hdl]
  have hdr:W.drop (v.length+1)=[]:=bLU Om
  simp only[go_sem,γ,reduceCtorEq,c1',TA,e,c2',hat,ec,ey,hs]
  refine aW (vs:=[]) (.inl rfl) (PH.nil.set o (.rows 1 (aH (A++(P++[(y+c)%4294967296]++W.drop (v.length+1))++Z)))) rfl (PH.aI PH.nil_le Sq) ⟨rfl,?_⟩
  rw[hD,hdr,bKM]
def aYG (o n:Nat) (len:Nat):PF:=((PF.nil.set 0 (.osl o 1 0 len)).set 3 (.int .i64 n))
theorem aKJ {C:Ctx} (xs:List Nat) (hx:Lim xs) (hl:xs.length≤35184372087808) (o:Nat):mW.wp C (aU rL.res (fun r H'=>r=.int .i64 (nl (val xs):Nat)∧H'=PH.nil.set o (.rows 1 (aH xs)))) (PF.args [.osl o 1 0 xs.length]) (PH.nil.set o (.rows 1 (aH xs))):=by
 simp only[go_sem,γ,reduceCtorEq,mW,FY,FZ,rL]
 refine wp_loop (α:=Nat) (fun n=>aYG o n xs.length) (fun _=>PH.nil.set o (.rows 1 (aH xs))) (fun n=>n≤xs.length∧∀ j x,n≤j→xs[j]?=some x→x=0) (fun n=>n) xs.length ⟨bIO _,fun j x h e=>by rw[bJZ h] at e; cases e⟩ ?_ PH.le_refl ?_
 ·unfold aYG
  exact Lq
 rintro n ⟨hn,hz⟩
 have out:(∀ x,0<n→xs[n-1]?=some x→x≠0)→nl (val xs)=n:=fun h=>aRY hx hn hz h
 simp only[go_sem,γ,reduceCtorEq,FX,GA,aYG]
 by_cases h0:(n:Int)>0
 ·have hp:0<n:=by omega
  have hi:=bL xs (Om:n-1<xs.length)
  have hlt:((n-1:Nat):Int)<(xs.length:Nat):=by omega
  simp only[go_sem,γ,reduceCtorEq,h0,tC (Om:n≤9223372036854775807) hp,hi,hlt]
  by_cases hz0:xs[n-1]=0
  ·simp only[go_sem,γ,reduceCtorEq,bS (Om:((xs[n-1]:Nat):Int)=0),GB,tC (Om:n≤9223372036854775807) hp]
   refine aK (n-1) ⟨by omega,fun j x hj he=>?_⟩ Om ?_ PH.le_refl
   ·rcases bJE j n with h | h
    ·have:j=n-1:=by omega
     subst this
     rw[bIW Om] at he
     cases he; exact hz0
    ·exact hz j x h he
   ·exact Lq
  ·simp only[go_sem,γ,reduceCtorEq,bF (Om:((xs[n-1]:Nat):Int)≠0),qP]
   refine aW (.inr rfl) _ rfl PH.le_refl ⟨?_,rfl⟩
   rw[out fun x _ he=>by rw[bIW Om] at he; cases he; exact hz0]
   rfl
 ·simp only[go_sem,γ,reduceCtorEq,h0,qP]
  refine aW (.inr rfl) _ rfl PH.le_refl ⟨?_,rfl⟩
  rw[out fun x h=>by omega]
  rfl
end Go.PM
namespace Go.Na
structure Kn (V W top next Vr head u2 Wr p:Nat):Prop where
 hV:V=top*(4294967296*p)+next*p+Vr
 hW:W=head*(4294967296*p)+u2*p+Wr
 hVr:Vr<p
 hWr:Wr<p
 htop:2147483648≤top
 bHK:next<4294967296
 hu2:u2<4294967296
 hlt:W<V*4294967296
section
variable {V W top next Vr head u2 Wr p:Nat}
theorem Kn.low (K:Kn V W top next Vr head u2 Wr p):next*p+Vr<4294967296*p∧u2*p+Wr<4294967296*p:=by
 have h1:(next+1)*p≤4294967296*p:=bJS _ K.bHK
 have h2:(u2+1)*p≤4294967296*p:=bJS _ K.hu2
 rw[bJP,Nat.one_mul] at h1 h2
 have:=K.hVr
 have:=K.hWr
 omega
theorem Kn.atW (K:Kn V W top next Vr head u2 Wr p):0<V∧4294967296*p≤V∧0<p:=by
 have:=K.hVr
 have h:1*(4294967296*p)≤top*(4294967296*p):=bJS _ (by have:=K.htop; omega)
 have:=K.hV
 omega
theorem Kn.brB (K:Kn V W top next Vr head u2 Wr p):W/V<4294967296:=by
 rw[bLG K.atW.1,bJK]; exact K.hlt
theorem Kn.g0 (K:Kn V W top next Vr head u2 Wr p):W/V≤head/top:=by
 have ht:0<top:=by have:=K.htop; omega
 rw[Nat.le_div_iff_mul_le ht]
 have h1:W/V*V≤W:=Nat.div_mul_le_self W V
 have h2:W/V*(top*(4294967296*p))≤W/V*V:=bKP _ (by have:=K.hV; omega)
 have h3:=K.low.2
 have h4:=K.hW
 have h5:(W/V*top)*(4294967296*p)<(head+1)*(4294967296*p):=by
  rw[bJH,bJP,Nat.one_mul]; omega
 have:=Nat.lt_of_mul_lt_mul_right h5
 omega
theorem Kn.g1 (K:Kn V W top next Vr head u2 Wr p) {g r:Nat} (hg:g*top+r=head) (hq:W/V≤g) (h:g≥4294967296∨g*next>r*4294967296+u2):1≤g∧W/V≤g-1:=by
 have hql:=K.brB
 have hdiv:=Nat.div_mul_le_self W V
 generalize W/V=Q at *
 rcases h with h | h
 ·omega
 ·have hne:Q≠g:=by
   intro e
   have h1:g*V≤W:=by rw[← e]; exact hdiv
   have h2:g*V=g*top*(4294967296*p)+g*next*p+g*Vr:=by rw[K.hV,bIZ,bIZ,bJH,bJH]
   have h3:(r*4294967296+u2+1)*p≤g*next*p:=bJS _ h
   rw[bJP,bJP,Nat.one_mul,bJH r] at h3
   have h4:g*top*(4294967296*p)+r*(4294967296*p)=head*(4294967296*p):=by rw[← bJP,hg]
   have:=K.hW
   have:=K.hWr
   omega
  omega
theorem Kn.g2 (K:Kn V W top next Vr head u2 Wr p) {g r:Nat} (hg:g*top+r=head) (hl:g≤4294967296) (h:g*next≤r*4294967296+u2):g≤W/V+1:=by
 rcases bLK g with e | e
 ·rw[e]; exact bIX _
 have h2:g*V=g*top*(4294967296*p)+g*next*p+g*Vr:=by rw[K.hV,bIZ,bIZ,bJH,bJH]
 have h3:g*next*p≤(r*4294967296+u2)*p:=bJS _ h
 rw[bJP,bJH r] at h3
 have h4:g*top*(4294967296*p)+r*(4294967296*p)=head*(4294967296*p):=by rw[← bJP,hg]
 have h5:g*Vr≤4294967296*Vr:=bJS _ hl
 have h6:4294967296*(Vr+1)≤4294967296*p:=bKP _ K.hVr
 have hV:=K.atW
 have hW:=K.hW
 have h7:(g-1)*V≤W:=by
  have:g*V=(g-1)*V+V:=by
   obtain⟨k,rfl⟩:∃ k,g=k+1:=⟨g-1,by omega⟩
   rw[bJP,Nat.one_mul]; rfl
  omega
 have:=(Nat.le_div_iff_mul_le hV.1).2 h7
 generalize W/V=Q at *
 clear h2 h3 h4 h5 h7
 omega
theorem Kn.g3 (K:Kn V W top next Vr head u2 Wr p) {g r:Nat} (hg:g*top+r=head) (hl:g≤4294967296) (hr:4294967296≤r):g≤W/V+1:=by
 have hlow:=K.low.1
 have hV:=K.atW
 have h2:g*V=g*top*(4294967296*p)+g*(next*p+Vr):=by rw[K.hV,bKX,bIZ,bJH]
 have h3:g*(next*p+Vr)≤4294967296*(4294967296*p):=Nat.mul_le_mul hl Om
 have h4:g*top*(4294967296*p)+r*(4294967296*p)=head*(4294967296*p):=by rw[← bJP,hg]
 have h5:4294967296*(4294967296*p)≤r*(4294967296*p):=bJS _ hr
 have hW:=K.hW
 have h7:g*V≤W:=by omega
 have:=(Nat.le_div_iff_mul_le hV.1).2 h7
 generalize W/V=Q at *
 clear h2 h3 h4 h5 h7
 omega
theorem Kn.g4 (K:Kn V W top next Vr head u2 Wr p):head/top≤4294967296+1:=by
 have hlow:=K.low.1
 have hV:=K.atW
 have hW:=K.hW
 have hlt:=K.hlt
 have ht:=K.htop
 have h1:head<(top+1)*4294967296:=by
  have h2:V<(top+1)*(4294967296*p):=by rw[K.hV,bJP,Nat.one_mul]; omega
  have h3:V*4294967296≤(top+1)*(4294967296*p)*4294967296:=bJS _ (Nat.le_of_lt h2)
  have h4:head*(4294967296*p)<(top+1)*4294967296*(4294967296*p):=by
   have:(top+1)*(4294967296*p)*4294967296=(top+1)*4294967296*(4294967296*p):=by rw[bJH,bJK (4294967296*p) 4294967296,← bJH]
   omega
  exact Nat.lt_of_mul_lt_mul_right h4
 have h5:head/top<4294967296+2:=by
  rw[bLG Om]
  omega
 omega
end
theorem sO:∀ (k n:Nat),dL (k+1) n=dL k n++[n/4294967296 ^ k%4294967296]
 | 0,n=>by simp[dL]
 | k+1,n=>by
  show (n%4294967296)::dL (k+1) (n/4294967296)=(n%4294967296)::dL k (n/4294967296)++[n/4294967296 ^ (k+1)%4294967296]
  rw[sO k (n/4294967296),Nat.div_div_eq_div_mul,bKE,bJK 4294967296]
  rfl
theorem rV {xs:List Nat} (h:Lim xs):∀ {k:Nat},k≤xs.length→val (xs.drop k)=val xs/4294967296 ^ k:=by
 intro k hk
 have e:val xs=val (xs.take k)+4294967296 ^ k*val (xs.drop k):=by
  conv=>lhs; rw[← bKZ k xs,fC,bJF,bKO hk]
 have hl:=eJ (h.take k)
 rw[bJF,bKO hk] at hl
 rw[e,Nat.add_mul_div_left _ _ (bLA (by decide)),bLR hl,bJL]
theorem TD {R s i u0 u1 X:Nat} (hs:s<32) (h:R/4294967296 ^ i=u0+4294967296*(u1+4294967296*X)):(R/2 ^ s)/4294967296 ^ i%4294967296=(4294967296*u1+u0)/2 ^ s%4294967296:=by
 rw[Nat.div_div_eq_div_mul,bJK (2 ^ s),← Nat.div_div_eq_div_mul,h]
 have hp:4294967296*4294967296=2 ^ s*(2 ^ (32-s)*4294967296):=by
  rw[← bJH,← Nat.pow_add,show s+(32-s)=32 by omega]
 have e:u0+4294967296*(u1+4294967296*X)=(4294967296*u1+u0)+2 ^ s*(2 ^ (32-s)*X*4294967296):=by
  have:4294967296*(4294967296*X)=2 ^ s*(2 ^ (32-s)*X*4294967296):=by
   rw[← bJH,hp,bJH,bJH,bJH,bJK 4294967296 X]
  rw[bIZ,this]; omega
 rw[e,Nat.add_mul_div_left _ _ (bLA (by decide)),Nat.add_mul_mod_self_right]
end Go.Na
namespace Go.PM
open Go Go.Na
theorem bnQ {A W Z:List Nat} {i:Nat} (hi:i<W.length):(aH (A++W++Z))[A.length+i]?=some [.int .u32 ((W[i]:Nat):Int)]:=by
 have hl:A.length+i<(A++W++Z).length:=by simp; omega
 rw[bL _ hl]
 congr 4
 rw[List.getElem_append_left (by simp; omega),List.getElem_append_right Om]
 congr 1
 omega
def dF (u v:PV) (n:Nat) (q:PV) (top next j s:Nat):PF:=((((((((PF.nil.set 8 (.int .u64 s)).set 9 (u)).set 10 (v)).set 11 (.int .i64 n)).set 12 (q)).set 13 (.int .u64 top)).set 14 (.int .u64 next)).set 15 (.int .i64 j))
def dG (u v:PV) (n:Nat) (q:PV) (top next j s g r:Nat):PF:=((((((((((PF.nil.set 8 (.int .u64 s)).set 9 (u)).set 10 (v)).set 11 (.int .i64 n)).set 12 (q)).set 13 (.int .u64 top)).set 14 (.int .u64 next)).set 15 (.int .i64 j)).set 17 (.int .u64 g)).set 18 (.int .u64 r))
theorem asS {C:Ctx} {V Wv top next Vr head u2 Wr p:Nat} (Kk:Kn V Wv top next Vr head u2 Wr p) (htop:top<4294967296) (o lu m j s:Nat) (v q:PV) (hjm:j+m+2<lu) (hlu:lu≤100000) (U:List Nat) (hU:(aH U)[j+m]?=some [.int .u32 (u2:Nat)]) (K:cN) (F:PF) (H:PH)
  (hF:(dG (.osl o 1 0 lu) v (m+2) q top next j s (head/top) (head%top)).le F) (hH:H o=some (.rows 1 (aH U)))
  (hK:∀ g r F',Wv/V≤g→g≤Wv/V+1→g≤4294967296→(dG (.osl o 1 0 lu) v (m+2) q top next j s g r).le F'→K .normal F' H) :
  aC.wp C (.block 4 (.loop rZ)) K F H:=by
 have ht0:0<top:=by have:=Kk.htop; omega
 have hn:=Kk.bHK
 have hu2:=Kk.hu2
 simp only[go_sem]
 refine wp_loop (α:=Nat × Nat) (fun t=>dG (.osl o 1 0 lu) v (m+2) q top next j s t.1 t.2) (fun _=>H) (fun t=>t.1*top+t.2=head∧Wv/V≤t.1∧t.1≤4294967296+1∧t.2<4294967296) (fun t=>t.1) (head/top,head%top)
  ⟨by simp only; rw[bJK]; exact bLQ head top,Kk.g0,Kk.g4,Nat.lt_trans (bKA _ ht0) htop⟩ hF PH.le_refl ?_
 rintro⟨g,r⟩ ⟨hg,hq,hgl,hr⟩
 simp only at hg hq hgl hr
 have e1:IntKind.i64.wrap ((j:Int)+((m+2:Nat):Int))=((j+(m+2):Nat):Int):=fH Om
 have e2:IntKind.i64.wrap (((j+(m+2):Nat):Int)-2)=((j+m:Nat):Int):=by rw[wrap_i64 Om Om]; omega
 have hlt:((j+m:Nat):Int)<(lu:Nat):=by omega
 have eu2:IntKind.u64.wrap ((u2:Nat):Int)=((u2:Nat):Int):=bD Om
 have esh:shift .shl .u64 (r:Int) 32=some (.int .u64 ((2 ^ 32*r:Nat):Int)):=GW (s:=32) Om Om
 have e32:(2:Nat) ^ 32=4294967296:=by decide
 have eor:=orI (a:=2 ^ 32*r) (b:=u2) (n:=2 ^ 32*r+u2) Om Om (Nat.two_pow_add_eq_or_of_lt Om r).symm Om
 rw[e32] at esh eor
 have more:(g≥4294967296∨g*next>r*4294967296+u2)→∀ F':PF,(dG (.osl o 1 0 lu) v (m+2) q top next j s g r).le F'→aC.wp C (.block 5 (.seq (.region zL) (.seq (.region zM) (.seq (.region zN) (.cond (.tmp 136) (.exit 4) .skip)))))
   (eF (fun t:Nat × Nat=>dG (.osl o 1 0 lu) v (m+2) q top next j s t.1 t.2) (fun _=>H) (fun t=>t.1*top+t.2=head∧Wv/V≤t.1∧t.1≤4294967296+1∧t.2<4294967296) (fun t=>t.1) g (dX 4 K)) F' H:=by
  intro hc F' hF'
  obtain⟨g1,g2⟩:=Kk.g1 hg hq hc
  have f8:=hF' 8 _ (by unfold dG; simp only[go_sem,γ]; rfl)
  have f9:=hF' 9 _ (by unfold dG; simp only[go_sem,γ]; rfl)
  have f10:=hF' 10 _ (by unfold dG; simp only[go_sem,γ]; rfl)
  have f11:=hF' 11 _ (by unfold dG; simp only[go_sem,γ]; rfl)
  have f12:=hF' 12 _ (by unfold dG; simp only[go_sem,γ]; rfl)
  have f13:=hF' 13 _ (by unfold dG; simp only[go_sem,γ]; rfl)
  have f14:=hF' 14 _ (by unfold dG; simp only[go_sem,γ]; rfl)
  have f15:=hF' 15 _ (by unfold dG; simp only[go_sem,γ]; rfl)
  have f17:=hF' 17 _ (by unfold dG; simp only[go_sem,γ]; rfl)
  have f18:=hF' 18 _ (by unfold dG; simp only[go_sem,γ]; rfl)
  have w1:IntKind.u64.wrap ((g:Int)-1)=((g-1:Nat):Int):=by rw[wrap_u64 Om Om]; omega
  have w2:IntKind.u64.wrap ((r:Int)+(top:Int))=((r+top:Nat):Int):=eM Om
  have hg':(g-1)*top+(r+top)=head:=by
   obtain⟨k,rfl⟩:∃ k,g=k+1:=⟨g-1,by omega⟩
   rw[bJP,Nat.one_mul] at hg
   simp only[Nat.add_sub_cancel]
   omega
  simp only[go_sem,δ,γ,zL,zM,zN,f17,f18,f13,w1,w2]
  by_cases c:r+top≥4294967296
  ·have c':((r+top:Nat):Int)≥4294967296:=by omega
   simp only[go_sem,γ,c']
   refine hK (g-1) (r+top) _ g2 (Kk.g3 hg' Om c) Om ?_
   unfold dG
   exact Lq
  ·have c':¬ ((r+top:Nat):Int)≥4294967296:=by omega
   simp only[go_sem,c']
   refine aK (g-1,r+top) ⟨hg',g2,by simp only; omega,by simp only; omega⟩ (by simp only; omega) ?_ PH.le_refl
   unfold dG
   exact Lq
 simp only[go_sem,δ,γ,rZ,SK,dG]
 by_cases c1:g≥4294967296
 ·have c1':(g:Int)≥4294967296:=by omega
  simp only[go_sem,γ,c1']
  have:=more (.inl c1)
  simp only[go_sem,δ,dG] at this
  refine this _ ?_
  exact Lq
 ·have c1':¬ (g:Int)≥4294967296:=by omega
  have hgn:g*next≤4294967295*4294967295:=Nat.mul_le_mul Om Om
  have em:IntKind.u64.wrap ((g:Int)*(next:Int))=((g*next:Nat):Int):=by
   rw[show (g:Int)*(next:Int)=((g*next:Nat):Int) by simp]
   exact bD Om
  simp only[go_sem,γ,reduceCtorEq,c1',em,esh,e1,e2,hlt,hH,hU,eu2,eor]
  by_cases c2:g*next>r*4294967296+u2
  ·have c2':((g*next:Nat):Int)>((4294967296*r+u2:Nat):Int):=by omega
   simp only[go_sem,c2']
   have:=more (.inr c2)
   simp only[go_sem,δ,dG] at this
   refine this _ ?_
   exact Lq
  ·have c2':¬ ((g*next:Nat):Int)>((4294967296*r+u2:Nat):Int):=by omega
   simp only[go_sem,c2']
   refine hK g r _ hq (Kk.g2 hg Om Om) Om ?_
   unfold dG
   exact Lq
end Go.PM
namespace Go.Na
theorem buE {W v:List Nat} {m:Nat} (hW:Lim W) (hv:Lim v) (hlv:v.length=m+2) (hlW:W.length=m+3) (ht:2147483648≤v[m+1]) (hlt:val W<val v*4294967296) :
  Kn (val v) (val W) (v[m+1]) (v[m]) (val (v.take m)) (W[m+2]*4294967296+W[m+1]) (W[m]) (val (W.take m)) (4294967296 ^ m):=by
 have e1:val v=val (v.take m)+4294967296 ^ m*(v[m]+4294967296*v[m+1]):=by
  rw[pP v (Om:m<v.length)]
  congr 4
  have:v.drop (m+1)=[v[m+1]]:=by
   rw[bKG Om,bLU Om]
  rw[this]; simp[val]
 have e2:val W=val (W.take m)+4294967296 ^ m*(W[m]+4294967296*(W[m+1]+4294967296*W[m+2])):=by
  rw[pP W (Om:m<W.length)]
  congr 4
  have:W.drop (m+1)=[W[m+1],W[m+2]]:=by
   rw[bKG Om,bKG Om,bLU Om]
  rw[this]; simp[val]
 have l1:=eJ (hv.take m)
 have l2:=eJ (hW.take m)
 rw[bJF,bKO Om] at l1 l2
 refine⟨?_,?_,l1,l2,ht,hv _ (bIR _),hW _ (bIR _),hlt⟩
 ·rw[e1,bIZ,bJK (4294967296 ^ m) (v[m]),← bJH (4294967296 ^ m),bJK (4294967296 ^ m*4294967296),bJK (4294967296 ^ m) 4294967296]
  omega
 ·rw[e2,bIZ,bJK (4294967296 ^ m) (W[m]),← bJH (4294967296 ^ m),bJK (4294967296 ^ m*4294967296),bJK (4294967296 ^ m) 4294967296,bJK (W[m+2]),Nat.add_comm (4294967296*W[m+2])]
  omega
end Go.Na
namespace Go.PM
open Go Go.Na
structure asZ (C:Ctx):Prop where
 subtract:∀ (A W Z v:List Nat) (f o:Nat),Lim W→Lim v→W.length=v.length+1→A.length+v.length≤100000→f≤4294967296→val v*f≤val W+4294967296 ^ (v.length+1) →
  aD C 142 [.osl o 1 A.length (v.length+1),aF v,.int .u64 f] (PH.nil.set o (.rows 1 (aH (A++W++Z)))) (fun r H'=>r=.bool (decide (val W<val v*f))∧H'=PH.nil.set o (.rows 1 (aH (A++dL (v.length+1) (HB (v.length+1) (val W) (val v*f))++Z))))
 restore:∀ (A W Z v:List Nat) (o:Nat),Lim W→Lim v→W.length=v.length+1→A.length+v.length≤100000 →
  aD C 139 [.osl o 1 A.length (v.length+1),aF v] (PH.nil.set o (.rows 1 (aH (A++W++Z)))) (fun r H'=>r=.tup []∧H'=PH.nil.set o (.rows 1 (aH (A++dL (v.length+1) (val W+val v)++Z))))
theorem avB (k n:Nat):dL k (n%4294967296 ^ k)=dL k n :=
 aOQ (kP _ _) (kP _ _) (by rw[jT,jT]) (by rw[wS,wS,Nat.mod_mod])
theorem asR {C:Ctx} (D:asZ C) (A W Z v Q:List Nat) (m o oq lu s:Nat) (hne:oq≠o) (hW:Lim W) (hv:Lim v) (hlv:v.length=m+2) (hlW:W.length=m+3) (ht:2147483648≤v[m+1]) (hlt:val W<val v*4294967296)
  (hlu:lu=A.length+(m+3)+Z.length) (bID:lu≤10000) (hjq:A.length<Q.length) (K:cN) (F:PF) (H:PH) (hF:(dF (.osl o 1 0 lu) (aF v) (m+2) (.osl oq 1 0 Q.length) (v[m+1]) (v[m]) A.length s).le F)
  (hH:H o=some (.rows 1 (aH (A++W++Z)))) (hHq:H oq=some (.rows 1 (aH Q)))
  (hK:∀ F' H',(dF (.osl o 1 0 lu) (aF v) (m+2) (.osl oq 1 0 Q.length) (v[m+1]) (v[m]) A.length s).le F'→H' o=some (.rows 1 (aH (A++dL (m+3) (val W%val v)++Z)))→H' oq=some (.rows 1 (aH (Q.set A.length (val W/val v))))→K .normal F' H') :
  aC.wp C (.block 3 (.seq (.draw zJ) (.seq (.draw zK) (.seq (.block 4 (.loop rZ)) (.seq (.seq (.region zO) (.cond (.tmp 146) (.seq (.region zP) (.region zQ)) .skip)) (.region sA)))))) K F H:=by
 have Kk:=buE hW hv hlv hlW ht hlt
 have hgetU:∀ i (h:i<W.length),(aH (A++W++Z))[A.length+i]?=some [.int .u32 ((W[i]:Nat):Int)]:=fun i h=>bnQ h
 have g0:=hgetU (m+2) Om
 have g1:=hgetU (m+1) Om
 have g2:=hgetU m Om
 have hq:=Kk.brB
 have htop:v[m+1]<4294967296:=hv _ (bIR _)
 have hu0:=hW _ (bIR (Om:m+2<W.length))
 have hu1:=hW _ (bIR (Om:m+1<W.length))
 have hVpos:=Kk.atW.1
 generalize hte:v[m+1]=top at *
 generalize hnx:v[m]=next at *
 generalize hw0:W[m+2]=u0 at *
 generalize hw1:W[m+1]=u1 at *
 generalize hw2:W[m]=u2 at *
 have f8:=hF 8 _ (by unfold dF; simp only[go_sem,γ]; rfl)
 have f9:=hF 9 _ (by unfold dF; simp only[go_sem,γ]; rfl)
 have f10:=hF 10 _ (by unfold dF; simp only[go_sem,γ]; rfl)
 have f11:=hF 11 _ (by unfold dF; simp only[go_sem,γ]; rfl)
 have f12:=hF 12 _ (by unfold dF; simp only[go_sem,γ]; rfl)
 have f13:=hF 13 _ (by unfold dF; simp only[go_sem,γ]; rfl)
 have f14:=hF 14 _ (by unfold dF; simp only[go_sem,γ]; rfl)
 have f15:=hF 15 _ (by unfold dF; simp only[go_sem,γ]; rfl)
 have e1:IntKind.i64.wrap ((A.length:Int)+((m+2:Nat):Int))=((A.length+(m+2):Nat):Int):=fH Om
 have e2:IntKind.i64.wrap (((A.length+(m+2):Nat):Int)-1)=((A.length+(m+1):Nat):Int):=by rw[wrap_i64 Om Om]; omega
 have c0:((A.length+(m+2):Nat):Int)<(lu:Nat):=by omega
 have c1:((A.length+(m+1):Nat):Int)<(lu:Nat):=by omega
 have eu0:IntKind.u64.wrap ((u0:Nat):Int)=((u0:Nat):Int):=bD Om
 have eu1:IntKind.u64.wrap ((u1:Nat):Int)=((u1:Nat):Int):=bD Om
 have esh:shift .shl .u64 (u0:Int) 32=some (.int .u64 ((2 ^ 32*u0:Nat):Int)):=GW (s:=32) Om Om
 have e32:(2:Nat) ^ 32=4294967296:=by decide
 have eor:=orI (a:=2 ^ 32*u0) (b:=u1) (n:=2 ^ 32*u0+u1) Om Om (Nat.two_pow_add_eq_or_of_lt Om u0).symm Om
 rw[e32] at esh eor
 have hcm:4294967296*u0+u1=u0*4294967296+u1:=by omega
 rw[hcm] at eor
 simp only[go_sem]
 refine bT H eG PH.le_refl ?_
 simp only[go_sem,γ,reduceCtorEq,zJ,f9,f15,f11,e1,e2,c0,c1,hH,g0,g1,eu0,eu1,esh,eor]
 refine bT H eG PH.le_refl ?_
 have ht0:0<top:=by omega
 have htz:¬ ((top:Nat):Int)=0:=by omega
 generalize hhd:u0*4294967296+u1=head at *
 have equo:IntKind.u64.wrap (Int.tdiv ((head:Nat):Int) ((top:Nat):Int))=((head/top:Nat):Int):=by
  rw[show Int.tdiv ((head:Nat):Int) ((top:Nat):Int)=((head/top:Nat):Int) from rfl]
  exact bD (by have:=Kk.g4; omega)
 have erem:Int.tmod ((head:Nat):Int) ((top:Nat):Int)=((head%top:Nat):Int):=rfl
 simp only[go_sem,γ,zK,f13,htz,equo,erem]
 have guess:=asS (C:=C) Kk htop o lu m A.length s (aF v) (.osl oq 1 0 Q.length) Om Om (A++W++Z) g2
 simp only[go_sem] at guess
 refine guess _ _ H ?_ hH ?_
 ·unfold dG
  refine PF.aI (PF.aI (PF.aI (PF.aI (PF.aI (PF.aI (PF.aI (PF.aI (PF.aI (PF.aI PF.nil_le ?_) ?_) ?_) ?_) ?_) ?_) ?_) ?_) ?_) ?_<;>simp only[go_sem,γ,f8,f9,f10,f11,f12,f13,f14,f15]
 clear guess
 intro g r F' q1 q2 q3 hF'
 have h8:=hF' 8 _ (by unfold dG; simp only[go_sem,γ]; rfl)
 have h9:=hF' 9 _ (by unfold dG; simp only[go_sem,γ]; rfl)
 have h10:=hF' 10 _ (by unfold dG; simp only[go_sem,γ]; rfl)
 have h11:=hF' 11 _ (by unfold dG; simp only[go_sem,γ]; rfl)
 have h12:=hF' 12 _ (by unfold dG; simp only[go_sem,γ]; rfl)
 have h13:=hF' 13 _ (by unfold dG; simp only[go_sem,γ]; rfl)
 have h14:=hF' 14 _ (by unfold dG; simp only[go_sem,γ]; rfl)
 have h15:=hF' 15 _ (by unfold dG; simp only[go_sem,γ]; rfl)
 have h17:=hF' 17 _ (by unfold dG; simp only[go_sem,γ]; rfl)
 have e3:IntKind.i64.wrap (((A.length+(m+2):Nat):Int)+1)=((A.length+(m+3):Nat):Int):=by rw[wrap_i64 Om Om]; omega
 have c3:((A.length:Nat):Int)≤((A.length+(m+3):Nat):Int):=by omega
 have c4:((A.length+(m+3):Nat):Int)≤(lu:Nat):=by omega
 have e4:A.length+(m+3)-A.length=v.length+1:=by omega
 have hvl:v.length+1=m+3:=by omega
 have hdm:val v*(val W/val v)+val W%val v=val W:=bLQ _ _
 have hWlt:=eJ hW
 rw[hlW] at hWlt
 have hmodlt:val W%val v<val v:=bKA _ hVpos
 have hvlt:=eJ hv
 rw[hlv] at hvlt
 have hpow:4294967296 ^ (m+3)=4294967296 ^ (m+2)*4294967296:=bKE _ _
 generalize hQd:val W/val v=qd at *
 generalize hRd:val W%val v=rd at *
 have hfin:∀ (F2:PF) (H2:PH),F2 8=some (.int .u64 s)→F2 9=some (.osl o 1 0 lu)→F2 10=some (aF v)→F2 11=some (.int .i64 ((m+2:Nat):Int))→F2 12=some (.osl oq 1 0 Q.length)→F2 13=some (.int .u64 top)→F2 14=some (.int .u64 next)→F2 15=some (.int .i64 A.length)→F2 17=some (.int .u64 qd) →
   H2 o=some (.rows 1 (aH (A++dL (m+3) rd++Z)))→H2 oq=some (.rows 1 (aH Q))→aC.wp C (.region sA) (dX 3 K) F2 H2:=by
  intro F2 H2 k8 k9 k10 k11 k12 k13 k14 k15 k17 kH kQ
  have hqr:(aH Q)[A.length]?=some [.int .u32 ((Q[A.length]:Nat):Int)]:=bL Q hjq
  have hlq:((A.length:Nat):Int)<(Q.length:Nat):=by omega
  have eq:IntKind.u32.wrap ((qd:Nat):Int)=((qd:Nat):Int):=by rw[cB,bJV hq]
  have bGV:=eT Q A.length qd
  have bHN:¬ o=oq:=fun h=>hne h.symm
  simp only[go_sem,γ,sA,k12,k15,k17,eq,hlq,kQ,hqr,bGV]
  refine hK _ _ ?_ (by simp only[go_sem,bHN,kH]) Sq
  unfold dF
  refine PF.aI (PF.aI (PF.aI (PF.aI (PF.aI (PF.aI (PF.aI (PF.aI PF.nil_le ?_) ?_) ?_) ?_) ?_) ?_) ?_) ?_<;>simp only[go_sem,γ,k8,k9,k10,k11,k12,k13,k14,k15]
 have hle:(PH.nil.set o (.rows 1 (aH (A++W++Z)))).le H:=PH.aI PH.nil_le hH
 have bHX:val v*g≤val W+4294967296 ^ (v.length+1):=by
  have:val v*g≤val v*(qd+1):=bKP _ q2
  rw[bIZ,Nat.mul_one] at this
  rw[hvl,hpow]; omega
 simp only[go_sem,γ,reduceCtorEq,zO,h9,h15,h11,e1,e3,c3,c4,e4,h10,h17]
 refine fD (D.subtract A W Z v g o hW hv Om Om q3 bHX) rfl hle ?_
 rintro rr H' ⟨rfl,rfl⟩ -
 rw[PH.lD]
 by_cases hgq:g=qd
 ·subst hgq
  have hneg:¬ val W<val v*g:=by omega
  have hN:HB (v.length+1) (val W) (val v*g)=rd:=by unfold HB; rw[if_neg hneg]; omega
  rw[hN,hvl]
  simp only[go_sem,γ,hneg]
  have:=hfin
  simp only[go_sem] at this
  refine this _ _ ?_ ?_ ?_ ?_ ?_ ?_ ?_ ?_ ?_ ?_ ?_<;>simp only[go_sem,γ,h8,h9,h10,h11,h12,h13,h14,h15,h17,hne,hHq]
 ·have hg1:g=qd+1:=by omega
  subst hg1
  rw[bIZ,Nat.mul_one]
  have hneg:val W<val v*qd+val v:=by omega
  have hN:HB (v.length+1) (val W) (val v*qd+val v)=rd+4294967296 ^ (m+3)-val v:=by unfold HB; rw[if_pos hneg,hvl]; omega
  rw[hN]
  have w1:IntKind.u64.wrap (((qd+1:Nat):Int)-1)=((qd:Nat):Int):=by rw[wrap_u64 Om Om]; omega
  simp only[go_sem,γ,reduceCtorEq,hneg,zP,h17,w1,zQ,h9,h15,h11,e1,e3,c3,c4,e4,h10]
  have hD':val (dL (v.length+1) (rd+4294967296 ^ (m+3)-val v))=rd+4294967296 ^ (m+3)-val v:=mF (by rw[hvl]; omega)
  refine fD (D.restore A (dL (v.length+1) (rd+4294967296 ^ (m+3)-val v)) Z v o (kP _ _) hv (jT _ _) Om) rfl (PH.aI PH.nil_le Sq) ?_
  rintro rr H' ⟨rfl,rfl⟩ -
  rw[PH.lD,PH.set_set,hD']
  have hfinal:dL (v.length+1) (rd+4294967296 ^ (m+3)-val v+val v)=dL (m+3) rd:=by
   rw[hvl,← avB (m+3) (rd+4294967296 ^ (m+3)-val v+val v)]
   rw[show rd+4294967296 ^ (m+3)-val v+val v=rd+4294967296 ^ (m+3) by omega,Nat.add_mod_right,avB]
  rw[hfinal]
  simp only[go_sem]
  have:=hfin
  simp only[go_sem] at this
  refine this _ _ ?_ ?_ ?_ ?_ ?_ ?_ ?_ ?_ ?_ ?_ ?_<;>simp only[go_sem,γ,h8,h9,h10,h11,h12,h13,h14,h15,hne,hHq]
open Go
section
variable {C:Ctx} {K:cN} {F:PF} {H Hs:PH} {S:Spec}
theorem aLO {name:Nat} {vs:List PV} {R:PV→PH→Prop} {args:List aP} {st:Bool} {d:Option Nat} {K:PF→PH→Prop} (hS:S name vs=some ([],fun _=>R)) (h:aD C name vs .nil R) (ha:aP.evs F args=some vs)
  (hex:∀ G:PH,∃ r H',R r H'∧kG G .nil H') (hk:∀ r H',R r H'→kG H .nil H'→Hs.le (H.eN .nil H')∧K (F.put d r) (H.eN .nil H')):dOp C Hs S st (.call name args) d K F H:=by
 refine⟨vs,[],fun _=>R,ha,hS,fun o ho=>by simp at ho,by rw[GH]; exact h,fun G=>?_,fun r H' hr ha=>?_⟩
 ·obtain⟨r,H',h1,h2⟩:=hex G
  exact⟨r,H',h1,fun o x hx hn=>h2 o x hx (by simp[PH.nil])⟩
 ·rw[GH] at ha ⊢
  exact hk r H' hr ha
theorem PH.NB (H0:PH) (h:H0.le H):H.eN H0 H0=H:=PH.ext fun q=>by
 rw[lC]
 cases e:H0 q with
 | none=>rfl
 | some x=>exact (h q x e).symm
theorem WN {o:Nat} {x:cP} (h:H o=some x):H.only [o]=PH.nil.set o x:=PH.ext fun q=>by
 rw[mD,bH]
 by_cases e:q=o
 ·subst e; simp[h]
 ·simp[e,aiD]
theorem UJ {name o:Nat} {x:cP} {vs:List PV} {v:PV} {R:PH→PV→PH→Prop} {args:List aP} {st:Bool} {d:Option Nat} {K:PF→PH→Prop} (hS:S name vs=some ([o],R)) (ho:H o=some x)
  (h:aD C name vs (PH.nil.set o x) (fun r H'=>r=v∧H'=PH.nil.set o x)) (hR1:R (PH.nil.set o x) v (PH.nil.set o x)) (hR2:∀ r H',R (PH.nil.set o x) r H'→r=v∧H'=PH.nil.set o x) (ha:aP.evs F args=some vs) (hle:Hs.le H) (hk:K (F.put d v) H) :
  dOp C Hs S st (.call name args) d K F H:=by
 have e:=WN ho
 refine⟨vs,[o],_,ha,hS,fun q hq=>?_,?_,fun G=>⟨v,_,by rw[e]; exact hR1,fun q y hy hn=>?_⟩,fun r H' hr _=>?_⟩
 ·simp at hq; subst hq; exact⟨x,ho⟩
 ·rw[e]
  exact h.post fun r H' hr=>⟨r,.refl _,by rw[hr.1,hr.2]; exact hR1⟩
 ·rw[e] at hn; rw[hy] at hn; cases hn
 ·rw[e] at hr
  obtain⟨rfl,rfl⟩:=hR2 r H' hr
  rw[e,PH.NB _ (by rw[← e]; exact CB H [o])]
  exact⟨hle,hk⟩
theorem aLC {c:aC} {α:Type} (Fs:α→PF) (Hs:α→PH) (Pr:α→Prop) (m:α→Nat) (a0:α) (o:Nat) {s:Nat} {rs:List (List PV)} (ho:H o=some (.rows s rs)) (h0:Pr a0) (hF:(Fs a0).le (F.frz o s rs)) (hH:(Hs a0).le (H.frz o s rs))
  (hb:∀ a,Pr a→c.wp C (eF Fs Hs Pr m (m a) K) (Fs a) (Hs a)):aC.wp C (.loop c) K F H :=
 ⟨α,Fs,Hs,Pr,m,a0,_,_,.step o ho (.refl _ _),h0,hF,hH,hb⟩
@[go_sem] theorem uY (o s:Nat) (rs:List (List PV)) (q:Nat):(H.frz o s rs) q=if q=o then none else (H q).map (cP.frz o s rs):=(rfl)
theorem a7I {t u o1 o2 s1 s2 k1 k2:Nat} {rs1 rs2:List (List PV)} {R:PV→PH→Prop} {e:lH} (he:e=.normal∨e=.ret) (hne:o1≠o2) (h1:F t=some (.osl o1 s1 0 k1)) (h2:F u=some (.osl o2 s2 0 k2)) (ho1:H o1=some (.rows s1 rs1)) (ho2:H o2=some (.rows s2 rs2))
  (hk1:k1≤rs1.length) (hk2:k2≤rs2.length) (hp2:rs2.map (fun r=>r.map (PV.dB o1 s1 rs1))=rs2) (hp1:(rs1.take k1)=rs1.take k1) (hR:R (.tup [.sl s1 (rs1.take k1),.sl s2 (rs2.take k2)]) .nil):aU [.tmp t,.tmp u] R e F H:=by
 have key:∃ vs,dU.evs F H [.tmp t,.tmp u]=some vs∧∃ F1 H1 H2,hJ (PF.nil.set 0 (aX vs)) H F1 H1∧H2.le H1∧∃ w,F1 0=some w∧R w H2:=by
  have bHN:o2≠o1:=fun h=>hne h.symm
  have e2:(H.frz o1 s1 rs1) o2=some (.rows s2 rs2):=by rw[uY,if_neg bHN,ho2]; simp only[bJW,cP.frz,hp2]
  refine⟨[.osl o1 s1 0 k1,.osl o2 s2 0 k2],by rw[kU,nP,h1,kU,nP,h2,pN],_,_,.nil,.step o1 ho1 (.step o2 e2 (.refl _ _)),PH.nil_le,_,?_,hR⟩
  have a1:0+k1≤rs1.length:=by omega
  have a2:0+k2≤rs2.length:=by omega
  simp only[PF.frz,lE,if_true,aX,bJW,PV.frz,PV.rF,PV.dB,bKV,List.map_nil,true_and,if_pos a1,if_pos a2,bJO,if_neg bHN]
 rcases he with rfl | rfl<;>exact key
end
end Go.PM
namespace Go.Na
structure mN (U0 V n lu lq:Nat) (k:Nat) (U Q:List Nat):Prop where
 lu':U.length=lu
 lq':Q.length=lq
 limU:Lim U
 limQ:Lim Q
 v:val U+val Q*V=U0
 r:val (U.drop k)<V
 z:∀ i x,i<k→Q[i]?=some x→x=0
theorem avC {U0 V n lu lq j:Nat} {U Q:List Nat} (h:mN U0 V n lu lq (j+1) U Q) (hV:V<4294967296 ^ n) (hj:j<lq) (hl:lu=lq+n) :
  val ((U.drop j).take (n+1))<V*4294967296∧mN U0 V n lu lq j (U.take j++dL (n+1) (val ((U.drop j).take (n+1))%V)++U.drop (j+(n+1))) (Q.set j (val ((U.drop j).take (n+1))/V)):=by
 have hlu:=h.lu'
 have hlq:=h.lq'
 have hVpos:0<V:=by have:=h.r; omega
 have hju:j<U.length:=by omega
 have e1:val (U.drop j)=U[j]+4294967296*val (U.drop (j+1)):=by rw[bKG hju]; rfl
 have hUj:=h.limU _ (bIR hju)
 have hlt:val (U.drop j)<V*4294967296:=by have:=h.r; omega
 have hlW:((U.drop j).take (n+1)).length=n+1:=by rw[bJF,bKN]; omega
 have e2:val (U.drop j)=val ((U.drop j).take (n+1))+4294967296 ^ (n+1)*val (U.drop (j+(n+1))):=by
  conv=>lhs; rw[← bKZ (n+1) (U.drop j),fC,hlW,List.drop_drop]
 have hpow:4294967296 ^ (n+1)=4294967296 ^ n*4294967296:=bKE _ _
 have hVB:V*4294967296≤4294967296 ^ n*4294967296:=bJS _ (Nat.le_of_lt hV)
 have hZ:val (U.drop (j+(n+1)))=0:=by
  rcases bLK (val (U.drop (j+(n+1)))) with h0 | h0
  ·exact h0
  ·have:=bKP (4294967296 ^ (n+1)) h0
   omega
 rw[hZ,Nat.mul_zero,bKD] at e2
 generalize hW:val ((U.drop j).take (n+1))=W at *
 have e3:val U=val (U.take j)+4294967296 ^ j*W:=by
  conv=>lhs; rw[← bKZ j U,fC,bJF,bKO Om,e2]
 have hmod:W%V<V:=bKA _ hVpos
 have hdm:V*(W/V)+W%V=W:=bLQ _ _
 have hqB:W/V<4294967296:=by rw[bLG hVpos,bJK]; omega
 have hD:val (dL (n+1) (W%V))=W%V:=mF Om
 have hQj:Q[j]=0:=h.z j _ Om (bIW Om)
 have bIF:=CL (Om:j<Q.length) (W/V)
 rw[hQj,Nat.mul_zero,bKD] at bIF
 have bGP:(U.take j).length=j:=by rw[bJF]; omega
 refine⟨by omega,?_,?_,?_,?_,?_,?_,?_⟩
 ·simp only[bIU,jT,bKN,bJF]; omega
 ·rw[bKI]; exact hlq
 ·exact ((h.limU.take j).app (kP _ _)).app (h.limU.drop _)
 ·exact h.limQ.set _ hqB
 ·rw[bJM,fC,fC,bGP,hD,jT,hZ,Nat.mul_zero,bKD,bIF]
  have:=h.v
  have h5:(val Q+4294967296 ^ j*(W/V))*V=val Q*V+4294967296 ^ j*(V*(W/V)):=by
   rw[bJP,bJH,bJK (W/V) V]
  have h6:4294967296 ^ j*W=4294967296 ^ j*(V*(W/V))+4294967296 ^ j*(W%V):=by rw[← bIZ,hdm]
  omega
 ·rw[bJM,List.drop_append_of_le_length Om,bLU Om,bLF,fC,hD,hZ,Nat.mul_zero,bKD]
  exact hmod
 ·intro i x hi hx
  rw[List.getElem?_set_ne Om] at hx
  exact h.z i x Om hx
end Go.Na
namespace Go.PM
open Go Go.Na
def dI (u v:PV) (n:Nat) (q:PV) (top next s:Nat) (j:Int):PF:=((((((((PF.nil.set 8 (.int .u64 s)).set 9 (u)).set 10 (v)).set 11 (.int .i64 n)).set 12 (q)).set 13 (.int .u64 top)).set 14 (.int .u64 next)).set 15 (.int .i64 j))
theorem pG (o s:Nat) (rs:List (List PV)) (L:List Nat):(aH L).map (fun r=>r.map (PV.dB o s rs))=aH L:=by
 unfold aH
 rw[List.map_map]
 rfl
theorem aBT {C:Ctx} (D:asZ C) (U0 m lu lq o o2 oq s:Nat) (v vfull:List Nat) (h2:o2≠o) (h3:oq≠o) (h4:oq≠o2) (hv:Lim v) (hlv:v.length=m+2) (hvf:(aH vfull).take (m+2)=aH v) (hvl:m+2≤vfull.length) (ht:2147483648≤v[m+1])
  (hlu:lu=lq+(m+2)) (bID:lu≤10000) (U:List Nat) (hI:mN U0 (val v) (m+2) lu lq lq U (bIP lq 0)) (K:cN) (F:PF) (H:PH)
  (hF:(dI (.osl o 1 0 lu) (.osl o2 1 0 (m+2)) (m+2) (.osl oq 1 0 lq) (v[m+1]) (v[m]) s ((lq:Int)-1)).le F) (hH:H o=some (.rows 1 (aH U))) (hHv:H o2=some (.rows 1 (aH vfull))) (hHq:H oq=some (.rows 1 (aH (bIP lq 0))))
  (hK:∀ U' Q' F',mN U0 (val v) (m+2) lu lq 0 U' Q'→(dI (.osl o 1 0 lu) (aF v) (m+2) (.osl oq 1 0 lq) (v[m+1]) (v[m]) s (-1)).le F'→K .normal F' ((PH.nil.set o (.rows 1 (aH U'))).set oq (.rows 1 (aH Q')))) :
  aC.wp C (.block 2 (.loop zH)) K F H:=by
 have f8:=hF 8 _ (by unfold dI; simp only[go_sem,γ]; rfl)
 have f9:=hF 9 _ (by unfold dI; simp only[go_sem,γ]; rfl)
 have f10:=hF 10 _ (by unfold dI; simp only[go_sem,γ]; rfl)
 have f11:=hF 11 _ (by unfold dI; simp only[go_sem,γ]; rfl)
 have f12:=hF 12 _ (by unfold dI; simp only[go_sem,γ]; rfl)
 have f13:=hF 13 _ (by unfold dI; simp only[go_sem,γ]; rfl)
 have f14:=hF 14 _ (by unfold dI; simp only[go_sem,γ]; rfl)
 have f15:=hF 15 _ (by unfold dI; simp only[go_sem,γ]; rfl)
 have hne2:¬ o=o2:=fun h=>h2 h.symm
 have hne4:¬ oq=o2:=h4
 have hne3:¬ o=oq:=fun h=>h3 h.symm
 have hfi:∀ (k:IntKind) (n:Int),PV.frz o2 1 (aH vfull) (.int k n)=.int k n:=fun _ _=>rfl
 have hfu:∀ l,PV.frz o2 1 (aH vfull) (.osl o 1 0 l)=.osl o 1 0 l:=fun l=>by simp only[PV.frz,PV.rF,PV.dB,if_neg hne2]
 have hfq:∀ l,PV.frz o2 1 (aH vfull) (.osl oq 1 0 l)=.osl oq 1 0 l:=fun l=>by simp only[PV.frz,PV.rF,PV.dB,if_neg hne4]
 have hfv:PV.frz o2 1 (aH vfull) (.osl o2 1 0 (m+2))=aF v:=by
  have:0+(m+2)≤(aH vfull).length:=by rw[bU]; omega
  simp only[PV.frz,PV.rF,PV.dB,if_true,true_and,if_pos this,bJO,hvf]
 simp only[go_sem]
 refine aLC (α:=Nat × List Nat × List Nat) (fun t=>dI (.osl o 1 0 lu) (aF v) (m+2) (.osl oq 1 0 lq) (v[m+1]) (v[m]) s ((t.1:Int)-1)) (fun t=>(PH.nil.set o (.rows 1 (aH t.2.1))).set oq (.rows 1 (aH t.2.2)))
  (fun t=>t.1≤lq∧mN U0 (val v) (m+2) lu lq t.1 t.2.1 t.2.2) (fun t=>t.1) (lq,U,bIP lq 0) o2 hHv ⟨bIO _,hI⟩ ?_ ?_ ?_
 ·unfold dI
  refine PF.aI (PF.aI (PF.aI (PF.aI (PF.aI (PF.aI (PF.aI (PF.aI PF.nil_le ?_) ?_) ?_) ?_) ?_) ?_) ?_) ?_<;>simp only[go_sem,f8,f9,f10,f11,f12,f13,f14,f15,hfi,hfu,hfq,hfv]
 ·refine PH.aI (PH.aI PH.nil_le ?_) ?_
  ·simp only[go_sem,hne2,hH,cP.frz,pG]
  ·simp only[go_sem,hne4,hHq,cP.frz,pG]
 rintro⟨k,U,Q⟩ ⟨hk,hI⟩
 simp only at hk hI
 simp only[go_sem,γ,zH,SJ,dI]
 by_cases h0:0<k
 ·obtain⟨j,rfl⟩:∃ j,k=j+1:=⟨k-1,by omega⟩
  have hz:((j+1:Nat):Int)-1=(j:Int):=by omega
  have hge:(j:Int)≥0:=by omega
  have hVlt:val v<4294967296 ^ (m+2):=by have:=eJ hv; rw[hlv] at this; exact this
  obtain⟨hlt,hI'⟩:=avC hI hVlt Om hlu
  have hUl:=hI.lu'
  have hQl:=hI.lq'
  have hA:(U.take j).length=j:=by rw[bJF]; omega
  have hWl:((U.drop j).take (m+3)).length=m+3:=by rw[bJF,bKN]; omega
  have hsplit:U.take j++(U.drop j).take (m+3)++U.drop (j+(m+3))=U:=by
   rw[bJM,← List.drop_drop,bKZ,bKZ]
  have hZl:(U.drop (j+(m+3))).length=lu-(j+(m+3)):=by rw[bKN,hUl]
  have key:=asR (C:=C) D (U.take j) ((U.drop j).take (m+3)) (U.drop (j+(m+3))) v Q m o oq lu s h3 ((hI.limU.drop _).take _) hv hlv hWl ht hlt (by rw[hA,hZl]; omega) bID (by rw[hA]; omega)
  rw[hA,hsplit,hQl] at key
  have e15:IntKind.i64.wrap ((j:Int)-1)=(j:Int)-1:=wrap_i64 Om Om
  simp only[go_sem,hz,hge]
  simp only[go_sem] at key
  refine key _ _ _ ?_ (by simp only[go_sem,hne3]) Sq ?_
  ·unfold dF
   exact Lq
  ·intro F' H' hF' hH' hHq'
   have g8:=hF' 8 _ (by unfold dF; simp only[go_sem,γ]; rfl)
   have g9:=hF' 9 _ (by unfold dF; simp only[go_sem,γ]; rfl)
   have g10:=hF' 10 _ (by unfold dF; simp only[go_sem,γ]; rfl)
   have g11:=hF' 11 _ (by unfold dF; simp only[go_sem,γ]; rfl)
   have g12:=hF' 12 _ (by unfold dF; simp only[go_sem,γ]; rfl)
   have g13:=hF' 13 _ (by unfold dF; simp only[go_sem,γ]; rfl)
   have g14:=hF' 14 _ (by unfold dF; simp only[go_sem,γ]; rfl)
   have g15:=hF' 15 _ (by unfold dF; simp only[go_sem,γ]; rfl)
   simp only[go_sem,γ,SL,g15,e15]
   refine aK (j,_,_) ⟨by simp only; omega,hI'⟩ (by simp only; omega) ?_ (PH.aI (PH.aI PH.nil_le hH') hHq')
   refine PF.aI (PF.aI (PF.aI (PF.aI (PF.aI (PF.aI (PF.aI (PF.aI PF.nil_le ?_) ?_) ?_) ?_) ?_) ?_) ?_) ?_<;>simp only[go_sem,γ,g8,g9,g10,g11,g12,g13,g14]
 ·have:k=0:=by omega
  subst this
  have hz:¬ ((0:Nat):Int)-1≥0:=by decide
  simp only[go_sem,hz]
  refine hK U Q _ hI ?_
  unfold dI
  (repeat' (first|exact PF.nil_le|refine PF.aI ?_ ?_))<;>first|(simp only[go_sem,ο,γ,show ((0:Nat):Int)-1=-1 from rfl]<;>rfl)|rfl
open Go Go.Na
def rFr (o lu oq lq or n s i:Nat):PF:=((((((PF.nil.set 8 (.int .u64 s)).set 9 (.osl o 1 0 lu)).set 12 (.osl oq 1 0 lq)).set 19 (.osl or 1 0 n)).set 166 (.int .i64 n)).set 167 (.int .i64 i))
theorem brP {x s:Nat} (hs:s≤64):shift .shr .u64 (x:Int) (s:Int)=some (.int .u64 ((x/2 ^ s:Nat):Int)):=by
 unfold shift
 rw[if_neg Om]
 simp only
 have:min (Int.toNat (s:Int)) IntKind.u64.bits=s:=by
  rw[show IntKind.u64.bits=64 from rfl]; omega
 rw[this,Int.fdiv_eq_ediv_of_nonneg _ (by exact_mod_cast bIX _)]
 norm_cast
theorem aBU {C:Ctx} (o lu oq lq n s:Nat) (U Q:List Nat) (hs:s<32) (h3:oq≠o) (hU:Lim U) (hl:U.length=lu) (hn:n<lu) (bID:lu≤10000) (K:cN) (F:PF)
  (f8:F 8=some (.int .u64 s)) (f9:F 9=some (.osl o 1 0 lu)) (f11:F 11=some (.int .i64 n)) (f12:F 12=some (.osl oq 1 0 lq))
  (hK:∀ or F' H',or≠o→or≠oq→(rFr o lu oq lq or n s n).le F'→H' oq=some (.rows 1 (aH Q))→H' or=some (.rows 1 (aH (dL n (val U/2 ^ s))))→K .normal F' H') :
  aC.wp C (.seq (.region zR) (.seq (.region zS) (.block 6 (.loop zI)))) K F ((PH.nil.set o (.rows 1 (aH U))).set oq (.rows 1 (aH Q))):=by
 have hm1:((n:Nat):Int)*((4:Nat):Int)≤140737488355328:=by omega
 have hm2:((n:Nat):Int)≤9223372036854775807:=by omega
 have hz:bIP n [PV.int .u32 0]=aH ([]++bIP n 0):=by
  simp[aH]
 simp only[go_sem,zR,f11,hm1,hm2,hz]
 refine aQ fun or hor=>?_
 have n1:¬ or=oq:=(cV.1 hor).1
 have n2:¬ or=o:=(cV.1 (cV.1 hor).2).1
 have n1':¬ oq=or:=fun h=>n1 h.symm
 have n2':¬ o=or:=fun h=>n2 h.symm
 have n3:¬ oq=o:=h3
 have n3':¬ o=oq:=fun h=>n3 h.symm
 simp only[go_sem,γ,zS]
 refine wp_loop (α:=List Nat) (fun P=>rFr o lu oq lq or n s P.length) (fun P=>((PH.nil.set o (.rows 1 (aH U))).set oq (.rows 1 (aH Q))).set or (.rows 1 (aH (P++bIP (n-P.length) 0)))) (fun P=>P.length≤n∧P=dL P.length (val U/2 ^ s)) (fun P=>n-P.length) []
  ⟨by simp,rfl⟩ ?_ ?_ ?_
 ·unfold rFr
  exact Lq
 ·refine PH.aI (PH.aI (PH.aI PH.nil_le ?_) ?_) ?_<;>simp only[go_sem,n1,n1',n2,n2',n3,n3',bKY]
 rintro P ⟨hP,hD⟩
 simp only[go_sem,γ,zI,SM,rFr]
 by_cases c1:P.length<n
 ·have c1':(P.length:Int)<(n:Nat):=by omega
  obtain⟨k,hk⟩:∃ k,n-P.length=k+1:=⟨n-P.length-1,by omega⟩
  have hin:(aH (P++bIP (k+1) 0))[P.length]?=some [.int .u32 ((0:Nat):Int)]:=by
   rw[bL _ (by simp)]; simp
  have a0:P.length<U.length:=by omega
  have a1:P.length+1<U.length:=by omega
  have b0:(P.length:Int)<(lu:Nat):=by omega
  have b1:((P.length+1:Nat):Int)<(lu:Nat):=by omega
  have hu0:=hU _ (bIR a0)
  have hu1:=hU _ (bIR a1)
  have e:val U/4294967296 ^ P.length=U[P.length]+4294967296*(U[P.length+1]+4294967296*val (U.drop (P.length+2))):=by
   rw[← rV hU Om,bKG a0,bKG a1]
   rfl
  have hdig:=TD hs e
  have g0:=bL U a0
  have g1:=bL U a1
  generalize hx0:U[P.length]=u0 at *
  generalize hx1:U[P.length+1]=u1 at *
  have e1:IntKind.i64.wrap ((P.length:Int)+1)=((P.length+1:Nat):Int):=dE Om
  have eu0:IntKind.u64.wrap ((u0:Nat):Int)=((u0:Nat):Int):=bD Om
  have eu1:IntKind.u64.wrap ((u1:Nat):Int)=((u1:Nat):Int):=bD Om
  have esh:shift .shl .u64 (u1:Int) 32=some (.int .u64 ((2 ^ 32*u1:Nat):Int)):=GW (s:=32) Om Om
  have e32:(2:Nat) ^ 32=4294967296:=by decide
  have eor:=orI (a:=2 ^ 32*u1) (b:=u0) (n:=2 ^ 32*u1+u0) Om Om (Nat.two_pow_add_eq_or_of_lt Om u1).symm Om
  rw[e32] at esh eor
  have eshr:=brP (x:=4294967296*u1+u0) (s:=s) Om
  have bGV:(aH (P++bIP (k+1) 0)).set P.length [.int .u32 (((4294967296*u1+u0)/2 ^ s%4294967296:Nat):Int)]=aH ((P++[(4294967296*u1+u0)/2 ^ s%4294967296])++bIP k 0):=by
   rw[eT,vG]
  simp only[go_sem,γ,c1',SN]
  refine bT .nil eG PH.nil_le ?_
  simp only[go_sem,γ,reduceCtorEq,SO,c1',e1,b0,b1,n2',n3',g0,g1,eu0,eu1,esh,eor,eshr,cB,hk,hin,bGV]
  refine⟨PH.nil_le,?_⟩
  simp only[go_sem,γ,SP,e1]
  refine aK (P++[(4294967296*u1+u0)/2 ^ s%4294967296]) ⟨by simp; omega,?_⟩ (by simp; omega) ?_ (PH.aI (PH.aI (PH.aI PH.nil_le ?_) ?_) ?_)
  ·rw[bIU,bJC,sO,← hD,hdig]
  ·rw[bIU,bJC]
   exact Lq
  ·simp only[go_sem,n2',n3']
  ·simp only[go_sem,n1']
  ·rw[bIU,bJC,show n-(P.length+1)=k by omega]
   simp only[go_sem]
 ·have e:P.length=n:=by omega
  have c1':¬ (P.length:Int)<(n:Nat):=by omega
  have bIH:bIP (n-P.length) 0=[]:=by rw[show n-P.length=0 by omega]; rfl
  rw[e] at hD
  simp only[go_sem,c1',bIH,bKM]
  refine hK or _ _ n2 n1 ?_ (by simp only[go_sem,n1']) (by simp only[go_sem]; rw[← hD])
  unfold rFr
  rw[e]
  exact Lq
structure atO (C:Ctx):Prop where
 L:oP C
 D:asZ C
 up:∀ (a:List Nat) (s:Nat),Lim a→s<32→a.length≤1000→aD C 143 [aF a,.int .u64 s] .nil (upR a s)
 short:∀ (a:List Nat) (d:Nat),Lim a→0<d→d<4294967296→a.length≤1000→aD C 140 [aF a,.int .u32 d] .nil (aE (.tup [aF (aG (val a/d)),.int .u32 ((val a%d:Nat):Int)]))
 lengthO:∀ (xs:List Nat) (o:Nat),Lim xs→xs.length≤35184372087808→aD C 138 [.osl o 1 0 xs.length] (PH.nil.set o (.rows 1 (aH xs))) (fun r H'=>r=.int .i64 (nl (val xs):Nat)∧H'=PH.nil.set o (.rows 1 (aH xs)))
def bcT:Spec:=fun name vs=>match name,vs with
 | 143,[x,.int _ s]=>some ([],fun _=>upR (gQ x) s.toNat)
 | 138,[.osl q _ _ _]=>some ([q],fun H0 r H'=>H'=H0∧∀ xs,Lim xs→H0 q=some (.rows 1 (aH xs))→r=.int .i64 (nl (val xs):Nat))
 | _,_=>none
theorem aLV (a:List Nat) (s:Nat):bcT 143 [aF a,.int .u64 s]=some ([],fun _=>upR a s):=by
 show some _=_; rw[dW,bLM]
theorem aGU (a:List Nat) (s:Nat):∀ G:PH,∃ r H',upR a s r H'∧kG G .nil H':=fun G=>by
 obtain⟨o,ho⟩:=G.fresh
 refine⟨_,_,⟨o,rfl,rfl⟩,fun q x hx _=>?_⟩
 rw[bH] at hx
 split at hx
 ·rename_i e; subst e; exact ho
 ·cases hx
theorem MI {xs ys:List Nat} (h:aH xs=aH ys):xs=ys:=by
 have:=congrArg gQ (show aF xs=aF ys by show PV.sl 1 (aH xs)=PV.sl 1 (aH ys); rw[h])
 rwa [dW,dW] at this
theorem aoT (q:Nat) (L:List Nat):(PH.nil.set q (.rows 1 (aH L)))=(PH.nil.set q (.rows 1 (aH L)))∧∀ xs,Lim xs→(PH.nil.set q (.rows 1 (aH L))) q=some (.rows 1 (aH xs))→(PV.int .i64 (nl (val L):Nat))=.int .i64 (nl (val xs):Nat):=by
 refine⟨rfl,fun xs hx e=>?_⟩
 rw[dM] at e
 have:aH L=aH xs:=(cP.rows.inj (bLB.inj e)).2
 rw[MI this]
def oA (A B:Nat):PV:=.tup [aF (aG (A/B)),aF (aG (A%B))]
def aYB (a b:List Nat) (s:Nat):PF:=(((PF.nil.set 0 (aF a)).set 1 (aF b)).set 8 (.int .u64 s))
theorem bnS {x s:Nat} (hs:s≤31) (h:x*2 ^ s<4294967296):shift .shl .u32 (x:Int) (s:Int)=some (.int .u32 ((x*2 ^ s:Nat):Int)):=by
 unfold shift
 rw[if_neg Om]
 simp only
 have:min (Int.toNat (s:Int)) IntKind.u32.bits=s:=by
  rw[show IntKind.u32.bits=32 from rfl]; omega
 rw[this,show (x:Int)*2 ^ s=((x*2 ^ s:Nat):Int) by simp,cB,bJV h]
theorem aIS {n i x:Nat} (hx:(bIP n 0)[i]?=some x):x=0:=by
 have:=bLD hx
 rw[List.mem_replicate] at this
 exact this.2
theorem aYD {C:Ctx} (Lb:atO C) (A B:Nat) (hB:B≠0) (hA:nl A≤900) (hBl:nl B≤900) :
  wG.wp C (aU BZ.res (bZ (oA A B))) (PF.args [aF (aG A),aF (aG B)]) .nil:=by
 have LA:=aT A
 have LB:=aT B
 have vA:=aR A
 have vB:=aR B
 have lA:(aG A).length=nl A:=rfl
 have lB:(aG B).length=nl B:=rfl
 simp only[go_sem,γ,reduceCtorEq,wG,abU,abV,BZ]
 refine aA (Lb.L.cmp _ _ LA LB Om Om) rfl ?_
 rw[vA,vB]
 by_cases c1:A<B
 ·have hc:dA A B<0:=by simp[dA,c1]
  simp only[go_sem,γ,reduceCtorEq,hc,abW]
  refine aA (Lb.L.trim _ LA Om) rfl ?_
  rw[vA]
  simp only[go_sem,γ]
  refine aW (vs:=[.aB,aF (aG A)]) (.inr rfl) .nil rfl PH.nil_le ⟨?_,rfl⟩
  rw[oA,bLR c1,bJV c1,eU]
  refine .tup rfl fun j p q hp hq=>?_
  match j with
  | 0=>simp at hp hq; subst hp; subst hq; exact .nil 1
  | 1=>simp at hp hq; subst hp; subst hq; exact .refl _
  | j+2=>simp at hp
 have hc:¬ dA A B<0:=by
  unfold dA
  rw[if_neg c1]
  split<;>decide
 have hB0:0<B:=bKR hB
 have hnB:nl B≠0:=fun h=>hB (fX.1 h)
 simp only[go_sem,γ,hc,abX]
 by_cases c2:nl B=1
 ·have hBB:B<4294967296:=by have:=(gI B 1).1 Om; simpa using this
  have hlb:aG B=[B]:=mB hB hBB
  have hr:A%B<B:=bKA _ hB0
  have ew:IntKind.u64.wrap ((A%B:Nat):Int)=((A%B:Nat):Int):=bD Om
  rw[hlb]
  have hsh:=Lb.short (aG A) B LA hB0 hBB Om
  rw[vA] at hsh
  simp only[go_sem,ν,γ,reduceCtorEq,show (((1:Nat):Int)==1)=true from rfl,abY]
  refine aA hsh rfl ?_
  simp only[go_sem,γ,abZ,ew]
  refine aA (Lb.L.make (A%B) Om) rfl ?_
  simp only[go_sem,γ]
  exact aW (vs:=[aF (aG (A/B)),aF (aG (A%B))]) (.inr rfl) .nil rfl PH.nil_le ⟨.refl _,rfl⟩
 obtain⟨m,hm⟩:∃ m,nl B=m+2:=⟨nl B-2,by omega⟩
 have hAB:nl B≤nl A:=eY Om
 obtain⟨bt,hbt,hbt0⟩:=aFO LB (n:=m+1) (by rw[vB]; exact hm)
 have hml:m+1<(aG B).length:=by omega
 have hbtl:bt<4294967296:=LB bt (bLD hbt)
 have hBv:B=val ((aG B).take (m+1))+4294967296 ^ (m+1)*bt:=by
  have h1:=bX (aG B) hml
  rw[bJD Om,vB] at h1
  rw[bIW hml] at hbt
  rw[bLB.inj hbt] at h1
  exact h1
 have hBlow:=eJ (LB.take (m+1))
 rw[bJF,bKO Om] at hBlow
 have bGV:(aH (aG B))[m+1]?=some [.int .u32 ((bt:Nat):Int)]:=by
  rw[bL _ hml]
  rw[bIW hml] at hbt
  rw[bLB.inj hbt]
 have i1:IntKind.i64.wrap ((((aG B).length:Nat):Int)-1)=((m+1:Nat):Int):=by rw[wrap_i64 Om Om]; omega
 have hne1:¬ (((aG B).length:Nat):Int)=1:=by omega
 simp only[go_sem,bF hne1,acA]
 refine wp_loop (α:=Nat) (fun s=>aYB (aG A) (aG B) s) (fun _=>.nil) (fun s=>s≤31∧bt*2 ^ s<4294967296) (fun s=>32-s) 0 ⟨by omega,by simpa using hbtl⟩ ?_ PH.nil_le ?_
 ·unfold aYB
  exact Lq
 rintro s ⟨hs,hbs⟩
 have esh:=bnS hs hbs
 simp only[go_sem,γ,reduceCtorEq,abT,acB,aYB,i1,bGV,esh]
 refine kO ?_ ?_
 ·intro c3
  have c3':=of_decide_eq_true c3
  have hs30:s<31:=by
   rcases bJE s 31 with h | h
   ·exact h
   ·exfalso
    have h1:2147483648≤2 ^ s:=Nat.pow_le_pow_right (show 0<2 by decide) h
    have h2:1*2 ^ s≤bt*2 ^ s:=bJS _ Om
    omega
  have es:IntKind.u64.wrap ((s:Int)+1)=((s+1:Nat):Int):=by rw[wrap_u64 Om Om]; omega
  simp only[go_sem,γ,reduceCtorEq,acC,es]
  refine aK (s+1) ⟨by omega,by rw[bKE,← bJH]; omega⟩ Om ?_ PH.nil_le
  exact Lq
 intro c3
 have c3':=of_decide_eq_false c3
 have hs32:s<32:=by omega
 have hp2:0<2 ^ s:=bLA (by decide)
 have hVlo:2147483648*4294967296 ^ (m+1)≤B*2 ^ s:=by
  have h1:2147483648*4294967296 ^ (m+1)≤(bt*2 ^ s)*4294967296 ^ (m+1):=bJS _ Om
  have h2:(4294967296 ^ (m+1)*bt)*2 ^ s≤B*2 ^ s:=bJS _ Om
  have h3:(4294967296 ^ (m+1)*bt)*2 ^ s=(bt*2 ^ s)*4294967296 ^ (m+1):=by rw[bJH,bJK]
  omega
 have hVhi:B*2 ^ s<4294967296 ^ (m+2):=by
  have h0:(bt+1)*2 ^ s≤4294967296:=by
   have e32:(4294967296:Nat)=2 ^ (32-s)*2 ^ s:=by rw[← Nat.pow_add,show 32-s+s=32 by omega]
   have:bt<2 ^ (32-s):=by
    rcases bJE bt (2 ^ (32-s)) with h | h
    ·exact h
    ·have:=bJS (2 ^ s) h
     omega
   have:=bJS (2 ^ s) (show bt+1≤2 ^ (32-s) from this)
   omega
  have h1:B<(bt+1)*4294967296 ^ (m+1):=by rw[bJP,Nat.one_mul,bJK bt]; omega
  have h2:B*2 ^ s<(bt+1)*4294967296 ^ (m+1)*2 ^ s:=Nat.mul_lt_mul_of_pos_right h1 hp2
  have h3:(bt+1)*4294967296 ^ (m+1)*2 ^ s=(bt+1)*2 ^ s*4294967296 ^ (m+1):=Nat.mul_right_comm _ _ _
  have h4:(bt+1)*2 ^ s*4294967296 ^ (m+1)≤4294967296*4294967296 ^ (m+1):=bJS _ h0
  have h5:4294967296 ^ (m+2)=4294967296*4294967296 ^ (m+1):=by rw[bKE,bJK]
  omega
 have hAlt:A<4294967296 ^ nl A:=(gI A _).1 (bIO _)
 simp only[go_sem]
 refine bT .nil bcT PH.nil_le ?_
 simp only[go_sem,γ,reduceCtorEq,SE]
 have ua:=Lb.up (aG A) s LA hs32 Om
 have ub:=Lb.up (aG B) s LB hs32 Om
 refine aLO (aLV (aG A) s) ua rfl (aGU _ _) ?_
 rintro r H' ⟨o,rfl,rfl⟩ -
 rw[PH.kB,lA,vA]
 refine⟨PH.nil_le,?_⟩
 simp only[go_sem,γ,reduceCtorEq]
 refine aLO (aLV (aG B) s) ub rfl (aGU _ _) ?_
 rintro r H' ⟨o2,rfl,rfl⟩ hap
 rw[PH.kB,lB,vB,hm]
 refine⟨PH.nil_le,?_⟩
 have hfr:=hap o2 _ (by rw[bH,if_pos rfl]) (by rfl)
 have n21:¬ o2=o:=(cV.1 hfr).1
 have n12:¬ o=o2:=fun h=>n21 h.symm
 have k1:((m+2:Nat):Int)≤((m+2+1:Nat):Int):=by omega
 have k2:IntKind.i64.wrap (((nl A+1:Nat):Int)-((m+2:Nat):Int))=((nl A+1-(m+2):Nat):Int):=by rw[wrap_i64 Om Om]; omega
 obtain⟨lq,hlq⟩:∃ lq,nl A+1-(m+2)=lq:=⟨_,rfl⟩
 have hlu:nl A+1=lq+(m+2):=by omega
 rw[hlq] at k2
 have k3:((lq:Nat):Int)*((4:Nat):Int)≤140737488355328:=by omega
 have k4:((lq:Nat):Int)≤9223372036854775807:=by omega
 have hz:bIP lq [PV.int .u32 0]=aH (bIP lq 0):=by simp[aH]
 have k5:m+2-0=m+2:=by omega
 simp only[go_sem,ν,γ,reduceCtorEq,lB,hm,k1,k5,SF,SG,k2,k3,k4,hz]
 refine aQ fun oq hoq=>?_
 have q2:¬ oq=o2:=(cV.1 hoq).1
 have q1:¬ oq=o:=(cV.1 (cV.1 hoq).2).1
 have q2':¬ o2=oq:=fun h=>q2 h.symm
 have q1':¬ o=oq:=fun h=>q1 h.symm
 have hsn:dL (m+2+1) (B*2 ^ s)=dL (m+2) (B*2 ^ s)++[B*2 ^ s/4294967296 ^ (m+2)%4294967296]:=sO _ _
 have Lv:=kP (m+2) (B*2 ^ s)
 have lv:=jT (m+2) (B*2 ^ s)
 have vv:val (dL (m+2) (B*2 ^ s))=B*2 ^ s:=mF hVhi
 have hvf:(aH (dL (m+2+1) (B*2 ^ s))).take (m+2)=aH (dL (m+2) (B*2 ^ s)):=by
  unfold aH
  rw[← List.map_take,hsn,List.take_append_of_le_length Om,bJD Om]
 generalize hvv:dL (m+2) (B*2 ^ s)=v at *
 have lvf:(dL (m+2+1) (B*2 ^ s)).length=m+2+1:=jT _ _
 have gtop:∀ i (h:i<v.length),(aH (dL (m+2+1) (B*2 ^ s)))[i]?=some [.int .u32 ((v[i]:Nat):Int)]:=by
  intro i h
  have h1:(aH v)[i]?=some [.int .u32 ((v[i]:Nat):Int)]:=bL v h
  rw[← hvf,bMA Om] at h1
  exact h1
 have g1:=gtop (m+1) Om
 have g0:=gtop m Om
 have htop:2147483648≤v[m+1]:=by
  have h1:=bX v (Om:m+1<v.length)
  rw[bJD Om,vv] at h1
  have h2:=eJ (Lv.take (m+1))
  rw[bJF,bKO Om] at h2
  rcases bJE v[m+1] 2147483648 with h | h
  ·exfalso
   have h3:4294967296 ^ (m+1)*(v[m+1]+1)≤4294967296 ^ (m+1)*2147483648:=bKP _ h
   rw[bIZ,Nat.mul_one] at h3
   rw[bJK 2147483648] at hVlo
   omega
  ·exact h
 have ht1:=Lv _ (bIR (Om:m+1<v.length))
 have ht0:=Lv _ (bIR (Om:m<v.length))
 have w1:IntKind.u64.wrap ((v[m+1]:Nat):Int)=((v[m+1]:Nat):Int):=bD Om
 have w0:IntKind.u64.wrap ((v[m]:Nat):Int)=((v[m]:Nat):Int):=bD Om
 have j1:IntKind.i64.wrap (((m+2:Nat):Int)-1)=((m+1:Nat):Int):=by rw[wrap_i64 Om Om]; omega
 have j0:IntKind.i64.wrap (((m+2:Nat):Int)-2)=((m:Nat):Int):=by rw[wrap_i64 Om Om]; omega
 have d1:((m+1:Nat):Int)<((m+2:Nat):Int):=by omega
 have d0:((m:Nat):Int)<((m+2:Nat):Int):=by omega
 have jq:IntKind.i64.wrap ((lq:Int)-1)=(lq:Int)-1:=wrap_i64 Om Om
 simp only[go_sem,γ,reduceCtorEq]
 refine bT .nil eG PH.nil_le ?_
 simp only[go_sem,γ,reduceCtorEq,SH,j1,j0,d1,d0,q2',g1,g0,w1,w0,SI,jq]
 have hUlt:A*2 ^ s<4294967296 ^ (nl A+1):=by
  have h0:2 ^ s≤4294967296:=by
   have:(2:Nat) ^ s≤2 ^ 32:=Nat.pow_le_pow_right (by decide) Om
   simpa using this
  have h1:A*2 ^ s<4294967296 ^ nl A*2 ^ s:=Nat.mul_lt_mul_of_pos_right hAlt hp2
  have h2:4294967296 ^ nl A*2 ^ s≤4294967296 ^ nl A*4294967296:=bKP _ h0
  rw[bKE]; omega
 have LU:=kP (nl A+1) (A*2 ^ s)
 have lU:=jT (nl A+1) (A*2 ^ s)
 have vU:val (dL (nl A+1) (A*2 ^ s))=A*2 ^ s:=mF hUlt
 have hI:mN (A*2 ^ s) (val v) (m+2) (nl A+1) lq lq (dL (nl A+1) (A*2 ^ s)) (bIP lq 0):=by
  refine⟨lU,bLX,LU,sS _,by rw[vU,pV]; omega,?_,fun i x _ hx=>aIS hx⟩
  ·rw[rV LU Om,vU,vv,bLG (bLA (by decide))]
   have h1:A*2 ^ s<4294967296 ^ nl A*2 ^ s:=Nat.mul_lt_mul_of_pos_right hAlt hp2
   have hx:nl A=m+1+lq:=by omega
   have h2:4294967296 ^ nl A=4294967296 ^ (m+1)*4294967296 ^ lq:=by rw[hx,Nat.pow_add]
   have h3:2 ^ s≤2147483648:=by
    have:(2:Nat) ^ s≤2 ^ 31:=Nat.pow_le_pow_right (by decide) hs
    simpa using this
   have h4:4294967296 ^ nl A*2 ^ s≤(2147483648*4294967296 ^ (m+1))*4294967296 ^ lq:=by
    rw[h2,bJK (4294967296 ^ (m+1)*4294967296 ^ lq),← bJH]
    exact bJS _ (bJS _ h3)
   have h5:(2147483648*4294967296 ^ (m+1))*4294967296 ^ lq≤B*2 ^ s*4294967296 ^ lq:=bJS _ hVlo
   omega
 have key:=aBT (C:=C) Lb.D (A*2 ^ s) m (nl A+1) lq o o2 oq s v (dL (m+2+1) (B*2 ^ s)) n21 q1 q2 Lv lv hvf Om htop hlu Om _ hI
 simp only[go_sem,ο] at key
 refine key _ _ _ ?_ (by simp only[go_sem,n12,q1']) (by simp only[go_sem,q2']) Sq ?_
 ·unfold dI
  exact Lq
 clear key
 intro U' Q' F' hI' hF'
 have hu:val U'<val v:=by have:=hI'.r; rwa [bJO] at this
 have hv':=hI'.v
 rw[vv] at hu hv'
 have hVp:0<B*2 ^ s:=by omega
 have hQv:val Q'=A/B:=by
  have:A*2 ^ s/(B*2 ^ s)=val Q':=by
   rw[← hv',Nat.add_mul_div_right _ _ hVp,bLR hu,bJL]
  rw[← this,Nat.mul_div_mul_right _ _ hp2]
 have hUv:val U'/2 ^ s=A%B:=by
  have:A*2 ^ s%(B*2 ^ s)=val U':=by rw[← hv',Nat.add_mul_mod_self_right,bJV hu]
  rw[← this,Nat.mul_mod_mul_right,Nat.mul_div_cancel _ hp2]
 have g8:=hF' 8 _ (by unfold dI; simp only[go_sem,ο,γ]; rfl)
 have g9:=hF' 9 _ (by unfold dI; simp only[go_sem,ο,γ]; rfl)
 have g11:=hF' 11 _ (by unfold dI; simp only[go_sem,ο,γ]; rfl)
 have g12:=hF' 12 _ (by unfold dI; simp only[go_sem,ο,γ]; rfl)
 have rest:=aBU (C:=C) o (nl A+1) oq lq (m+2) s U' Q' hs32 q1 hI'.limU hI'.lu' Om Om
 simp only[go_sem] at rest
 simp only[go_sem]
 refine rest _ _ g8 g9 g11 g12 ?_
 clear rest
 intro or F2 H2 r1 r2 hF2 hQ2 hR2
 rw[hUv] at hR2
 have k12:=hF2 12 _ (by unfold rFr; simp only[go_sem,γ]; rfl)
 have k19:=hF2 19 _ (by unfold rFr; simp only[go_sem,γ]; rfl)
 have hRlt:A%B<4294967296 ^ (m+2):=by
  have h1:A%B<B:=bKA _ hB0
  have h2:B<4294967296 ^ nl B:=(gI B _).1 (bIO _)
  rw[hm] at h2; omega
 have LR:=kP (m+2) (A%B)
 have lR:=jT (m+2) (A%B)
 have vR:val (dL (m+2) (A%B))=A%B:=mF hRlt
 have nQ:=eS hI'.limQ
 have nR:=eS LR
 have e1:=hI'.lq'
 generalize hRR:dL (m+2) (A%B)=R at *
 simp only[go_sem]
 refine bT .nil bcT PH.nil_le ?_
 simp only[go_sem,γ,SQ,k12]
 have LOq:=Lb.lengthO Q' oq hI'.limQ Om
 rw[e1] at LOq
 have LOr:=Lb.lengthO R or LR Om
 rw[lR] at LOr
 refine UJ (o:=oq) (x:=.rows 1 (aH Q')) (v:=.int .i64 (nl (val Q'):Nat)) rfl hQ2 LOq (aoT oq Q') (fun r H' hr=>⟨hr.2 Q' hI'.limQ (by rw[dM]),hr.1⟩) rfl PH.nil_le ?_
 have c4:((nl (val Q'):Nat):Int)≤(lq:Nat):=by omega
 simp only[go_sem,ν,γ,reduceCtorEq,c4,k19,Nat.sub_zero]
 refine UJ (o:=or) (x:=.rows 1 (aH R)) (v:=.int .i64 (nl (val R):Nat)) rfl hR2 LOr (aoT or R) (fun r H' hr=>⟨hr.2 R LR (by rw[dM]),hr.1⟩) rfl PH.nil_le ?_
 have c5:((nl (val R):Nat):Int)≤((m+2:Nat):Int):=by omega
 simp only[go_sem,ν,γ,reduceCtorEq,c5]
 refine a7I (o1:=oq) (o2:=or) (s1:=1) (s2:=1) (k1:=nl (val Q')) (k2:=nl (val R)) (rs1:=aH Q') (rs2:=aH R) (.inr rfl) (fun h=>r2 h.symm) rfl rfl hQ2 hR2 (by rw[bU]; exact nQ) (by rw[bU]; exact nR) (pG _ _ _ _) rfl ⟨?_,rfl⟩
 have t1:(aH Q').take (nl (val Q'))=aH (aG (A/B)):=by
  have:=gS hI'.limQ
  rw[hQv] at this ⊢
  exact this
 have t2:(aH R).take (nl (val R))=aH (aG (A%B)):=by
  have:=gS LR
  rw[vR] at this ⊢
  exact this
 rw[t1,t2]
 exact .refl _
def bdR (a b:Nat):PF:=((PF.nil.set 0 (aF (aG a))).set 1 (aF (aG b)))
theorem bmR {C:Ctx} (L:oP C) (hdiv:∀ A B:Nat,B≠0→nl A≤900→nl B≤900→aD C 136 [aF (aG A),aF (aG B)] .nil (aE (oA A B))) (a b:List Nat) (ha:Lim a) (hb:Lim b) (la:a.length≤35184372087808) (lb:b.length≤35184372087808) :
  MD.wp C (aU aBW.res (bZ (if dP (val a) (val b) then .tup [aF [],.int .i64 2] else .tup [aF (aG (bIQ (val a) (val b))),.int .i64 0]))) (PF.args [aF a,aF b]) .nil:=by
 simp only[go_sem,reduceCtorEq,MD,aPR,aPS,aBW]
 refine aA (L.large a ha la) rfl ?_
 by_cases c1:nl (val a)>512
 ·simp only[go_sem,γ,c1,aiQ]
  rw[if_pos (by simp[dP,c1])]
  exact eC rfl
 simp only[go_sem,γ,c1]
 refine aA (L.large b hb lb) rfl ?_
 by_cases c2:nl (val b)>512
 ·simp only[go_sem,γ,reduceCtorEq,c2,aiQ]
  rw[if_pos (by simp[dP,c2])]
  exact eC rfl
 rw[if_neg (by simp[dP,c1,c2])]
 simp only[go_sem,γ,reduceCtorEq,c2,aPT]
 refine aA (L.trim a ha la) rfl ?_
 simp only[go_sem,γ]
 refine aA (L.trim b hb lb) rfl ?_
 simp only[go_sem,γ,reduceCtorEq]
 refine wp_loop (α:=Nat × Nat) (fun t=>bdR t.1 t.2) (fun _=>.nil) (fun t=>bIQ t.1 t.2=bIQ (val a) (val b)∧nl t.1≤512∧nl t.2≤512) (fun t=>t.2) (val a,val b) ⟨rfl,by simp only; omega,by simp only; omega⟩ ?_ PH.nil_le ?_
 ·unfold bdR
  exact Lq
 rintro⟨x,y⟩ ⟨hg,hx,hy⟩
 simp only at hg hx hy
 simp only[go_sem,γ,reduceCtorEq,aPQ,aPU,bdR,aZ]
 by_cases c3:y=0
 ·subst c3
  have:¬ ((nl 0:Nat):Int)>0:=by rw[vE]; decide
  simp only[go_sem,γ,reduceCtorEq,this,aPX]
  refine aW (vs:=[aF (aG x),.int .i64 0]) (.inr rfl) .nil rfl PH.nil_le ⟨?_,rfl⟩
  rw[← hg,Nat.gcd_zero_right]
  exact .refl _
 ·have h0:nl y≠0:=fun h=>c3 (fX.1 h)
  have:((nl y:Nat):Int)>0:=by omega
  simp only[go_sem,γ,reduceCtorEq,this,aPV]
  refine aA (hdiv x y c3 Om Om) rfl ?_
  simp only[go_sem,γ,reduceCtorEq,oA,aPW]
  have hlt:x%y<y:=bKA _ (bKR c3)
  refine aK (y,x%y) ⟨?_,hy,?_⟩ hlt ?_ PH.nil_le
  ·simp only
   rw[← hg,Nat.gcd_comm y,← Nat.gcd_rec y x,Nat.gcd_comm]
  ·have:=eY (Nat.le_of_lt hlt)
   simp only; omega
  ·exact Lq
def kV (A B:Nat):PV:=if dP A B then .tup [aF [],aF [],.int .i64 2] else if B=0 then .tup [aF [],aF [],.int .i64 3] else .tup [aF (aG (A/B)),aF (aG (A%B)),.int .i64 0]
def aYC:Spec:=fun name vs=>match name,vs with
 | 138,[x]=>some ([],fun _=>aE (.int .i64 (nl (val (gQ x)):Nat)))
 | 136,[x,y]=>some ([],fun _=>aE (oA (val (gQ x)) (val (gQ y))))
 | _,_=>none
theorem MA (xs:List Nat):aYC 138 [aF xs]=some ([],fun _=>aE (.int .i64 (nl (val xs):Nat))):=by
 show some _=_; rw[dW]
theorem aBS (A B:Nat):aYC 136 [aF (aG A),aF (aG B)]=some ([],fun _=>aE (oA A B)):=by
 show some _=_; rw[dW,dW,aR,aR]
theorem pJ {res:List dU} {F:PF} {H:PH} {e:Int} (h:dU.evs F H res=some [.aB,.aB,.int .i64 e]):aU res (bZ (.tup [aF [],aF [],.int .i64 e])) .ret F H:=by
 refine aW (.inr rfl) .nil h PH.nil_le ⟨?_,rfl⟩
 refine .tup rfl fun j p q hp hq=>?_
 match j with
 | 0=>simp at hp hq; subst hp; subst hq; exact .nil 1
 | 1=>simp at hp hq; subst hp; subst hq; exact .nil 1
 | 2=>simp at hp hq; subst hp; subst hq; exact .refl _
 | j+3=>simp at hp
theorem bmO {C:Ctx} (L:oP C) (hdiv:∀ A B:Nat,B≠0→nl A≤900→nl B≤900→aD C 136 [aF (aG A),aF (aG B)] .nil (aE (oA A B))) (a b:List Nat) (ha:Lim a) (hb:Lim b) (la:a.length≤35184372087808) (lb:b.length≤35184372087808) :
  MB.wp C (aU aBR.res (bZ (kV (val a) (val b)))) (PF.args [aF a,aF b]) .nil:=by
 simp only[go_sem,reduceCtorEq,MB,aPK,aPL,aBR]
 refine aA (L.large a ha la) rfl ?_
 by_cases c1:nl (val a)>512
 ·simp only[go_sem,γ,c1,aiO]
  rw[show kV (val a) (val b)=.tup [aF [],aF [],.int .i64 2] by simp[kV,dP,c1]]
  exact pJ rfl
 simp only[go_sem,γ,c1]
 refine aA (L.large b hb lb) rfl ?_
 by_cases c2:nl (val b)>512
 ·simp only[go_sem,γ,reduceCtorEq,c2,aiO]
  rw[show kV (val a) (val b)=.tup [aF [],aF [],.int .i64 2] by simp[kV,dP,c2]]
  exact pJ rfl
 simp only[go_sem,γ,reduceCtorEq,c2,aPM]
 refine aA (L.length b hb lb) rfl ?_
 by_cases c3:val b=0
 ·have:((nl (val b):Nat):Int)=0:=by rw[c3,vE]; rfl
  simp only[go_sem,γ,bS this,aPN]
  rw[show kV (val a) (val b)=.tup [aF [],aF [],.int .i64 3] by simp[kV,dP,c1,c3,vE]]
  exact pJ rfl
 have h0:nl (val b)≠0:=fun h=>c3 (fX.1 h)
 rw[show kV (val a) (val b)=.tup [aF (aG (val a/val b)),aF (aG (val a%val b)),.int .i64 0] by simp[kV,dP,c1,c2,c3]]
 simp only[go_sem,γ,bF (show ((nl (val b):Nat):Int)≠0 by omega)]
 refine bT .nil aYC PH.nil_le ?_
 simp only[go_sem,reduceCtorEq,aPO]
 have h1:=eS ha
 have h2:=eS hb
 have h1':((nl (val a):Nat):Int)≤(a.length:Nat):=by omega
 have h2':((nl (val b):Nat):Int)≤(b.length:Nat):=by omega
 refine bK (MA a) (L.length a ha la) rfl PH.nil_le ?_
 simp only[go_sem,ν,γ,reduceCtorEq,h1',or_true,bJO,gS ha]
 refine bK (MA b) (L.length b hb lb) rfl PH.nil_le ?_
 simp only[go_sem,ν,γ,reduceCtorEq,h2',or_true,bJO,gS hb]
 refine bK (aBS (val a) (val b)) (hdiv _ _ c3 Om Om) rfl PH.nil_le ?_
 simp only[go_sem,γ,oA,aPP]
 exact aW (.inr rfl) .nil rfl PH.nil_le ⟨.refl _,rfl⟩
def aaC:Rg:=[iA 6 (.alloc [(.bool false),.aB,.aB]),iI 7 0]
def aaD:Rg:=[iM 11 1,iM 12 2,iK2 13 131 11 12,iM 10 13,iE 14 10 0,iE 15 10 1,iM 8 14,iM 9 15]
def aaE:Rg:=[iM 16 8,iK 17 128 16,iC 18 .gtr 17 1]
def aaF:Rg:=[iM 20 1,iM 21 8,iK2 22 130 20 21,iM 19 22,iE 23 19 0,iE 24 19 1,iE 25 19 2,iM 1 23]
def aaG:Rg:=[iM 27 2,iM 28 8,iK2 29 130 27 28,iM 26 29,iE 30 26 0,iE 31 26 1,iE 32 26 2,iM 2 30]
def EO:Rg:=[iM 33 1,iK 34 128 33,iC 35 .gtr 34 4096,iM 36 35,gM 37 2 36 false,gK 38 128 37 36 false,gC 39 .gtr 38 4096 36 false,iQ 40 36 39]
def tZ:Rg:=[iA 41 (.build [(.bool false),.aB,.aB] []),iS 3 6 41,iI 7 2]
def EP:Rg:=[iM 42 0,iM 43 42,gM 44 1 43 true,gK 45 128 44 43 true,gC 46 .gtr 45 0 43 true,iP 47 43 46,iM 48 1,iK 49 135 48,iM 50 2,iK 51 135 50,iA 52 (.build [(.bool false),.aB,.aB] [(0,1,(Tm 47)),(1,1,(Tm 49)),(2,1,(Tm 51))]),iS 3 6 52,iI 7 0]
def vT:aC:=(sq aaC (.seq (sq aaD (sq aaE (.cond (Tm 18) (sq aaF (.region aaG)) .skip))) (.seq (sq EO (.cond (Tm 40) (sq tZ .ret) .skip)) (sq EP .ret))))
def aWV:List Nat:=[]
def nF:aV:=⟨3,53,vT,[.cell 6 (some 3),.tmp 7]⟩
def alN:Rg:=[iZ 4]
def alO:Rg:=[iM 8 0,iM 9 1,iK2 10 133 8 9,iM 7 10,iE 11 7 0,iE 12 7 1,iM 5 11,iM 6 12]
def alP:Rg:=[iM 13 5,iM 4 13]
def zA:aC:=(sq alN (sq alO (sq alP .ret)))
def a4K:List Nat:=[]
def KU:aV:=⟨2,14,zA,[.tmp 4]⟩
def awJ:Rg:=[iA 1 (.box true (Tm 0)),iT 2 false]
def awK:Rg:=[iF 3 1 1,iL 4 3,iK 5 128 4,iC 6 .eql 5 0,iM 2 6]
def ER:aC:=(sq awJ (sq awK .ret))
def bdK:List Nat:=[1]
def aaO:aV:=⟨1,7,ER,[.tmp 2]⟩
def awC:Rg:=[iA 4 (.alloc [(.bool false),.aB,.aB]),iI 5 0]
def awD:Rg:=[iM 6 1,iC 7 .eql 6 0]
def awE:Rg:=[iA 8 (.build [(.bool false),.aB,.aB] []),iS 3 4 8,iI 5 3]
def awF:Rg:=[iM 9 0,iC 10 .lss 9 0,iM 11 1,iC 12 .lss 11 0,iA 13 (.eqb true (Tm 10) (Tm 12)),iM 14 0,iK 15 119 14,iM 16 1,iK 17 119 16,iA 18 (.call 120 [(Tm 13),(Tm 15),(Tm 17)]),iE 19 18 0,iE 20 18 1,iS 3 4 19,iM 5 20]
def EQ:aC:=(sq awC (.seq (sq awD (.cond (Tm 7) (sq awE .ret) .skip)) (sq awF .ret)))
def bdI:List Nat:=[]
def QN:aV:=⟨2,21,EQ,[.cell 4 (some 3),.tmp 5]⟩
def aLZ:Rg:=[iZ 2]
def aMA:Rg:=[iM 3 0,iC 4 .lss 3 0]
def aMB:Rg:=[iM 5 0,iA 6 (.conv .u64 (Tm 5)),iA 7 (.un .neg (Tm 6)),iK 8 132 7,iM 2 8]
def aMC:Rg:=[iM 9 0,iA 10 (.conv .u64 (Tm 9)),iK 11 132 10,iM 2 11]
def KJ:aC:=(sq aLZ (.seq (sq aMA (.cond (Tm 4) (sq aMB .ret) .skip)) (sq aMC .ret)))
def bkL:List Nat:=[]
def avT:aV:=⟨1,12,KJ,[.tmp 2]⟩
def alQ:Rg:=[iA 1 (.box true (Tm 0)),iT 2 false]
def alR:Rg:=[iF 4 2 1,iL 5 4,iK 6 128 5,iM 3 6]
def xN:Rg:=[iM 7 3,iC 8 .gtr 7 0,iM 9 8,gM 10 3 9 true,gC 11 .leq 10 4096 9 true,iP 12 9 11,iM 13 12,gF 14 1 1 13 true,gL 15 14 13 true,gK 16 128 15 13 true,gC 17 .leq 16 4096 13 true,iP 18 13 17,iM 2 18]
def zB:aC:=(sq alQ (sq alR (sq xN .ret)))
def a4M:List Nat:=[1]
def KV:aV:=⟨1,19,zB,[.tmp 2]⟩
def aaJ:Rg:=[iA 1 (.box true (Tm 0)),iA 2 (.alloc [(.bool false),.aB,.aB]),iI 3 0]
def aaK:Rg:=[iO 4 3 1,iK 5 118 4,iA 6 (.un .not (Tm 5))]
def aaL:Rg:=[iA 7 (.build [(.bool false),.aB,.aB] []),iS 3 2 7,iI 3 1]
def aaM:Rg:=[iF 8 0 1,iL 9 8,iF 10 1 1,iL 11 10,iF 12 2 1,iL 13 12,iA 14 (.call 120 [(Tm 9),(Tm 11),(Tm 13)]),iE 15 14 0,iE 16 14 1,iS 3 2 15,iM 3 16]
def vW:aC:=(sq aaJ (.seq (sq aaK (.cond (Tm 6) (sq aaL .ret) .skip)) (sq aaM .ret)))
def aWY:List Nat:=[1]
def uU:aV:=⟨1,17,vW,[.cell 2 (some 3),.tmp 3]⟩
def aMM:Rg:=[iA 2 (.box true (Tm 0)),iA 3 (.box true (Tm 1)),iI 4 0,iI 5 0]
def aMN:Rg:=[iO 9 3 2,iK 10 118 9,iA 11 (.un .not (Tm 10)),iM 12 11,gO 13 3 3 12 false,gK 14 118 13 12 false,iG 15 (.un .not (Tm 14)) 12 false,iQ 16 12 15]
def ahS:Rg:=[iI 4 0,iI 5 1]
def aMO:Rd:=[(iF 17 1 2,false),(iL 18 17,false),(iF 19 2 3,false),(iL 20 19,false),(iK2 21 121 18 20,true),(iF 22 1 3,true),(iL 23 22,true),(iF 24 2 2,true),(iL 25 24,true),(iK2 26 121 23 25,true),(iK2 27 129 21 26,true),(iM 6 27,false)]
def aMP:Rd:=[(iF 28 0 2,false),(iL 29 28,false),(iM 30 29,false),(gO 31 3 2 30 true,false),(gK 32 122 31 30 true,true),(iG 33 (.un .not (Tm 32)) 30 true,true),(iP 34 30 33,true),(iF 35 0 3,true),(iL 36 35,true),(iM 37 36,false),(gO 38 3 3 37 true,false),(gK 39 122 38 37 true,true),(iG 40 (.un .not (Tm 39)) 37 true,false),(iP 41 37 40,false),(iM 7 34,false),(iM 8 41,false)]
def uT:Rg:=[iM 43 7,iM 44 43,gM 45 8 44 true,iP 46 44 45,iM 42 46]
def ahT:Rg:=[iM 47 6,iA 48 (.un .neg (Tm 47)),iM 4 48,iI 5 0]
def BO:Rg:=[iM 50 7,iM 49 50]
def ahU:Rg:=[iI 4 (-1),iI 5 0]
def QK:Rg:=[iM 52 8,iM 51 52]
def UR:Rg:=[iI 4 1,iI 5 0]
def US:Rg:=[iM 53 6,iM 4 53,iI 5 0]
def KM:aC:=(sq aMM (.seq (sq aMN (.cond (Tm 16) (sq ahS .ret) .skip)) (dq aMO (dq aMP (.seq (.block 0 (sq uT (.cond (Tm 42) (sq ahT .ret) (sq BO (.cond (Tm 49) (sq ahU .ret) (sq QK (.cond (Tm 51) (sq UR .ret) .skip))))))) (sq US .ret))))))
def bkP:List Nat:=[2,3]
def avW:aV:=⟨2,54,KM,[.tmp 4,.tmp 5]⟩
def aMD:Rg:=[iA 2 (.box true (Tm 0)),iA 3 (.box true (Tm 1)),iA 4 (.alloc [(.bool false),.aB,.aB]),iI 5 0]
def aME:Rg:=[iO 15 3 2,iK 16 118 15,iA 17 (.un .not (Tm 16)),iM 18 17,gO 19 3 3 18 false,gK 20 118 19 18 false,iG 21 (.un .not (Tm 20)) 18 false,iQ 22 18 21]
def ahR:Rg:=[iA 23 (.build [(.bool false),.aB,.aB] []),iS 3 4 23,iI 5 1]
def aMF:Rd:=[(iF 24 1 2,false),(iL 25 24,false),(iF 26 2 3,false),(iL 27 26,false),(iK2 28 121 25 27,true),(iF 29 1 3,true),(iL 30 29,true),(iF 31 2 2,true),(iL 32 31,true),(iK2 33 121 30 32,true),(iF 34 2 2,true),(iL 35 34,true),(iF 36 2 3,true),(iL 37 36,true),(iK2 38 121 35 37,true),(iM 6 28,false),(iM 7 33,false),(iM 8 38,false)]
def aMG:Rg:=[iF 39 0 2,iL 40 39,iF 41 0 3,iL 42 41,iA 43 (.eqb false (Tm 40) (Tm 42))]
def aMH:Rg:=[iM 45 6,iM 46 7,iK2 47 127 45 46,iM 44 47,iE 48 44 0,iE 49 44 1,iM 9 48,iM 10 49]
def aMI:Rg:=[iF 50 0 2,iL 51 50,iM 52 9,iM 53 8,iA 54 (.call 120 [(Tm 51),(Tm 52),(Tm 53)]),iE 55 54 0,iE 56 54 1,iS 3 4 55,iM 5 56]
def aMJ:Rg:=[iM 57 6,iM 58 7,iK2 59 129 57 58,iC 60 .geq 59 0]
def aMK:Rg:=[iM 62 6,iM 63 7,iK2 64 134 62 63,iM 61 64,iE 65 61 0,iE 66 61 1,iM 11 65,iM 12 66]
def aML:Rg:=[iF 67 0 2,iL 68 67,iM 69 11,iM 70 8,iA 71 (.call 120 [(Tm 68),(Tm 69),(Tm 70)]),iE 72 71 0,iE 73 71 1,iS 3 4 72,iM 5 73]
def avU:Rg:=[iM 75 7,iM 76 6,iK2 77 134 75 76,iM 74 77,iE 78 74 0,iE 79 74 1,iM 13 78,iM 14 79]
def avV:Rg:=[iF 80 0 3,iL 81 80,iM 82 13,iM 83 8,iA 84 (.call 120 [(Tm 81),(Tm 82),(Tm 83)]),iE 85 84 0,iE 86 84 1,iS 3 4 85,iM 5 86]
def KL:aC:=(sq aMD (.seq (sq aME (.cond (Tm 22) (sq ahR .ret) .skip)) (dq aMF (.seq (sq aMG (.cond (Tm 43) (sq aMH (sq aMI .ret)) .skip)) (.seq (sq aMJ (.cond (Tm 60) (sq aMK (sq aML .ret)) .skip)) (sq avU (sq avV .ret)))))))
def bkN:List Nat:=[2,3]
def KK:aV:=⟨2,87,KL,[.cell 4 (some 3),.tmp 5]⟩
def aMT:Rg:=[iA 2 (.alloc [(.bool false),.aB,.aB]),iI 3 0]
def aMU:Rg:=[iA 9 (.call 132 [(.const (.int .u64 1))]),iA 10 (.build [(.bool false),.aB,.aB] [(2,1,(Tm 9))]),iA 4 (.alloc [(.bool false),.aB,.aB]),iS 3 4 10]
def aMV:Rg:=[iM 11 0,iN 12 11,iI 13 0]
def aMW:Rg:=[iB 14 .lss 13 12]
def aMX:Rg:=[iX 15 3 11 13,iO 16 3 15,iA 6 (.alloc [(.bool false),.aB,.aB]),iS 3 6 16]
def aMY:Rg:=[iO 18 3 4,iO 19 3 6,iK2 20 113 18 19,iM 17 20,iE 21 17 0,iE 22 17 1,iA 7 (.alloc [(.bool false),.aB,.aB]),iS 3 7 21,iM 8 22]
def ahV:Rg:=[iM 23 8,iC 24 .neq 23 0]
def aMZ:Rg:=[iA 25 (.build [(.bool false),.aB,.aB] []),iM 26 8,iS 3 2 25,iM 3 26]
def aNA:Rg:=[iO 27 3 7,iS 3 4 27]
def aNB:Rg:=[iC 28 .add 13 1,iM 13 28]
def awI:aC:=(sq aMW (.seq (.cond (Tm 14) .skip (.exit 0)) (.seq (.block 1 (sq aMX (sq aMY (.seq (sq ahV (.cond (Tm 24) (sq aMZ .ret) .skip)) (.region aNA))))) (.region aNB))))
def UX:Rg:=[iO 29 3 4,iS 3 2 29,iI 3 0]
def KT:aC:=(sq aMT (sq aMU (.seq (sq aMV (.block 0 (.loop awI))) (sq UX .ret))))
def bkV:List Nat:=[]
def UW:aV:=⟨1,30,KT,[.cell 2 (some 3),.tmp 3]⟩
theorem CoL.nil:CoL [] []:=.refl _
theorem CoL.cons {p q:PV} {ps qs:List PV} (h:Co p q) (hs:CoL ps qs):CoL (p::ps) (q::qs) :=
 ⟨by simp[hs.len],fun j a b ha hb=>by
  cases j with
  | zero=>simp at ha hb; subst ha; subst hb; exact h
  | succ j=>exact hs.at_ j a b (by simpa using ha) (by simpa using hb)⟩
theorem CoL.agg {ps qs:List PV} (h:CoL ps qs):Co (.agg ps) (.agg qs):=.agg h.len h.at_
theorem CoL.tup {ps qs:List PV} (h:CoL ps qs):Co (.tup ps) (.tup qs):=.tup h.len h.at_
structure pZ (C:Ctx):Prop extends oP C where
 bits:∀ xs,Lim xs→xs.length≤35184372087808→aD C 128 [aF xs] .nil (aE (.int .i64 (cD (val xs):Nat)))
 add:∀ xs ys,Lim xs→Lim ys→xs.length≤35184372087808→ys.length≤35184372087808→aD C 127 [aF xs,aF ys] .nil (aE (opV (dP (val xs) (val ys)) (val xs+val ys)))
 sub:∀ xs ys,Lim xs→Lim ys→xs.length≤35184372087808→ys.length≤35184372087808→aD C 134 [aF xs,aF ys] .nil (aE (pB (val xs) (val ys)))
 mul:∀ xs ys,Lim xs→Lim ys→xs.length≤35184372087808→ys.length≤35184372087808→aD C 133 [aF xs,aF ys] .nil (aE (opV (dP (val xs) (val ys)) (val xs*val ys)))
 gcd:∀ xs ys,Lim xs→Lim ys→xs.length≤35184372087808→ys.length≤35184372087808→aD C 131 [aF xs,aF ys] .nil (aE (if dP (val xs) (val ys) then .tup [aF [],.int .i64 2] else .tup [aF (aG (bIQ (val xs) (val ys))),.int .i64 0]))
 div:∀ xs ys,Lim xs→Lim ys→xs.length≤35184372087808→ys.length≤35184372087808→aD C 130 [aF xs,aF ys] .nil (aE (kV (val xs) (val ys)))
theorem fV {a b:Nat} (ha:nl a≤512) (hb:nl b≤512):dP a b=false:=by
 simp[dP]; omega
theorem kA {a b m n:Nat} (ha:nl a≤m) (hb:nl b≤n):nl (a*b)≤m+n:=by
 rw[gI] at ha hb ⊢
 rw[Nat.pow_add]
 by_cases h:b=0
 ·subst h; exact Nat.mul_pos (bLA (by decide)) (bLA (by decide))
 ·calc a*b<4294967296 ^ m*b:=Nat.mul_lt_mul_of_pos_right ha (bKR h)
   _≤4294967296 ^ m*4294967296 ^ n:=bKP _ (Nat.le_of_lt hb)
theorem wN {n:Nat} (h:nl n≤512):szV n=.tup [aF (aG n),.int .i64 0]:=by
 have:¬ nl n>512:=by omega
 simp[szV,szL,szE,this]
theorem a4J {C:Ctx} (L:pZ C) (a b:List Nat) (ha:Lim a) (hb:Lim b) (la:a.length≤35184372087808) (lb:b.length≤35184372087808) (na:nl (val a)≤256) (nb:nl (val b)≤256) :
  zA.wp C (aU KU.res (aE (aF (aG (val a*val b))))) (PF.args [aF a,aF b]) .nil:=by
 simp only[go_sem,γ,reduceCtorEq,zA,alN,alO,KU]
 refine aA (L.mul a b ha hb la lb) rfl ?_
 have:=kA na nb
 rw[fV Om Om,opV,wN Om]
 simp only[go_sem,γ,reduceCtorEq,alP]
 refine aM (.inr rfl) rfl ?_
 rfl
abbrev dY (neg:Bool) (a b:List Nat):List PV:=[.bool neg,aF a,aF b]
theorem bdJ {C:Ctx} (L:pZ C) (neg:Bool) (a b:List Nat) (ha:Lim a) (la:a.length≤35184372087808) :
  ER.wp C (aU aaO.res (aE (.bool (decide (val a=0))))) (PF.args [.agg (dY neg a b)]) .nil:=by
 simp only[go_sem,δ,γ,θ,ER,awJ,awK,aaO]
 refine aA (L.bits a ha la) rfl ?_
 simp only[go_sem,γ]
 refine aM (.inr rfl) rfl ?_
 have:=@iV (val a)
 by_cases c:val a=0
 ·rw[bS Om,decide_eq_true c]; rfl
 ·rw[bF Om,decide_eq_false c]; rfl
def cM (a b:Nat):Bool:=decide (0<cD b)&&decide (cD b≤4096)&&decide (cD a≤4096)
theorem a4L {C:Ctx} (L:pZ C) (neg:Bool) (a b:List Nat) (ha:Lim a) (hb:Lim b) (la:a.length≤35184372087808) (lb:b.length≤35184372087808) :
  zB.wp C (aU KV.res (aE (.bool (cM (val a) (val b))))) (PF.args [.agg (dY neg a b)]) .nil:=by
 simp only[go_sem,γ,zB,alQ,alR,KV]
 refine aA (L.bits b hb lb) rfl ?_
 by_cases c1:0<cD (val b)
 ·have c1':((cD (val b):Nat):Int)>0:=by omega
  by_cases c2:cD (val b)≤4096
  ·have c2':((cD (val b):Nat):Int)≤4096:=by omega
   simp only[go_sem,δ,γ,θ,xN,c1',c2']
   refine aA (L.bits a ha la) rfl ?_
   simp only[go_sem,γ]
   refine aM (.inr rfl) rfl ?_
   show PV.bool (decide _)=_
   rw[cM,decide_eq_true c1,decide_eq_true c2,bIY,bIY]
   congr 1
   rw[decide_eq_decide]
   omega
  ·have c2':¬ ((cD (val b):Nat):Int)≤4096:=by omega
   simp only[go_sem,γ,reduceCtorEq,xN,c1',c2']
   refine aM (.inr rfl) rfl ?_
   show PV.bool _=_
   simp[cM,c1,c2]
 ·have c1':¬ ((cD (val b):Nat):Int)>0:=by omega
  simp only[go_sem,γ,reduceCtorEq,xN,c1']
  refine aM (.inr rfl) rfl ?_
  show PV.bool _=_
  simp[cM,c1]
theorem bkK {C:Ctx} (L:pZ C) (v:Int) (h1:-9223372036854775808≤v) (h2:v≤9223372036854775807) :
  KJ.wp C (aU avT.res (aE (aF (aG v.natAbs)))) (PF.args [.int .i64 v]) .nil:=by
 simp only[go_sem,γ,reduceCtorEq,KJ,aLZ,aMA,avT]
 by_cases c:v<0
 ·have e:IntKind.u64.wrap (0-IntKind.u64.wrap v)=((v.natAbs:Nat):Int):=by
   rw[eZ,eZ]; omega
  simp only[go_sem,γ,reduceCtorEq,c,aMB,e]
  refine aA (L.make v.natAbs Om) rfl ?_
  simp only[go_sem,γ]
  refine aM (.inr rfl) rfl ?_
  rfl
 ·have e:IntKind.u64.wrap v=((v.natAbs:Nat):Int):=by
   rw[eZ]; omega
  simp only[go_sem,γ,reduceCtorEq,c,aMC,e]
  refine aA (L.make v.natAbs Om) rfl ?_
  simp only[go_sem,γ]
  refine aM (.inr rfl) rfl ?_
  rfl
abbrev xM (e:Int):PV:=.tup [.agg (dY false [] []),.int .i64 e]
abbrev aWZ (neg:Bool) (a b:Nat):PV:=.tup [.agg (dY neg (aG a) (aG b)),.int .i64 0]
def FU (neg:Bool) (a b:Nat):PV :=
 if cD (a/bIQ a b)>4096∨cD (b/bIQ a b)>4096 then xM 2 else aWZ (neg&&decide (a/bIQ a b≠0)) (a/bIQ a b) (b/bIQ a b)
theorem fW {res:List dU} {F:PF} {H:PH} {e:Int} (h:dU.evs F H res=some [.agg [.bool false,.aB,.aB],.int .i64 e]):aU res (bZ (xM e)) .ret F H :=
 aW (.inr rfl) .nil h PH.nil_le ⟨CoL.tup (.cons (CoL.agg (.cons (.refl _) (.cons (.nil 1) (.cons (.nil 1) .nil)))) (.cons (.refl _) .nil)),rfl⟩
theorem auQ {n:Nat}:cD n>1↔n>1:=by
 have:=kE n 1
 omega
theorem acD {a n:Nat} (g:Nat) (h:nl a≤n):nl (a/g)≤n:=Nat.le_trans (eY (Nat.div_le_self _ _)) h
theorem KP {C:Ctx} (L:pZ C) (neg:Bool) (a b:List Nat) (ha:Lim a) (hb:Lim b) (la:a.length≤35184372087808) (lb:b.length≤35184372087808) (o:Nat) (F:PF) (H:PH)
  (f0:F 0=some (.bool neg)) (f1:F 1=some (aF a)) (f2:F 2=some (aF b)) (f6:F 6=some (.ptr o 3 0 0)) (f7:F 7=some (.int .i64 0)) (hH:H o=some (.rows 3 [[.bool false,.aB,.aB]])) :
  aC.wp C (.seq (.seq (.region EO) (.cond (.tmp 40) (.seq (.region tZ) .ret) .skip)) (.seq (.region EP) .ret)) (aU nF.res (bZ (if cD (val a)>4096∨cD (val b)>4096 then xM 2 else aWZ (neg&&decide (val a≠0)) (val a) (val b)))) F H:=by
 have fin:∀ (r:List (List PV)) F H,F 6=some (.ptr o 3 0 0)→F 7=some (.int .i64 2)→H o=some (.rows 3 [[.bool false,.aB,.aB]])→aU nF.res (bZ (xM 2)) .ret F H:=by
  intro r F H h6 h7 h
  refine fW ?_
  simp only[go_sem,δ,nF,h6,h7,h]
 simp only[go_sem,EO,f1]
 refine aA (L.bits a ha la) rfl ?_
 by_cases c1:cD (val a)>4096
 ·have c1':((cD (val a):Nat):Int)>4096:=by omega
  rw[if_pos (.inl c1)]
  simp only[go_sem,δ,γ,c1',tZ,f6,hH]
  exact fin [] _ _ (by simp only[go_sem,γ,f6]) rfl Sq
 ·have c1':¬ ((cD (val a):Nat):Int)>4096:=by omega
  simp only[go_sem,γ,c1',f2]
  refine aA (L.bits b hb lb) rfl ?_
  by_cases c2:cD (val b)>4096
  ·have c2':((cD (val b):Nat):Int)>4096:=by omega
   rw[if_pos (.inr c2)]
   simp only[go_sem,δ,γ,reduceCtorEq,c2',tZ,f6,hH]
   exact fin [] _ _ (by simp only[go_sem,γ,f6]) rfl Sq
  ·have c2':¬ ((cD (val b):Nat):Int)>4096:=by omega
   rw[if_neg Om]
   have last:∀ F:PF,F 1=some (aF a)→F 2=some (aF b)→F 6=some (.ptr o 3 0 0)→∀ (q:Bool),q=(neg&&decide (val a≠0))→F 47=some (.bool q) →
     True:=fun _ _ _ _ _ _ _=>trivial
   simp only[go_sem,γ,reduceCtorEq,c2',EP,f0,f1,f2,f6,hH]
   cases neg with
   | false =>
    simp only[go_sem,γ,reduceCtorEq,f0,f1,f2,f6,hH]
    refine aA (L.trim a ha la) rfl ?_
    simp only[go_sem,γ,f0,f1,f2,f6,hH]
    refine aA (L.trim b hb lb) rfl ?_
    simp only[go_sem,δ,γ,θ,f0,f1,f2,f6,hH,bIS]
    refine aW (.inr rfl) .nil (vs:=[.agg (dY false (aG (val a)) (aG (val b))),.int .i64 0]) ?_ PH.nil_le ⟨.refl _,rfl⟩
    simp only[go_sem,δ,γ,nF,f6,hH]
   | true =>
    simp only[go_sem,γ,f0,f1,f2,f6,hH]
    refine aA (L.bits a ha la) rfl ?_
    have e:decide (((cD (val a):Nat):Int)>0)=decide (val a≠0):=by
     have:=@iV (val a)
     rw[decide_eq_decide]; omega
    simp only[go_sem,γ,f0,f1,f2,f6,hH,e]
    refine aA (L.trim a ha la) rfl ?_
    simp only[go_sem,γ,f0,f1,f2,f6,hH]
    refine aA (L.trim b hb lb) rfl ?_
    simp only[go_sem,δ,γ,θ,f0,f1,f2,f6,hH,bIY]
    refine aW (.inr rfl) .nil (vs:=[.agg (dY (decide (val a≠0)) (aG (val a)) (aG (val b))),.int .i64 0]) ?_ PH.nil_le ⟨.refl _,rfl⟩
    simp only[go_sem,δ,γ,nF,f6,hH]
theorem aWU {C:Ctx} (L:pZ C) (neg:Bool) (a b:List Nat) (ha:Lim a) (hb:Lim b) (la:a.length≤35184372087808) (lb:b.length≤35184372087808) (na:nl (val a)≤512) (nb:nl (val b)≤512) (h0:val b≠0) :
  vT.wp C (aU nF.res (bZ (FU neg (val a) (val b)))) (PF.args [.bool neg,aF a,aF b]) .nil:=by
 simp only[go_sem,δ,vT,aaC,aaD]
 refine aQ fun o ho=>?_
 simp only[go_sem,γ]
 refine aA (L.gcd a b ha hb la lb) rfl ?_
 rw[fV na nb]
 simp only[go_sem,γ,reduceCtorEq,aaE]
 have hg0:bIQ (val a) (val b)≠0:=by
  intro h; exact h0 (Nat.gcd_eq_zero_iff.1 h).2
 have hgl:nl (bIQ (val a) (val b))≤512:=Nat.le_trans (eY (Nat.gcd_le_right _ (bKR h0))) nb
 have hll:(aG (bIQ (val a) (val b))).length≤35184372087808:=by rw[aZ]; omega
 refine aA (L.bits _ (aT _) hll) rfl ?_
 rw[aR]
 by_cases c:bIQ (val a) (val b)>1
 ·have c':((cD (bIQ (val a) (val b)):Nat):Int)>1:=by have:=auQ.2 c; omega
  simp only[go_sem,γ,c',aaF]
  refine aA (L.div a _ ha (aT _) la hll) rfl ?_
  rw[aR,kV,fV na hgl,if_neg (by decide),if_neg hg0]
  simp only[go_sem,γ,aaG]
  refine aA (L.div b _ hb (aT _) lb hll) rfl ?_
  rw[aR,kV,fV nb hgl,if_neg (by decide),if_neg hg0]
  simp only[go_sem,γ]
  have:=KP L neg (aG (val a/bIQ (val a) (val b))) (aG (val b/bIQ (val a) (val b))) (aT _) (aT _) (by rw[aZ]; have:=acD (bIQ (val a) (val b)) na; omega) (by rw[aZ]; have:=acD (bIQ (val a) (val b)) nb; omega) o
  rw[aR,aR] at this
  have:=fun F H=>this F H
  simp only[aC.wp,go_sem] at this
  exact this _ _ rfl rfl rfl rfl rfl Sq
 ·have c':¬ ((cD (bIQ (val a) (val b)):Nat):Int)>1:=by have:=(@auQ (bIQ (val a) (val b))); omega
  have e1:bIQ (val a) (val b)=1:=by omega
  simp only[go_sem,γ,c']
  rw[FU,e1,Nat.div_one,Nat.div_one]
  have:=KP L neg a b ha hb la lb o
  simp only[aC.wp,go_sem] at this
  exact this _ _ rfl rfl rfl rfl rfl Sq
structure CU (C:Ctx):Prop extends pZ C where
 times:∀ a b,Lim a→Lim b→a.length≤35184372087808→b.length≤35184372087808→nl (val a)≤256→nl (val b)≤256→aD C 121 [aF a,aF b] .nil (aE (aF (aG (val a*val b))))
 zero:∀ neg a b,Lim a→a.length≤35184372087808→aD C 122 [.agg (dY neg a b)] .nil (aE (.bool (decide (val a=0))))
 valid:∀ neg a b,Lim a→Lim b→a.length≤35184372087808→b.length≤35184372087808→aD C 118 [.agg (dY neg a b)] .nil (aE (.bool (cM (val a) (val b))))
 abs:∀ v:Int,-9223372036854775808≤v→v≤9223372036854775807→aD C 119 [.int .i64 v] .nil (aE (aF (aG v.natAbs)))
 lowest:∀ neg a b,Lim a→Lim b→a.length≤35184372087808→b.length≤35184372087808→nl (val a)≤512→nl (val b)≤512→val b≠0→aD C 120 [.bool neg,aF a,aF b] .nil (aE (FU neg (val a) (val b)))
def abP (n d:Int):PV:=if d=0 then xM 3 else FU (decide (n<0) != decide (d<0)) n.natAbs d.natAbs
theorem lO {n k:Nat} (h:n<4294967296 ^ k):nl n≤k:=(gI _ _).2 h
theorem aAJ (neg:Bool) (a b:Nat):∃ neg' x y e,FU neg a b=.tup [.agg (dY neg' x y),.int .i64 e]:=by
 unfold FU
 split
 ·exact⟨_,_,_,_,rfl⟩
 ·exact⟨_,_,_,_,rfl⟩
theorem bdH {C:Ctx} (L:CU C) (n d:Int) (h1:-9223372036854775808≤n) (h2:n≤9223372036854775807) (h3:-9223372036854775808≤d) (h4:d≤9223372036854775807) :
  EQ.wp C (aU QN.res (bZ (abP n d))) (PF.args [.int .i64 n,.int .i64 d]) .nil:=by
 simp only[go_sem,δ,EQ,awC,awD]
 refine aQ fun o ho=>?_
 unfold abP
 by_cases c:d=0
 ·subst c
  simp only[go_sem,ρ,δ,γ,awE]
  refine fW ?_
  simp only[go_sem,δ,γ,QN]
 ·rw[if_neg c]
  simp only[go_sem,γ,reduceCtorEq,bF c,awF]
  refine aA (L.abs n h1 h2) rfl ?_
  simp only[go_sem,γ]
  refine aA (L.abs d h3 h4) rfl ?_
  simp only[go_sem]
  have n1:nl n.natAbs≤2:=lO Om
  have n2:nl d.natAbs≤2:=lO Om
  have low:=L.lowest (decide (n<0) != decide (d<0)) (aG n.natAbs) (aG d.natAbs) (aT _) (aT _) (by rw[aZ]; omega) (by rw[aZ]; omega)
  rw[aR,aR] at low
  have low:=low Om Om Om
  refine aA low rfl ?_
  obtain⟨neg',x,y,e,hl⟩:=aAJ (decide (n<0) != decide (d<0)) n.natAbs d.natAbs
  rw[hl]
  simp only[go_sem,δ,γ]
  exact aW (.inr rfl) .nil (vs:=[.agg (dY neg' x y),.int .i64 e]) (by simp only[go_sem,δ,γ,QN]) PH.nil_le ⟨.refl _,rfl⟩
theorem eV {a b:Nat}:cM a b=true↔b≠0∧nl b≤128∧nl a≤128:=by
 have h1:=kF b 128
 have h2:=kF a 128
 have h3:=@iV b
 simp only[cM,bJI,decide_eq_true_eq]
 omega
def QX (neg:Bool) (a b:Nat):PV:=if cM a b then FU neg a b else xM 1
theorem aWX {C:Ctx} (L:CU C) (neg:Bool) (a b:List Nat) (ha:Lim a) (hb:Lim b) (la:a.length≤35184372087808) (lb:b.length≤35184372087808) :
  vW.wp C (aU uU.res (bZ (QX neg (val a) (val b)))) (PF.args [.agg (dY neg a b)]) .nil:=by
 simp only[go_sem,δ,vW,aaJ,aaK]
 refine aQ fun o ho=>?_
 simp only[go_sem,δ,γ]
 refine aA (L.valid neg a b ha hb la lb) rfl ?_
 unfold QX
 cases hv:cM (val a) (val b) with
 | false =>
  simp only[go_sem,δ,γ,reduceCtorEq,aaL,bJB]
  refine fW ?_
  simp only[go_sem,δ,γ,uU]
 | true =>
  obtain⟨v1,v2,v3⟩:=eV.1 hv
  simp only[go_sem,δ,γ,θ,aaM,bIV]
  refine aA (L.lowest neg a b ha hb la lb Om Om v1) rfl ?_
  obtain⟨neg',x,y,e,hl⟩:=aAJ neg (val a) (val b)
  rw[hl]
  simp only[go_sem,δ,γ]
  exact aW (.inr rfl) .nil (vs:=[.agg (dY neg' x y),.int .i64 e]) (by simp only[go_sem,δ,γ,uU]) PH.nil_le ⟨.refl _,rfl⟩
def oY (n1:Bool) (a1 b1:Nat) (n2:Bool) (a2 b2:Nat):Int :=
 match n1&&decide (a1≠0),n2&&decide (a2≠0) with
 | true,true=>- dA (a1*b2) (a2*b1)
 | true,false=>-1
 | false,true=>1
 | false,false=>dA (a1*b2) (a2*b1)
def xK (n1:Bool) (a1 b1:Nat) (n2:Bool) (a2 b2:Nat):PV :=
 if cM a1 b1&&cM a2 b2 then .tup [.int .i64 (oY n1 a1 b1 n2 a2 b2),.int .i64 0] else .tup [.int .i64 0,.int .i64 1]
def fr1:PV→List Nat
 | .agg [_,a,_]=>gQ a
 | _=>[]
def frS:Spec:=fun name vs=>match name,vs with
 | 121,[x,y]=>some ([],fun _=>aE (aF (aG (val (gQ x)*val (gQ y)))))
 | 129,[x,y]=>some ([],fun _=>aE (.int .i64 (dA (val (gQ x)) (val (gQ y)))))
 | 122,[x]=>some ([],fun _=>aE (.bool (decide (val (fr1 x)=0))))
 | _,_=>none
theorem sP (a b:List Nat):frS 121 [aF a,aF b]=some ([],fun _=>aE (aF (aG (val a*val b)))):=by
 show some _=_; rw[dW,dW]
theorem bkS (a b:List Nat):frS 129 [aF a,aF b]=some ([],fun _=>aE (.int .i64 (dA (val a) (val b)))):=by
 show some _=_; rw[dW,dW]
theorem UT (neg:Bool) (a b:List Nat):frS 122 [.agg (dY neg a b)]=some ([],fun _=>aE (.bool (decide (val a=0)))):=by
 show some _=_; rw[fr1,dW]
theorem bcJ (a b:Nat):IntKind.i64.wrap (0-dA a b)=- dA a b:=by
 unfold dA; split
 ·rfl
 ·split<;>rfl
theorem bkO {C:Ctx} (L:CU C) (n1 n2:Bool) (a1 b1 a2 b2:List Nat) (ha1:Lim a1) (hb1:Lim b1) (ha2:Lim a2) (hb2:Lim b2)
  (la1:a1.length≤35184372087808) (lb1:b1.length≤35184372087808) (la2:a2.length≤35184372087808) (lb2:b2.length≤35184372087808) :
  KM.wp C (aU avW.res (bZ (xK n1 (val a1) (val b1) n2 (val a2) (val b2)))) (PF.args [.agg (dY n1 a1 b1),.agg (dY n2 a2 b2)]) .nil:=by
 simp only[go_sem,δ,γ,KM,aMM,aMN]
 refine aA (L.valid n1 a1 b1 ha1 hb1 la1 lb1) rfl ?_
 unfold xK
 cases hv:cM (val a1) (val b1) with
 | false =>
  simp only[go_sem,γ,reduceCtorEq,bJB,ahS,bIS]
  exact aW (.inr rfl) .nil (vs:=[.int .i64 0,.int .i64 1]) rfl PH.nil_le ⟨.refl _,rfl⟩
 | true =>
  obtain⟨v1,v2,v3⟩:=eV.1 hv
  simp only[go_sem,δ,γ,bIV]
  refine aA (L.valid n2 a2 b2 ha2 hb2 la2 lb2) rfl ?_
  cases hw:cM (val a2) (val b2) with
  | false =>
   simp only[go_sem,γ,reduceCtorEq,bJB,ahS,bKC]
   exact aW (.inr rfl) .nil (vs:=[.int .i64 0,.int .i64 1]) rfl PH.nil_le ⟨.refl _,rfl⟩
  | true =>
   obtain⟨w1,w2,w3⟩:=eV.1 hw
   simp only[go_sem,γ,reduceCtorEq,bIV,bKL]
   refine bT .nil frS PH.nil_le ?_
   simp only[go_sem,δ,γ,θ,aMO]
   refine bK (sP a1 b2) (L.times a1 b2 ha1 hb2 la1 lb2 Om Om) rfl PH.nil_le ?_
   simp only[go_sem,δ,γ,θ]
   refine bK (sP a2 b1) (L.times a2 b1 ha2 hb1 la2 lb1 Om Om) rfl PH.nil_le ?_
   simp only[go_sem]
   have m1:=kA v3 w2
   have m2:=kA w3 v2
   have hc:=L.cmp (aG (val a1*val b2)) (aG (val a2*val b1)) (aT _) (aT _) (by rw[aZ]; omega) (by rw[aZ]; omega)
   have hs:=bkS (aG (val a1*val b2)) (aG (val a2*val b1))
   rw[aR,aR] at hc hs
   refine bK hs hc rfl PH.nil_le ?_
   simp only[go_sem,γ]
   refine bT .nil frS PH.nil_le ?_
   have z1:(!decide (val a1=0))=decide (val a1≠0):=by by_cases h:val a1=0<;>simp[h]
   have z2:(!decide (val a2=0))=decide (val a2≠0):=by by_cases h:val a2=0<;>simp[h]
   have fin:∀ (F:PF) (A B:Bool),F 6=some (.int .i64 (dA (val a1*val b2) (val a2*val b1)))→F 7=some (.bool A)→F 8=some (.bool B)→A=(n1&&decide (val a1≠0))→B=(n2&&decide (val a2≠0)) →
     aC.wp C (.seq (.block 0 (.seq (.region uT) (.cond (.tmp 42) (.seq (.region ahT) .ret) (.seq (.region BO) (.cond (.tmp 49) (.seq (.region ahU) .ret) (.seq (.region QK) (.cond (.tmp 51) (.seq (.region UR) .ret) .skip))))))) (.seq (.region US) .ret)) (aU avW.res (bZ (.tup [.int .i64 (oY n1 (val a1) (val b1) n2 (val a2) (val b2)),.int .i64 0]))) F .nil:=by
    intro F A B f6 f7 f8 hA hB
    rw[oY,← hA,← hB]
    cases A<;>cases B
    ·simp only[go_sem,γ,reduceCtorEq,uT,BO,QK,US,f6,f7,f8]
     exact aW (.inr rfl) .nil rfl PH.nil_le ⟨.refl _,rfl⟩
    ·simp only[go_sem,γ,reduceCtorEq,uT,BO,QK,UR,f6,f7,f8]
     exact aW (.inr rfl) .nil rfl PH.nil_le ⟨.refl _,rfl⟩
    ·simp only[go_sem,ο,γ,uT,BO,ahU,f6,f7,f8]
     exact aW (.inr rfl) .nil rfl PH.nil_le ⟨.refl _,rfl⟩
    ·simp only[go_sem,γ,uT,ahT,f6,f7,f8,bcJ]
     exact aW (.inr rfl) .nil rfl PH.nil_le ⟨.refl _,rfl⟩
   simp only[aC.wp,go_sem] at fin
   simp only[go_sem,δ,γ,θ,aMP]
   cases n1 with
   | false =>
    simp only[go_sem,δ,γ,θ,reduceCtorEq]
    cases n2 with
    | false =>
     simp only[go_sem,γ,reduceCtorEq]
     exact fin _ false false rfl rfl rfl rfl rfl
    | true =>
     simp only[go_sem,δ,γ]
     refine bK (UT true a2 b2) (L.zero true a2 b2 ha2 la2) rfl PH.nil_le ?_
     simp only[go_sem,γ,z2]
     exact fin _ false (decide (val a2≠0)) rfl rfl rfl rfl (by rw[bIY])
   | true =>
    simp only[go_sem,δ,γ]
    refine bK (UT true a1 b1) (L.zero true a1 b1 ha1 la1) rfl PH.nil_le ?_
    simp only[go_sem,δ,γ,θ,z1]
    cases n2 with
    | false =>
     simp only[go_sem,γ,reduceCtorEq]
     exact fin _ (decide (val a1≠0)) false rfl rfl rfl (by rw[bIY]) rfl
    | true =>
     simp only[go_sem,δ,γ]
     refine bK (UT true a2 b2) (L.zero true a2 b2 ha2 la2) rfl PH.nil_le ?_
     simp only[go_sem,γ,z2]
     exact fin _ (decide (val a1≠0)) (decide (val a2≠0)) rfl rfl rfl (by rw[bIY]) (by rw[bIY])
abbrev FV:=Bool × Nat × Nat
abbrev FR:=Except Int FV
def fZ (neg:Bool) (a b:Nat):FR :=
 if cD (a/bIQ a b)>4096∨cD (b/bIQ a b)>4096 then .error 2 else .ok (neg&&decide (a/bIQ a b≠0),a/bIQ a b,b/bIQ a b)
def frV:FR→PV
 | .ok (n,a,b)=>aWZ n a b
 | .error e=>xM e
theorem aiH (neg:Bool) (a b:Nat):FU neg a b=frV (fZ neg a b):=by
 unfold FU fZ
 split<;>rfl
def gJ:FV→FV→FR
 | (n1,a1,b1),(n2,a2,b2)=>if cM a1 b1&&cM a2 b2 then
   (if n1=n2 then fZ n1 (a1*b2+a2*b1) (b1*b2) else if a2*b1≤a1*b2 then fZ n1 (a1*b2-a2*b1) (b1*b2) else fZ n2 (a2*b1-a1*b2) (b1*b2))
  else .error 1
theorem aBX {a b m:Nat} (ha:nl a≤m) (hb:nl b≤m):nl (a+b)≤m+1:=by
 rw[gI] at ha hb ⊢
 rw[bKE]; omega
theorem QF (a b:Nat):(dA a b≥0)↔b≤a:=by
 unfold dA
 split
 ·constructor
  ·intro h; exact absurd h (by decide)
  ·intro h; omega
 ·split
  ·constructor
   ·intro h; omega
   ·intro h; decide
  ·constructor
   ·intro h; omega
   ·intro h; decide
theorem rE (r:FR):∃ neg' x y e,frV r=.tup [.agg (dY neg' x y),.int .i64 e]:=by
 rcases r with e | ⟨n,a,b⟩
 ·exact⟨_,_,_,_,rfl⟩
 ·exact⟨_,_,_,_,rfl⟩
theorem bkM {C:Ctx} (L:CU C) (n1 n2:Bool) (a1 b1 a2 b2:List Nat) (ha1:Lim a1) (hb1:Lim b1) (ha2:Lim a2) (hb2:Lim b2)
  (la1:a1.length≤35184372087808) (lb1:b1.length≤35184372087808) (la2:a2.length≤35184372087808) (lb2:b2.length≤35184372087808) :
  KL.wp C (aU KK.res (bZ (frV (gJ (n1,val a1,val b1) (n2,val a2,val b2))))) (PF.args [.agg (dY n1 a1 b1),.agg (dY n2 a2 b2)]) .nil:=by
 simp only[go_sem,δ,γ,KL,aMD]
 refine aQ fun o ho=>?_
 simp only[go_sem,δ,γ,aME]
 refine aA (L.valid n1 a1 b1 ha1 hb1 la1 lb1) rfl ?_
 simp only[gJ]
 cases hv:cM (val a1) (val b1) with
 | false =>
  simp only[go_sem,δ,γ,reduceCtorEq,bJB,ahR,bIS]
  refine fW ?_
  simp only[go_sem,δ,γ,KK]
 | true =>
  obtain⟨v1,v2,v3⟩:=eV.1 hv
  simp only[go_sem,δ,γ,bIV]
  refine aA (L.valid n2 a2 b2 ha2 hb2 la2 lb2) rfl ?_
  cases hw:cM (val a2) (val b2) with
  | false =>
   simp only[go_sem,δ,γ,reduceCtorEq,bJB,ahR,bKC]
   refine fW ?_
   simp only[go_sem,δ,γ,KK]
  | true =>
   obtain⟨w1,w2,w3⟩:=eV.1 hw
   simp only[go_sem,γ,reduceCtorEq,bIV,bKL]
   refine bT .nil frS PH.nil_le ?_
   simp only[go_sem,δ,γ,θ,aMF]
   refine bK (sP a1 b2) (L.times a1 b2 ha1 hb2 la1 lb2 Om Om) rfl PH.nil_le ?_
   simp only[go_sem,δ,γ,θ]
   refine bK (sP a2 b1) (L.times a2 b1 ha2 hb1 la2 lb1 Om Om) rfl PH.nil_le ?_
   simp only[go_sem,γ]
   refine bK (sP b1 b2) (L.times b1 b2 hb1 hb2 lb1 lb2 Om Om) rfl PH.nil_le ?_
   simp only[go_sem,γ]
   have m1:=kA v3 w2
   have m2:=kA w3 v2
   have m3:=kA v2 w2
   have d0:val b1*val b2≠0:=Nat.mul_ne_zero v1 w1
   generalize hA:val a1*val b2=A at *
   generalize hB:val a2*val b1=B at *
   generalize hD:val b1*val b2=D at *
   have fin:∀ (F:PF) (H:PH) (r:FR),(∃ neg' x y e,frV r=.tup [.agg (dY neg' x y),.int .i64 e]∧F 4=some (.ptr o 3 0 0)∧F 5=some (.int .i64 e)∧H o=some (.rows 3 [dY neg' x y]))→aU KK.res (bZ (frV r)) .ret F H:=by
    rintro F H r ⟨neg',x,y,e,he,f4,f5,hH⟩
    rw[he]
    exact aW (.inr rfl) .nil (vs:=[.agg (dY neg' x y),.int .i64 e]) (by simp only[go_sem,δ,KK,f4,f5,hH]) PH.nil_le ⟨.refl _,rfl⟩
   have eb:(n1==n2)=decide (n1=n2):=by cases n1<;>cases n2<;>rfl
   have low:∀ neg x,nl x≤257→aD C 120 [.bool neg,aF (aG x),aF (aG D)] .nil (aE (frV (fZ neg x D))):=by
    intro neg x hx
    have h1:(aG x).length≤35184372087808:=by rw[aZ]; omega
    have h2:(aG D).length≤35184372087808:=by rw[aZ]; omega
    have:=L.lowest neg (aG x) (aG D) (aT _) (aT _) h1 h2
    rw[aR,aR,aiH] at this
    exact this Om Om d0
   have lA:(aG A).length≤35184372087808:=by rw[aZ]; omega
   have lB:(aG B).length≤35184372087808:=by rw[aZ]; omega
   simp only[go_sem,δ,γ,θ,aMG]
   by_cases c:n1=n2
   ·rw[if_pos c]
    have c':(n1==n2)=true:=by rw[eb,decide_eq_true c]
    simp only[go_sem,γ,c',aMH]
    have hadd:=L.add (aG A) (aG B) (aT _) (aT _) lA lB
    have nab:=aBX m1 m2
    rw[aR,aR,fV Om Om,opV,wN Om] at hadd
    refine aA hadd rfl ?_
    simp only[go_sem,δ,γ,θ,reduceCtorEq,aMI]
    refine aA (low n1 _ Om) rfl ?_
    obtain⟨neg',x,y,e,hl⟩:=rE (fZ n1 (A+B) D)
    rw[hl]
    simp only[go_sem,δ,γ]
    rw[← hl]
    exact fin _ _ _ ⟨neg',x,y,e,hl,by simp only[go_sem,γ],by simp only[go_sem,γ],by simp only[go_sem]⟩
   ·rw[if_neg c]
    have c':(n1==n2)=false:=by rw[eb,decide_eq_false c]
    simp only[go_sem,γ,c',aMJ]
    have hc:=L.cmp (aG A) (aG B) (aT _) (aT _) lA lB
    rw[aR,aR] at hc
    refine aA hc rfl ?_
    have hsub:∀ X Y:Nat,nl X≤256→nl Y≤256→Y≤X→aD C 134 [aF (aG X),aF (aG Y)] .nil (aE (.tup [aF (aG (X-Y)),.int .i64 0])):=by
     intro X Y h1 h2 h
     have:=L.sub (aG X) (aG Y) (aT _) (aT _) (by rw[aZ]; omega) (by rw[aZ]; omega)
     have h3:=eY (Om:X-Y≤X)
     rw[aR,aR,pB,fV Om Om,if_neg (by decide),if_neg Om,wN Om] at this
     exact this
    by_cases g:B≤A
    ·have g':dA A B≥0:=(QF A B).2 g
     rw[if_pos g]
     simp only[go_sem,γ,g',aMK]
     refine aA (hsub A B Om Om g) rfl ?_
     simp only[go_sem,δ,γ,θ,aML]
     have h3:=eY (Om:A-B≤A)
     refine aA (low n1 (A-B) Om) rfl ?_
     obtain⟨neg',x,y,e,hl⟩:=rE (fZ n1 (A-B) D)
     rw[hl]
     simp only[go_sem,δ,γ]
     rw[← hl]
     exact fin _ _ _ ⟨neg',x,y,e,hl,by simp only[go_sem,γ],by simp only[go_sem,γ],by simp only[go_sem]⟩
    ·have g':¬ dA A B≥0:=fun h=>g ((QF A B).1 h)
     rw[if_neg g]
     simp only[go_sem,γ,g',avU]
     refine aA (hsub B A Om Om Om) rfl ?_
     simp only[go_sem,δ,γ,θ,avV]
     have h3:=eY (Om:B-A≤B)
     refine aA (low n2 (B-A) Om) rfl ?_
     obtain⟨neg',x,y,e,hl⟩:=rE (fZ n2 (B-A) D)
     rw[hl]
     simp only[go_sem,δ,γ]
     rw[← hl]
     exact fin _ _ _ ⟨neg',x,y,e,hl,by simp only[go_sem,γ],by simp only[go_sem,γ],by simp only[go_sem]⟩
structure RF where
 neg:Bool
 num:List Nat
 den:List Nat
abbrev RF.cells (x:RF):List PV:=dY x.neg x.num x.den
def RF.Ok (x:RF):Prop:=Lim x.num∧Lim x.den∧x.num.length≤35184372087808∧x.den.length≤35184372087808
def RF.v (x:RF):FV:=(x.neg,val x.num,val x.den)
abbrev frs (l:List RF):PV:=.sl 3 (l.map RF.cells)
def FV.rf:FV→RF
 | (n,a,b)=>⟨n,aG a,aG b⟩
def FV.Small:FV→Prop
 | (_,a,b)=>nl a≤900000∧nl b≤900000
theorem FV.brH (x:FV):x.rf.v=x:=by
 obtain⟨n,a,b⟩:=x
 show (n,val (aG a),val (aG b))=_
 rw[aR,aR]
def nA (l:List FV):FR:=l.foldlM gJ (false,0,1)
theorem qK {neg:Bool} {a b:Nat} {r:FV} (h:fZ neg a b=.ok r):r.Small∧r.rf.Ok:=by
 unfold fZ at h
 split at h
 ·cases h
 ·rename_i hc
  have h1:=(kF (a/bIQ a b) 128).1 Om
  have h2:=(kF (b/bIQ a b) 128).1 Om
  injection h with h
  subst h
  refine⟨⟨by omega,by omega⟩,aT _,aT _,?_,?_⟩
  ·show (aG _).length≤_
   rw[aZ]; omega
  ·show (aG _).length≤_
   rw[aZ]; omega
theorem ahK {x y r:FV} (h:gJ x y=.ok r):r.rf.Ok:=by
 obtain⟨n1,a1,b1⟩:=x
 obtain⟨n2,a2,b2⟩:=y
 simp only[gJ] at h
 split at h
 ·split at h
  ·exact (qK h).2
  ·split at h
   ·exact (qK h).2
   ·exact (qK h).2
 ·cases h
theorem SA {α β:Type} {f:β→α→Except Int β} (l:List α) (b:β) {k:Nat} (h:k<l.length):(l.take (k+1)).foldlM f b=((l.take k).foldlM f b).bind fun x=>f x l[k]:=by
 rw[bKK h,List.foldlM_append]
 cases (l.take k).foldlM f b with
 | error e=>rfl
 | ok x =>
  show ([l[k]]:List α).foldlM f x=f x l[k]
  rw[List.foldlM_cons]
  cases f x l[k]<;>rfl
theorem aaH {α β:Type} {f:β→α→Except Int β} (l:List α) (b:β) {k:Nat} {e:Int} (h:(l.take k).foldlM f b=.error e):l.foldlM f b=.error e:=by
 conv=>lhs; rw[← bKZ k l,List.foldlM_append,h]
 rfl
def bgW (l:List RF) (o2 o4:Nat) (k:Nat):PF:=((((((PF.nil.set 2 (.ptr o2 3 0 0)).set 3 (.int .i64 0)).set 4 (.ptr o4 3 0 0)).set 11 (frs l)).set 12 (.int .i64 (l.length:Nat))).set 13 (.int .i64 k))
def WX (o2 o4:Nat) (c:List PV):PH:=(PH.nil.set o2 (.rows 3 [[.bool false,.aB,.aB]])).set o4 (.rows 3 [c])
theorem bkU {C:Ctx} (L:CU C) (hadd:∀ x y:RF,x.Ok→y.Ok→aD C 113 [.agg x.cells,.agg y.cells] .nil (aE (frV (gJ x.v y.v)))) (l:List RF) (hl:∀ x∈l,x.Ok) (hlen:l.length≤9223372036854775807) :
  KT.wp C (aU UW.res (bZ (frV (nA (l.map RF.v))))) (PF.args [frs l]) .nil:=by
 simp only[go_sem,δ,KT,aMT]
 refine aQ fun o2 ho2=>?_
 simp only[go_sem,aMU]
 refine aA (L.make 1 (by decide)) rfl ?_
 simp only[go_sem,δ,γ]
 refine aQ fun o4 ho4=>?_
 have hne:o4≠o2:=by rintro rfl; simp only[bH,if_true] at ho4; cases ho4
 have bHN:o2≠o4:=Ne.symm hne
 simp only[go_sem,δ,γ,reduceCtorEq,aMV]
 refine wp_loop (α:=Nat × FV × PV) (fun t=>bgW l o2 o4 t.1) (fun t=>WX o2 o4 [.bool t.2.1.1,t.2.2,aF (aG t.2.1.2.2)]) (fun t=>t.1≤l.length∧((l.map RF.v).take t.1).foldlM gJ (false,0,1)=.ok t.2.1∧(t.2.2=.aB∧t.2.1.2.1=0∨t.2.2=aF (aG t.2.1.2.1))∧(FV.rf t.2.1).Ok) (fun t=>l.length-t.1)
  (0,(false,0,1),.aB) ⟨bIX _,rfl,.inl ⟨rfl,rfl⟩,⟨aT _,aT _,?_,?_⟩⟩ ?_ ?_ ?_
 ·show (aG 0).length≤_
  rw[eU]; simp
 ·show (aG 1).length≤_
  rw[mB (by decide) (by decide)]; simp
 ·unfold bgW
  (repeat' (first|exact PF.nil_le|refine PF.aI ?_ ?_))<;>first|(simp only[go_sem,γ,bIM]<;>rfl)|rfl
 ·unfold WX
  exact PH.aI (PH.aI PH.nil_le (by simp only[go_sem,bHN,hne])) (by simp only[go_sem,bHN,hne])
 rintro⟨k,⟨an,aa,ab⟩,cy⟩ ⟨hk,hf,hco,hacc⟩
 simp only at hk hf hco hacc ⊢
 have hco':CoL [.bool an,cy,aF (aG ab)] (FV.rf (an,aa,ab)).cells:=by
  refine .cons (.refl _) (.cons ?_ (.cons (.refl _) .nil))
  rcases hco with ⟨rfl,rfl⟩ | rfl
  ·show Co .aB (aF (aG 0))
   rw[eU]; exact .nil 1
  ·exact .refl _
 simp only[go_sem,γ,awI,aMW,bgW]
 by_cases hlt:k<l.length
 ·have bGP:(k:Int)<(l.length:Nat):=by omega
  have hr:(l.map RF.cells)[k]?=some (l[k]).cells:=by simp[hlt]
  simp only[go_sem,δ,γ,bGP,aMX,hr]
  refine aQ fun o6 ho6=>?_
  have n64:o4≠o6:=by rintro rfl; simp only[WX,bH,if_true] at ho6; cases ho6
  have n62:o2≠o6:=by rintro rfl; simp only[WX,bH,if_true,if_neg bHN] at ho6; cases ho6
  simp only[go_sem,δ,γ,aMY,WX,n64,n62,hne,bHN]
  refine aA ((hadd (FV.rf (an,aa,ab)) l[k] hacc (hl _ (bIR hlt))).args (.cons (CoL.agg hco') (.cons (.refl _) .nil))) rfl ?_
  rw[FV.brH]
  have bGQ:=SA (f:=gJ) (l.map RF.v) (false,0,1) (k:=k) (by simpa using hlt)
  rw[hf] at bGQ
  simp only[Except.bind,bKU] at bGQ
  cases he:gJ (an,aa,ab) (l[k]).v with
  | error e =>
   simp only[go_sem,δ,γ,frV]
   refine aQ fun o7 ho7=>?_
   have he0:e≠0:=by
    revert he
    obtain⟨n2,a2,b2⟩:=(l[k]).v
    simp only[gJ,fZ]
    repeat' split
    all_goals (intro h; first | (injection h with h; subst h; decide) | cases h)
   have n72:o2≠o7:=by rintro rfl; simp only[bH,n62,bHN,if_true,if_false] at ho7; cases ho7
   simp only[go_sem,δ,γ,ahV,cT he0,aMZ,n72,n62,bHN]
   rw[he] at bGQ
   rw[nA,aaH _ _ bGQ]
   refine fW ?_
   simp only[go_sem,δ,γ,UW]
  | ok r =>
   obtain⟨rn,ra,rb⟩:=r
   simp only[go_sem,δ,γ,frV]
   refine aQ fun o7 ho7=>?_
   have n74:o4≠o7:=by rintro rfl; simp only[bH,n64,if_true,if_false] at ho7; cases ho7
   have n72:o2≠o7:=by rintro rfl; simp only[bH,n62,bHN,if_true,if_false] at ho7; cases ho7
   simp only[go_sem,σ,δ,γ,ahV,aNA,n74,n72,n64,n62,hne,bHN,Ne.symm n74,aNB,wZz k]
   rw[he] at bGQ
   refine aK (k+1,(rn,ra,rb),aF (aG ra)) ⟨hlt,bGQ,.inr rfl,ahK he⟩ (by simp only; omega) ?_ ?_
   ·exact Lq
   ·refine PH.aI (PH.aI PH.nil_le ?_) ?_
    ·simp only[go_sem,bHN,hne,n74,n72,n64,n62]
    ·simp only[go_sem,bHN,hne,n74,n72,n64,n62]
 ·have bGP:¬ (k:Int)<(l.length:Nat):=by omega
  have:k=l.length:=by omega
  subst this
  rw[bJD (by simp)] at hf
  rw[nA,hf]
  have hfin:bZ (frV (.ok (an,aa,ab))) (aX [.agg [.bool an,cy,aF (aG ab)],.int .i64 0]) .nil:=⟨CoL.tup (.cons (CoL.agg hco') (.cons (.refl _) .nil)),rfl⟩
  rcases hco with ⟨rfl,rfl⟩ | rfl
  ·simp only[go_sem,δ,γ,bGP,UX,WX,hne,bHN]
   refine aW (.inr rfl) .nil ?_ PH.nil_le hfin
   simp only[go_sem,δ,γ,UW,hne,bHN]
  ·simp only[go_sem,δ,γ,bGP,UX,WX,hne,bHN]
   refine aW (.inr rfl) .nil ?_ PH.nil_le hfin
   simp only[go_sem,δ,γ,UW,hne,bHN]
end Go.PM
