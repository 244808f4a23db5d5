/-Lemmas for the law. No condition.-/
import Derived.Test.YtjnaciiebeflnaaGreatDoorGC1
import Derived.Shelf.Strconv.Itoa3
import Derived.Shelf.Sort.Plain
import Derived.Test.YtjnaciiebeflnaaGreatDoorProg
import Derived.ProofKit
import Derived.OpenShut
set_option linter.unusedSimpArgs false
set_option linter.unusedVariables false
open Nat renaming reduceEqDiff->γ,reduceAdd->δ,reduceSub->ε,reduceMul->ζ,reduceLT->η,reduceLeDiff->θ,reduceBEq->τ
open Int renaming reduceLT->ι,reduceLE->κ,reduceEq->μ,reduceToNat->ν,reduceAdd->ξ,reduceNeg->ο,reduceBEq->ρ,reduceBNe->σ
open List renaming reduceReplicate->υ
open List renaming length_map->auW,range->auX,length_append->auZ,replicate->avA,getElem_mem->avB,getElem?_eq_getElem->avF,length_singleton->avG,getD_eq_getElem?_getD->avI,mem_cons->avL,length_take->avN,getElem?_map->avO,take_of_length_le->avT,mem_map->avV,take_length->avW,not_mem_nil->avY,all_eq_true->awA,append_assoc->awB,getElem?_eq_some_iff->awD,map_cons->awE,mem_range->awG,mem_append->awH,append_nil->awJ,length_cons->awK,mem_singleton->awL,drop_zero->awM,getElem?_eq_none->awN,take_succ_eq_append_getElem->awP,getElem_of_mem->awR,length_set->awS,getElem_map->awW,length_drop->awZ,drop_eq_getElem_cons->axB,length_nil->axC,map_nil->axD,mem_of_getElem?->axF,getElem?_range->axO,getElem?_append_right->axR,getElem?_append_left->axU,range_succ->axV,ext_getElem->axZ,map_map->ayD,map_set->ayE,set_append_right->ayF,take_append_drop->ayK,map_take->ayN,cons_append->ayQ,getElem?_drop->ayR,mem_cons_of_mem->ayT,all_cons->ayX,nil_append->azA,set_cons_zero->azB,drop_of_length_le->azH,mem_or_eq_of_mem_set->azJ,getElem_append_right->azK,eq_nil_of_length_eq_zero->azL,getElem_append_left->azM
open Nat renaming zero_le->auY,gcd->avC,le_refl->avD,zero_add->avK,mul_add->avQ,lt_or_ge->avX,le_trans->avZ,mul_assoc->awC,mul_comm->awF,mul_le_mul_right->awI,add_mul->awO,add_zero->awQ,mod_eq_of_lt->awT,beq->awX,mod_lt->awY,pow_succ->axE,eq_zero_or_pos->axJ,add_assoc->axL,succ_mul->axM,min_eq_left->axS,sub_self->axT,mul_le_mul_left->axW,pos_of_ne_zero->axX,mul_le_mul->ayA,mul_one->ayG,pow_pos->ayH,div_le_self->ayL,div_lt_iff_lt_mul->ayO,pow_le_pow_right->ayU,div_eq_of_lt->azC,div_add_mod->azF
open Bool renaming and_eq_true->avE,not_true->avH,false_and->avJ,not_false->avP,true_and->avR,and_false->awU,and_true->axP,and_self->ayJ
open Option renaming map_eq_some_iff->avM,map_some->avS,some->awV,getD_some->axK,bind_some->ayV,bind_eq_some_iff->azD
open Int renaming toNat_natCast->axA,tdiv->axQ
open Array renaming length_toList->ayI
open List renaming length->Z'
set_option maxRecDepth 100000
set_option maxHeartbeats 800000
open Go.IntKind renaming i64->i_,u64->u_
open Go.PM.PF renaming nil->n_,args->g_
open Go.PM.PH renaming nil->h_
noncomputable section
namespace Go.Proofs
open Go.Shelf
def Tryz.Jp:Go.Shelf.Ren:=⟨λ|171=>62|243=>109|246=>164|283=>210|284=>211|285=>212|286=>213|129=>209|317=>234|318=>235|319=>236|320=>237|337=>245|338=>246|n=>n,λ|3=>3|9=>9|2=>2|4=>4|171=>248|0=>0|53=>137|37=>22|5=>5|173=>250|212=>261|51=>186|20=>20|213=>262|46=>191|232=>270|233=>271|n=>n,λ|17=>0|18=>1|19=>2|n=>n⟩
theorem tQ_{α:Type}{x:Option α}{a b:α}(h:x=some a)(k:a=b:=by kernel_rfl):x=some b:=h.trans (congrArg some k)
theorem Tryz.afU:Go.Proofs.Lays.n171 Tryz.prog Tryz.Jp:={
 mixed:=by kernel_rfl
 f129:=tQ_ Tryz.func209
 f171:=tQ_ Tryz.func62
 f243:=tQ_ Tryz.func109
 f246:=tQ_ Tryz.func164
 f283:=tQ_ Tryz.func210
 f284:=tQ_ Tryz.func211
 f285:=tQ_ Tryz.func212
 f286:=tQ_ Tryz.func213
 f317:=tQ_ Tryz.func234
 f318:=tQ_ Tryz.func235
 f319:=tQ_ Tryz.func236
 f320:=tQ_ Tryz.func237
 f337:=tQ_ Tryz.func245
 f338:=tQ_ Tryz.func246
 t0:=Tryz.underlying0
 a0:=Tryz.isAgg0
 z0:=Tryz.sizeOf0
 v0:=Tryz.zeroValue0
 t2:=Tryz.underlying2
 a2:=Tryz.isAgg2
 z2:=Tryz.sizeOf2
 v2:=Tryz.zeroValue2
 t3:=Tryz.underlying3
 a3:=Tryz.isAgg3
 z3:=Tryz.sizeOf3
 v3:=Tryz.zeroValue3
 t4:=Tryz.underlying4
 a4:=Tryz.isAgg4
 z4:=Tryz.sizeOf4
 v4:=Tryz.zeroValue4
 t5:=Tryz.underlying5
 a5:=Tryz.isAgg5
 z5:=Tryz.sizeOf5
 v5:=Tryz.zeroValue5
 t9:=Tryz.underlying9
 a9:=Tryz.isAgg9
 z9:=Tryz.sizeOf9
 v9:=Tryz.zeroValue9
 t20:=Tryz.underlying20
 a20:=Tryz.isAgg20
 z20:=Tryz.sizeOf20
 v20:=Tryz.zeroValue20
 t37:=Tryz.underlying22
 a37:=Tryz.isAgg22
 z37:=Tryz.sizeOf22
 v37:=Tryz.zeroValue22
 t46:=Tryz.underlying191
 a46:=Tryz.isAgg191
 z46:=Tryz.sizeOf191
 v46:=Tryz.zeroValue191
 t51:=Tryz.underlying186
 a51:=Tryz.isAgg186
 z51:=Tryz.sizeOf186
 v51:=Tryz.zeroValue186
 t53:=Tryz.underlying137
 a53:=Tryz.isAgg137
 z53:=Tryz.sizeOf137
 v53:=Tryz.zeroValue137
 t171:=Tryz.underlying248
 a171:=Tryz.isAgg248
 z171:=Tryz.sizeOf248
 v171:=Tryz.zeroValue248
 t173:=Tryz.underlying250
 a173:=Tryz.isAgg250
 z173:=Tryz.sizeOf250
 v173:=Tryz.zeroValue250
 t212:=Tryz.underlying261
 a212:=Tryz.isAgg261
 z212:=Tryz.sizeOf261
 v212:=Tryz.zeroValue261
 t213:=Tryz.underlying262
 a213:=Tryz.isAgg262
 z213:=Tryz.sizeOf262
 t232:=Tryz.underlying270
 a232:=Tryz.isAgg270
 z232:=Tryz.sizeOf270
 v232:=Tryz.zeroValue270
 t233:=Tryz.underlying271
 a233:=Tryz.isAgg271
 z233:=Tryz.sizeOf271
 v233:=Tryz.zeroValue271
 g17:=by kernel_rfl
 g18:=by kernel_rfl
 g19:=by kernel_rfl }
def Tryz.Fc:Go.Shelf.Ren:=⟨λ|191=>55|189=>105|125=>160|257=>159|128=>208|129=>209|294=>199|295=>200|296=>201|297=>202|298=>203|299=>204|216=>205|300=>206|301=>207|328=>228|329=>229|330=>230|331=>231|332=>232|215=>233|343=>244|n=>n,λ|28=>35|0=>0|3=>3|46=>191|51=>186|53=>137|4=>4|183=>241|182=>240|131=>121|5=>5|9=>9|218=>254|222=>258|228=>268|229=>231|n=>n,λ|n=>n⟩
theorem Tryz.Yx:Go.Proofs.Lays.n191 Tryz.prog Tryz.Fc:={
 mixed:=by kernel_rfl
 f125:=tQ_ Tryz.func160
 f128:=tQ_ Tryz.func208
 f129:=tQ_ Tryz.func209
 f189:=tQ_ Tryz.func105
 f191:=tQ_ Tryz.func55
 f215:=tQ_ Tryz.func233
 f216:=tQ_ Tryz.func205
 f257:=tQ_ Tryz.func159
 f294:=tQ_ Tryz.func199
 f295:=tQ_ Tryz.func200
 f296:=tQ_ Tryz.func201
 f297:=tQ_ Tryz.func202
 f298:=tQ_ Tryz.func203
 f299:=tQ_ Tryz.func204
 f300:=tQ_ Tryz.func206
 f301:=tQ_ Tryz.func207
 f328:=tQ_ Tryz.func228
 f329:=tQ_ Tryz.func229
 f330:=tQ_ Tryz.func230
 f331:=tQ_ Tryz.func231
 f332:=tQ_ Tryz.func232
 f343:=tQ_ Tryz.func244
 t0:=Tryz.underlying0
 a0:=Tryz.isAgg0
 z0:=Tryz.sizeOf0
 v0:=Tryz.zeroValue0
 t3:=Tryz.underlying3
 a3:=Tryz.isAgg3
 z3:=Tryz.sizeOf3
 v3:=Tryz.zeroValue3
 t4:=Tryz.underlying4
 a4:=Tryz.isAgg4
 z4:=Tryz.sizeOf4
 v4:=Tryz.zeroValue4
 t5:=Tryz.underlying5
 a5:=Tryz.isAgg5
 z5:=Tryz.sizeOf5
 v5:=Tryz.zeroValue5
 t9:=Tryz.underlying9
 a9:=Tryz.isAgg9
 z9:=Tryz.sizeOf9
 v9:=Tryz.zeroValue9
 t28:=Tryz.underlying35
 a28:=Tryz.isAgg35
 z28:=Tryz.sizeOf35
 v28:=Tryz.zeroValue35
 t46:=Tryz.underlying191
 a46:=Tryz.isAgg191
 z46:=Tryz.sizeOf191
 v46:=Tryz.zeroValue191
 t51:=Tryz.underlying186
 a51:=Tryz.isAgg186
 z51:=Tryz.sizeOf186
 v51:=Tryz.zeroValue186
 t53:=Tryz.underlying137
 a53:=Tryz.isAgg137
 z53:=Tryz.sizeOf137
 v53:=Tryz.zeroValue137
 t131:=Tryz.underlying121
 a131:=Tryz.isAgg121
 z131:=Tryz.sizeOf121
 v131:=Tryz.zeroValue121
 t182:=Tryz.underlying240
 a182:=Tryz.isAgg240
 z182:=Tryz.sizeOf240
 v182:=Tryz.zeroValue240
 t183:=Tryz.underlying241
 a183:=Tryz.isAgg241
 z183:=Tryz.sizeOf241
 v183:=Tryz.zeroValue241
 t218:=Tryz.underlying254
 a218:=Tryz.isAgg254
 z218:=Tryz.sizeOf254
 v218:=Tryz.zeroValue254
 t222:=Tryz.underlying258
 a222:=Tryz.isAgg258
 z222:=Tryz.sizeOf258
 v222:=Tryz.zeroValue258
 t228:=Tryz.underlying268
 a228:=Tryz.isAgg268
 z228:=Tryz.sizeOf268
 v228:=Tryz.zeroValue268
 t229:=Tryz.underlying231
 a229:=Tryz.isAgg231
 z229:=Tryz.sizeOf231
 v229:=Tryz.zeroValue231 }
end Go.Proofs
namespace Go.PM
open Go
inductive Co:PV->PV->Prop
 |refl (v:PV):Co v v
 |junk (v:PV):Co v .junk
 |nil (s:Nat):Co .aJ (.sl s [])
 |osl0 (o s off s':Nat):Co (.osl o s off 0) (.sl s' [])
 |agg {cs ds:V_} (hl:Z' ds=Z' cs) (h:∀(j:Nat) p q,cs[j]?=some p->ds[j]?=some q->Co p q):Co (.agg cs) (.agg ds)
 |tup {cs ds:V_} (hl:Z' ds=Z' cs) (h:∀(j:Nat) p q,cs[j]?=some p->ds[j]?=some q->Co p q):Co (.tup cs) (.tup ds)
 |aX {cs ds:V_} (hl:Z' ds=Z' cs) (h:∀(j:Nat) p q,cs[j]?=some p->ds[j]?=some q->Co p q):Co (.aX cs) (.aX ds)
 |sl {s:Nat} {rs ts:P2_} (hl:Z' ts=Z' rs) (hr:∀(i:Nat) r t,rs[i]?=some r->ts[i]?=some t->Z' t=Z' r)
   (h:∀(i j:Nat) p q,at2 rs i j=some p->at2 ts i j=some q->Co p q):Co (.sl s rs) (.sl s ts)
structure CoL(ps qs:V_):Prop where
 len:Z' qs=Z' ps
 at_:∀(j:Nat) p q,ps[j]?=some p->qs[j]?=some q->Co p q
theorem CoL.refl(ps:V_):CoL ps ps:=⟨rfl,λj p q h k=>by rw[h]at k;cases k;exact .refl p⟩
theorem Co.sound{E:Env}{p q:PV}(h:Co p q):∀{v:Value},bH E p v->bH E q v:=by
 induction h with
 |refl=>intro v r;exact r
 |junk=>intro v _;exact .junk v
 |nil s =>intro v r;cases r;exact .sl (λ_ _=>.bool false) aZ aU aZ aZ (λ_ _=>rfl) (by simp[at2])
 |osl0 o s off s'=>
  intro v r;cases r with
  |osl hb K X W x hn S=>exact .sl (λ_ _=>.bool false) aZ x aZ aZ (λ_ _=>rfl) (by simp[at2])
 |agg w h B=>
  intro v r;cases r with
  |agg vs A F y=>
  refine .agg vs (A.trans w.symm) F λj q u hq U=>?_;have l:=(awD.1 hq).1;have hp:=avF (show j<_ by rw[w]at l;exact l);exact B j _ q hp hq (y j _ u hp U)
 |tup w h B=>
  intro v r;cases r with
  |tup vs A y=>
  refine .tup vs (A.trans w.symm) λj q u hq U=>?_;have l:=(awD.1 hq).1;have hp:=avF (show j<_ by rw[w]at l;exact l);exact B j _ q hp hq (y j _ u hp U)
 |aX w h B=>
  intro v r;cases r with
  |aX u K O F y=>
  refine .aX u K (λj q hq=>?_) F λj q hq=>?_;have l:=(awD.1 hq).1;exact O j _ (avF (show j<_ by rw[w]at l;exact l));have l:=(awD.1 hq).1;have hp:=avF (show j<_ by rw[w]at l;exact l);exact B j _ q hp hq (y j _ hp)
 |@sl s rs ts w J h B=>
  intro v r;have M:∀(i j:Nat) q,at2 ts i j=some q->∃p,at2 rs i j=some p:=by intro i j q hq;unfold at2 at hq ⊢;rw[azD]at hq;obtain⟨t,N,hq⟩:=hq;have hi:=(awD.1 N).1;have y:=avF (Om:i<Z' rs);have:=J i _ t y N;have l:=(awD.1 hq).1;rw[y];exact⟨(rs[i])[j]'Om,by simp⟩
  cases r with
  |sl u V x hs Z F y=>
  rw[<-w];refine .sl u Om x (λt N=>?_) (λR=>?_) F λi j q hq=>?_;obtain⟨i,hi,rfl⟩:=awR N;have:=J i rs[i] ts[i] aZ aZ;rw[this];exact hs _ aZ;obtain⟨Y,e,sp,O⟩:=Z (by rintro rfl;exact R (azL (by simpa using w)));refine⟨Y,e,sp,λi j q hq=>?_⟩;obtain⟨p,hp⟩:=M i j q hq;exact O i j p hp;obtain⟨p,hp⟩:=M i j q hq;exact B i j p q hp hq (y i j p hp)
theorem CoL.sound{E:Env}:∀{ps e:V_}{vs:List Value},CoL ps e->fW E ps vs->fW E e vs
 |[],e,vs,h,r=>by cases r;have:e=[]:=azL h.len;subst this;exact .nil
 |p::ps,e,vs,h,r=>by
  cases r with
  |cons r1 r2=>
  cases e with
  |nil=>have:=h.len;simp at this
  |cons q e =>refine .cons ((h.at_ 0 p q rfl rfl).sound r1) (CoL.sound ⟨by simpa using h.len,λj x y a b=>h.at_ (j+1) x y (by simpa using a) (by simpa using b)⟩ r2)
variable{C:Ctx}
theorem aH.args{name:Nat}{args e:V_}{H:PH}{R:R_}(h:aH C name e H R)(u:CoL args e):aH C name args H R:=
 ⟨h.1,λE w vs l hW i=>h.2 E w vs l hW (u.sound i)⟩
theorem aH.post{name:Nat}{args:V_}{H:PH}{R A:R_}(h:aH C name args H R)(K:∀r H',R r H'->∃r',Co r r'/\A r' H'):aH C name args H A:=
 ⟨h.1,λE w vs J hW x=>(h.2 E w vs J hW x).mono λe N he=>by obtain⟨v,pv,B,H',rfl,i,M,F,hp⟩:=he;obtain⟨y,l,u⟩:=K pv H' hp;exact⟨v,y,B,H',rfl,i,l.sound M,F,u⟩⟩
attribute [go_sem] List.getElem?_cons_succ List.getElem?_cons_zero and_self and_true true_and or_true true_or or_false false_or avH avP avS ayV if_true if_false awK axC List.drop_succ_cons awM List.take_succ_cons List.take_zero awE axD awV.injEq PV.bool.injEq PV.int.injEq bD PV.bin
@[go_sem] theorem amS(k:IntKind)(a b:Int):oE .add k a b=some (.int k (k.wrap (a+b))):=(rfl)
@[go_sem] theorem anC(k:IntKind)(a b:Int):oE .sub k a b=some (.int k (k.wrap (a-b))):=(rfl)
@[go_sem] theorem amY(k:IntKind)(a b:Int):oE .mul k a b=some (.int k (k.wrap (a*b))):=(rfl)
@[go_sem] theorem anA(k:IntKind)(a b:Int):oE .quo k a b=if b=0 then none else some (.int k (k.wrap (a.tdiv b))):=(rfl)
@[go_sem] theorem anB(k:IntKind)(a b:Int):oE .rem k a b=if b=0 then none else some (.int k (a.tmod b)):=(rfl)
@[go_sem] theorem amT(k:IntKind)(a b:Int):oE .eql k a b=some (.bool (a==b)):=(rfl)
@[go_sem] theorem amZ(k:IntKind)(a b:Int):oE .neq k a b=some (.bool (a != b)):=(rfl)
@[go_sem] theorem amX(k:IntKind)(a b:Int):oE .lss k a b=some (.bool (decide (a<b))):=(rfl)
@[go_sem] theorem amW(k:IntKind)(a b:Int):oE .leq k a b=some (.bool (decide (a<=b))):=(rfl)
@[go_sem] theorem amV(k:IntKind)(a b:Int):oE .gtr k a b=some (.bool (decide (a>b))):=(rfl)
@[go_sem] theorem amU(k:IntKind)(a b:Int):oE .geq k a b=some (.bool (decide (a>=b))):=(rfl)
section
variable {C:Ctx} {K:bZ} {F:PF} {H:PH}
@[go_sem] theorem asL:aI.wp C .skip K F H=K .normal F H:=(rfl)
@[go_sem] theorem aoU(ops:List bX):aI.wp C (.region ops) K F H=wpOps C ops (K .normal) F H:=(rfl)
@[go_sem] theorem xj(a b:aI):aI.wp C (.seq a b) K F H=a.wp C (fZ C (b.wp C) K) F H:=(rfl)
@[go_sem] theorem aqD(id:Nat)(c:aI):aI.wp C (.block id c) K F H=c.wp C (fA id K) F H:=(rfl)
@[go_sem] theorem asK(id:Nat):aI.wp C (.exit id) K F H=K (.exit id) F H:=(rfl)
@[go_sem] theorem asZ:aI.wp C .ret K F H=K .ret F H:=(rfl)
def YJ(C:Ctx)(v:Option PV)(a b:aI)(K:bZ)(F:PF)(H:PH):Prop:=
 match v with
 |some (.bool t)=>if t then a.wp C K F H else b.wp C K F H
 |_=>False
@[go_sem] theorem acL(c:aR)(a b:aI):aI.wp C (.cond c a b) K F H=YJ C (c.ev F) a b K F H:=(rfl)
@[go_sem] theorem anH(a b:aI):YJ C (some (.bool true)) a b K F H=a.wp C K F H:=(rfl)
@[go_sem] theorem alT(a b:aI):YJ C (some (.bool false)) a b K F H=b.wp C K F H:=(rfl)
theorem Xn{t:Bool}{a b:aI}(e:t=true->a.wp C K F H)(i:t=false->b.wp C K F H):YJ C (some (.bool t)) a b K F H:=by
 cases t;exact i rfl;exact e rfl
@[go_sem] theorem amB(w:bZ->K_):fZ C w K .normal F H=w K F H:=(rfl)
@[go_sem] theorem alD(w:bZ->K_):fZ C w K .normal=w K:=(rfl)
@[go_sem] theorem apQ(w:bZ->K_)(id:Nat):fZ C w K (.exit id)=K (.exit id):=(rfl)
@[go_sem] theorem arZ(w:bZ->K_):fZ C w K .ret=K .ret:=(rfl)
@[go_sem] theorem aiX(id:Nat):fA id K .normal=K .normal:=(rfl)
@[go_sem] theorem anF(id:Nat):fA id K .ret=K .ret:=(rfl)
@[go_sem] theorem JR(id e:Nat):fA id K (.exit e) F H=if e=id then K .normal F H else K (.exit e) F H:=(rfl)
@[go_sem] theorem aoS(K:K_):wpOps C [] K F H=K F H:=(rfl)
@[go_sem] theorem aoT(d:O_)(op:POp)(rest:List bX)(K:K_):wpOps C (⟨d,op,none⟩::rest) K F H=wpOp C op d (wpOps C rest K) F H:=(rfl)
def CK(C:Ctx)(v:Option PV)(e:Bool)(op:POp)(d:O_)(rest:List bX)(K:K_)(F:PF)(H:PH):Prop:=
 match v with
 |some (.bool b)=>if b=e then wpOp C op d (wpOps C rest K) F H else wpOps C rest K (F.put d (.tup [])) H
 |some (.tup [])=>wpOps C rest K (F.put d (.tup [])) H
 |_=>False
@[go_sem] theorem Kd(d:O_)(op:POp)(t:Nat)(e:Bool)(rest:List bX)(K:K_) :
  wpOps C (⟨d,op,some (t,e)⟩::rest) K F H=CK C (F t) e op d rest K F H:=(rfl)
@[go_sem] theorem apM(op:POp)(d:O_)(rest:List bX)(K:K_):CK C (some (.bool true)) true op d rest K F H=wpOp C op d (wpOps C rest K) F H:=(rfl)
@[go_sem] theorem apJ(op:POp)(d:O_)(rest:List bX)(K:K_):CK C (some (.bool false)) false op d rest K F H=wpOp C op d (wpOps C rest K) F H:=(rfl)
@[go_sem] theorem apL(op:POp)(d:O_)(rest:List bX)(K:K_):CK C (some (.bool true)) false op d rest K F H=wpOps C rest K (F.put d (.tup [])) H:=(rfl)
@[go_sem] theorem apK(op:POp)(d:O_)(rest:List bX)(K:K_):CK C (some (.bool false)) true op d rest K F H=wpOps C rest K (F.put d (.tup [])) H:=(rfl)
@[go_sem] theorem alY(e:Bool)(op:POp)(d:O_)(rest:List bX)(K:K_):CK C (some (.tup [])) e op d rest K F H=wpOps C rest K (F.put d (.tup [])) H:=(rfl)
@[go_sem] theorem arP(d:Nat)(v:PV):F.put (some d) v=F.set d v:=(rfl)
@[go_sem] theorem arO(v:PV):F.put none v=F:=(rfl)
@[go_sem] theorem mO(i j:Nat)(v:PV):(F.set i v) j=if j=i then some v else F j:=(rfl)
@[go_sem] theorem args_at(vs:V_)(i:Nat):g_ vs i=vs[i]?:=(rfl)
@[go_sem] theorem atC(i:Nat):n_ i=none:=(rfl)
@[go_sem] theorem my(t:Nat):(aR.tmp t).ev F=F t:=(rfl)
@[go_sem] theorem arA(v:PV):(aR.const v).ev F=some v:=(rfl)
@[go_sem] theorem aP(i j:Nat)(x:aV):(H.set i x) j=if j=i then some x else H j:=(rfl)
@[go_sem] theorem YP(i:Nat):h_ i=none:=(rfl)
@[go_sem] theorem YM:aR.evs F []=some []:=(rfl)
@[go_sem] theorem GW(x:aR)(xs:List aR):aR.evs F (x::xs)=(match x.ev F,aR.evs F xs with|some v,some vs=>some (v::vs)|_,_=>none):=(rfl)
theorem kO{i j:Nat}{x:aV}:(H.set i x) j=none↔j≠i/\H j=none:=by
 rw[aP];split<;>simp_all
@[go_sem] theorem amC(v:PV)(d:O_)(K:K_):wX (some v) d K F H=K (F.put d v) H:=by
 simp[wX]
theorem aS{e:Nat->PV}{x:aV}{d:O_}{K:K_}(h:∀o,H o=none->K (F.put d (e o)) (H.set o x)):oQ (some (e,x)) d K F H:=⟨e,x,rfl,h⟩
abbrev Wq(C:Ctx)(o:POp):Prop:=∀(d:O_)(K:K_)(F:PF)(H:PH),wpOp C o d K F H=wX (bD o F H) d K F H
theorem wqr{o:POp}(h:Wq C o:=by intro _ _ _ _;rfl):Wq C o:=h
@[go_sem] theorem asX(x:aR):Wq C (.mv x):=wqr
@[go_sem] theorem aqC(x:aR):Wq C (.same x):=wqr
@[go_sem] theorem aqB(c a b:aR):Wq C (.pick c a b):=wqr
@[go_sem] theorem asF(o:BinOp)(x y:aR):Wq C (.bin o x y):=wqr
@[go_sem] theorem asH(n:Bool)(x y:aR):Wq C (.eqb n x y):=wqr
@[go_sem] theorem asI(n:Bool)(e:List Sc)(x y:aR):Wq C (.eqs n e x y):=wqr
@[go_sem] theorem asY(o:UnOp)(x:aR):Wq C (.un o x):=wqr
@[go_sem] theorem apU(k:IntKind)(x:aR):Wq C (.conv k x):=wqr
@[go_sem] theorem aoL(z:V_)(ps:List (Nat × Nat × aR)):Wq C (.build z ps):=wqr
@[go_sem] theorem apZ(n:O_)(p:aR):Wq C (.load n p):=wqr
@[go_sem] theorem amN(x:aR):Wq C (.atX x):=wqr
@[go_sem] theorem amG(off:Nat)(x:aR):Wq C (.auN off x):=wqr
@[go_sem] theorem aoN(off:Nat)(n:O_)(x:aR):Wq C (.field off n x):=wqr
@[go_sem] theorem apW(s:Nat)(x i:aR):Wq C (.auB s x i):=wqr
@[go_sem] theorem apV(n s:Nat)(x i:aR):Wq C (.idxA n s x i):=wqr
@[go_sem] theorem apX(n s:Nat)(g:Bool)(x i:aR):Wq C (.idxV n s g x i):=wqr
@[go_sem] theorem amH(x i:aR):Wq C (.auL x i):=wqr
@[go_sem] theorem aoQ(s:Nat)(x:aR)(lo hi mx:Option aR):Wq C (.slice s x lo hi mx):=wqr
@[go_sem] theorem amO(n s:Nat)(x:aR)(lo hi mx:Option aR):Wq C (.sliceA n s x lo hi mx):=wqr
@[go_sem] theorem ajA(x:aR)(lo hi:Option aR):Wq C (.auH x lo hi):=wqr
@[go_sem] theorem apN:PV.tO .aJ=some (.int .i64 0):=(rfl)
@[go_sem] theorem asV(s:Nat)(rows:P2_):PV.tO (.sl s rows)=some (.int .i64 rows.length):=(rfl)
@[go_sem] theorem arI(o s off n:Nat):PV.tO (.osl o s off n)=some (.int .i64 n):=(rfl)
@[go_sem] theorem asJ(x:aR):Wq C (.len x):=wqr
@[go_sem] theorem amJ(x:aR):Wq C (.auK x):=wqr
@[go_sem] theorem apY(x:aR):Wq C (.lenM x):=wqr
@[go_sem] theorem aoO(n:Bool)(x:aR):Wq C (.isNil n x):=wqr
@[go_sem] theorem amA:PV.wT .aJ=some true:=(rfl)
@[go_sem] theorem anX(o s off len:Nat):PV.wT (.osl o s off len)=some false:=(rfl)
@[go_sem] theorem alZ(s:Nat)(r:V_)(rs:P2_):PV.wT (.sl s (r::rs))=some false:=(rfl)
@[go_sem] theorem amF(x:aR):Wq C (.auV x):=wqr
@[go_sem] theorem alP(x:aR)(i:Nat):Wq C (.extract x i):=wqr
@[go_sem] theorem amM(m:Bool)(x y:aR):Wq C (.auF m x y):=wqr
@[go_sem] theorem aqA(n:Nat)(cs:List aR):Wq C (.mkfn n cs):=wqr
@[go_sem] theorem amK(sh:MSh)(z:PV)(x k:aR)(ok:Bool):Wq C (.lookup sh z x k ok):=wqr
@[go_sem] theorem aiN(x:aR):Wq C (.atY x):=wqr
@[go_sem] theorem apS(x:aR):Wq C (.box true x):=wqr
@[go_sem] theorem alO(s l:Nat)(z:V_)(ps:List (Nat × aR)):Wq C (.atO true s l z ps):=wqr
@[go_sem] theorem aoK(cs:V_)(d:O_)(K:K_):wpOp C (.alloc cs) d K F H=oQ (cN (.alloc cs) F) d K F H:=(rfl)
@[go_sem] theorem alQ(s b:Nat)(z:V_)(l c:aR)(d:O_)(K:K_):wpOp C (.atS s b z l c) d K F H=oQ (cN (.atS s b z l c) F) d K F H:=(rfl)
@[go_sem] theorem aoP(sh:MSh)(d:O_)(K:K_):wpOp C (.auR sh) d K F H=oQ (cN (.auR sh) F) d K F H:=(rfl)
@[go_sem] theorem asG(x:aR)(d:O_)(K:K_):wpOp C (.box false x) d K F H=oQ (cN (.box false x) F) d K F H:=(rfl)
@[go_sem] theorem amE(s l:Nat)(z:V_)(ps:List (Nat × aR))(d:O_)(K:K_):wpOp C (.atO false s l z ps) d K F H=oQ (cN (.atO false s l z ps) F) d K F H:=(rfl)
@[go_sem] theorem aoR(n:Nat)(p x:aR)(d:O_)(K:K_):wpOp C (.store n p x) d K F H=cH (.store n p x) F H (λr H'=>K (F.put d r) H'):=(rfl)
@[go_sem] theorem amD(s b:Nat)(x y:aR)(d:O_)(K:K_):wpOp C (.append s b x y) d K F H=cH (.append s b x y) F H (λr H'=>K (F.put d r) H'):=(rfl)
@[go_sem] theorem amL(sh:MSh)(x k v:aR)(d:O_)(K:K_):wpOp C (.auC sh x k v) d K F H=cH (.auC sh x k v) F H (λr H'=>K (F.put d r) H'):=(rfl)
@[go_sem] theorem amI(sh:MSh)(x k v:aR)(d:O_)(K:K_):wpOp C (.insert sh x k v) d K F H=cH (.insert sh x k v) F H (λr H'=>K (F.put d r) H'):=(rfl)
@[go_sem] theorem apT(n:Nat)(e:List aR)(d:O_)(K:K_):wpOp C (.call n e) d K F H=jS C n e [] d K F H:=(rfl)
@[go_sem] theorem aoM(x:aR)(e:List aR)(d:O_)(K:K_):wpOp C (.auM x e) d K F H=wD C (x.ev F) e d K F H:=(rfl)
@[go_sem] theorem aoJ(n:Nat)(cs:V_)(e:List aR)(d:O_)(K:K_):wD C (some (.fn n cs)) e d K F H=jS C n e cs d K F H:=(rfl)
theorem PF.nil_le:n_.le F:=λ_ _ h=>(by cases h)
abbrev d_:=@PF.nil_le
theorem PF.aK{i:Nat}{v:PV}{G:PF}(w:F.le G)(x:G i=some v):(F.set i v).le G:=by
 intro j u l;rw[mO]at l;split at l;rename_i e;subst e;cases l;exact x;exact w _ _ l
abbrev c_:=@PF.aK
theorem PF.le_refl:F.le F:=λ_ _ h=>h
theorem PH.nil_le:h_.le H:=λ_ _ h=>(by cases h)
abbrev a_:=@PH.nil_le
theorem PH.aK{i:Nat}{x:aV}{G:PH}(w:H.le G)(y:G i=some x):(H.set i x).le G:=by
 intro j u l;rw[aP]at l;split at l;rename_i e;subst e;cases l;exact y;exact w _ _ l
abbrev e_:=@PH.aK
theorem PH.le_refl:H.le H:=λ_ _ h=>h
abbrev b_:=@PH.le_refl
theorem wp_loop{c:aI}{α:Type}(e:α->PF)(Hs:α->PH)(i:α->Prop)(m:α->Nat)(l:α)(u:i l)(w:(e l).le F)(x:(Hs l).le H)
  (hb:∀a,i a->c.wp C (fL e Hs i m (m a) K) (e a) (Hs a)):aI.wp C (.loop c) K F H:=
 ⟨α,e,Hs,i,m,l,F,H,.refl F H,u,w,x,hb⟩
theorem aE{α:Type}{e:α->PF}{Hs:α->PH}{i:α->Prop}{m:α->Nat}{n:Nat}(a:α)(l:i a)(x:m a<n)(u:(e a).le F)(w:(Hs a).le H):fL e Hs i m n K .normal F H:=
 ⟨a,F,H,.refl F H,l,x,u,w⟩
@[go_sem] theorem aoA{α:Type}{e:α->PF}{Hs:α->PH}{i:α->Prop}{m:α->Nat}{n:Nat}(id:Nat):fL e Hs i m n K (.exit id)=K (.exit id):=(rfl)
@[go_sem] theorem apO{α:Type}{e:α->PF}{Hs:α->PH}{i:α->Prop}{m:α->Nat}{n:Nat}:fL e Hs i m n K .ret=K .ret:=(rfl)
def aL(v:PV)(r:PV)(H:PH):Prop:=r=v/\H=h_
theorem PH.xS:H.over .nil .nil=H:=PH.ext λo=>rfl
theorem Kc{name:Nat}{vs cs:V_}{v:PV}{args:List aR}{d:O_}{K:K_}(h:aH C name (vs++cs) .nil (aL v))(e:aR.evs F args=some vs)
  (i:K (F.put d v) H):jS C name args cs d K F H:=by
 refine .inl ⟨vs++cs,.nil,_,by rw[e];rfl,a_,h,?_⟩;rintro r H' ⟨rfl,rfl⟩ _;rw[PH.xS];exact i
theorem aB{name:Nat}{vs:V_}{v:PV}{args:List aR}{d:O_}{K:K_}(h:aH C name vs .nil (aL v))(e:aR.evs F args=some vs)
  (i:K (F.put d v) H):jS C name args [] d K F H:=Kc (cs:=[]) (by rw[awJ];exact h) e i
theorem dN{res:List eE}{vs:V_}{v:PV}{e:lG}(he:e=.normal\/e=.ret)(h:eE.evs F H res=some vs)(x:bL vs=v):aW res (aL v) e F H:=by
 have i:∃vs,eE.evs F H res=some vs/\∃l w H2,jH (n_.set 0 (bL vs)) H l w/\H2.le w/\∃u,l 0=some u/\aL v u H2:=
  ⟨vs,h,_,H,.nil,.refl _ _,a_,v,by rw[mO,aF rfl,x],rfl,rfl⟩
 rcases he with rfl|rfl<;>exact i
theorem cL{F:PF}{H:PH}{res:List eE}{vs:V_}{v:PV}(e:bL vs=v)(h:eE.evs F H res=some vs:=by rfl):aW res (aL v) .ret F H:=dN (.inr rfl) h e
@[go_sem] theorem tK:eE.evs F H []=some []:=(rfl)
@[go_sem] theorem nZ(x:eE)(xs:List eE):eE.evs F H (x::xs)=(match x.ev F H,eE.evs F H xs with|some v,some vs=>some (v::vs)|_,_=>none):=(rfl)
@[go_sem] theorem rP(t:Nat):eE.ev F H (.tmp t)=F t:=(rfl)
@[go_sem] theorem arQ(t:Nat):eE.ev F H (.cell t none)=(match F t with|some p=>(match loadCells H p 1 with|some [v]=>some v|_=>none)|none=>none):=(rfl)
@[go_sem] theorem apP(t k:Nat):eE.ev F H (.cell t (some k))=(match F t with|some p=>(loadCells H p k).map .agg|none=>none):=(rfl)
end
section
variable {C:Ctx} {K:bZ} {F:PF} {H Hs:PH} {S:Spec}
theorem bK{ops:List (bX × Bool)}(Hs:PH)(S:Spec)(e:Hs.le H)(h:wpD C Hs S ops (K .normal) F H):aI.wp C (.draw ops) K F H:=⟨Hs,S,e,h⟩
def cS:Spec:=λ_ _=>none
def dOp(C:Ctx)(Hs:PH)(S:Spec)(st:Bool)(op:POp)(d:O_)(K:K_)(F:PF)(H:PH):Prop:=(op.kind F).run C Hs S st (λv H'=>K (F.put d v) H') H
@[go_sem] theorem asD(K:K_):wpD C Hs S [] K F H=K F H:=(rfl)
@[go_sem] theorem asE(d:O_)(op:POp)(st:Bool)(rest:List (bX × Bool))(K:K_):wpD C Hs S ((⟨d,op,none⟩,st)::rest) K F H=dOp C Hs S st op d (wpD C Hs S rest K) F H:=(rfl)
def HA(C:Ctx)(Hs:PH)(S:Spec)(v:Option PV)(e st:Bool)(op:POp)(d:O_)(rest:List (bX × Bool))(K:K_)(F:PF)(H:PH):Prop:=
 match v with
 |some (.bool b)=>if b=e then dOp C Hs S st op d (wpD C Hs S rest K) F H else wpD C Hs S rest K (F.put d (.tup [])) H
 |some (.tup [])=>wpD C Hs S rest K (F.put d (.tup [])) H
 |_=>False
@[go_sem] theorem apR(d:O_)(op:POp)(t:Nat)(e st:Bool)(rest:List (bX × Bool))(K:K_) :
  wpD C Hs S ((⟨d,op,some (t,e)⟩,st)::rest) K F H=HA C Hs S (F t) e st op d rest K F H:=by
 have i:wpD C Hs S ((⟨d,op,some (t,e)⟩,st)::rest) K F H=((⟨d,op,some (t,e)⟩:bX).kind F).run C Hs S st (λv H'=>wpD C Hs S rest K (F.put d v) H') H:=(rfl);rw[i];unfold bX.kind HA;simp only;cases F t with
 |none=>rfl
 |some v=>
  cases v
  case bool b=>
   simp only;by_cases hb:b=e
   ·rw[aF hb,aF hb];rfl
   ·rw[aC hb,aC hb];simp[Kind.run]
  case tup vs=>cases vs<;>simp[Kind.run]
  all_goals rfl
@[go_sem] theorem apI(op:POp)(st:Bool)(d:O_)(rest:List (bX × Bool))(K:K_):HA C Hs S (some (.bool true)) true st op d rest K F H=dOp C Hs S st op d (wpD C Hs S rest K) F H:=(rfl)
@[go_sem] theorem apF(op:POp)(st:Bool)(d:O_)(rest:List (bX × Bool))(K:K_):HA C Hs S (some (.bool false)) false st op d rest K F H=dOp C Hs S st op d (wpD C Hs S rest K) F H:=(rfl)
@[go_sem] theorem apH(op:POp)(st:Bool)(d:O_)(rest:List (bX × Bool))(K:K_):HA C Hs S (some (.bool true)) false st op d rest K F H=wpD C Hs S rest K (F.put d (.tup [])) H:=(rfl)
@[go_sem] theorem apG(op:POp)(st:Bool)(d:O_)(rest:List (bX × Bool))(K:K_):HA C Hs S (some (.bool false)) true st op d rest K F H=wpD C Hs S rest K (F.put d (.tup [])) H:=(rfl)
@[go_sem] theorem alX(e:Bool)(op:POp)(st:Bool)(d:O_)(rest:List (bX × Bool))(K:K_):HA C Hs S (some (.tup [])) e st op d rest K F H=wpD C Hs S rest K (F.put d (.tup [])) H:=(rfl)
abbrev Dq(C:Ctx)(Hs:PH)(S:Spec)(o:POp):Prop:=∀(st:Bool)(d:O_)(K:K_)(F:PF)(H:PH),dOp C Hs S st o d K F H=wX (bD o F (if st then Hs else H)) d K F H
theorem dqr{Hs:PH}{S:Spec}{o:POp}(h:Dq C Hs S o:=by intro _ _ _ _ _;rfl):Dq C Hs S o:=h
@[go_sem] theorem atA(x:aR):Dq C Hs S (.mv x):=dqr
@[go_sem] theorem aqY(x:aR):Dq C Hs S (.same x):=dqr
@[go_sem] theorem aqX(c a b:aR):Dq C Hs S (.pick c a b):=dqr
@[go_sem] theorem asN(o:BinOp)(x y:aR):Dq C Hs S (.bin o x y):=dqr
@[go_sem] theorem asP(n:Bool)(x y:aR):Dq C Hs S (.eqb n x y):=dqr
@[go_sem] theorem asQ(n:Bool)(e:List Sc)(x y:aR):Dq C Hs S (.eqs n e x y):=dqr
@[go_sem] theorem atB(o:UnOp)(x:aR):Dq C Hs S (.un o x):=dqr
@[go_sem] theorem aqQ(k:IntKind)(x:aR):Dq C Hs S (.conv k x):=dqr
@[go_sem] theorem aoW(z:V_)(ps:List (Nat × Nat × aR)):Dq C Hs S (.build z ps):=dqr
@[go_sem] theorem aqV(n:O_)(p:aR):Dq C Hs S (.load n p):=dqr
@[go_sem] theorem anR(x:aR):Dq C Hs S (.atX x):=dqr
@[go_sem] theorem anL(off:Nat)(x:aR):Dq C Hs S (.auN off x):=dqr
@[go_sem] theorem aoX(off:Nat)(n:O_)(x:aR):Dq C Hs S (.field off n x):=dqr
@[go_sem] theorem aqS(s:Nat)(x i:aR):Dq C Hs S (.auB s x i):=dqr
@[go_sem] theorem aqR(n s:Nat)(x i:aR):Dq C Hs S (.idxA n s x i):=dqr
@[go_sem] theorem aqT(n s:Nat)(g:Bool)(x i:aR):Dq C Hs S (.idxV n s g x i):=dqr
@[go_sem] theorem anM(x i:aR):Dq C Hs S (.auL x i):=dqr
@[go_sem] theorem apA(s:Nat)(x:aR)(lo hi mx:Option aR):Dq C Hs S (.slice s x lo hi mx):=dqr
@[go_sem] theorem ajT(x:aR)(lo hi:Option aR):Dq C Hs S (.auH x lo hi):=dqr
@[go_sem] theorem asR(x:aR):Dq C Hs S (.len x):=dqr
@[go_sem] theorem anN(x:aR):Dq C Hs S (.auK x):=dqr
@[go_sem] theorem aqU(x:aR):Dq C Hs S (.lenM x):=dqr
@[go_sem] theorem aoY(n:Bool)(x:aR):Dq C Hs S (.isNil n x):=dqr
@[go_sem] theorem anK(x:aR):Dq C Hs S (.auV x):=dqr
@[go_sem] theorem alV(x:aR)(i:Nat):Dq C Hs S (.extract x i):=dqr
@[go_sem] theorem anQ(m:Bool)(x y:aR):Dq C Hs S (.auF m x y):=dqr
@[go_sem] theorem aqW(n:Nat)(cs:List aR):Dq C Hs S (.mkfn n cs):=dqr
@[go_sem] theorem anO(sh:MSh)(z:PV)(x k:aR)(ok:Bool):Dq C Hs S (.lookup sh z x k ok):=dqr
@[go_sem] theorem aiZ(x:aR):Dq C Hs S (.atY x):=dqr
@[go_sem] theorem aqP(x:aR):Dq C Hs S (.box true x):=dqr
@[go_sem] theorem alU(s l:Nat)(z:V_)(ps:List (Nat × aR)):Dq C Hs S (.atO true s l z ps):=dqr
@[go_sem] theorem aoV(cs:V_)(st:Bool)(d:O_)(K:K_):dOp C Hs S st (.alloc cs) d K F H=oQ (cN (.alloc cs) F) d K F H:=(rfl)
@[go_sem] theorem alW(s b:Nat)(z:V_)(l c:aR)(st:Bool)(d:O_)(K:K_):dOp C Hs S st (.atS s b z l c) d K F H=oQ (cN (.atS s b z l c) F) d K F H:=(rfl)
@[go_sem] theorem aoZ(sh:MSh)(st:Bool)(d:O_)(K:K_):dOp C Hs S st (.auR sh) d K F H=oQ (cN (.auR sh) F) d K F H:=(rfl)
@[go_sem] theorem asO(x:aR)(st:Bool)(d:O_)(K:K_):dOp C Hs S st (.box false x) d K F H=oQ (cN (.box false x) F) d K F H:=(rfl)
@[go_sem] theorem anJ(s l:Nat)(z:V_)(ps:List (Nat × aR))(st:Bool)(d:O_)(K:K_):dOp C Hs S st (.atO false s l z ps) d K F H=oQ (cN (.atO false s l z ps) F) d K F H:=(rfl)
@[go_sem] theorem apB(n:Nat)(p x:aR)(st:Bool)(d:O_)(K:K_):dOp C Hs S st (.store n p x) d K F H=cH (.store n p x) F H (λr H'=>Hs.le H'/\K (F.put d r) H'):=(rfl)
@[go_sem] theorem anI(s b:Nat)(x y:aR)(st:Bool)(d:O_)(K:K_):dOp C Hs S st (.append s b x y) d K F H=cH (.append s b x y) F H (λr H'=>Hs.le H'/\K (F.put d r) H'):=(rfl)
@[go_sem] theorem anP(sh:MSh)(x k v:aR)(st:Bool)(d:O_)(K:K_):dOp C Hs S st (.auC sh x k v) d K F H=cH (.auC sh x k v) F H (λr H'=>Hs.le H'/\K (F.put d r) H'):=(rfl)
theorem QJ:H.only []=h_:=PH.ext λo=>by simp[PH.only,h_]
theorem cB{name:Nat}{vs:V_}{v:PV}{args:List aR}{st:Bool}{d:O_}{K:K_}(i:S name vs=some ([],λ_=>aL v))(h:aH C name vs .nil (aL v))(l:aR.evs F args=some vs)
  (e:Hs.le H) (u:K (F.put d v) H):dOp C Hs S st (.call name args) d K F H:=by
 refine⟨vs,[],λ_=>aL v,l,i,λo w=>by simp at w,by rw[QJ];exact h,λG=>⟨v,.nil,⟨rfl,rfl⟩,λo x y=>by simp[h_]at y⟩,?_⟩;rintro r H' ⟨rfl,rfl⟩ -;rw[QJ,PH.xS];exact⟨e,u⟩
end
theorem wrap_i64{n:Int}(i:-9223372036854775808<=n)(l:n<=9223372036854775807):i_.wrap n=n:=by
 have e:i_.wrap n=if decide (n%18446744073709551616>=9223372036854775808)=true then n%18446744073709551616-18446744073709551616 else n%18446744073709551616:=by simp[IntKind.wrap,IntKind.bits,IntKind.signed]
 rw[e];split;rename_i h;simp only[dT_]at h;omega;rename_i h;simp only[dT_]at h;omega
theorem kp{k:Nat}(h:k<=9223372036854775807):i_.wrap (k:Int)=k:=wrap_i64 Om Om
theorem eC{k:Nat}(h:k<9223372036854775807):i_.wrap ((k:Int)+1)=((k+1:Nat):Int):=by
 rw[wrap_i64 Om Om];omega
theorem wZz(k:Nat)(h:k<9223372036854775807:=by omega):i_.wrap ((k:Int)+1)=((k+1:Nat):Int):=eC h
theorem wrap_u64{n:Int}(i:0<=n)(l:n<18446744073709551616):u_.wrap n=n:=by
 have e:u_.wrap n=n%18446744073709551616:=by simp[IntKind.wrap,IntKind.bits,IntKind.signed]
 rw[e];omega
abbrev ints(xs:I_):PV:=.sl 1 (xs.map λn=>[.int .i64 n])
open Go Go.RowKit
inductive CT where
 |int (k:IntKind)
 |bool
 |str
 |sl (es:List CT)
 deriving Inhabited
def wP(P:Program)(rec:TypeId->Option (List CT)):Nat->List Field->Option (List CT)
 |_,[]=>some []
 |k,f::e=>match rec f.type with
  |some cts=>if f.offset=k/\P.cellsOf f.type=cts.length then(wP P rec (k+Z' cts) e).map (cts++·)else none
  |none=>none
def jO(P:Program):Nat->TypeId->Option (List CT)
 |0,_=>none
 |n+1,t=>match P.underlying t with
  |some .bool=>some [.bool]
  |some (.int k)=>some [.int k]
  |some .string=>some [.str]
  |some (.slice e)=>match jO P n e with
   |some cts=>if P.cellsOf e=Z' cts/\0<cts.length then some [.sl cts]else none
   |none=>none
  |some (.struct i)=>match wP P (jO P n) 0 i.toList with
   |some cts=>if P.cellsOf t=cts.length then some cts else none
   |none=>none
  |some (.array k e)=>match jO P n e with
   |some cts=>if P.cellsOf e=Z' cts/\P.cellsOf t=k*cts.length then some (avA k cts).flatten else none
   |none=>none
  |_=>none
inductive PV.Ty:CT->PV->Prop
 |int {k:IntKind} {n:Int} (h:(Lit.int k n).wf=true):PV.Ty (.int k) (.int k n)
 |bool (b:Bool):PV.Ty .bool (.bool b)
 |str {s:List UInt8} (h:Z' s<=maxLen):PV.Ty .str (.str s)
 |sl {es:List CT} {rows:P2_} (hr:∀r∈rows,Z' r=Z' es) (hl:Z' rows<=maxLen) (h:∀(i j:Nat) pv ct,at2 rows i j=some pv->es[j]?=some ct->PV.Ty ct pv):PV.Ty (.sl es) (.sl es.length rows)
def Env.of(W:World)(num:Nat->FuncId):Env:=⟨λb=>match W.heap[b]? with|some (.cells cs _ _)=>some cs|_=>none,λ_=>none,num⟩
theorem bY.start(W:World)(num:Nat->FuncId):bY (Env.of W num) h_ W:=by
 refine⟨λb cs hb=>⟨λx e=>(by cases e),?_⟩,λo x e=>(by cases e),λo n h=>(by cases h)⟩;simp only[Env.of]at hb;split at hb;rename_i c ty fr h;cases hb;exact⟨ty,fr,h⟩;cases hb
structure Reads(E:Env)(cts:List CT)(pvs:V_)(cs:List Value):Prop where
 lp:Z' pvs=Z' cts
 lc:Z' cs=Z' cts
 rep:∀(j:Nat) pv c,pvs[j]?=some pv->cs[j]?=some c->bH E pv c/\c.oneCell'=true
 ty:∀(j:Nat) pv ct,pvs[j]?=some pv->cts[j]?=some ct->PV.Ty ct pv
theorem Reads.one{E:Env}{ct:CT}{pv:PV}{c:Value}(h:bH E pv c)(e:c.oneCell'=true)(i:PV.Ty ct pv):Reads E [ct] [pv] [c]:=by
 refine⟨rfl,rfl,λj p u a b=>?_,λj p u a b=>?_⟩
 ·cases j with
  |zero=>simp at a b;subst a;subst b;exact⟨h,e⟩
  |succ j=>simp at a
 ·cases j with
  |zero=>simp at a b;subst a;subst b;exact i
  |succ j=>simp at a
theorem Reads.append{E:Env}{e l:List CT}{i y:V_}{w x:List Value}(h:Reads E e i w)(k:Reads E l y x):Reads E (e++l) (i++y) (w++x):=by
 refine⟨by simp[h.lp,k.lp],by simp[h.lc,k.lc],λj p u a b=>?_,λj p u a b=>?_⟩;rcases avX j i.length with hj|hj
 rw[axU hj]at a;rw[axU (by rw[h.lc,<-h.lp];exact hj)]at b;exact h.rep j p u a b;rw[axR hj]at a;rw[axR (by rw[h.lc,<-h.lp];exact hj)]at b;rw[show j-Z' w=j-i.length by rw[h.lc,h.lp]]at b;exact k.rep _ p u a b;rcases avX j i.length with hj|hj
 rw[axU hj]at a;rw[axU (by rw[<-h.lp];exact hj)]at b;exact h.ty j p u a b;rw[axR hj]at a;rw[axR (by rw[<-h.lp];exact hj)]at b;rw[show j-Z' e=j-i.length by rw[h.lp]]at b;exact k.ty _ p u a b
theorem mg{W:World}{num:Nat->FuncId}{a:Addr}{v:Value}(h:W.cell? a=some v):a.spot=none/\(Env.of W num).cell a.block a.off=some v:=by
 unfold World.cell? at h;split at h;rename_i c ty fr hb;split at h;cases h;rename_i e;refine⟨by simpa using e,?_⟩;simp only[Env.cell,Env.of,hb];exact h;cases h
inductive PV.Len (N:Nat):PV->Prop
 |flat {pv:PV} (h1:∀n rows,pv≠.sl n rows) (h2:∀vs,pv≠.agg vs):PV.Len N pv
 |sl {n:Nat} {rows:P2_} (h:Z' rows<=N) (hr:∀r∈rows,∀v∈r,PV.Len N v):PV.Len N (.sl n rows)
 |agg {vs:V_} (h:∀v∈vs,PV.Len N v):PV.Len N (.agg vs)
theorem PV.Len.int{N:Nat}(k:IntKind)(n:Int):PV.Len N (.int k n):=.flat (λ_ _ h=>by cases h) λ_ h=>by cases h
theorem PV.Len.bool{N:Nat}(b:Bool):PV.Len N (.bool b):=.flat (λ_ _ h=>by cases h) λ_ h=>by cases h
theorem PV.Len.str{N:Nat}(s:List UInt8):PV.Len N (.str s):=.flat (λ_ _ h=>by cases h) λ_ h=>by cases h
theorem PV.Len.rows{N n:Nat}{rows:P2_}(h:PV.Len N (.sl n rows)):Z' rows<=N/\∀r∈rows,∀v∈r,PV.Len N v:=by
 cases h with
 |flat e _=>exact absurd rfl (e n rows)
 |sl e i=>exact⟨e,i⟩
theorem PV.Len.parts{N:Nat}{vs:V_}(h:PV.Len N (.agg vs)):∀v∈vs,PV.Len N v:=by
 cases h with
 |flat _ e=>exact absurd rfl (e vs)
 |agg h=>exact h
structure dy{H:Type}(P:Program)(N:Nat)(S:TypeId->DataW H->Prop):Prop where
 sl:∀t e elems spare,P.underlying t=some (.slice e)->S t (.slice elems spare)->Z' elems<=N/\∀d∈elems,S e d
 st:∀t fs parts,P.underlying t=some (.struct fs)->S t (.agg parts)->∀(i:Nat) g d,fs[i]?=some g->parts[i]?=some d->S g.type d
 ar:∀t n e parts,P.underlying t=some (.array n e)->S t (.agg parts)->∀d∈parts,S e d
theorem YB{H:Type}{P:Program}{A:(TypeId->DataW H->Prop)->Prop}{pv:PV}(h:∀{N},PV.Len N pv):∀N S,dy P N S->A S->∀v∈[pv],PV.Len N v:=λN S _ _ v e=>by
 obtain rfl:=awL.1 e;exact h
theorem mz{P:Program}{E:Env}{rec:TypeId->Option (List CT)}{H:Type}{f:TypeId->List Value->Option (DataW H × List MemPlace)}
  (J:∀t cs x cts,f t cs=some x->rec t=some cts->∃e,Reads E cts e cs/\∀N S,dy P N S->S t x.1->∀v∈e,PV.Len N v) (cs:List Value) :
  ∀(l:List Field)(k:Nat)(cts:List CT),(∀g∈l,∃x,f g.type ((cs.drop g.offset).take (P.cellsOf g.type))=some x)->wP P rec k l=some cts ->
   ∃e,Reads E cts e ((cs.drop k).take cts.length)/\∀N S,dy P N S->(∀g∈l,∀x,f g.type ((cs.drop g.offset).take (P.cellsOf g.type))=some x->S g.type x.1)->∀v∈e,PV.Len N v
 |[],k,cts,_,h=>by simp[wP]at h;subst h;exact⟨[],⟨rfl,by simp,λj p c a=>by simp at a,λj p c a=>by simp at a⟩,λ_ _ _ _ v hv=>by cases hv⟩
 |g::l,k,cts,B,h=>by
  simp only[wP]at h;split at h;rename_i K O;split at h;rename_i A;simp only[avM]at h;obtain⟨M,R,rfl⟩:=h;obtain⟨x,F⟩:=B g aZ;obtain⟨W,r1,U⟩:=J _ _ _ _ F O;rw[A.1,A.2]at r1;obtain⟨X,r2,V⟩:=mz J cs l (k+Z' K) M (λu i=>B u (by simp[i])) R;refine⟨W++X,?_,λN S w y v hv=>?_⟩;have:=r1.append r2;rw[auZ,List.take_add,List.drop_drop];exact this;rcases awH.1 hv with hv|hv
  exact U N S w (y g aZ x F) v hv;exact V N S w (λu i=>y u (by simp[i])) v hv;cases h;cases h
theorem xw{E:Env}{cts:List CT}{R:V_->Prop}(l:R [])(u:∀a b,R a->R b->R (a++b))(cs:List Value) :
  ∀n:Nat,(∀i,i<n->∃e,Reads E cts e ((cs.drop (i*Z' cts)).take cts.length)/\R e)->∃e,Reads E (avA n cts).flatten e (cs.take (n*Z' cts))/\R e
 |0,_=>⟨[],⟨rfl,by simp,λj p c a=>by simp at a,λj p c a=>by simp at a⟩,l⟩
 |n+1,h=>by obtain⟨w,r1,y⟩:=xw l u cs n λi hi=>h i Om;obtain⟨x,r2,A⟩:=h n Om;refine⟨w++x,?_,u _ _ y A⟩;rw[List.replicate_succ',List.flatten_append,List.flatten_singleton,axM,List.take_add];exact r1.append r2
theorem abI{H:Type}{enc:TypeId × Value->H}{P:Program}{W:World}{base:Nat}{sp:Nat->Bool}{β:Bool}(num:Nat->FuncId) :
  ∀(fuel m:Nat)(t:TypeId)(cs:List Value)(x:DataW H × List MemPlace)(cts:List CT),DataW.trod enc P W base sp β fuel t cs=some x->jO P m t=some cts->∃l,Reads (Env.of W num) cts l cs/\∀N S,dy P N S->S t x.1->∀v∈l,PV.Len N v:=by
 intro fuel
 induction fuel with
 |zero=>intro m t cs x cts h;simp[DataW.trod]at h
 |succ fuel ih=>
  intro m t cs x cts h A;cases m with
  |zero=>simp[jO]at A
  |succ m=>
   simp only[jO]at A;split at A;rename_i O;cases A;obtain⟨b,rfl,-⟩:=DataW.trod_bool O h;exact⟨[.bool b],.one (.bool b) rfl (.bool b),YB (.bool b)⟩;rename_i k O;cases A;obtain⟨n,rfl,-,hw⟩:=DataW.trod_int O h;exact⟨[.int k n],.one (.int k n) rfl (.int hw),YB (.int k n)⟩;rename_i O;cases A;obtain⟨s,rfl,-,hs⟩:=DataW.trod_string O h;exact⟨[.str s.data.toList],.one (.str s) rfl (.str (by rw[ayI];exact hs)),YB (.str _)⟩;rename_i e O;split at A;rename_i u he;split at A;rename_i B;cases A;rcases DataW.trod_slice O h with⟨rfl,-⟩|⟨a,len,cap,elems,rest,n,hn,rfl,Y,-,γ,hcap,hel,helem,-⟩
   refine⟨[.sl u.length []],.one ?_ rfl (.sl aZ aZ (by simp[at2])),YB (.sl (auY _) (λr V=>by cases V))⟩;exact .sl (λ_ _=>.bool false) aZ aU aZ aZ (λ_ _=>rfl) (by simp[at2]);cases hn;have each:∀i,i<len->∃l Z,(Reads (Env.of W num) u l Z/\∀N S,dy P N S->(∀d∈elems.map (·.1),S e d)->∀v∈l,PV.Len N v)/\W.cells? base (a.add (i*Z' u)) u.length=some Z:=by intro i hi;have h1:=helem i hi;rw[avF Om,azD]at h1;obtain⟨Z,h2,h3⟩:=h1;obtain⟨l,r,rl⟩:=ih m e Z _ u h3 he;rw[B.1]at h2;exact⟨l,Z,⟨r,λN S J K=>rl N S J (K _ (avV.2 ⟨_,avB _,rfl⟩))⟩,h2⟩
   have δ:∀i,∃l,∃Z,i<len->(Reads (Env.of W num) u l Z/\∀N S,dy P N S->(∀d∈elems.map (·.1),S e d)->∀v∈l,PV.Len N v)/\W.cells? base (a.add (i*Z' u)) u.length=some Z:=by intro i;by_cases hi:i<len;obtain⟨l,Z,h1⟩:=each i hi;exact⟨l,Z,λ_=>h1⟩;exact⟨[],[],λh=>(hi h).elim⟩
   obtain⟨pf,ξ⟩:=Classical.axiomOfChoice δ;obtain⟨uf,M⟩:=Classical.axiomOfChoice ξ;have ε:∀i j pv,at2 ((auX len).map pf) i j=some pv->i<len/\(pf i)[j]?=some pv:=by
    intro i j pv hp;unfold at2 at hp;rw[avO,azD]at hp;obtain⟨r,V,hp⟩:=hp;rw[avM]at V;obtain⟨i',U,rfl⟩:=V;have hi:i<len:=by simpa using(awD.1 U).1
    have:i'=i:=by simp[hi]at U;exact U.symm
    subst this;exact⟨hi,hp⟩
   have hu2:∀i j pv,at2 ((auX len).map pf) i j=some pv->∃v,(uf i)[j]?=some v/\j<Z' u/\bH (Env.of W num) pv v/\v.oneCell'=true:=by
    intro i j pv hp;obtain⟨hi,X⟩:=ε i j pv hp;obtain⟨⟨r,-⟩,-⟩:=M i hi;have hj:j<Z' u:=by rw[<-r.lp];exact(awD.1 X).1
    have F:(uf i)[j]?=some ((uf i)[j]'(by rw[r.lc];exact hj)):=avF _;exact⟨_,F,hj,(r.rep j pv _ X F).1,(r.rep j pv _ X F).2⟩
   have α:((auX len).map pf).length=len:=by simp
   refine⟨[.sl u.length ((auX len).map pf)],.one ?_ rfl (.sl (λr V=>?_) (by rw[α];omega) λi j pv ct hp κ=>?_),λN S J K v F=>?_⟩;have η:=bH.sl (E:=Env.of W num) (size:=Z' u) (rows:=(auX len).map pf) (a:=some a) (cap:=cap)
    (λi j=>match at2 ((auX len).map pf) i j with|some _=>((uf i)[j]?).getD (.bool false)|none=>.bool false) (by rw[α];exact γ) hcap
    (λr V=>by simp only[avV,awG]at V;obtain⟨i,hi,rfl⟩:=V;exact(M i hi).1.1.lp)
    (λν=>by
     have μ:0<len:=by
      rcases axJ len with h|h
      subst h;exact(ν rfl).elim;exact h
     have ζ:a.spot=none:=by obtain⟨⟨r,-⟩,A⟩:=M 0 μ;have h3:=(World.cells?_some A).2.2 0 B.2;rw[Nat.zero_mul,Addr.add_zero',Addr.add_zero',avF (by rw[r.lc];exact B.2)]at h3;exact(mg (num:=num) h3).1
     refine⟨a,rfl,ζ,λi j pv hp=>?_⟩;obtain⟨hi,-⟩:=ε i j pv hp;obtain⟨v,F,hj,-⟩:=hu2 i j pv hp;have h3:=(World.cells?_some (M i hi).2).2.2 j hj;rw[sA ζ,add_plain,add_plain,F]at h3;have h4:=(mg (num:=num) h3).2;simp only[hp,F,axK];exact h4)
    (λi j=>by split;rename_i pv hp;obtain⟨v,F,-,-,h1⟩:=hu2 i j pv hp;simp[F,h1];rfl)
    (λi j pv hp=>by obtain⟨v,F,-,h1,-⟩:=hu2 i j pv hp;simp only[hp,F,axK];exact h1)
   rw[α]at η;exact η;simp only[avV,awG]at V;obtain⟨i,hi,rfl⟩:=V;exact(M i hi).1.1.lp;obtain⟨hi,X⟩:=ε i j pv hp;exact(M i hi).1.1.ty j pv ct X κ;rw[Y]at K;obtain⟨m1,m2⟩:=J.sl t e _ _ O K;obtain rfl:=awL.1 F;refine .sl (by rw[α];simpa[hel]using m1) λr V w hw=>?_;simp only[avV,awG]at V;obtain⟨i,hi,rfl⟩:=V;exact(M i hi).1.2 N S J m2 w hw;cases A;cases A;rename_i fs O;split at A;rename_i ρ θ;split at A;rename_i γ;cases A;obtain⟨xs,n,hn,Y,ι,ο,hx⟩:=DataW.trod_struct O h;cases hn;have:=mz (f:=DataW.trod enc P W base sp β fuel) (λt cs x cts a b=>ih m t cs x cts a b) cs fs.toList 0 cts (λg hg=>by obtain⟨i,hi,rfl⟩:=awR hg;have:=hx i fs.toList[i] (by simp at hi;simp[hi]);rw[this];exact⟨_,avF (by simp at hi;omega)⟩) θ
   rw[awM,avT Om]at this;obtain⟨l,r,rl⟩:=this;refine⟨l,r,λN S J K=>rl N S J λg hg y hy=>?_⟩;rw[Y]at K;obtain⟨i,hi,rfl⟩:=awR hg;have U:i<fs.size:=by simpa using hi
   have:=hx i fs.toList[i] (by simp[U]);rw[hy,avF Om]at this;refine J.st t fs _ O K i fs.toList[i] y.1 (by simp[U]) ?_;rw[avO,avF Om,<-this];rfl;cases A;cases A;rename_i k e O;split at A;rename_i u he;split at A;rename_i B;cases A;obtain⟨xs,n,hn,Y,ι,ο,hx⟩:=DataW.trod_array O h;cases hn;obtain⟨l,r,hq⟩:=xw (E:=Env.of W num) (cts:=u) (R:=λl=>∀N S,dy P N S->(∀d:DataW H,d∈xs.map (λy:DataW H × List MemPlace=>y.1)->S e d)->∀v∈l,PV.Len N v) (λ_ _ _ _ v F=>by cases F)
    (λa b ha hb N S J K v F=>(awH.1 F).elim (ha N S J K v) (hb N S J K v)) cs k λi hi=>by have h2:=hx i hi;rw[avF Om,B.1]at h2;obtain⟨l,r,rl⟩:=ih m e _ _ u h2 he;exact⟨l,r,λN S J K=>rl N S J (K _ (avV.2 ⟨_,avB _,rfl⟩))⟩
   rw[avT Om]at r;exact⟨l,r,λN S J K=>hq N S J (J.ar t k e _ O (by rw[Y]at K;exact K))⟩;cases A;cases A;cases A
theorem s8{H:Type}{enc:TypeId × Value->H}{P:Program}{W:World}{base:Nat}{u:Nat->Bool}{e:Bool}(num:Nat->FuncId)
  (fuel m:Nat) (t:TypeId) (cs:List Value) (x:DataW H × List MemPlace) (cts:List CT) (h:DataW.trod enc P W base u e fuel t cs=some x) (l:jO P m t=some cts):∃i,Reads (Env.of W num) cts i cs:=
 (abI num fuel m t cs x cts h l).imp λ_ r=>r.1
open Go Go.RowKit Go.ChangeShapes Go.WideShapes
theorem Ext.below{E i:Env}{H':PH}{w e:World}(h:Ext E h_ w i H' e):Below w.heap.size w e:=
 ⟨h.os,h.tape,h.output,h.size,λk l=>h.block k l rfl⟩
theorem Below.trodAll{H:Type}{enc:TypeId × Value->H}{P:Program}(w:laidOutB P=true){W i:World}(hb:Below W.heap.size W i) :
  ∀{ts:List TypeId}{vs:List Value}{ds:List (DataW H)}{ps:List MemPlace},(∀t∈ts,P.readableRec t=true/\t<P.types.size)->DataW.TrodAll enc P W 0 (λ_=>true) true ts vs ds ps ->
   DataW.TrodAll enc P i 0 (λb=>decide (b<W.heap.size)) true ts vs ds ps
 |[],[],[],ps,_,h=>h
 |[],_::_,_,_,_,h=>h.elim
 |[],[],_::_,_,_,h=>h.elim
 |_::_,[],_,_,_,h=>h.elim
 |_::_,_::_,[],_,_,h=>h.elim
 |t::ts,v::vs,d::ds,ps,e,h=>by obtain⟨p,q,l,y,rfl⟩:=h;have hlt:∀x∈p,x.block<W.heap.size:=λx B=>DataW.TrodAll.lt (ts:=[t]) (vs:=[v]) (ds:=[d]) ⟨p,[],l,rfl,(awJ p).symm⟩ x B;exact⟨p,q,Below.trod w (e t aZ).1 (e t aZ).2 l hb hlt,Below.trodAll w hb (λu A=>e u (by simp[A])) y,rfl⟩
theorem Uv{H:Type}{enc:TypeId × Value->H}{P:Program}{f:Func}{s:ChangeSpec}{e apart fresh:Bool}{W B:World}{args:Array Value}{ds l:List (DataW H)}{i:List MemPlace}{bt:TypeId}
  (J:laidOutB P=true) (hW:DataW.Whole enc P f.params.toList s.vars apart W args.toList ds l i) (hb:Below W.heap.size W B) (x:∀t∈f.params.toList,P.readableRec t=true/\t<P.types.size)
  (w:f.resultTypes=#[bt]) (u:P.underlying bt=some .bool) (y:s.vars=[]) (M:(s.fn H (ds++l)).results=[.lit (.bool true)]) (F:(s.fn H (ds++l)).args=ds) (A:(s.fn H (ds++l)).vars=[]) :
  s.post enc P f apart fresh e false W args (.bool true) B:=by
 obtain⟨p,q,E,hV,rfl,N,K⟩:=hW;rw[y]at hV;obtain⟨rfl,rfl⟩:=trodVars_none hV;refine⟨ds,[],p++[],[],p,[],⟨p,[],E,by rw[y];exact hV,rfl,N,K⟩,?_,?_,?_,hb.frame _,λh=>by cases h⟩;rw[M,w];refine⟨[],[],⟨1,?_⟩,rfl,rfl⟩;simp[DataW.trod,u,Value.cells,Value.resultList];rw[F];exact Below.trodAll J hb x E;rw[y,A];exact rfl
theorem Ti{name:Nat}{W:World}{args:Array Value}{l:V_}(h:aH C name l h_ (aL (.bool true)))(x:fW (Env.of W C.num) l args.toList) :
  Calls C.P (C.num name) args W λe u=>e=.returned (.bool true)/\Below W.heap.size W u:=
 (h.2 (Env.of W C.num) W args rfl (bY.start W C.num) x).mono λe u he=>by obtain⟨v,pv,y,H',rfl,-,i,w,rfl,-⟩:=he;cases i;exact⟨rfl,w.below⟩
theorem M9{H:Type}{enc:TypeId × Value->H}{P:Program}{W:World}{r:Reach}{base:Nat}{J:Nat->Bool}{l:Bool}(num:Nat->FuncId){t:TypeId}{v:Value}{d:DataW H}{ps:List MemPlace}{A:Array Field}{n:Nat}{cts:List CT}
  (x:P.underlying t=some (.struct A)) (w:Value.okWide P W r base t v) (E:DataW.Trod enc P W 0 J l t v d ps) (B:jO P n t=some cts) :
  ∃e,bH (Env.of W num) (.agg e) v/\Z' e=Z' cts/\∀(j:Nat) pv ct,e[j]?=some pv->cts[j]?=some ct->PV.Ty ct pv:=by
 obtain⟨cs,rfl,-⟩:=okWide_struct x w;obtain⟨fuel,h⟩:=E;obtain⟨e,i⟩:=s8 num fuel n t _ _ cts h B;have F:cs.size=Z' e:=by have:=i.lc;rw[i.lp,<-this];simp[Value.cells]
 refine⟨e,.agg cs F (λu x=>?_) (λj pv u a b=>(i.rep j pv u a (by simpa[Value.cells]using b)).1),i.lp,i.ty⟩;obtain⟨j,y,rfl⟩:=awR x;simp only[ayI]at y;exact(i.rep j _ _ (avF Om) (by simp[Value.cells,y])).2
theorem AH{H:Type}{enc:TypeId × Value->H}{P:Program}{W:World}{A:Nat->Bool}{e:Bool}(num:Nat->FuncId){t:TypeId}{v:Value}{d:DataW H}{ps:List MemPlace}{n:Nat}{ct:CT}
  (y:v.cells=#[v]) (w:DataW.Trod enc P W 0 A e t v d ps) (u:jO P n t=some [ct]):∃pv,bH (Env.of W num) pv v/\PV.Ty ct pv:=by
 obtain⟨fuel,h⟩:=w;obtain⟨l,i⟩:=s8 num fuel n t _ _ [ct] h u;rw[y]at i;have x:=i.lp;cases l with
 |nil=>simp at x
 |cons pv rest=>exact⟨pv,(i.rep 0 pv v rfl rfl).1,i.ty 0 pv ct rfl rfl⟩
def InK(k:IntKind)(n:Int):Prop:=k.min<=n/\n<=k.max
def Ot(k:IntKind)(xs:I_):PV:=.sl 1 (xs.map λn=>[.int k n])
theorem Ty.YS{k:IntKind}{pv:PV}(h:PV.Ty (.int k) pv):∃n,pv=.int k n/\InK k n:=by
 cases h with
 |int h=>simp only[Lit.wf,avE,dT_]at h;exact⟨_,rfl,h⟩
theorem Ty.ahR{ct:CT}{pv:PV}(h:PV.Ty (.sl [ct]) pv):∃vs:V_,pv=.sl 1 (vs.map λv=>[v])/\Z' vs<=maxLen/\∀v∈vs,PV.Ty ct v:=by
 cases h with
 |@sl E rows B A h=>
 have l:∀r∈rows,r=[r.headD .junk]:=λr u=>by
  have:=B r u
  match r,this with
  |[x],_=>rfl
 have e:rows=(rows.map λr=>r.headD .junk).map λv=>[v]:=by rw[ayD];apply axZ aZ;intro n y F;simp only[awW,Function.comp];exact l _ (avB y)
 refine⟨rows.map λr=>r.headD .junk,by rw[<-e];rfl,by simpa using A,λv w=>?_⟩;rw[avV]at w;obtain⟨r,u,rfl⟩:=w;obtain⟨i,hi,rfl⟩:=awR u;refine h i 0 _ ct ?_ rfl;have:=l rows[i] u;unfold at2;rw[avF hi,ayV,this];rfl
theorem Ty.E5{k:IntKind}{pv:PV}(h:PV.Ty (.sl [.int k]) pv):∃xs:I_,pv=Ot k xs/\Z' xs<=maxLen/\∀x∈xs,InK k x:=by
 obtain⟨vs,rfl,A,l⟩:=Ty.ahR h;have e:vs=(vs.map λv=>match v with | .int _ n=>n|_=>0).map λn=>PV.int k n:=by rw[ayD];apply axZ aZ;intro n w B;simp only[awW,Function.comp];obtain⟨m,i,-⟩:=Ty.YS (l _ (avB w));rw[i]
 refine⟨vs.map λv=>match v with | .int _ n=>n|_=>0,?_,by simpa using A,λx u=>?_⟩
 ·unfold Ot
  conv=>lhs;rw[e]
  rw[ayD];rfl
 ·rw[avV]at u;obtain⟨v,i,rfl⟩:=u;obtain⟨m,rfl,y⟩:=Ty.YS (l v i);exact y
end Go.PM
namespace Go.Proofs.YtjnaciiebeflnaaGreatDoor
open Go Go.PM
def Lm:N_:=[0,0,0,375,376,363,4,310,5,366,377,29,1,7,28,364,367,83,308,304,307,309,231,151,368,369,220,84,378,3,30,48,8,6,51,334,289,365,331,329,373,68,306,305,78,86,300,303,301,97,207,208,211,162,155,374,218,216,219,88,221,2,196,59,36,60,343,344,345,346,116,347,337,287,299,288,285,370,153,152,371,372,336,115,338,232,339,77,74,71,69,57,55,75,73,70,105,112,96,113,111,212,161,159,158,181,82,91,85,164,39,35,34,206,352,353,354,355,356,121,120,357,286,283,284,293,297,298,349,119,130,122,123,233,230,209,279,350,114,63,72,76,56,54,52,53,62,67,50,106,98,100,118,103,107,109,124,157,160,193,172,89,90,81,163,42,40,204,359,360,361,132,129,131,136,133,292,295,296,117,139,134,202,280,128,135,66,65,47,61,33,99,104,101,108,110,102,127,126,185,184,182,183,194,190,10,191,192,173,174,171,170,166,167,32,46,45,43,41,138,137,142,64,31,58,38,37,125,195,188,0,186,187,11,169,165,168,175,141,144,143,140,44,49,189,176,177]
def akK : N_ -> Nat -> Nat -> Nat
 | [], _, _ => 0
 | x :: l, n, k => if awX x n then k else akK l n (k+1)
def num(n:Nat):FuncId:=akK Lm (n+1) 0
def nameOf (f : FuncId) : O_ := match Lm.getD f 0 with
 | 0 => none
 | n+1 => some n
noncomputable def T(ro:N_):Tbl:={ P:=Tryz.prog,num:=num,name:=nameOf,ro:=ro }
end Go.Proofs.YtjnaciiebeflnaaGreatDoor
namespace Go.PM
open Go
abbrev Rg:=List bX
abbrev Rd:=List (bX×Bool)
def aI.rs : aI->List Rg
 | .region r=>[r] | .seq a b=>a.rs++b.rs | .cond _ a b=>a.rs++b.rs | .block _ a=>a.rs | .loop a=>a.rs | _=>[]
def aI.ds : aI->List Rd
 | .draw r=>[r] | .seq a b=>a.ds++b.ds | .cond _ a b=>a.ds++b.ds | .block _ a=>a.ds | .loop a=>a.ds | _=>[]
theorem GF (n:Nat) (h:n<2^8):UInt8.ofBitVec (BitVec.ofFin ⟨n,h⟩)=UInt8.ofNat n:=by
 apply UInt8.toNat_inj.1;have e:n<256:=h;simp [UInt8.toNat_ofNat'];omega
def aI.ls : aI->List aI
 | .seq a b=>a.ls++b.ls | .cond _ a b=>a.ls++b.ls | .block _ a=>a.ls | .loop a=>a::a.ls | _=>[]
def bP(ro:N_)(f:Func)(x:{p:lH//(Go.Proofs.YtjnaciiebeflnaaGreatDoor.T ro).func f=some p}:=by refine⟨?_,?_⟩;rotate_left;conv=>lhs;reduce):lH:=x.1
def aA(q:lH)(k:Nat)(x:{l:Rg//(q.body.rs).getD k []=l}:=by refine⟨?_,?_⟩;rotate_left;conv=>lhs;reduce;try simp only[GF,UInt8.reduceOfNat,Int.reduceOfNat,Int.reduceNegSucc]):Rg:=x.1
def eH(q:lH)(k:Nat)(x:{l:Rd//(q.body.ds).getD k []=l}:=by refine⟨?_,?_⟩;rotate_left;conv=>lhs;reduce;try simp only[GF,UInt8.reduceOfNat,Int.reduceOfNat,Int.reduceNegSucc]):Rd:=x.1
def aoB(q:lH)(k:Nat)(x:{c:aI//(q.body.ls).getD k .skip=c}:=by refine⟨?_,?_⟩;rotate_left;conv=>lhs;reduce;try simp only[GF,UInt8.reduceOfNat,Int.reduceOfNat,Int.reduceNegSucc]):aI:=x.1
def bV(q:lH)(x:{c:aI//q.body=c}:=by refine⟨?_,?_⟩;rotate_left;conv=>lhs;reduce;try simp only[GF,UInt8.reduceOfNat,Int.reduceOfNat,Int.reduceNegSucc]):aI:=x.1
@[go_sem ↓] theorem asS(ro:N_)(f:Func)(p:lH)(h:(Go.Proofs.YtjnaciiebeflnaaGreatDoor.T ro).func f=some p):bP ro f ⟨p,h⟩=p:=(rfl)
@[go_sem ↓] theorem arL(q:lH)(k:Nat)(l:aI)(h:(q.body.ls).getD k .skip=l):aoB q k ⟨l,h⟩=l:=(rfl)
@[go_sem ↓] theorem aqK(q:lH)(l:aI)(h:q.body=l):bV q ⟨l,h⟩=l:=(rfl)
@[go_sem ↓] theorem arR(q:lH)(k:Nat)(l:Rg)(h:(q.body.rs).getD k []=l):aA q k ⟨l,h⟩=l:=(rfl)
@[go_sem ↓] theorem aqZ(q:lH)(k:Nat)(l:Rd)(h:(q.body.ds).getD k []=l):eH q k ⟨l,h⟩=l:=(rfl)
def gB(d:Nat)(o:BinOp)(x y g:Nat)(b:Bool):bX:=⟨some d,.bin o (.tmp x) (.tmp y),some (g,b)⟩
def sq(r:Rg)(c:aI):aI:=.seq (.region r) c
def dq(r:Rd)(c:aI):aI:=.seq (.draw r) c
def Tm(n:Nat):aR:=.tmp n
@[go_sem] theorem atF(d:Nat)(o:BinOp)(x y g:Nat)(b:Bool):gB d o x y g b=⟨some d,.bin o (.tmp x) (.tmp y),some (g,b)⟩:=(rfl)
@[go_sem] theorem atG(r:Rg)(c:aI):sq r c=.seq (.region r) c:=(rfl)
@[go_sem] theorem atE(r:Rd)(c:aI):dq r c=.seq (.draw r) c:=(rfl)
@[go_sem] theorem atD(n:Nat):Tm n=.tmp n:=(rfl)
def jB(r:Rg)(t k:Nat)(s:Rg)(b:aI):aI:=sq r (.seq (.cond (Tm t) .skip (.exit k)) (.seq (.block (k+1) b) (.region s)))
@[go_sem] theorem arJ(r:Rg)(t k:Nat)(s:Rg)(b:aI):jB r t k s b=sq r (.seq (.cond (Tm t) .skip (.exit k)) (.seq (.block (k+1) b) (.region s))):=(rfl)
def dY(r:Rg)(t k:Nat)(s:Rg)(b:aI):aI:=.seq (sq r (.cond (Tm t) .skip (.exit k))) (.seq (.block (k+1) b) (.region s))
@[go_sem] theorem arK(r:Rg)(t k:Nat)(s:Rg)(b:aI):dY r t k s b=.seq (sq r (.cond (Tm t) .skip (.exit k))) (.seq (.block (k+1) b) (.region s)):=(rfl)
def kB(r:Rg)(n:Nat)(y:Rg)(b:aI):aI:=.seq (sq r (.cond (Tm n) (sq y .ret) .skip)) b
@[go_sem] theorem aqN(r:Rg)(n:Nat)(y:Rg)(b:aI):kB r n y b=.seq (sq r (.cond (Tm n) (sq y .ret) .skip)) b:=(rfl)
def iH(r:Rg)(n:Nat)(a b:aI):aI:=.seq (sq r (.cond (Tm n) a .skip)) b
@[go_sem] theorem aqM(r:Rg)(n:Nat)(a b:aI):iH r n a b=.seq (sq r (.cond (Tm n) a .skip)) b:=(rfl)
def dD(r:Rg)(k:Nat)(l:aI):aI:=sq r (.block k (.loop l))
@[go_sem] theorem asM(r:Rg)(k:Nat)(l:aI):dD r k l=sq r (.block k (.loop l)):=(rfl)
end Go.PM
namespace Go.PM
open Go
open Go
def FZ:=bP [] Proofs.Tryz.f180
def zO:=bV FZ
def qe:=bP [] Proofs.Tryz.f219
def ca:=bV qe
def qh:=bP [] Proofs.Tryz.f221
def cc:=bV qh
def Cc:=bP [9] Proofs.Tryz.f175
def qf:=bV Cc
def Cd:=bP [] Proofs.Tryz.f174
def qj:=bV Cd
def Pb:=bP [] Proofs.Tryz.f130
def yx:=bV Pb
def pP:=bP [] Proofs.Tryz.f184
def v6:=aA pP 5
def v8:=aA pP 6
def wa:=aA pP 7
def ig:=aA pP 13
def ii:=aA pP 14
def ij:=aA pP 15
def ic:aI:=(jB (aA pP 8) 37 0 ij (sq (aA pP 9) (sq (aA pP 10) (iH (aA pP 11) 49 (.region (aA pP 12)) (sq ig (.region ii))))))
def ik:=aA pP 16
def im:=aA pP 17
def yu:aI:=(sq (aA pP 0) (kB (aA pP 1) 14 (aA pP 2) (dq (eH pP 0) (iH (aA pP 3) 27 (.region (aA pP 4)) (sq v6 (sq v8 (.seq (dD wa 0 ic) (sq ik (sq im .ret)))))))))
def qT:=bP [] Proofs.Tryz.f185
def wn:=aA qT 5
def wq:=aA qT 6
def wr:=aA qT 7
def ix:=aA qT 13
def iy:=aA qT 14
def iz:=aA qT 15
def iw:aI:=(jB (aA qT 8) 36 1 iz (sq (aA qT 9) (sq (aA qT 10) (iH (aA qT 11) 48 (.region (aA qT 12)) (sq ix (.region iy))))))
def i0:=aA qT 16
def zb:aI:=(sq (aA qT 0) (.seq (.block 0 (sq (aA qT 1) (.cond (Tm 10) (sq (aA qT 2) .ret) (sq (aA qT 3) (.cond (Tm 17) (sq (aA qT 4) .ret) .skip))))) (dq (eH qT 0) (sq wn (sq wq (.seq (dD wr 1 iw) (sq i0 .ret)))))))
def pQ:=bP [] Proofs.Tryz.f181
def wd:=aA pQ 3
def we:=aA pQ 4
def wg:=aA pQ 6
def wh:=aA pQ 7
def wj:=aA pQ 8
def ip:aI:=(jB (aA pQ 9) 42 2 (aA pQ 14) (sq (aA pQ 10) (sq (aA pQ 11) (sq (aA pQ 12) (.region (aA pQ 13))))))
def ir:=aA pQ 15
def iq:aI:=(jB (aA pQ 5) 35 0 (aA pQ 16) (sq wg (sq wh (.seq (dD wj 2 ip) (.region ir)))))
def iu:=aA pQ 17
def y9:aI:=(sq (aA pQ 0) (kB (aA pQ 1) 17 (aA pQ 2) (dq (eH pQ 0) (sq wd (.seq (dD we 0 iq) (sq iu .ret))))))
def Cb:=bP [] Proofs.Tryz.f172
def qc:=bV Cb
def Pi:=bP [] Proofs.Tryz.f171
def y8:=bV Pi
def Pd:=bP [] Proofs.Tryz.f173
def yy:=bV Pd
def qg:=bP [] Proofs.Tryz.f238
def cb:=bV qg
def nup:=bP [] Proofs.Tryz.f239
def Gu:=bV nup
def eU:=bP [] Proofs.Tryz.f220
def KI:=eH eU 2
def KJ:=eH eU 3
def KK:=aA eU 14
def KL:=aA eU 15
def KM:=aA eU 16
def BO:aI:=(.seq (sq (aA eU 13) (.cond (Tm 129) .skip (.exit 4))) (.block 5 (sq KK (sq KL (sq KM (.cond (Tm 136) (.exit 4) .skip))))))
def KN:=aA eU 17
def KO:=aA eU 18
def KP:=aA eU 19
def BP:=aA eU 20
def KF:aI:=(dY (aA eU 12) 85 2 (aA eU 21) (dq KI (dq KJ (.seq (.block 4 (.loop BO)) (iH KN 146 (sq KO (.region KP)) (.region BP))))))
def KQ:=aA eU 22
def KR:=aA eU 23
def KG:aI:=(jB (aA eU 24) 168 6 (aA eU 26) (sq (aA eU 25) (.draw (eH eU 4))))
def VM:aI:=(sq (aA eU 0) (kB (aA eU 1) 24 (aA eU 2) (iH (aA eU 3) 29 (sq (aA eU 4) (sq (aA eU 5) .ret)) (sq (aA eU 6) (.seq (.block 0 (.loop (.seq (sq (aA eU 7) (.cond (Tm 50) .skip (.exit 0))) (.block 1 (.region (aA eU 8)))))) (dq (eH eU 0) (sq (aA eU 9) (sq (aA eU 10) (dq (eH eU 1) (.seq (dD (aA eU 11) 2 KF) (sq KQ (.seq (dD KR 6 KG) (dq (eH eU 5) .ret)))))))))))))
def IT:=bP [] Proofs.Tryz.f240
def MR:=bV IT
def QF:=bP [] Proofs.Tryz.f241
def TF:=bV QF
open Go Go.RowKit Go.ChangeShapes Go.WideShapes
inductive AT where
 |one (ct:CT)
 |struct (cts:List CT)
 deriving Inhabited
def M8(P:Program)(n:Nat)(t:TypeId):Option AT:=
 match P.underlying t with
 |some .bool=>some (.one .bool)
 |some (.int k)=>some (.one (.int k))
 |some .string=>some (.one .str)
 |some (.slice _)=>match jO P n t with
  |some [ct]=>some (.one ct)
  |_=>none
 |some (.struct _)=>(jO P n t).map .struct
 |_=>none
def LW(P:Program)(n:Nat):List TypeId->Option (List AT)
 |[]=>some []
 |t::ts=>match M8 P n t,LW P n ts with
  |some a,some e=>some (a::e)
  |_,_=>none
inductive AT.Ty:AT->PV->Prop
 |one {ct:CT} {pv:PV} (h:PV.Ty ct pv):AT.Ty (.one ct) pv
 |struct {cts:List CT} {pvs:V_} (hl:Z' pvs=Z' cts) (h:∀(j:Nat) pv ct,pvs[j]?=some pv->cts[j]?=some ct->PV.Ty ct pv):AT.Ty (.struct cts) (.agg pvs)
def AT.TyL:List AT->V_->Prop
 |[],[]=>True
 |a::e,p::ps=>AT.Ty a p/\AT.TyL e ps
 |_,_=>False
section
variable {H:Type} {enc:TypeId × Value->H} {P:Program} {W:World} {sp:Nat->Bool} {held:Bool}
theorem ajO{r:Reach}{base:Nat}(num:Nat->FuncId){t:TypeId}{v:Value}{d:DataW H}{ps:List MemPlace}{n:Nat}{a:AT}
  (i:Value.okWide P W r base t v) (A:DataW.Trod enc P W 0 sp held t v d ps) (u:M8 P n t=some a):∃pv,bH (Env.of W num) pv v/\AT.Ty a pv:=by
 unfold M8 at u;cases n with
 |zero =>split at u;rename_i l;cases u;obtain⟨b,rfl⟩:=okWide_bool l i;obtain⟨pv,w,y⟩:=AH (n:=1) (ct:=.bool) num (by simp[Value.cells]) A (by simp[jO,l]);exact⟨pv,w,.one y⟩;rename_i k l;cases u;obtain⟨b,rfl⟩:=okWide_int l i;obtain⟨pv,w,y⟩:=AH (n:=1) (ct:=.int k) num (by simp[Value.cells]) A (by simp[jO,l]);exact⟨pv,w,.one y⟩;rename_i l;cases u;obtain⟨b,rfl⟩:=okWide_string l i;obtain⟨pv,w,y⟩:=AH (n:=1) (ct:=.str) num (by simp[Value.cells]) A (by simp[jO,l]);exact⟨pv,w,.one y⟩;simp[jO]at u;simp[jO]at u;cases u
 |succ n =>split at u;rename_i l;cases u;obtain⟨b,rfl⟩:=okWide_bool l i;obtain⟨pv,w,y⟩:=AH (n:=n+1) (ct:=.bool) num (by simp[Value.cells]) A (by simp[jO,l]);exact⟨pv,w,.one y⟩;rename_i k l;cases u;obtain⟨b,rfl⟩:=okWide_int l i;obtain⟨pv,w,y⟩:=AH (n:=n+1) (ct:=.int k) num (by simp[Value.cells]) A (by simp[jO,l]);exact⟨pv,w,.one y⟩;rename_i l;cases u;obtain⟨b,rfl⟩:=okWide_string l i;obtain⟨pv,w,y⟩:=AH (n:=n+1) (ct:=.str) num (by simp[Value.cells]) A (by simp[jO,l]);exact⟨pv,w,.one y⟩;rename_i e l;split at u;rename_i ct B;cases u;obtain⟨x,len,cap,rfl⟩:=okWide_slice l i;obtain⟨pv,w,y⟩:=AH num (by simp[Value.cells]) A B;exact⟨pv,w,.one y⟩;cases u;rename_i J l;rw[avM]at u;obtain⟨cts,B,rfl⟩:=u;obtain⟨F,w,y,E⟩:=M9 num l i A B;exact⟨_,w,.struct y E⟩;cases u
theorem Kq{r:Reach}{base:Nat}(num:Nat->FuncId){n:Nat}:∀{ts:List TypeId}{vs:List Value}{ds:List (DataW H)}{ps:List MemPlace}{i:List AT},DataW.TrodAll enc P W 0 sp held ts vs ds ps ->
  (∀(j:Nat) t v,ts[j]?=some t->vs[j]?=some v->Value.okWide P W r base t v)->LW P n ts=some i->∃e,fW (Env.of W num) e vs/\AT.TyL i e
 |[],[],_,_,i,_,_,h=>by simp[LW]at h;subst h;exact⟨[],.nil,trivial⟩
 |[],_::_,_,_,_,h,_,_=>h.elim
 |_::_,[],[],_,_,h,_,_=>h.elim
 |_::_,[],_::_,_,_,h,_,_=>h.elim
 |_::_,_::_,[],_,_,h,_,_=>h.elim
 |t::ts,v::vs,d::ds,ps,i,h,u,l=>by obtain⟨p,q,y,A,rfl⟩:=h;simp only[LW]at l;split at l;rename_i a w x e2;cases l;obtain⟨pv,r1,B⟩:=ajO num (u 0 t v rfl rfl) y x;obtain⟨e,r2,E⟩:=Kq num A (λj t v a b=>u (j+1) t v (by simpa using a) (by simpa using b)) e2;exact⟨pv::e,.cons r1 r2,B,E⟩;cases l
theorem TrodAll.length:∀{ts:List TypeId}{vs:List Value}{ds:List (DataW H)}{ps:List MemPlace},DataW.TrodAll enc P W 0 sp held ts vs ds ps->Z' ds=Z' ts
 |[],[],[],_,_=>rfl
 |[],[],_::_,_,h=>h.elim
 |[],_::_,_,_,h=>h.elim
 |_::_,[],[],_,h=>h.elim
 |_::_,[],_::_,_,h=>h.elim
 |_::_,_::_,[],_,h=>h.elim
 |t::ts,v::vs,d::ds,ps,h=>by obtain⟨p,q,i,e,rfl⟩:=h;simp[TrodAll.length e]
end
theorem Dy{H:Type}{enc:TypeId × Value->H}{P:Program}{f:FuncId}{fn:Func}{s:ChangeSpec}{apart fresh i:Bool}{bt:TypeId}{num:Nat->FuncId}{name n:Nat}{ats:List AT}
  (U:laidOutB P=true) (K:fn.params.toList.all (λt=>P.readableRec t&&decide (t<P.types.size))=true) (F:fn.resultTypes=#[bt]) (E:P.underlying bt=some .bool) (O:s.vars=[])
  (X:∀ds:List (DataW H),Z' ds=Z' fn.params.toList->(s.fn H ds).results=[.lit (.bool true)]/\(s.fn H ds).args=ds/\(s.fn H ds).vars=[])
  (x:num name=f) (S:LW P n fn.params.toList=some ats) (h:∀u,AT.TyL ats u->aH ⟨P,num⟩ name u h_ (aL (.bool true)))
  {W:World} {base:Nat} {args:Array Value} {ds R:List (DataW H)} {l:List MemPlace}
  (A:∀(j:Nat) t v,fn.params[j]?=some t->args[j]?=some v->Value.okWide P W .any base t v) (hW:DataW.Whole enc P fn.params.toList s.vars apart W args.toList ds R l) :
  Calls P f args W λe M=>∃v,e=.returned v/\s.post enc P fn apart fresh i false W args v M:=by
 have y:∀t∈fn.params.toList,P.readableRec t=true/\t<P.types.size:=λt J=>by have:=awA.1 K t J;simpa using this
 have B:=hW;obtain⟨p,q,N,hV,rfl,Z,Y⟩:=hW;rw[O]at hV;obtain⟨rfl,rfl⟩:=trodVars_none hV;obtain⟨u,V,J⟩:=Kq num N (λj t v a b=>A j t v (by simpa using a) (by simpa using b)) S;have w:=TrodAll.length N;subst x;obtain⟨r1,r2,r3⟩:=X (ds++[]) (by simpa using w);refine(Ti (C:=⟨P,num⟩) (h u J) V).mono λe M he=>?_;obtain⟨rfl,hb⟩:=he;exact⟨_,rfl,Uv U B hb y F E O r1 (by rw[r2];simp) r3⟩
attribute [go_sem] qC gY setCells PV.cells PV.one cH storeAt cN loadCells dH bnd PV.slice PV.intOf PV.eqs PV.eq1 PV.un keyOf KS.of KS.ofs KS.sh ayX List.all_nil azB List.set_cons_succ avR axP avJ awU awA ayJ
attribute [go_sem] Bool.bne_false Bool.bne_true Int.le_refl Int.lt_irrefl decide_true decide_false exists_eq_left exists_eq_left' auW List.length_replicate axA Int.natCast_nonneg Option.isSome_some Option.isSome_none axK Option.getD_none dT_ decide_eq_false_iff_not avK awQ avD Nat.sub_zero
def aT(xs:I_):P2_:=xs.map λn=>[.int .i64 n]
theorem bA{a b:Int}(h:a≠b):(a==b)=false:=by simp[h]
theorem bN{a b:Int}(h:a=b):(a==b)=true:=by simp[h]
theorem cY{a b:Int}(h:a≠b):(a != b)=true:=by simp[h]
theorem cF{a b:Int}(h:a=b):(a != b)=false:=by simp[h]
section
variable {H:PH}
@[go_sem] theorem PH.set_set(o:Nat)(x y:aV):(H.set o x).set o y=H.set o y:=PH.ext λq=>by
 simp only[aP];split<;>rfl
@[go_sem] theorem cE(o:Nat)(x:aV):(H.set o x) o=some x:=by simp only[aP,if_true]
end
section
variable {C:Ctx} {K:bZ} {F:PF} {H:PH}
theorem PH.pG(o:Nat)(x:aV):H.over .nil (h_.set o x)=H.set o x:=PH.ext λq=>by
 rw[jV];simp only[aP,YP];split<;>simp_all
theorem PH.uS(o:Nat)(x y:aV):H.over (h_.set o x) (h_.set o y)=H.set o y:=PH.ext λq=>by
 rw[jV];simp only[aP,YP];split<;>simp_all
theorem iS{name:Nat}{vs:V_}{e:PH}{R:R_}{args:List aR}{d:O_}{K:K_}(h:aH C name vs e R)(l:aR.evs F args=some vs)(i:e.le H)
  (u:∀r H',R r H'->pI H e H'->K (F.put d r) (H.over e H')):jS C name args [] d K F H:=
 .inl ⟨vs,e,R,by rw[l];simp,i,h,u⟩
theorem bC{res:List eE}{R:R_}{vs:V_}{e:lG}(he:e=.normal\/e=.ret)(i:PH)(h:eE.evs F H res=some vs)(l:i.le H)(A:R (bL vs) i):aW res R e F H:=by
 have w:∃vs,eE.evs F H res=some vs/\∃x y H2,jH (n_.set 0 (bL vs)) H x y/\H2.le y/\∃u,x 0=some u/\R u H2:=
  ⟨vs,h,_,H,i,.refl _ _,l,bL vs,by rw[mO,aF rfl],A⟩
 rcases he with rfl|rfl<;>exact w
theorem QW{t o s k:Nat}{rs:P2_}{R:R_}{e:lG}(he:e=.normal\/e=.ret)(h:F t=some (.osl o s 0 k))(y:H o=some (.rows s rs))(A:k<=Z' rs)(x:R (.sl s (rs.take k)) .nil) :
  aW [.tmp t] R e F H:=by
 have i:∃vs,eE.evs F H [.tmp t]=some vs/\∃l w H2,jH (n_.set 0 (bL vs)) H l w/\H2.le w/\∃u,l 0=some u/\R u H2:=by refine⟨[.osl o s 0 k],by rw[nZ,rP,h,tK],_,_,.nil,.step o y (.refl _ _),a_,.sl s (rs.take k),?_,x⟩;have:0+k<=Z' rs:=Om;simp only[PF.frz,mO,if_true,bL,avS,PV.frz,PV.qR,PV.dL,true_and,aF this,awM]
 rcases he with rfl|rfl<;>exact i
def cC(v:PV)(r:PV)(H:PH):Prop:=Co r v/\H=h_
theorem aH.aaX{name:Nat}{args:V_}{H:PH}{v:PV}(h:aH C name args H (cC v)):aH C name args H (aL v):=
 h.post λr H' ⟨e,i⟩=>⟨v,e,rfl,i⟩
theorem aL.aaX{v r:PV}{H:PH}(h:aL v r H):cC v r H:=by
 obtain⟨rfl,rfl⟩:=h;exact⟨.refl _,rfl⟩
theorem uY{s b:Nat}{y:PV}{src:P2_}{K:R_}(u:dH H s y=some src)(l:roomFor 0 src.length b)(e:src=[]->K .aJ H)
  (i:src≠[]->∀o,H o=none->K (.osl o s 0 src.length) (H.set o (.rows s src))):kJ H s b .aJ y K:=⟨src,u,l,e,i⟩
theorem I3{o s b len:Nat}{rs:P2_}{y:PV}{src:P2_}{K:R_}(x:dH H s y=some src)(w:roomFor len src.length b)(u:H o=some (.rows s rs))(l:len<=Z' rs)
  (e:K (.osl o s 0 (len+Z' src)) (H.set o (.rows s (rs.take len++src))))
  (i:∀o',H o'=none->K (.osl o' s 0 (len+Z' src)) (H.set o' (.rows s (rs.take len++src)))):kJ H s b (.osl o s 0 len) y K:=
 ⟨src,x,rfl,rfl,w,rs,u,l,e,i⟩
end
def bF(H:PH)(s:Nat)(v:PV)(rows:P2_):Prop:=
 (rows=[]/\v=.aJ)\/∃q rs,v=.osl q s 0 rows.length/\H q=some (.rows s rs)/\Z' rows<=Z' rs/\rs.take rows.length=rows
def Seen(s:Nat)(v:PV)(rows:P2_):Prop:=(rows=[]/\v=.aJ)\/v=.sl s rows
section
variable {C:Ctx} {K:bZ} {F:PF} {H:PH} {s b:Nat} {v y:PV} {rows src:P2_}
theorem bF.nil:bF H s .aJ []:=.inl ⟨rfl,rfl⟩
theorem bF.view(h:bF H s v rows):dH H s v=some rows:=by
 rcases h with⟨rfl,rfl⟩|⟨q,rs,rfl,h1,h2,h3⟩
 rfl;have:0+Z' rows<=Z' rs:=Om;simp only[dH,if_true,h1,true_and,aF this,awM,h3]
theorem Seen.view(h:Seen s v rows):dH H s v=some rows:=by
 rcases h with⟨rfl,rfl⟩|rfl
 rfl;simp[dH]
theorem bF.ext{H':PH}(h:bF H s v rows)(e:∀o x,H o=some x->H' o=some x):bF H' s v rows:=by
 rcases h with h|⟨q,rs,h0,h1,h2,h3⟩
 exact .inl h;exact .inr ⟨q,rs,h0,e q _ h1,h2,h3⟩
theorem eX{K:R_}(h:bF H s v rows)(J:dH H s y=some src)(E:roomFor rows.length src.length b)
  (B:∀v' H',bF H' s v' (rows++src)->(∀o x,H o=some x->(∀l,v≠.osl o s 0 l)->H' o=some x)->K v' H'):kJ H s b v y K:=by
 rcases h with⟨rfl,rfl⟩|⟨q,rs,rfl,h1,h2,h3⟩
 refine⟨src,J,E,λe=>?_,λe o A=>?_⟩;subst e;exact B _ _ (.inl ⟨rfl,rfl⟩) λo x A _=>A;refine B _ _ (.inr ⟨o,src,rfl,by simp only[aP,if_true],avD _,by simp⟩) λo' x i _=>?_;have:o'≠o:=by rintro rfl;rw[A]at i;cases i
 simp only[aP,aC this,i];have u:(rows++src).length=Z' rows+Z' src:=auZ;refine⟨src,J,rfl,rfl,E,rs,h1,h2,?_,λo A=>?_⟩;rw[h3];refine B _ _ (.inr ⟨q,rows++src,by rw[u],by simp only[aP,if_true],avD _,avW⟩) λo' x i w=>?_;have:o'≠q:=by rintro rfl;exact w _ rfl
 simp only[aP,aC this,i];rw[h3];refine B _ _ (.inr ⟨o,rows++src,by rw[u],by simp only[aP,if_true],avD _,avW⟩) λo' x i w=>?_;have M:o'≠o:=by rintro rfl;rw[A]at i;cases i
 simp only[aP,aC M,i]
def Pure(u:PV):Prop:=∀q s rs,PV.frz q s rs u=u
theorem bF.frz(h:bF H s v rows):∃l,Seen s l rows/\∀F:PF,∃e w,jH F H e w/\(∀t,F t=some v->e t=some l)/\∀i u,F i=some u->Pure u->e i=some u:=by
 rcases h with⟨rfl,rfl⟩|⟨q,rs,rfl,h1,h2,h3⟩
 exact⟨.aJ,.inl ⟨rfl,rfl⟩,λF=>⟨F,H,.refl _ _,λt h=>h,λi u h _=>h⟩⟩;refine⟨.sl s rows,.inr rfl,λF=>⟨_,_,.step q h1 (.refl _ _),λt x=>?_,λi u hi hp=>?_⟩⟩;have:0+Z' rows<=Z' rs:=Om;simp only[PF.frz,x,avS,PV.frz,PV.qR,PV.dL,if_true,true_and,aF this,awM,h3];simp only[PF.frz,hi,avS];rw[hp]
theorem kE{t:Nat}{e:lG}(he:e=.normal\/e=.ret)(h:bF H s v rows)(i:F t=some v):aW [.tmp t] (cC (.sl s rows)) e F H:=by
 rcases h with⟨rfl,rfl⟩|⟨q,rs,rfl,h1,h2,h3⟩
 exact bC (vs:=[.aJ]) he .nil (by rw[nZ,rP,i,tK]) a_ ⟨.nil s,rfl⟩;exact QW he i h1 h2 ⟨by rw[h3];exact .refl _,rfl⟩
end
end Go.PM
namespace Go.PM
open Go
section
variable {C:Ctx} {F:PF} {H:PH}
@[go_sem] theorem wQ(o s:Nat)(rs:P2_)(i:Nat):(F.frz o s rs) i=(F i).map (PV.frz o s rs):=(rfl)
theorem wE{name t o s k:Nat}{rs:P2_}{v:PV}{d:O_}{K:K_}(h:aH C name [.sl s (rs.take k)] .nil (aL v))(l:F t=some (.osl o s 0 k))(i:H o=some (.rows s rs))(u:k<=Z' rs)
  (e:K ((F.frz o s rs).put d v) (H.frz o s rs)):jS C name [.tmp t] [] d K F H:=by
 refine .inr ⟨_,_,.step o i (.refl _ _),[.sl s (rs.take k)],.nil,aL v,?_,a_,h,?_⟩;have:0+k<=Z' rs:=Om;simp only[GW,YM,my,wQ,l,avS,PV.frz,PV.qR,PV.dL,if_true,true_and,aF this,awM,awJ];rintro r H' ⟨rfl,rfl⟩ -;rw[PH.xS];exact e
end
end Go.PM
namespace Go.Na
def val:N_->Nat
 |[]=>0
 |x::xs=>x+4294967296*val xs
def Lim(xs:N_):Prop:=∀x∈xs,x<4294967296
def aM(n:Nat):N_:=if h:n=0 then[]else(n%4294967296)::aM (n/4294967296)
termination_by n
decreasing_by exact Nat.div_lt_self (axX h) aU
def nl(n:Nat):Nat:=(aM n).length
theorem iO:aM 0=[]:=by rw[aM];simp
theorem yF{n:Nat}(h:n≠0):aM n=(n%4294967296)::aM (n/4294967296):=by rw[aM];simp[h]
theorem tH{n:Nat}(h:n≠0)(hb:n<4294967296):aM n=[n]:=by
 rw[yF h,awT hb,azC hb,iO]
theorem aY(n:Nat):val (aM n)=n:=by
 induction n using Nat.strongRecOn with
 |_ n e =>by_cases h:n=0;subst h;rw[iO];rfl;rw[yF h,val,e _ (Nat.div_lt_self (axX h) aU)];exact Nat.mod_add_div n 4294967296
theorem bE(n:Nat):Lim (aM n):=by
 induction n using Nat.strongRecOn with
 |_ n e=>
  by_cases h:n=0;subst h;rw[iO];intro x hx;cases hx;rw[yF h];intro x hx;rw[avL]at hx;rcases hx with rfl|hx
  exact awY _ aU;exact e _ (Nat.div_lt_self (axX h) aU) x hx
theorem FY:nl 0=0:=by rw[nl,iO];rfl
theorem T5{n:Nat}(h:n≠0):nl n=nl (n/4294967296)+1:=by rw[nl,yF h];rfl
theorem kU(n k:Nat):nl n<=k↔n<4294967296^k:=by
 induction k generalizing n with
 |zero =>by_cases h:n=0;subst h;simp[FY];rw[T5 h];simp;omega
 |succ k e =>by_cases h:n=0;subst h;simp[FY,ayH];rw[T5 h,Nat.succ_le_succ_iff,e,axE,ayO aU]
theorem kD{n:Nat}:nl n=0↔n=0:=by
 have:=kU n 0;simp at this;exact this
theorem jD(xs ys:N_):val (xs++ys)=val xs+4294967296^xs.length*val ys:=by
 induction xs with
 |nil=>simp[val]
 |cons x xs e =>simp only[ayQ,val,awK,e,axE];rw[avQ,axL,<-awC,awF 4294967296 (4294967296^xs.length)]
theorem gV{xs:N_}(h:Lim xs):val xs<4294967296^xs.length:=by
 induction xs with
 |nil=>simp[val]
 |cons x xs l =>have u:=h x aZ;have e:=l λy i=>h y (by simp[i]);simp only[val,awK,axE];have:4294967296*(val xs+1)<=4294967296*4294967296^xs.length:=axW _ e;rw[avQ,ayG]at this;rw[awF (4294967296^xs.length)];omega
theorem Lim.app{xs ys:N_}(h:Lim xs)(k:Lim ys):Lim (xs++ys):=λx e=>by
 rw[awH]at e;exact e.elim (h x) (k x)
theorem Lim.take{xs:N_}(h:Lim xs)(n:Nat):Lim (xs.take n):=λx e=>h x (List.mem_of_mem_take e)
theorem Lim.drop{xs:N_}(h:Lim xs)(n:Nat):Lim (xs.drop n):=λx e=>h x (List.mem_of_mem_drop e)
theorem Lim.set{xs:N_}(h:Lim xs)(i:Nat){v:Nat}(e:v<4294967296):Lim (xs.set i v):=λx l=>by
 rcases azJ l with h1|h1
 exact h x h1;subst h1;exact e
theorem CM(n:Nat):Lim (avA n 0):=λx e=>by
 rw[List.mem_replicate]at e;rw[e.2];decide
theorem yP(n:Nat):val (avA n 0)=0:=by
 induction n with
 |zero=>rfl
 |succ n e=>simp[List.replicate_succ,val,e]
theorem Tq{xs:N_}(h:Lim xs)(A:∀x,xs.getLast?=some x->x≠0):aM (val xs)=xs:=by
 induction xs with
 |nil=>simp[val,iO]
 |cons x xs K=>
  have u:=h x aZ;have w:Lim xs:=λy F=>h y (by simp[F]);cases xs with
  |nil =>have:=A x aZ;simp only[val,Nat.mul_zero,awQ];exact tH this u
  |cons y ys=>
   have i:=K w λz J=>A z (by rw[List.getLast?_cons_cons];exact J);have E:val (y::ys)≠0:=λe=>by rw[e,iO]at i;cases i
   have l:x+4294967296*val (y::ys)≠0:=by have:0<4294967296*val (y::ys):=Nat.mul_pos aU (axX E);omega
   show aM (x+4294967296*val (y::ys))=_;rw[yF l];have B:(x+4294967296*val (y::ys))%4294967296=x:=by rw[Nat.add_mul_mod_self_left,awT u]
   have e2:(x+4294967296*val (y::ys))/4294967296=val (y::ys):=by rw[Nat.add_mul_div_left _ _ aU,azC u,avK]
   rw[B,e2,i]
theorem Ix{xs:N_}{n:Nat}(h:∀j x,n<=j->xs[j]?=some x->x=0):val (xs.take n)=val xs:=by
 have e:xs.drop n=avA (xs.drop n).length 0:=by apply axZ aZ;intro i l u;rw[List.getElem_replicate,List.getElem_drop];exact h (n+i) _ Om (avF _)
 conv=>rhs;rw[<-ayK n xs,jD,e,yP]
 simp
theorem RT{xs:N_}(w:Lim xs){n:Nat}(u:n<=Z' xs)(h:∀j x,n<=j->xs[j]?=some x->x=0)(l:∀x,0<n->xs[n-1]?=some x->x≠0):xs.take n=aM (val xs):=by
 rw[<-Ix h,Tq (w.take n)];intro x i;rw[List.getLast?_eq_getElem?,avN,axS u]at i;rcases axJ n with e|e
 subst e;simp at i;rw[List.getElem?_take_of_lt Om]at i;exact l x e i
theorem Mj{xs:N_}(l:Lim xs){n:Nat}(i:n<=Z' xs)(h:∀j x,n<=j->xs[j]?=some x->x=0)(e:∀x,0<n->xs[n-1]?=some x->x≠0):nl (val xs)=n:=by
 rw[nl,<-RT l i h e,avN];omega
theorem iK{xs:N_}(h:Lim xs):nl (val xs)<=Z' xs:=(kU _ _).2 (gV h)
theorem oA {xs : N_} (h : Lim xs) : xs.take (nl (val xs)) = aM (val xs) := by
  have hl := iK h;have e : val (xs.take (nl (val xs)) ++ xs.drop (nl (val xs))) = val xs := by rw [ayK]
  rw [jD, avN, axS hl] at e;have h1 := gV (h.take (nl (val xs)));rw [avN, axS hl] at h1;have h2 := (kU (val xs) (nl (val xs))).1 (avD _);have hd : val (xs.drop (nl (val xs))) = 0 := by
    rcases axJ (val (xs.drop (nl (val xs)))) with h | h
    · exact h
    · have := axW (4294967296 ^ nl (val xs)) h
      omega
  have hz : ∀ j x, nl (val xs) <= j -> xs[j]? = some x -> x = 0 := by
    have zero : ∀ ys : N_, val ys = 0 -> ∀ y ∈ ys, y = 0 := by
      intro ys
      induction ys with
      | nil => intro _ y hy; cases hy
      | cons z zs ih =>
        intro hv y hy;simp only [val] at hv;rw [avL] at hy;rcases hy with rfl | hy
        · omega
        · exact ih (by have : 4294967296 * val zs = 0 := Om
                       rcases Nat.mul_eq_zero.1 this with h | h
                       · cases h
                       · exact h) y hy
    intro j x hj hx;refine zero _ hd x ?_;rw [List.mem_iff_getElem?];exact ⟨j - nl (val xs), by rw [ayR, Nat.add_sub_cancel' hj]; exact hx⟩
  refine RT h hl hz fun x hpos hx e => ?_;subst e;have hz2 : ∀ j x, nl (val xs) - 1 <= j -> xs[j]? = some x -> x = 0 := fun j y hj hy => by
    rcases avX j (nl (val xs)) with h3 | h3
    · have : j = nl (val xs) - 1 := Om
      subst this; rw [hx] at hy; cases hy; rfl
    · exact hz j y h3 hy
  have h3 := Ix hz2;have h4 := gV (h.take (nl (val xs) - 1));rw [h3, avN, axS Om] at h4;have := (kU (val xs) (nl (val xs) - 1)).2 h4;omega
theorem Ip{xs:N_}(h:Lim xs){n:Nat}(w:nl (val xs)=n+1):∃x,xs[n]?=some x/\x≠0:=by
 have y:=iK h;refine⟨xs[n]'Om,avF _,λe=>?_⟩;have u:=oA h;have i:=aY (val xs);rw[<-u,w,awP Om,e,jD]at i;simp only[val,Nat.mul_zero,awQ]at i;have l:=gV (h.take n);rw[i,avN,axS Om]at l;have:=(kU (val xs) n).2 l;omega
theorem yL(xs:N_){k:Nat}(h:k<Z' xs):val xs=val (xs.take k)+4294967296^k*(xs[k]+4294967296*val (xs.drop (k+1))):=by
 conv=>lhs;rw[<-ayK k xs,jD,avN,axS Om,axB h]
 rfl
theorem ml{xs ys:N_}(x:Lim xs){k:Nat}(e:k<Z' xs)(i:k<Z' ys)(w:xs.drop (k+1)=ys.drop (k+1))(h:xs[k]<ys[k]):val xs<val ys:=by
 rw[yL xs e,yL ys i,w];have l:=gV (x.take k);rw[avN,axS Om]at l;have u:4294967296^k*(xs[k]+4294967296*val (ys.drop (k+1))+1)<=4294967296^k*(ys[k]+4294967296*val (ys.drop (k+1))):=axW _ Om;rw[avQ _ _ 1,ayG]at u;omega
def eZ(a b:Nat):Int:=if a<b then -1 else if b<a then 1 else 0
theorem xu{xs ys:N_}{k:Nat}(e:k<Z' xs)(i:k<Z' ys)(l:xs.drop (k+1)=ys.drop (k+1))(h:xs[k]=ys[k]):xs.drop k=ys.drop k:=by
 rw[axB e,axB i,l,h]
theorem iW{a b:Nat}(h:a<=b):nl a<=nl b:=(kU a _).2 (Nat.lt_of_le_of_lt h ((kU b _).1 (avD _)))
theorem Dt{xs:N_}(h:Lim xs){j:Nat}(i:j<nl (val xs)):∃(l:j<Z' xs)(u:j<(aM (val xs)).length),xs[j]=(aM (val xs))[j]:=by
 have w:=iK h;refine⟨by omega,i,?_⟩;have e:=oA h;have:(xs.take (nl (val xs)))[j]?=(aM (val xs))[j]?:=by rw[e]
 rw[List.getElem?_take_of_lt i,avF Om,avF i]at this;exact awV.inj this
def dC(n:Nat):Nat:=if h:n=0 then 0 else dC (n/2)+1
termination_by n
decreasing_by exact Nat.div_lt_self (axX h) aU
theorem mE:dC 0=0:=by rw[dC];simp
theorem uH{n:Nat}(h:n≠0):dC n=dC (n/2)+1:=by rw[dC];simp[h]
theorem pS(n k:Nat):dC n<=k↔n<2^k:=by
 induction k generalizing n with
 |zero =>by_cases h:n=0;subst h;simp[mE];rw[uH h];simp;omega
 |succ k e =>by_cases h:n=0;subst h;simp[mE,ayH];rw[uH h,Nat.succ_le_succ_iff,e,axE,ayO aU]
theorem nB{n:Nat}:dC n=0↔n=0:=by
 have:=pS n 0;simp at this;exact this
theorem Dw{hi lo k:Nat}(u:lo<2^k)(i:hi≠0):dC (lo+2^k*hi)=k+dC hi:=by
 apply Nat.le_antisymm;rw[pS,Nat.pow_add];have e:=(pS hi _).1 (avD _);have:2^k*(hi+1)<=2^k*2^dC hi:=axW _ e;rw[avQ,ayG]at this;omega;obtain⟨b,hb⟩:∃b,dC hi=b+1:=⟨dC hi-1,by have:=mt nB.1 i;omega⟩;rw[hb];rcases avX (dC (lo+2^k*hi)) (k+(b+1))with h|h
 have e:=(pS (lo+2^k*hi) (k+b)).1 Om;rw[Nat.pow_add]at e;have l:¬hi<2^b:=λh=>by have:=(pS hi b).2 h;omega
 have:2^k*2^b<=2^k*hi:=axW _ Om;omega;exact h
theorem pT(n k:Nat):dC n<=32*k↔nl n<=k:=by
 rw[pS,kU,Nat.pow_mul]
end Go.Na
namespace Go.PM
theorem Lq{F e:PF}(h:F.le e:=by(repeat' (first|exact d_|refine c_ ?_ ?_))<;>first|(simp only[go_sem]<;>rfl)|rfl|assumption):F.le e:=h
end Go.PM
namespace Go.PM
theorem lE1{F e:PF}{i:Prop}(l:i)(k:i->F.le e:=by intro u;(repeat' (first|exact d_|refine c_ ?_ ?_))<;>first|(simp only[go_sem,u]<;>rfl)|rfl):F.le e:=k l
theorem lE2{F e:PF}{i l:Prop}(u:i)(hb:l)(k:i->l->F.le e:=by intro w x;(repeat' (first|exact d_|refine c_ ?_ ?_))<;>first|(simp only[go_sem,w,x]<;>rfl)|rfl):F.le e:=k u hb
theorem lE3{F e:PF}{i l pc:Prop}(u:i)(hb:l)(w:pc)(k:i->l->pc->F.le e:=by intro x y A;(repeat' (first|exact d_|refine c_ ?_ ?_))<;>first|(simp only[go_sem,x,y,A]<;>rfl)|rfl):F.le e:=k u hb w
theorem lE5{F e:PF}{i l pc u w:Prop}(x:i)(hb:l)(y:pc)(A:u)(he:w)(k:i->l->pc->u->w->F.le e:=by intro B E J K M;(repeat' (first|exact d_|refine c_ ?_ ?_))<;>first|(simp only[go_sem,B,E,J,K,M]<;>rfl)|rfl):F.le e:=k x hb y A he
theorem lE6{F e:PF}{i l pc u w pf:Prop}(x:i)(hb:l)(y:pc)(A:u)(he:w)(B:pf)(k:i->l->pc->u->w->pf->F.le e:=by intro E J K M N O;(repeat' (first|exact d_|refine c_ ?_ ?_))<;>first|(simp only[go_sem,E,J,K,M,N,O]<;>rfl)|rfl):F.le e:=k x hb y A he B
theorem lE7{F e:PF}{i l pc u w pf x:Prop}(y:i)(hb:l)(A:pc)(B:u)(he:w)(E:pf)(J:x)(k:i->l->pc->u->w->pf->x->F.le e:=by intro K M N O R S U;(repeat' (first|exact d_|refine c_ ?_ ?_))<;>first|(simp only[go_sem,K,M,N,O,R,S,U]<;>rfl)|rfl):F.le e:=k y hb A B he E J
theorem lM{F e:PF}(h:F.le e:=by(repeat' (first|exact d_|refine c_ ?_ ?_))<;>first|(simp only[go_sem,auW]<;>rfl)|rfl):F.le e:=h
end Go.PM
namespace Go.PM
open Go Go.Na
abbrev aO(xs:N_):P2_:=xs.map λ(n:Nat)=>[PV.int .u32 (n:Int)]
abbrev aN(xs:N_):PV:=.sl 1 (xs.map λ(n:Nat)=>[PV.int .u32 (n:Int)])
theorem cQ(xs:N_):(aO xs).length=Z' xs:=by simp
theorem cG(xs:N_){i:Nat}(h:i<Z' xs):(aO xs)[i]?=some [.int .u32 (xs[i]:Nat)]:=by simp[h]
theorem yw(xs:N_)(k:Nat):aN (xs.take k)=.sl 1 ((xs.map λ(n:Nat)=>[PV.int .u32 (n:Int)]).take k):=by rw[aN,ayN]
theorem dB(n:Nat):IntKind.u32.wrap (n:Int)=((n%4294967296:Nat):Int):=by
 have e:IntKind.u32.wrap (n:Int)=(n:Int)%4294967296:=by simp[IntKind.wrap,IntKind.bits,IntKind.signed]
 rw[e];rfl
theorem DA{k:Nat}(h:k<=9223372036854775807)(e:0<k):i_.wrap ((k:Int)-1)=((k-1:Nat):Int):=by
 rw[wrap_i64 Om Om];omega
def Pj(xs:N_)(n:Nat):PF:=((n_.set 0 (aN xs)).set 3 (.int .i64 n))
variable{C:Ctx}
theorem Pl(xs:N_)(y:Lim xs)(B:Z' xs<=35184372087808):zO.wp C (aW FZ.res (aL (.j (nl (val xs):Nat)))) (g_ [aN xs]) .nil:=by
 simp only[go_sem,zO,FZ];refine wp_loop (α:=Nat) (Pj xs) (λ_=>.nil) (λn=>n<=Z' xs/\∀j x,n<=j->xs[j]?=some x->x=0) (λn=>n) xs.length ⟨avD _,λj x h e=>by rw[awN h]at e;cases e⟩ ?_ a_ ?_;unfold Pj;exact Lq;rintro n ⟨w,u⟩;have out:(∀x,0<n->xs[n-1]?=some x->x≠0)->nl (val xs)=n:=λh=>Mj y w u h;simp only[go_sem,Pj];by_cases l:(n:Int)>0;have hp:0<n:=Om;have hi:=cG xs (Om:n-1<Z' xs);simp only[go_sem,l,DA (Om:n<=9223372036854775807) hp,hi];by_cases i:xs[n-1]=0;simp only[go_sem,bN (Om:((xs[n-1]:Nat):Int)=0),DA (Om:n<=9223372036854775807) hp];refine aE (n-1) ⟨by omega,λj x A he=>?_⟩ Om ?_ a_;rcases avX j n with h|h
 have:j=n-1:=Om;subst this;rw[avF Om]at he;cases he;exact i;exact u j x h he;exact Lq;simp only[go_sem,bA (Om:((xs[n-1]:Nat):Int)≠0)];refine cL ?_;rw[out λx _ he=>by rw[avF Om]at he;cases he;exact i];rfl;simp only[go_sem,l];refine cL ?_;rw[out λx h=>by omega];rfl
theorem T6(xs:N_)(e:aH C 138 [aN xs] .nil (aL (.j (nl (val xs):Nat)))):ca.wp C (aW qe.res (aL (.bool (decide (nl (val xs)>512))))) (g_ [aN xs]) .nil:=by
 simp only[go_sem,ca,qe];refine aB e rfl ?_;simp only[go_sem];refine cL ?_;simp only[bL,PV.bool.injEq,decide_eq_decide];omega
def szL(n:Nat):N_:=if nl n>512 then[]else aM n
def szE(n:Nat):Int:=if nl n>512 then 2 else 0
def szV(n:Nat):PV:=.tup [aN (szL n),.int .i64 (szE n)]
theorem T9(xs:N_)(l:Lim xs)(e:aH C 138 [aN xs] .nil (aL (.j (nl (val xs):Nat)))):cc.wp C (aW qh.res (cC (szV (val xs)))) (g_ [aN xs]) .nil:=by
 simp only[go_sem,cc,qh];refine aB e rfl ?_;simp only[go_sem];by_cases h:nl (val xs)>512
 ·have i:((nl (val xs):Nat):Int)>512:=Om;simp only[go_sem,i];refine bC (vs:=[.aJ,.j 2]) (.inr rfl) .nil rfl a_ ⟨?_,rfl⟩;rw[szV,szL,szE,aF h,aF h];refine .tup rfl λj p q hp hq=>?_
  match j with
  |0=>simp at hp hq;subst hp;subst hq;exact .nil 1
  |1=>simp at hp hq;subst hp;subst hq;exact .refl _
  |j+2=>simp at hp
 have i:¬((nl (val xs):Nat):Int)>512:=Om;have w:=iK l;have u:((nl (val xs):Nat):Int)<=(Z' xs:Nat):=Om;simp only[go_sem,i,u,or_true,awM];refine bC (.inr rfl) .nil rfl a_ ⟨?_,rfl⟩;rw[szV,szL,szE,aC h,aC h,<-oA l,yw];exact .refl _
theorem Zq(v:Nat)(K:v<18446744073709551616)(i:∀xs,Lim xs->Z' xs<=35184372087808->aH C 138 [aN xs] .nil (aL (.j (nl (val xs):Nat)))) :
  qf.wp C (aW Cc.res (aL (aN (aM v)))) (g_ [.int .u64 v]) .nil:=by
 have B:IntKind.u32.wrap ((v:Nat):Int)=((v%4294967296:Nat):Int):=dB v;have e2:Int.fdiv ((v:Nat):Int) 4294967296=((v/4294967296:Nat):Int):=by rw[Int.fdiv_eq_ediv_of_nonneg _ aU];rfl
 have w:v/4294967296<4294967296:=Om;have E:IntKind.u32.wrap ((v/4294967296:Nat):Int)=((v/4294967296:Nat):Int):=by rw[dB,awT w]
 have l:Lim [v%4294967296,v/4294967296]:=by
  intro x A;simp only[avL,List.mem_nil_iff,or_false]at A;rcases A with rfl|rfl
  exact awY _ aU;exact w
 have e:val [v%4294967296,v/4294967296]=v:=by simp only[val,Nat.mul_zero,awQ];exact Nat.mod_add_div v 4294967296
 have J:∀a b:Int,PV.bin .shr (.int .u64 a) (.int .u64 b)=shift .shr .u64 a b:=λ_ _=>rfl;have u:shift .shr .u64 (v:Int) 32=some (.int .u64 ((v/4294967296:Nat):Int)):=by
  unfold shift;rw[aC aU];simp only;have:min (Int.toNat 32) IntKind.u64.bits=32:=by decide
  rw[this];rw[show(2:Int)^32=4294967296 by decide,e2]
 simp only[go_sem,qf,Cc,B,u,E];have hb:(2:Nat)*1<=16777216:=by decide
 try simp only[go_sem]
 refine aB (i [v%4294967296,v/4294967296] l aZ) rfl ?_;have y:=iK l;rw[e]at y ⊢;have F:((nl v:Nat):Int)<=((2:Nat):Int):=by simp at y;omega
 simp only[go_sem,F,or_true,awM];refine cL ?_;have:=oA l;rw[e]at this;rw[<-this,yw];rfl
theorem Zt(xs:N_)(i:Lim xs)(w:Z' xs<=35184372087808)(e:aH C 138 [aN xs] .nil (aL (.j (nl (val xs):Nat)))) :
  qj.wp C (aW Cd.res (cC (aN (aM (val xs))))) (g_ [aN xs]) .nil:=by
 simp only[go_sem,qj,Cd];refine aB e rfl ?_;have x:=iK i;have l:((nl (val xs):Nat):Int)<=(Z' xs:Nat):=Om;simp only[go_sem,l,or_true,awM];refine eX (rows:=[]) (src:=aO (aM (val xs))) .nil ?_ ?_ λv H' u _=>?_;simp only[go_sem];rw[<-oA i,<-ayN];unfold roomFor;rw[cQ];have:(aM (val xs)).length=nl (val xs):=rfl;simp only[axC,maxLen];omega;exact kE (.inr rfl) (by simpa using u) rfl
end Go.PM
theorem Sq{p:Prop}(h:p:=by simp only[go_sem]):p:=h
theorem Ev{p:Prop}(h:p:=by simp only[go_sem]<;>rfl):p:=h
namespace Go.PM
open Go Go.Na
def Pc(xs ys:N_)(i:Int):PF:=(((n_.set 0 (aN xs)).set 1 (aN ys)).set 7 (.int .i64 i))
variable{C:Ctx}
theorem agH(xs ys:N_)(M:Lim xs)(N:Lim ys)(lx:Z' xs<=35184372087808)(ly:Z' ys<=35184372087808)(y:aH C 138 [aN xs] .nil (aL (.j (nl (val xs):Nat))))(A:aH C 138 [aN ys] .nil (aL (.j (nl (val ys):Nat)))) :
  yx.wp C (aW Pb.res (aL (.j (eZ (val xs) (val ys))))) (g_ [aN xs,aN ys]) .nil:=by
 simp only[go_sem,yx,Pb];refine aB y Ev ?_;simp only[go_sem];refine aB A Ev ?_;simp only[go_sem];have Z:=iK M;have V:=iK N;by_cases c1:nl (val xs)<nl (val ys);have e:((nl (val xs):Nat):Int)<(nl (val ys):Nat):=Om;simp only[go_sem,e];refine dN (.inr rfl) Ev ?_;have:val xs<val ys:=by
  rcases avX (val xs) (val ys)with h|h
  exact h;have:=iW h;omega
 simp[bL,eZ,this];have e:¬((nl (val xs):Nat):Int)<(nl (val ys):Nat):=Om;simp only[go_sem,e];by_cases c2:nl (val xs)>nl (val ys);have i:((nl (val xs):Nat):Int)>(nl (val ys):Nat):=Om;simp only[go_sem,i];refine dN (.inr rfl) Ev ?_;have:val ys<val xs:=by
  rcases avX (val ys) (val xs)with h|h
  exact h;have:=iW h;omega
 have w:¬val xs<val ys:=Om;simp[bL,eZ,this,w];have i:¬((nl (val xs):Nat):Int)>(nl (val ys):Nat):=Om;have Y:nl (val xs)=nl (val ys):=Om;simp only[go_sem,i];have ex:=aY (val xs);have u:=aY (val ys);have S:=bE (val xs);have U:=bE (val ys);refine wp_loop (α:=Nat) (λk=>Pc xs ys ((k:Int)-1)) (λ_=>.nil) (λk=>k<=nl (val xs)/\(aM (val xs)).drop k=(aM (val ys)).drop k) (λk=>k) (nl (val xs)) ⟨avD _,?_⟩ ?_ a_ ?_;rw[azH (by rw[nl];exact avD _),azH (by rw[Y,nl];exact avD _)];unfold Pc
 (repeat' (first|exact d_|refine c_ ?_ ?_))<;>first|(simp only[go_sem,wrap_i64 (show -9223372036854775808<=((nl (val xs):Nat):Int)-1 by omega) (show((nl (val xs):Nat):Int)-1<=9223372036854775807 by omega)]<;>rfl)|rfl
 rintro k ⟨hk,l⟩;simp only[go_sem,Pc];by_cases h0:0<k;obtain⟨m,rfl⟩:∃m,k=m+1:=⟨k-1,by omega⟩;have B:((m+1:Nat):Int)-1=(m:Int):=Om;have x:(m:Int)>=0:=Om;obtain⟨O,E,F⟩:=Dt M (Om:m<nl (val xs));obtain⟨R,J,K⟩:=Dt N (Om:m<nl (val ys));simp only[go_sem,B,x];refine bK .nil cS a_ ?_;simp only[go_sem,cG xs O,cG ys R];by_cases W:xs[m]<ys[m];simp only[go_sem,show((xs[m]:Nat):Int)<(ys[m]:Nat) by omega];refine dN (.inr rfl) Ev ?_;have:=ml S E J l (by rw[<-F,<-K];exact W);rw[ex,u]at this;simp[bL,eZ,this];simp only[go_sem,show ¬((xs[m]:Nat):Int)<(ys[m]:Nat) by omega];refine bK .nil cS a_ ?_;simp only[go_sem,cG xs O,cG ys R];by_cases X:xs[m]>ys[m];simp only[go_sem,show((xs[m]:Nat):Int)>(ys[m]:Nat) by omega];refine dN (.inr rfl) Ev ?_;have:=ml U J E l.symm (by rw[<-F,<-K];exact X);rw[ex,u]at this;have w:¬val xs<val ys:=Om;simp[bL,eZ,this,w];simp only[go_sem,show ¬((xs[m]:Nat):Int)>(ys[m]:Nat) by omega];refine aE m ⟨by omega,xu E J l (by rw[<-F,<-K];omega)⟩ Om ?_ a_
 (repeat' (first|exact d_|refine c_ ?_ ?_))<;>first|(simp only[go_sem,wrap_i64 (Om:-9223372036854775808<=(m:Int)-1) (Om:(m:Int)-1<=9223372036854775807)]<;>rfl)|rfl
 have:k=0:=Om;subst this;have B:¬((0:Nat):Int)-1>=0:=by decide
 simp only[go_sem,B];refine dN (.inr rfl) Ev ?_;rw[awM,awM]at l;have:val xs=val ys:=by rw[<-ex,<-u,l]
 simp[bL,eZ,this]
def Gh(k:Nat)(v:Nat):PF:=((n_.set 4 (.int .i64 k)).set 5 (.int .u32 v))
theorem _root_.wO_{p:Prop}(h:p:=by rw[wrap_i64 Om Om];omega):p:=h
theorem Zn(xs:N_)(A:Lim xs)(X:Z' xs<=35184372087808)(B:aH C 138 [aN xs] .nil (aL (.j (nl (val xs):Nat)))) :
  qc.wp C (aW Cb.res (aL (.j (dC (val xs):Nat)))) (g_ [aN xs]) .nil:=by
 simp only[go_sem,qc,Cb];refine aB B Ev ?_;simp only[go_sem];have W:=iK A;by_cases R:nl (val xs)=0;simp only[go_sem,bN (show((nl (val xs):Nat):Int)=0 by omega)];refine dN (.inr rfl) Ev ?_;have:val xs=0:=kD.1 R;simp[bL,this,mE];obtain⟨n,O⟩:∃n,nl (val xs)=n+1:=⟨nl (val xs)-1,by omega⟩;obtain⟨t,x,E⟩:=Ip A O;have y:t<4294967296:=A t (axF x);have i:n<Z' xs:=Om;have V:val xs=val (xs.take n)+4294967296^n*t:=by
  have e:=oA A;have:=aY (val xs);have U:xs[n]=t:=by rw[avF i]at x;exact awV.inj x
  rw[<-e,O,awP i,U,jD,avN,axS Om]at this;simp only[val,Nat.mul_zero,awQ]at this;exact this.symm
 have hb:dC (val xs)=32*n+dC t:=by
  have K:=gV (A.take n);rw[avN,axS Om]at K;rw[V,show(4294967296:Nat)^n=2^(32*n) by rw[Nat.pow_mul]]at *
  exact Dw K E
 have l:(aO xs)[n]?=some [.int .u32 (t:Nat)]:=by rw[cG xs i];rw[avF i]at x;rw[awV.inj x]
 have S:i_.wrap (((nl (val xs):Nat):Int)-1)=(n:Int):=wO_
 have e2:i_.wrap ((n:Int)*32)=((32*n:Nat):Int):=wO_
 simp only[go_sem,bA (show((nl (val xs):Nat):Int)≠0 by omega),S,e2,l];refine wp_loop (α:=Nat × Nat) (λa=>Gh a.1 a.2) (λ_=>.nil) (λa=>a.1+dC a.2=32*n+dC t/\a.2<4294967296) (λa=>a.2) (32*n,t) ⟨rfl,y⟩ ?_ a_ ?_;unfold Gh;exact Lq;rintro⟨k,v⟩ ⟨M,hlt⟩;simp only at M hlt;have N:dC t<=32:=(pS t 32).2 y;simp only[go_sem,Gh];by_cases J:(v:Int)>0;have F:v≠0:=Om;have u:PV.bin .shr (.int .u32 (v:Int)) (.int .u64 1)=some (.int .u32 ((v/2:Nat):Int)):=by
  show shift .shr .u32 (v:Int) 1=_;unfold shift;rw[aC aU];simp only;have:min (Int.toNat 1) IntKind.u32.bits=1:=by decide
  rw[this,show(2:Int)^1=2 by decide,Int.fdiv_eq_ediv_of_nonneg _ aU];rfl
 have w:shift .shr .u32 (v:Int) 1=some (.int .u32 ((v/2:Nat):Int)):=u;simp only[go_sem,J,u,w,wZz k];refine aE (k+1,v/2) ⟨?_,?_⟩ (Nat.div_lt_self Om aU) ?_ a_;have:=uH F;simp only;omega;simp only;omega;exact Lq;have:v=0:=Om;subst this;simp only[go_sem,J];refine dN (.inr rfl) Ev ?_;rw[mE]at M;simp only[bL,PV.int.injEq,true_and];omega
structure wZ(C:Ctx):Prop where
 length:∀xs,Lim xs->Z' xs<=35184372087808->aH C 138 [aN xs] .nil (aL (.int .i64 (nl (val xs):Nat)))
 large:∀xs,Lim xs->Z' xs<=35184372087808->aH C 137 [aN xs] .nil (aL (.bool (decide (nl (val xs)>512))))
 sized:∀xs,Lim xs->Z' xs<=35184372087808->aH C 141 [aN xs] .nil (aL (szV (val xs)))
 trim:∀xs,Lim xs->Z' xs<=35184372087808->aH C 135 [aN xs] .nil (aL (aN (aM (val xs))))
 make:∀v:Nat,v<18446744073709551616->aH C 132 [.int .u64 v] .nil (aL (aN (aM v)))
 cmp:∀xs ys,Lim xs->Lim ys->Z' xs<=35184372087808->Z' ys<=35184372087808->aH C 129 [aN xs,aN ys] .nil (aL (.int .i64 (eZ (val xs) (val ys))))
def lJ:PV->N_
 | .sl _ rows=>rows.map λr=>match r with|[.int _ n]=>n.toNat|_=>0
 |_=>[]
theorem fS(xs:N_):lJ (aN xs)=xs:=by
 simp[lJ,ayD,Function.comp_def]
def Pa:Spec:=λname vs=>match name,vs with
 |138,[x]=>some ([],λ_=>aL (.int .i64 (nl (val (lJ x)):Nat)))
 |_,_=>none
theorem tI(xs:N_):Pa 138 [aN xs]=some ([],λ_=>aL (.j (nl (val xs):Nat))):=by
 show some _=_;rw[fS]
theorem GC(P:N_)(k v:Nat):(P++avA (k+1) 0).set P.length v=(P++[v])++avA k 0:=by
 rw[ayF _ _ (avD _),axT,List.replicate_succ,azB,awB];rfl
theorem iL(L:N_)(i v:Nat):(aO L).set i [.int .u32 (v:Int)]=aO (L.set i v):=by
 unfold aO;rw[ayE]
theorem mA(P:N_)(v:Nat):val (P++[v])=val P+4294967296^P.length*v:=by
 rw[jD];simp[val]
theorem cW(xs:N_){i:Nat}(h:i<Z' xs):val (xs.take (i+1))=val (xs.take i)+4294967296^i*xs[i]:=by
 rw[awP h,mA,avN,axS Om]
theorem EV{v:Nat}:shift .shr .u64 (v:Int) 32=some (.int .u64 ((v/4294967296:Nat):Int)):=by
 unfold shift;rw[aC aU];simp only;have:min (Int.toNat 32) IntKind.u64.bits=32:=by decide
 rw[this,show(2:Int)^32=4294967296 by decide,Int.fdiv_eq_ediv_of_nonneg _ aU];rfl
theorem gW{a b:Nat}(h:a+b<18446744073709551616):u_.wrap ((a:Int)+(b:Int))=((a+b:Nat):Int):=by
 rw[wrap_u64 Om Om];omega
theorem bT{a:Nat}(h:a<18446744073709551616):u_.wrap (a:Int)=(a:Int):=wrap_u64 Om Om
def qa(a b:N_)(o i c:Nat):PF:=(((((((n_.set 0 (aN a)).set 1 (aN b)).set 6 (.osl o 1 0 (Z' a+1))).set 7 (.int .u64 c)).set 35 (.int .i64 (Z' a:Nat))).set 34 (aN a)).set 36 (.int .i64 i))
theorem yv(L:wZ C)(a b:N_)(ha:Lim a)(hb:Lim b)(hl:Z' b<=Z' a)(h1:Z' a<=1000)(F:PF)(f0:F 0=some (aN a))(f1:F 1=some (aN b)) :
  aI.wp C (.seq (.region v6) (.seq (.region v8) (.seq (.seq (.region wa) (.block 0 (.loop ic))) (.seq (.region ik) (.seq (.region im) .ret))))) (aW [.tmp 4,.tmp 5] (cC (szV (val a+val b)))) F .nil:=by
 have U:i_.wrap ((Z' a:Int)+1)=((Z' a+1:Nat):Int):=eC Om;have η:((Z' a+1:Nat):Int)*((4:Nat):Int)<=140737488355328:=Om;have θ:((Z' a+1:Nat):Int)<=9223372036854775807:=Om;have hz:avA (Z' a+1) [PV.int .u32 0]=aO ([]++avA (Z' a+1) 0):=by simp[aO]
 simp only[go_sem,v6,f0,U,η,θ,hz];refine aS λo ho=>?_;simp only[go_sem,v8,wa,f0];refine wp_loop (α:=N_ × Nat × Nat) (λs=>qa a b s.2.2 s.1.length s.2.1) (λs=>h_.set s.2.2 (.rows 1 (aO (s.1++avA (Z' a+1-s.1.length) 0))))
  (λs=>s.1.length<=Z' a/\Lim s.1/\s.2.1<=1/\val s.1+4294967296^s.1.length*s.2.1=val (a.take s.1.length)+val (b.take s.1.length)) (λs=>Z' a-s.1.length) ([],0,o) ⟨by simp,by simp[Lim],by simp,by simp[val]⟩ ?_ ?_ ?_
 ·unfold qa;exact Lq
 ·exact e_ a_ (by simp only[go_sem,axC])
 rintro⟨P,c,q⟩ ⟨hP,i,hc,A⟩;simp only at hP i hc A;simp only[go_sem,ic,qa];by_cases Z:Z' P<Z' a
 ·have E:(Z' P:Int)<(Z' a:Nat):=Om;have ι:=ha _ (avB Z);obtain⟨k,X⟩:∃k,Z' a+1-Z' P=k+1:=⟨Z' a-Z' P,by omega⟩;have N:(aO (P++avA (k+1) 0))[Z' P]?=some [.int .u32 ((0:Nat):Int)]:=by rw[cG _ aZ];simp
  have l:Z' a+1-(Z' P+1)=k:=Om;have J:(Z' P:Int)<((Z' a+1:Nat):Int):=Om;have fin:∀(t:Nat)(w:PF)(H':PH),t<2*4294967296->val P+4294967296^P.length*t=val (a.take (Z' P+1))+val (b.take (Z' P+1)) ->
    w 0=some (aN a)->w 1=some (aN b)->w 6=some (.osl q 1 0 (Z' a+1))->w 7=some (.int .u64 (t:Nat))->w 8=some (.j P.length)->w 34=some (aN a)->w 35=some (.j (Z' a:Nat))->w 36=some (.j P.length) ->
    H' q=some (.rows 1 (aO (P++avA (k+1) 0)))->∀K:bZ,(∀y B W H2,Z' y=Z' P+1->Lim y->B<=1->val y+4294967296^y.length*B=val (a.take (Z' P+1))+val (b.take (Z' P+1))->(qa a b q y.length B).le W->H2 q=some (.rows 1 (aO (y++avA k 0)))->K .normal W H2) ->
    aI.wp C (.seq (.region ig) (.region ii)) (fA 1 (fZ C (aI.wp C (.region ij)) K)) w H':=by
   intro t w H' ht hv g0 g1 g6 g7 g8 γ δ ε gH K hK;have u:(aO (P++avA (k+1) 0)).set P.length [.int .u32 ((t%4294967296:Nat):Int)]=aO ((P++[t%4294967296])++avA k 0):=by rw[iL,GC]
   simp only[go_sem,ig,g6,g8,g7,dB,J,gH,N,u,ii,EV,ij,ε,eC (Om:Z' P<9223372036854775807)];refine hK (P++[t%4294967296]) (t/4294967296) _ _ aZ (i.app λx Y=>by simp at Y;subst Y;exact awY _ aU) Om ?_ ?_ Sq
   ·rw[mA,auZ,avG,axE,awC,axL,<-avQ,Nat.mod_add_div];exact hv
   ·unfold qa;rw[auZ,avG];refine c_ (c_ (c_ (c_ (c_ (c_ (c_ d_ ?_) ?_) ?_) ?_) ?_) ?_) ?_<;>simp only[go_sem,g0,g1,g6,γ,δ]
  have V:=cW a Z;have ea:u_.wrap ((a[Z' P]:Nat):Int)=((a[Z' P]:Nat):Int):=bT Om;have es:u_.wrap ((c:Nat)+((a[Z' P]:Nat):Int))=((c+a[Z' P]:Nat):Int):=gW Om;simp only[go_sem,E,cG a Z,ea,es];by_cases c3:Z' P<Z' b
  ·have M:(Z' P:Int)<(Z' b:Nat):=Om;have κ:=hb _ (avB c3);have O:=cW b c3;have eb:u_.wrap ((b[Z' P]:Nat):Int)=((b[Z' P]:Nat):Int):=bT Om;have β:u_.wrap (((c+a[Z' P]:Nat):Int)+((b[Z' P]:Nat):Int))=((c+a[Z' P]+b[Z' P]:Nat):Int):=gW Om;simp only[go_sem,M,cG b c3,eb,β];refine fin (c+a[Z' P]+b[Z' P]) _ _ Om ?_ ?_ ?_ ?_ ?_ ?_ ?_ ?_ ?_ ?_ _ ?_
   ·rw[V,O,avQ,avQ];omega
   any_goals simp only[go_sem,X]
   intro y B W H2 R e2 e3 S e5 e6;rw[<-R]at S;refine aE (y,B,q) ⟨by simp only;omega,e2,e3,S⟩ sO_ e5 (e_ a_ ?_);simp only;rw[R,l];exact e6
  ·have M:¬(Z' P:Int)<(Z' b:Nat):=Om;have O:val (b.take (Z' P+1))=val (b.take P.length):=by rw[avT Om,avT Om]
   simp only[go_sem,M];refine fin (c+a[Z' P]) _ _ Om ?_ ?_ ?_ ?_ ?_ ?_ ?_ ?_ ?_ ?_ _ ?_
   ·rw[V,O,avQ];omega
   any_goals simp only[go_sem,X]
   intro y B W H2 R e2 e3 S e5 e6;rw[<-R]at S;refine aE (y,B,q) ⟨by simp only;omega,e2,e3,S⟩ sO_ e5 (e_ a_ ?_);simp only;rw[R,l];exact e6
 ·have e:Z' P=Z' a:=Om;have E:¬(Z' P:Int)<(Z' a:Nat):=Om;have X:avA (Z' a+1-Z' P) 0=[0]:=by rw[show a.length+1-Z' P=1 by omega];rfl
  have N:(aO (P++[0]))[Z' a]?=some [.int .u32 ((0:Nat):Int)]:=by rw[cG _ (by simp;omega)];simp[e]
  have u:(aO (P++[0])).set a.length [.int .u32 ((c%4294967296:Nat):Int)]=aO (P++[c]):=by have:=GC P 0 (c%4294967296);simp only[List.replicate_zero,awJ,avK,List.replicate_one]at this;rw[<-e,iL,this,awT Om]
  have J:(Z' a:Int)<((Z' a+1:Nat):Int):=Om;have hV:val (P++[c])=val a+val b:=by rw[mA,A,e,avW,avT hl]
  have ζ:Lim (P++[c]):=i.app λx Y=>by simp at Y;omega
  simp only[go_sem,E,ik,dB,X,N,J,u,im];have hs:=L.sized _ ζ (by simp;omega);rw[hV]at hs;refine wE (o:=q) (s:=1) (k:=Z' a+1) (rs:=aO (P++[c])) (v:=szV (val a+val b)) ?_ rfl Sq (by rw[cQ];simp;omega) ?_
  ·rw[avT (by rw[cQ];simp;omega)];exact hs
  ·simp only[go_sem,szV];exact bC (.inr rfl) .nil rfl a_ ⟨.refl _,rfl⟩
def opV(big:Bool)(n:Nat):PV:=if big then .tup [aN [],.int .i64 2]else szV n
def fK(a b:Nat):Bool:=decide (nl a>512)||decide (nl b>512)
theorem gI{res:List eE}{F:PF}{H:PH}{e:Int}(h:eE.evs F H res=some [.aJ,.j e]):aW res (cC (.tup [aN [],.j e])) .ret F H:=by
 refine bC (.inr rfl) .nil h a_ ⟨?_,rfl⟩;refine .tup rfl λj p q hp hq=>?_
 match j with
 |0=>simp at hp hq;subst hp;subst hq;exact .nil 1
 |1=>simp at hp hq;subst hp;subst hq;exact .refl _
 |j+2=>simp at hp
theorem bJ(n:Nat):(aM n).length=nl n:=rfl
theorem lS{xs:N_}(h:Lim xs):(xs.map λ(n:Nat)=>[PV.int .u32 (n:Int)]).take (nl (val xs))=(aM (val xs)).map λ(n:Nat)=>[PV.int .u32 (n:Int)]:=by
 rw[<-ayN,oA h]
theorem agG(L:wZ C)(a b:N_)(w:Lim a)(hb:Lim b)(A:Z' a<=35184372087808)(B:Z' b<=35184372087808) :
  yu.wp C (aW pP.res (cC (opV (fK (val a) (val b)) (val a+val b)))) (g_ [aN a,aN b]) .nil:=by
 simp only[go_sem,yu,pP];refine aB (L.large a w A) rfl ?_;by_cases l:nl (val a)>512;simp only[go_sem,l];rw[show opV (fK (val a) (val b)) (val a+val b)=.tup [aN [],.j 2] by simp[opV,fK,l]];exact gI rfl;simp only[go_sem,l];refine aB (L.large b hb B) rfl ?_;by_cases u:nl (val b)>512;simp only[go_sem,u];rw[show opV (fK (val a) (val b)) (val a+val b)=.tup [aN [],.j 2] by simp[opV,fK,u]];exact gI rfl;have e:opV (fK (val a) (val b)) (val a+val b)=szV (val a+val b):=by simp[opV,fK,l,u]
 rw[e];simp only[go_sem,u];refine bK .nil Pa a_ ?_;simp only[go_sem];have K:=iK w;have M:=iK hb;have x:((nl (val a):Nat):Int)<=(Z' a:Nat):=Om;have y:((nl (val b):Nat):Int)<=(Z' b:Nat):=Om;refine cB (tI a) (L.length a w A) rfl a_ ?_;simp only[go_sem,x,or_true,awM,lS w];refine cB (tI b) (L.length b hb B) rfl a_ ?_;simp only[go_sem,y,or_true,awM,lS hb,bJ];have E:=aY (val a);have F:=aY (val b);by_cases J:nl (val a)<nl (val b);have i:((nl (val a):Nat):Int)<(nl (val b):Nat):=Om;simp only[go_sem,i];have:=yv L (aM (val b)) (aM (val a)) (bE _) (bE _) (by rw[bJ,bJ];omega) (by rw[bJ];omega);rw[E,F,Nat.add_comm]at this;exact this _ rfl rfl;have i:¬((nl (val a):Nat):Int)<(nl (val b):Nat):=Om;simp only[go_sem,i];have:=yv L (aM (val a)) (aM (val b)) (bE _) (bE _) (by rw[bJ,bJ];omega) (by rw[bJ];omega);rw[E,F]at this;exact this _ rfl rfl
theorem iX(n:Int):u_.wrap n=n%18446744073709551616:=by simp[IntKind.wrap,IntKind.bits,IntKind.signed]
theorem dl(n:Int):IntKind.u32.wrap n=n%4294967296:=by simp[IntKind.wrap,IntKind.bits,IntKind.signed]
theorem Qm{v:Int}:shift .shr .u64 v 63=some (.int .u64 (v/9223372036854775808)):=by
 unfold shift;rw[aC aU];simp only;have:min (Int.toNat 63) IntKind.u64.bits=63:=by decide
 rw[this,show(2:Int)^63=9223372036854775808 by decide,Int.fdiv_eq_ediv_of_nonneg _ aU]
def WT(a bor b:Nat):Nat:=(a+4294967296-bor-b)%4294967296
def j8(a bor b:Nat):Nat:=if a<bor+b then 1 else 0
theorem Ih{a bor b:Nat}(e:a<4294967296)(hb:b<4294967296)(i:bor<=1)(v:Int)(l:v=((a:Int)-bor-b)%18446744073709551616) :
  IntKind.u32.wrap v=((WT a bor b:Nat):Int)/\v/9223372036854775808=((j8 a bor b:Nat):Int)/\a+4294967296*j8 a bor b=WT a bor b+b+bor/\WT a bor b<4294967296:=by
 rw[dl];unfold WT j8;split<;>omega
def qi(a b:N_)(o i c:Nat):PF:=(((((((n_.set 0 (aN a)).set 1 (aN b)).set 6 (.osl o 1 0 a.length)).set 7 (.int .u64 c)).set 33 (aN a)).set 34 (.int .i64 (Z' a:Nat))).set 35 (.int .i64 i))
theorem Ua(L:wZ C)(a b:N_)(ha:Lim a)(hb:Lim b)(κ:val b<=val a)(hl:Z' b<=Z' a)(h1:Z' a<=1000)(F:PF)(f0:F 0=some (aN a))(f1:F 1=some (aN b)) :
  aI.wp C (.seq (.region wn) (.seq (.region wq) (.seq (.seq (.region wr) (.block 1 (.loop iw))) (.seq (.region i0) .ret)))) (aW [.tmp 4,.tmp 5] (cC (szV (val a-val b)))) F .nil:=by
 have η:(Z' a:Int)*((4:Nat):Int)<=140737488355328:=Om;have θ:(Z' a:Int)<=9223372036854775807:=Om;have hz:avA a.length [PV.int .u32 0]=aO ([]++avA a.length 0):=by simp[aO]
 simp only[go_sem,wn,f0,η,θ,hz];refine aS λo ho=>?_;simp only[go_sem,wq,wr,f0];refine wp_loop (α:=N_ × Nat × Nat) (λs=>qi a b s.2.2 s.1.length s.2.1) (λs=>h_.set s.2.2 (.rows 1 (aO (s.1++avA (Z' a-s.1.length) 0))))
  (λs=>s.1.length<=Z' a/\Lim s.1/\s.2.1<=1/\val (a.take s.1.length)+4294967296^s.1.length*s.2.1=val s.1+val (b.take s.1.length)) (λs=>Z' a-s.1.length) ([],0,o) ⟨by simp,by simp[Lim],by simp,by simp[val]⟩ ?_ ?_ ?_
 ·unfold qi;exact Lq
 ·exact e_ a_ (by simp only[go_sem,axC])
 rintro⟨P,c,q⟩ ⟨hP,i,hc,B⟩;simp only at hP i hc B;simp only[go_sem,iw,qi];by_cases V:Z' P<Z' a
 ·have A:(Z' P:Int)<(Z' a:Nat):=Om;have δ:=ha _ (avB V);obtain⟨k,U⟩:∃k,Z' a-Z' P=k+1:=⟨Z' a-Z' P-1,by omega⟩;have ζ:(aO (P++avA (k+1) 0))[Z' P]?=some [.int .u32 ((0:Nat):Int)]:=by rw[cG _ aZ];simp
  have l:Z' a-(Z' P+1)=k:=Om;have ι:=cW a V;have fin:∀(t:Nat)(v:Int)(w:PF)(H':PH),t<4294967296->v=((a[Z' P]:Int)-c-t)%18446744073709551616->val (b.take (Z' P+1))=val (b.take P.length)+4294967296^P.length*t ->
    w 0=some (aN a)->w 1=some (aN b)->w 6=some (.osl q 1 0 a.length)->w 9=some (.int .u64 v)->w 8=some (.j P.length)->w 33=some (aN a)->w 34=some (.j (Z' a:Nat))->w 35=some (.j P.length) ->
    H' q=some (.rows 1 (aO (P++avA (k+1) 0)))->∀K:bZ,(∀y E S H2,Z' y=Z' P+1->Lim y->E<=1->val (a.take (Z' P+1))+4294967296^y.length*E=val y+val (b.take (Z' P+1))->(qi a b q y.length E).le S->H2 q=some (.rows 1 (aO (y++avA k 0)))->K .normal S H2) ->
    aI.wp C (.seq (.region ix) (.region iy)) (fA 2 (fZ C (aI.wp C (.region iz)) K)) w H':=by
   intro t v w H' ht hv u g0 g1 g6 g9 g8 Z β γ gH K hK;obtain⟨M,e2,O,N⟩:=Ih δ ht hc v hv;have R:(aO (P++avA (k+1) 0)).set P.length [.int .u32 ((WT a[Z' P] c t:Nat):Int)]=aO ((P++[WT a[Z' P] c t])++avA k 0):=by rw[iL,GC]
   simp only[go_sem,ix,g6,g8,g9,M,A,gH,ζ,R,iy,Qm,e2,iz,γ,eC (Om:Z' P<9223372036854775807)];refine hK (P++[WT a[Z' P] c t]) (j8 a[Z' P] c t) _ _ aZ (i.app λx hx=>by simp at hx;subst hx;exact N) (by unfold j8;split<;>omega) ?_ ?_ Sq
   ·rw[mA,auZ,avG,axE,awC,ι,u,axL,<-avQ,O,avQ,avQ];omega
   ·unfold qi;rw[auZ,avG];refine c_ (c_ (c_ (c_ (c_ (c_ (c_ d_ ?_) ?_) ?_) ?_) ?_) ?_) ?_<;>simp only[go_sem,g0,g1,g6,Z,β]
  have ea:u_.wrap ((a[Z' P]:Nat):Int)=((a[Z' P]:Nat):Int):=bT Om;simp only[go_sem,A,cG a V,ea];by_cases W:Z' P<Z' b
  ·have J:(Z' P:Int)<(Z' b:Nat):=Om;have ε:=hb _ (avB W);have u:=cW b W;have eb:u_.wrap ((b[Z' P]:Nat):Int)=((b[Z' P]:Nat):Int):=bT Om;simp only[go_sem,J,cG b W,eb];refine fin b[Z' P] (u_.wrap (u_.wrap ((a[Z' P]:Int)-(c:Int))-(b[Z' P]:Int))) _ _ ε (by rw[iX,iX];omega) u ?_ ?_ ?_ ?_ ?_ ?_ ?_ ?_ ?_ _ ?_
   any_goals simp only[go_sem,U]
   intro y E S H2 M e2 O N X Y;rw[<-M]at N;refine aE (y,E,q) ⟨by simp only;omega,e2,O,N⟩ sO_ X (e_ a_ ?_);simp only;rw[M,l];exact Y
  ·have J:¬(Z' P:Int)<(Z' b:Nat):=Om;have u:val (b.take (Z' P+1))=val (b.take P.length)+4294967296^P.length*0:=by rw[avT Om,avT Om];simp
   simp only[go_sem,J];refine fin 0 (u_.wrap ((a[Z' P]:Int)-(c:Int))) _ _ aU (by rw[iX];omega) u ?_ ?_ ?_ ?_ ?_ ?_ ?_ ?_ ?_ _ ?_
   any_goals simp only[go_sem,U]
   intro y E S H2 M e2 O N X Y;rw[<-M]at N;refine aE (y,E,q) ⟨by simp only;omega,e2,O,N⟩ sO_ X (e_ a_ ?_);simp only;rw[M,l];exact Y
 ·have e:Z' P=Z' a:=Om;have A:¬(Z' P:Int)<(Z' a:Nat):=Om;have U:avA (Z' a-Z' P) 0=[]:=by rw[show a.length-Z' P=0 by omega];rfl
  have hV:val P=val a-val b:=by
   rw[e,avW,avT hl]at B;have hlt:=gV i;rw[e]at hlt;rcases axJ c with h|h
   ·subst h;omega
   ·have:c=1:=Om;subst this;omega
  simp only[go_sem,A,U,awJ,i0];have hs:=L.sized _ i Om;rw[hV]at hs;refine wE (o:=q) (s:=1) (k:=Z' a) (rs:=aO P) (v:=szV (val a-val b)) ?_ rfl Sq (by rw[cQ];omega) ?_
  ·rw[avT (by rw[cQ];omega)];exact hs
  ·simp only[go_sem,szV];exact bC (.inr rfl) .nil rfl a_ ⟨.refl _,rfl⟩
def xW(a b:Nat):PV:=if fK a b then .tup [aN [],.int .i64 2]else if a<b then .tup [aN [],.int .i64 4]else szV (a-b)
theorem agO(L:wZ C)(a b:N_)(l:Lim a)(hb:Lim b)(A:Z' a<=35184372087808)(B:Z' b<=35184372087808) :
  zb.wp C (aW qT.res (cC (xW (val a) (val b)))) (g_ [aN a,aN b]) .nil:=by
 simp only[go_sem,zb,qT];refine aB (L.large a l A) rfl ?_;by_cases e:nl (val a)>512;simp only[go_sem,e];rw[show xW (val a) (val b)=.tup [aN [],.j 2] by simp[xW,fK,e]];exact gI rfl;simp only[go_sem,e];refine aB (L.large b hb B) rfl ?_;by_cases i:nl (val b)>512;simp only[go_sem,i];rw[show xW (val a) (val b)=.tup [aN [],.j 2] by simp[xW,fK,i]];exact gI rfl;simp only[go_sem,i];refine aB (L.cmp a b l hb A B) rfl ?_;by_cases u:val a<val b;have y:eZ (val a) (val b)<0:=by simp[eZ,u]
 simp only[go_sem,y];rw[show xW (val a) (val b)=.tup [aN [],.j 4] by simp[xW,fK,e,i,u]];exact gI rfl;have y:¬eZ (val a) (val b)<0:=by unfold eZ;rw[aC u];split<;>decide
 rw[show xW (val a) (val b)=szV (val a-val b) by simp[xW,fK,e,i,u]];simp only[go_sem,y];refine bK .nil Pa a_ ?_;simp only[go_sem];have J:=iK l;have K:=iK hb;have w:((nl (val a):Nat):Int)<=(Z' a:Nat):=Om;have x:((nl (val b):Nat):Int)<=(Z' b:Nat):=Om;refine cB (tI a) (L.length a l A) rfl a_ ?_;simp only[go_sem,w,or_true,awM,lS l];refine cB (tI b) (L.length b hb B) rfl a_ ?_;simp only[go_sem,x,or_true,awM,lS hb];have E:=aY (val a);have F:=aY (val b);have M:=iW (Om:val b<=val a);have:=Ua L (aM (val a)) (aM (val b)) (bE _) (bE _) Om (by rw[bJ,bJ];omega) (by rw[bJ];omega);rw[E,F]at this;exact this _ rfl rfl
end Go.PM
namespace Go.Na
def fI:Nat->Nat->N_
 |0,_=>[]
 |k+1,n=>(n%4294967296)::fI k (n/4294967296)
theorem pA:∀k n,(fI k n).length=k
 |0,_=>rfl
 |k+1,n=>by simp[fI,pA k]
theorem NX{xs:N_}(h:Lim xs):fI xs.length (val xs)=xs:=by
 induction xs with
 |nil=>rfl
 |cons x xs l =>have u:=h x aZ;have e:(x+4294967296*val xs)%4294967296=x:=Om;have e2:(x+4294967296*val xs)/4294967296=val xs:=Om;simp only[awK,fI,val];rw[e,e2,l λy i=>h y (by simp[i])]
theorem qQ:∀k n,Lim (fI k n)
 |0,_=>λx hx=>by cases hx
 |k+1,n=>λx hx=>by
  simp only[fI,avL]at hx;rcases hx with rfl|hx
  exact awY _ aU;exact qQ k _ x hx
theorem IA:∀k n,val (fI k n)=n%4294967296^k
 |0,n=>by simp[fI,val,Nat.mod_one]
 |k+1,n=>by simp only[fI,val,IA k];rw[axE,awF (4294967296^k) 4294967296,Nat.mod_mul]
theorem tM{k n:Nat}(h:n<4294967296^k):val (fI k n)=n:=by rw[IA,awT h]
end Go.Na
namespace Go.PM
open Go Go.Na
theorem anG{a b:Nat}(e:a<18446744073709551616)(hb:b<18446744073709551616):(BitVec.ofInt 64 (a:Int) ||| BitVec.ofInt 64 (b:Int)).toNat=a ||| b:=by
 rw[BitVec.ofInt_natCast,BitVec.ofInt_natCast,BitVec.toNat_or,BitVec.toNat_ofNat,BitVec.toNat_ofNat,awT (by simpa using e),awT (by simpa using hb)]
theorem G3{c x s:Nat}(e:c<2^s)(h:c+2^s*x<18446744073709551616):c ||| (2^s*x)=c+2^s*x:=by
 rw[Nat.or_comm,<-Nat.two_pow_add_eq_or_of_lt e,Nat.add_comm]
theorem orI{a b n:Nat}(e:a<18446744073709551616)(hb:b<18446744073709551616)(h:a ||| b=n)(i:n<18446744073709551616):oE .or .u64 (a:Int) (b:Int)=some (.int .u64 (n:Int)):=by
 show some (PV.int .u64 (u_.wrap (((BitVec.ofInt 64 (a:Int) ||| BitVec.ofInt 64 (b:Int)).toNat:Nat):Int)))=_;rw[anG e hb,h,bT i]
theorem RH{x s:Nat}(e:s<=64)(h:x*2^s<18446744073709551616):shift .shl .u64 (x:Int) (s:Int)=some (.int .u64 ((2^s*x:Nat):Int)):=by
 unfold shift;rw[aC Om];simp only;have:min (Int.toNat (s:Int)) IntKind.u64.bits=s:=by rw[show IntKind.u64.bits=64 from rfl];omega
 rw[this,show(x:Int)*2^s=((x*2^s:Nat):Int) by simp,bT h,awF]
def Zu(a:N_)(s o i c:Nat):PF:=(((((((n_.set 0 (aN a)).set 1 (.int .u64 s)).set 5 (.osl o 1 0 (Z' a+1))).set 6 (.int .u64 c)).set 13 (aN a)).set 14 (.int .i64 (Z' a:Nat))).set 15 (.int .i64 i))
def upR(a:N_)(s:Nat)(r:PV)(H:PH):Prop:=∃o,r=.osl o 1 0 (Z' a+1)/\H=h_.set o (.rows 1 (aO (fI (Z' a+1) (val a*2^s))))
variable{C:Ctx}
theorem akL(a:N_)(s:Nat)(ha:Lim a)(hs:s<32)(h1:Z' a<=1000):Gu.wp C (aW nup.res (upR a s)) (g_ [aN a,.int .u64 s]) .nil:=by
 have K:i_.wrap ((Z' a:Int)+1)=((Z' a+1:Nat):Int):=eC Om;have X:((Z' a+1:Nat):Int)*((4:Nat):Int)<=140737488355328:=Om;have Y:((Z' a+1:Nat):Int)<=9223372036854775807:=Om;have hz:avA (Z' a+1) [PV.int .u32 0]=aO ([]++avA (Z' a+1) 0):=by simp[aO]
 have S:2^s<=2147483648:=ayU (show 0<2 by decide) (Om:s<=31);have F:0<2^s:=ayH aU;simp only[go_sem,Gu,nup,K,X,Y,hz];refine aS λo ho=>?_;simp only[go_sem];refine wp_loop (α:=N_ × Nat × Nat) (λt=>Zu a s t.2.2 t.1.length t.2.1) (λt=>h_.set t.2.2 (.rows 1 (aO (t.1++avA (Z' a+1-t.1.length) 0))))
  (λt=>t.1.length<=Z' a/\Lim t.1/\t.2.1<2^s/\val t.1+4294967296^t.1.length*t.2.1=val (a.take t.1.length)*2^s) (λt=>Z' a-t.1.length) ([],0,o) ⟨by simp,by simp[Lim],F,by simp[val]⟩ ?_ ?_ ?_
 unfold Zu;exact Lq;exact e_ a_ (by simp only[go_sem,axC]);rintro⟨P,c,q⟩ ⟨hP,i,hc,u⟩;simp only at hP i hc u;simp only[go_sem,Zu];by_cases N:Z' P<Z' a;have w:(Z' P:Int)<(Z' a:Nat):=Om;have β:=ha _ (avB N);obtain⟨k,W⟩:∃k,Z' a+1-Z' P=k+1:=⟨Z' a-Z' P,by omega⟩;have B:(aO (P++avA (k+1) 0))[Z' P]?=some [.int .u32 ((0:Nat):Int)]:=by rw[cG _ aZ];simp
 have E:Z' a+1-(Z' P+1)=k:=Om;have A:(Z' P:Int)<((Z' a+1:Nat):Int):=Om;have Z:=cW a N;generalize hx:a[Z' P]=x at *
 have γ:x*2^s<=4294967295*2147483648:=ayA Om S;have ex:u_.wrap ((x:Nat):Int)=((x:Nat):Int):=bT Om;have M:2^s*x=x*2^s:=awF _ _;have R:shift .shl .u64 (x:Int) (s:Int)=some (.int .u64 ((2^s*x:Nat):Int)):=RH Om Om;have O:=orI (a:=c) (b:=2^s*x) (n:=c+2^s*x) Om Om (G3 hc Om) Om;have J:(c+2^s*x)/4294967296<2^s:=by rw[ayO aU];have:2^s*(x+1)<=2^s*4294967296:=axW _ Om;rw[avQ,ayG]at this;omega
 have l:(aO (P++avA (k+1) 0)).set P.length [.int .u32 (((c+2^s*x)%4294967296:Nat):Int)]=aO ((P++[(c+2^s*x)%4294967296])++avA k 0):=by rw[iL,GC]
 have V:(aO a)[Z' P]?=some [.int .u32 ((x:Nat):Int)]:=by rw[cG a N,hx]
 simp only[go_sem,w,V,ex,R,O,dB,W,A,B,l,EV,eC (Om:Z' P<9223372036854775807)];refine aE (P++[(c+2^s*x)%4294967296],(c+2^s*x)/4294967296,q) ⟨by simp;omega,i.app λy hy=>by simp at hy;subst hy;exact awY _ aU,J,?_⟩ (by simp;omega) ?_ (e_ a_ ?_);simp only;rw[mA,auZ,avG,axE,awC,axL,<-avQ,Nat.mod_add_div,Z,avQ,awO,<-axL,u,M,awC];simp only;rw[auZ,avG];exact Lq;simp only;rw[auZ,avG,E];simp only[go_sem];have e:Z' P=Z' a:=Om;have w:¬(Z' P:Int)<(Z' a:Nat):=Om;have W:avA (Z' a+1-Z' P) 0=[0]:=by rw[show a.length+1-Z' P=1 by omega];rfl
 have B:(aO (P++[0]))[Z' a]?=some [.int .u32 ((0:Nat):Int)]:=by rw[cG _ (by simp;omega)];simp[e]
 have l:(aO (P++[0])).set a.length [.int .u32 ((c%4294967296:Nat):Int)]=aO (P++[c]):=by have:=GC P 0 (c%4294967296);simp only[List.replicate_zero,awJ,avK,List.replicate_one]at this;rw[<-e,iL,this,awT Om]
 have A:(Z' a:Int)<((Z' a+1:Nat):Int):=Om;have hV:val (P++[c])=val a*2^s:=by rw[mA,u,e,avW]
 have U:Lim (P++[c]):=i.app λx hx=>by simp at hx;omega
 have hD:fI (Z' a+1) (val a*2^s)=P++[c]:=by have:=NX U;rw[hV,auZ,avG,e]at this;exact this
 simp only[go_sem,w,dB,W,B,A,l];exact bC (vs:=[.osl q 1 0 (Z' a+1)]) (.inr rfl) (h_.set q (.rows 1 (aO (P++[c])))) Ev (e_ a_ Sq) ⟨q,rfl,by rw[hD]⟩
def wm(a:N_)(d o k r:Nat):PF:=(((((n_.set 0 (aN a)).set 1 (.int .u32 d)).set 6 (.osl o 1 0 a.length)).set 7 (.int .u64 r)).set 8 (.int .i64 ((k:Int)-1)))
theorem T8(L:wZ C)(a:N_)(d:Nat)(ha:Lim a)(l:0<d)(hd:d<4294967296)(h1:Z' a<=1000) :
  cb.wp C (aW qg.res (aL (.tup [aN (aM (val a/d)),.int .u32 ((val a%d:Nat):Int)]))) (g_ [aN a,.int .u32 d]) .nil:=by
 have Z:(Z' a:Int)*((4:Nat):Int)<=140737488355328:=Om;have β:(Z' a:Int)<=9223372036854775807:=Om;have hz:avA a.length [PV.int .u32 0]=aO (avA a.length 0++[]):=by simp[aO]
 simp only[go_sem,cb,qg,Z,β,hz];refine aS λo ho=>?_;simp only[go_sem];refine wp_loop (α:=Nat × N_ × Nat × Nat) (λt=>wm a d t.2.2.2 t.1 t.2.2.1) (λt=>h_.set t.2.2.2 (.rows 1 (aO (avA t.1 0++t.2.1))))
  (λt=>t.1+t.2.1.length=Z' a/\Lim t.2.1/\t.2.2.1<d/\val t.2.1*d+t.2.2.1=val (a.drop t.1)) (λt=>t.1) (Z' a,[],0,o) ⟨by simp,by simp[Lim],l,by simp[val]⟩ ?_ ?_ ?_
 unfold wm
 (repeat' (first|exact d_|refine c_ ?_ ?_))<;>first|(simp only[go_sem,wrap_i64 (Om:-9223372036854775808<=(Z' a:Int)-1) (Om:(Z' a:Int)-1<=9223372036854775807)]<;>rfl)|rfl
 exact e_ a_ Sq;rintro⟨k,S,r,q⟩ ⟨hk,e,N,i⟩;simp only at hk e N i;simp only[go_sem,wm];by_cases h0:0<k;obtain⟨m,rfl⟩:∃m,k=m+1:=⟨k-1,by omega⟩;have A:((m+1:Nat):Int)-1=(m:Int):=Om;have X:(m:Int)>=0:=Om;have w:m<Z' a:=Om;have hlt:(m:Int)<(Z' a:Nat):=Om;have δ:=ha _ (avB w);have u:val (a.drop m)=a[m]+4294967296*val (a.drop (m+1)):=by rw[axB w];rfl
 generalize hx:a[m]=x at *
 have R:(aO a)[m]?=some [.int .u32 ((x:Nat):Int)]:=by rw[cG a w,hx]
 have ex:u_.wrap ((x:Nat):Int)=((x:Nat):Int):=bT Om;have ed:u_.wrap ((d:Nat):Int)=((d:Nat):Int):=bT Om;have J:shift .shl .u64 (r:Int) 32=some (.int .u64 ((2^32*r:Nat):Int)):=RH (s:=32) Om Om;have O:(2:Nat)^32=4294967296:=by decide
 have B:=orI (a:=2^32*r) (b:=x) (n:=2^32*r+x) Om Om (Nat.two_pow_add_eq_or_of_lt Om r).symm Om;rw[O]at J B;have hq:(4294967296*r+x)/d<4294967296:=by rw[ayO l];have:4294967296*(r+1)<=4294967296*d:=axW _ N;omega
 have U:¬((d:Nat):Int)=0:=Om;have E:u_.wrap (axQ ((4294967296*r+x:Nat):Int) ((d:Nat):Int))=(((4294967296*r+x)/d:Nat):Int):=by rw[show axQ ((4294967296*r+x:Nat):Int) ((d:Nat):Int)=(((4294967296*r+x)/d:Nat):Int)from rfl];exact bT Om
 have F:Int.tmod ((4294967296*r+x:Nat):Int) ((d:Nat):Int)=(((4294967296*r+x)%d:Nat):Int):=rfl;have ec:IntKind.u32.wrap (((4294967296*r+x)/d:Nat):Int)=(((4294967296*r+x)/d:Nat):Int):=by rw[dB,awT hq]
 have K:avA (m+1) 0++S=avA m 0++(0::S):=by rw[List.replicate_succ',awB];rfl
 have Y:(aO (avA m 0++(0::S)))[m]?=some [.int .u32 ((0:Nat):Int)]:=by rw[cG _ aZ];simp
 have M:(aO (avA m 0++(0::S))).set m [.int .u32 (((4294967296*r+x)/d:Nat):Int)]=aO (avA m 0++(((4294967296*r+x)/d)::S)):=by rw[iL,ayF _ _ aZ];simp
 simp only[go_sem,A,X,J,R,ex,B,ed,U,E,ec,hlt,K,Y,M,F];refine aE (m,((4294967296*r+x)/d)::S,(4294967296*r+x)%d,q) ⟨by simp only[awK];omega,λy hy=>?_,awY _ l,?_⟩ sO_ ?_ (e_ a_ Sq);rw[avL]at hy;rcases hy with rfl|hy
 exact hq;exact e y hy;simp only[val];rw[u,<-i,awO,avQ,awC];have:=azF (4294967296*r+x) d;rw[awF d]at this;omega
 (repeat' (first|exact d_|refine c_ ?_ ?_))<;>first|(simp only[go_sem,wrap_i64 (Om:-9223372036854775808<=(m:Int)-1) (Om:(m:Int)-1<=9223372036854775807)]<;>rfl)|rfl
 have:k=0:=Om;subst this;have A:¬((0:Nat):Int)-1>=0:=by decide
 rw[awM]at i;have hS:Z' S=Z' a:=Om;have hq:val S=val a/d:=by rw[<-i,awF,Nat.mul_add_div l,azC N,awQ]
 have γ:r=val a%d:=by rw[<-i,awF,Nat.mul_add_mod,awT N]
 have ε:avA 0 0++S=S:=by simp
 simp only[go_sem,A,azA];have hl:=L.length S e Om;have ζ:=iK e;have hc:((nl (val S):Nat):Int)<=(Z' S:Nat):=Om;refine wE (o:=q) (s:=1) (k:=Z' a) (rs:=aO S) (v:=.j (nl (val S):Nat)) ?_ Sq Sq (by rw[cQ];omega) ?_;rw[avT (by rw[cQ];omega)];exact hl;have W:PV.frz q 1 (aO S) (.osl q 1 0 a.length)=aN S:=by
  have:0+Z' a<=(aO S).length:=by rw[cQ];omega
  simp only[PV.frz,PV.qR,PV.dL,if_true,true_and,aF this,awM];rw[avT (by rw[cQ];omega)]
 have V:∀n:Int,∀k,PV.frz q 1 (aO S) (.int k n)=.int k n:=λ_ _=>rfl;have er:IntKind.u32.wrap ((r:Nat):Int)=((r:Nat):Int):=by rw[dB,awT Om]
 simp only[go_sem,W,V,hc,or_true,awM,lS e,er];refine bC (vs:=[aN (aM (val S)),.int .u32 ((r:Nat):Int)]) (.inr rfl) .nil Ev a_ ⟨?_,rfl⟩;simp only[bL,<-hq,<-γ]
end Go.PM
namespace Go.Na
theorem NB{L:N_}{i:Nat}(h:i<Z' L)(v:Nat):val (L.set i v)+4294967296^i*L[i]=val L+4294967296^i*v:=by
 have e:i<(L.set i v).length:=by rw[awS];exact h
 rw[yL L h,yL (L.set i v) e,List.getElem_set_self,List.take_set_of_le (avD _),List.drop_set_of_lt Om,avQ,avQ];omega
theorem uj{L:N_}{i:Nat}(h:∀(j x:Nat),i<=j->L[j]?=some x->x=0)(k v:Nat)(u:k<i):∀(j x:Nat),i<=j->(L.set k v)[j]?=some x->x=0:=λj x l e=>by
 rw[List.getElem?_set_ne Om]at e;exact h j x l e
end Go.Na
namespace Go.PM
open Go Go.Na
def oM(a b:N_)(o i:Nat):PF:=((((((n_.set 0 (aN a)).set 1 (aN b)).set 6 (.osl o 1 0 (Z' a+Z' b))).set 32 (aN a)).set 33 (.int .i64 (Z' a:Nat))).set 34 (.int .i64 i))
def Pm(a b:N_)(o i x c j:Nat):PF:=((((((((((((n_.set 0 (aN a)).set 1 (aN b)).set 6 (.osl o 1 0 (Z' a+Z' b))).set 32 (aN a)).set 33 (.int .i64 (Z' a:Nat))).set 34 (.int .i64 i)).set 7 (.int .i64 i)).set 8 (.int .u32 x)).set 9 (.int .u64 c)).set 39 (aN b)).set 40 (.int .i64 (Z' b:Nat))).set 41 (.int .i64 j))
structure LP(a b L:N_)(i:Nat):Prop where
 len:Z' L=Z' a+Z' b
 lim:Lim L
 v:val L=val (a.take i)*val b
 z:∀j x,i+Z' b<=j->L[j]?=some x->x=0
theorem Lk{x y:Nat}(e:x<4294967296)(i:y<4294967296):u_.wrap ((x:Int)*(y:Int))=((x*y:Nat):Int):=by
 have:x*y<=4294967295*4294967295:=ayA Om Om;rw[show(x:Int)*(y:Int)=((x*y:Nat):Int) by simp];exact bT Om
theorem jM{a b:Nat}(h:a+b<=9223372036854775807):i_.wrap ((a:Int)+(b:Int))=((a+b:Nat):Int):=by
 rw[wrap_i64 Om Om];omega
variable{C:Ctx}
theorem Zr(a b:N_)(ha:Lim a)(hb:Lim b)(h1:Z' a<=1000)(h2:Z' b<=1000)(L:N_)(i:Nat)(hi:i<Z' a)(R:LP a b L i)(q:Nat)(K:bZ)(F:PF)(H:PH)(O:(oM a b q i).le F)(hH:H q=some (.rows 1 (aO L)))
  (hK:∀L' F' H',LP a b L' (i+1)->(oM a b q i).le F'->H' q=some (.rows 1 (aO L'))->K .normal F' H') :
  aI.wp C (.block 1 (.seq (.region wg) (.seq (.region wh) (.seq (.seq (.region wj) (.block 2 (.loop ip))) (.region ir))))) K F H:=by
 have f0:=O 0 _ (by unfold oM;simp only[go_sem];rfl);have f1:=O 1 _ (by unfold oM;simp only[go_sem];rfl);have f6:=O 6 _ (by unfold oM;simp only[go_sem];rfl);have W:=O 32 _ (by unfold oM;simp only[go_sem];rfl);have ι:=O 33 _ (by unfold oM;simp only[go_sem];rfl);have X:=O 34 _ (by unfold oM;simp only[go_sem];rfl);have hx:=ha _ (avB hi);have δ:=cW a hi;generalize ζ:a[i]=x at *
 have β:(aO a)[i]?=some [.int .u32 ((x:Nat):Int)]:=by rw[cG a hi,ζ]
 simp only[go_sem,wg,wh,wj,W,X,f1,β];refine wp_loop (α:=N_ × Nat × Nat) (λt=>Pm a b q i x t.2.1 t.2.2) (λt=>h_.set q (.rows 1 (aO t.1)))
  (λt=>t.2.2<=Z' b/\t.1.length=Z' a+Z' b/\Lim t.1/\t.2.1<4294967296/\val t.1+4294967296^(i+t.2.2)*t.2.1=val (a.take i)*val b+4294967296^i*(x*val (b.take t.2.2))/\∀j y,i+Z' b<=j->t.1[j]?=some y->y=0) (λt=>Z' b-t.2.2) (L,0,0)
  ⟨by simp,R.len,R.lim,by simp,by simp[val,R.v],R.z⟩ ?_ (e_ a_ hH) ?_
 unfold Pm;exact Lq;rintro⟨M,c,j⟩ ⟨hj,Z,l,hc,A,U⟩;simp only at hj Z l hc A U;simp only[go_sem,ip,Pm];by_cases V:j<Z' b;have B:(j:Int)<(Z' b:Nat):=Om;have S:=hb _ (avB V);have ε:=cW b V;generalize η:b[j]=y at *
 have γ:(aO b)[j]?=some [.int .u32 ((y:Nat):Int)]:=by rw[cG b V,η]
 have e:i+j<Z' M:=Om;have N:=l _ (avB e);have w:=NB e;generalize θ:M[i+j]=z at *
 have J:(aO M)[i+j]?=some [.int .u32 ((z:Nat):Int)]:=by rw[cG M e,θ]
 have ex:u_.wrap ((x:Nat):Int)=((x:Nat):Int):=bT Om;have ey:u_.wrap ((y:Nat):Int)=((y:Nat):Int):=bT Om;have ez:u_.wrap ((z:Nat):Int)=((z:Nat):Int):=bT Om;have em:=Lk hx S;have μ:x*y<=4294967295*4294967295:=ayA Om Om;have e1:u_.wrap (((x*y:Nat):Int)+(z:Int))=((x*y+z:Nat):Int):=gW Om;have e2:u_.wrap ((c:Int)+((x*y+z:Nat):Int))=((c+(x*y+z):Nat):Int):=gW Om;have E:i_.wrap ((i:Int)+(j:Int))=((i+j:Nat):Int):=jM Om;have hlt:((i+j:Nat):Int)<((Z' a+Z' b:Nat):Int):=Om;generalize ht:c+(x*y+z)=t at *
 have κ:t<4294967296*4294967296:=Om;have u:(aO M).set (i+j) [.int .u32 ((t%4294967296:Nat):Int)]=aO (M.set (i+j) (t%4294967296)):=iL M (i+j) _;simp only[go_sem,B,γ,ex,ey,em,E,hlt,J,ez,e1,e2,dB,u,EV,wZz j];refine aE (M.set (i+j) (t%4294967296),t/4294967296,j+1) ⟨by simp only;omega,by simp only[awS];exact Z,l.set _ (awY _ aU),by simp only;omega,?_,uj U _ _ Om⟩ sO_ ?_ (e_ a_ Sq);simp only;have Y:=w (t%4294967296);have h4:4294967296^(i+(j+1))*(t/4294967296)+4294967296^(i+j)*(t%4294967296)=4294967296^(i+j)*t:=by rw[<-axL,axE,awC,<-avQ,azF]
 have h5:4294967296^(i+j)*t=4294967296^(i+j)*c+(4294967296^(i+j)*(x*y)+4294967296^(i+j)*z):=by rw[<-ht,avQ,avQ]
 have h6:4294967296^i*(x*val (b.take (j+1)))=4294967296^i*(x*val (b.take j))+4294967296^(i+j)*(x*y):=by rw[ε,avQ,avQ,Nat.pow_add];congr 1;rw[Nat.mul_left_comm x,awC]
 omega;exact Lq;have he:j=Z' b:=Om;have B:¬(j:Int)<(Z' b:Nat):=Om;subst he;have e:i+Z' b<Z' M:=Om;have N:M[i+Z' b]=0:=U _ _ (avD _) (avF e);have w:=NB e;have J:(aO M)[i+Z' b]?=some [.int .u32 ((0:Nat):Int)]:=by rw[cG M e,N]
 have E:i_.wrap ((i:Int)+(Z' b:Int))=((i+Z' b:Nat):Int):=jM Om;have hlt:((i+Z' b:Nat):Int)<((Z' a+Z' b:Nat):Int):=Om;have u:(aO M).set (i+Z' b) [.int .u32 ((c%4294967296:Nat):Int)]=aO (M.set (i+Z' b) c):=by rw[awT hc];exact iL M _ _
 simp only[go_sem,B,ir,E,dB,hlt,J,u];refine hK (M.set (i+Z' b) c) _ _ ⟨by rw[awS];exact Z,l.set _ hc,?_,λj y hj S=>?_⟩ (by unfold oM;exact Lq) Sq;have Y:=w c;rw[N,Nat.mul_zero,awQ]at Y;rw[Y,A,avW,δ,awO,awC];rw[List.getElem?_set_ne Om]at S;exact U j y Om S
theorem T7(L:wZ C)(a b:N_)(X:Lim a)(hb:Lim b)(V:Z' a<=1000)(W:Z' b<=1000)(F:PF)(f0:F 0=some (aN a))(f1:F 1=some (aN b)) :
  aI.wp C (.seq (.region wd) (.seq (.seq (.region we) (.block 0 (.loop iq))) (.seq (.region iu) .ret))) (aW [.tmp 4,.tmp 5] (cC (szV (val a*val b)))) F .nil:=by
 have w:i_.wrap ((Z' a:Int)+(Z' b:Int))=((Z' a+Z' b:Nat):Int):=jM Om;have J:((Z' a+Z' b:Nat):Int)*((4:Nat):Int)<=140737488355328:=Om;have K:((Z' a+Z' b:Nat):Int)<=9223372036854775807:=Om;have Y:avA (Z' a+Z' b) [PV.int .u32 0]=aO (avA (Z' a+Z' b) 0):=by simp[aO]
 simp only[go_sem,wd,f0,f1,w,J,K,Y];refine aS λo ho=>?_;simp only[go_sem,we,f0];refine wp_loop (α:=N_ × Nat) (λt=>oM a b o t.2) (λt=>h_.set o (.rows 1 (aO t.1))) (λt=>t.2<=Z' a/\LP a b t.1 t.2) (λt=>Z' a-t.2) (avA (Z' a+Z' b) 0,0)
  ⟨by simp,by simp,CM _,by simp[val,yP],λj x _ O=>by rw[List.getElem?_replicate]at O;split at O<;>simp_all⟩ ?_ (e_ a_ Sq) ?_
 unfold oM;exact Lq;rintro⟨M,i⟩ ⟨hi,l⟩;simp only at hi l;simp only[go_sem,iq,oM];by_cases R:i<Z' a;have u:(i:Int)<(Z' a:Nat):=Om;have y:=Zr (C:=C) a b X hb V W M i R l o;simp only[go_sem]at y;simp only[go_sem,u];refine y _ _ _ (by unfold oM;exact Lq) Sq ?_;intro L' Z H' E e B;have A:=e 34 _ (by unfold oM;simp only[go_sem];rfl);have g0:=e 0 _ (by unfold oM;simp only[go_sem];rfl);have g1:=e 1 _ (by unfold oM;simp only[go_sem];rfl);have g6:=e 6 _ (by unfold oM;simp only[go_sem];rfl);have S:=e 32 _ (by unfold oM;simp only[go_sem];rfl);have U:=e 33 _ (by unfold oM;simp only[go_sem];rfl);simp only[go_sem,A,wZz i];refine aE (L',i+1) ⟨by simp only;omega,E⟩ sO_ ?_ (e_ a_ B);exact Lq;have he:i=Z' a:=Om;subst he;have u:¬(Z' a:Int)<(Z' a:Nat):=Om;have hV:val M=val a*val b:=by rw[l.v,avW]
 simp only[go_sem,iu];have N:=L.sized _ l.lim (by rw[l.len];omega);rw[hV]at N;refine wE (o:=o) (s:=1) (k:=Z' a+Z' b) (rs:=aO M) (v:=szV (val a*val b)) ?_ rfl Sq (by rw[cQ,l.len];exact avD _) ?_;rw[avT (by rw[cQ,l.len];exact avD _)];exact N;simp only[go_sem,szV];exact bC (.inr rfl) .nil rfl a_ ⟨.refl _,rfl⟩
theorem agN(L:wZ C)(a b:N_)(u:Lim a)(hb:Lim b)(y:Z' a<=35184372087808)(A:Z' b<=35184372087808) :
  y9.wp C (aW pQ.res (cC (opV (fK (val a) (val b)) (val a*val b)))) (g_ [aN a,aN b]) .nil:=by
 simp only[go_sem,y9,pQ];refine aB (L.large a u y) rfl ?_;by_cases i:nl (val a)>512;simp only[go_sem,i];rw[show opV (fK (val a) (val b)) (val a*val b)=.tup [aN [],.j 2] by simp[opV,fK,i]];exact gI rfl;simp only[go_sem,i];refine aB (L.large b hb A) rfl ?_;by_cases l:nl (val b)>512;simp only[go_sem,l];rw[show opV (fK (val a) (val b)) (val a*val b)=.tup [aN [],.j 2] by simp[opV,fK,l]];exact gI rfl;have e:opV (fK (val a) (val b)) (val a*val b)=szV (val a*val b):=by simp[opV,fK,i,l]
 rw[e];simp only[go_sem,l];refine bK .nil Pa a_ ?_;simp only[go_sem];have J:=iK u;have K:=iK hb;have w:((nl (val a):Nat):Int)<=(Z' a:Nat):=Om;have x:((nl (val b):Nat):Int)<=(Z' b:Nat):=Om;refine cB (tI a) (L.length a u y) rfl a_ ?_;simp only[go_sem,w,or_true,awM,lS u];refine cB (tI b) (L.length b hb A) rfl a_ ?_;simp only[go_sem,x,or_true,awM,lS hb];have B:=aY (val a);have E:=aY (val b);have:=T7 L (aM (val a)) (aM (val b)) (bE _) (bE _) (by rw[bJ];omega) (by rw[bJ];omega);rw[B,E]at this;have:=λF f0 f1=>this F f0 f1;simp only[go_sem]at this;exact this _ rfl rfl
open Go Go.Na
theorem sd{A P W Z:N_}{i:Nat}(l:Z' P=i)(hi:i<Z' W):(aO (A++(P++W.drop i)++Z))[Z' A+i]?=some [.int .u32 ((W[i]:Nat):Int)]:=by
 have e:Z' A+i<(A++(P++W.drop i)++Z).length:=by simp;omega
 rw[cG _ e];congr 4;rw[azM (by simp;omega),azK Om,azK Om,List.getElem_drop];congr 1;omega
theorem MY{A P W Z:N_}{i:Nat}(e:Z' P=i)(hi:i<Z' W)(v:Nat):(aO (A++(P++W.drop i)++Z)).set (Z' A+i) [.int .u32 (v:Int)]=aO (A++((P++[v])++W.drop (i+1))++Z):=by
 rw[iL];congr 1;rw[List.set_append_left _ _ (by simp;omega),ayF _ _ Om,ayF _ _ Om,axB hi];rw[show A.length+i-Z' A-Z' P=0 by omega,azB];simp
theorem W6{t:Nat}(h:t<18446744073709551616):oE .and .u64 (t:Int) 4294967295=some (.int .u64 ((t%4294967296:Nat):Int)):=by
 show some (PV.int .u64 (u_.wrap (((BitVec.ofInt 64 (t:Int) &&& BitVec.ofInt 64 (4294967295:Int)).toNat:Nat):Int)))=_;have e:BitVec.ofInt 64 (4294967295:Int)=BitVec.ofNat 64 4294967295:=by rfl
 rw[e,BitVec.ofInt_natCast,BitVec.toNat_and,BitVec.toNat_ofNat,BitVec.toNat_ofNat,awT (by simpa using h)];have e2:(4294967295:Nat)%2^64=2^32-1:=by decide
 rw[e2,Nat.and_two_pow_sub_one_eq_mod];rw[bT (Nat.lt_of_lt_of_le (awY _ aU) aU)]
theorem Xc{c f x:Nat}(i:c<4294967296)(e:f<=4294967296)(l:x<4294967296):c+f*x<18446744073709551616/\(c+f*x)/4294967296<4294967296/\f*x<=4294967296*4294967295:=by
 have:f*x<=4294967296*4294967295:=ayA e Om;refine⟨by omega,?_,this⟩;omega
def Gr(v:N_)(j o i c b:Nat)(f:Nat):PF:=((((((((n_.set 0 (.osl o 1 j (Z' v+1))).set 1 (aN v)).set 2 (.int .u64 f)).set 7 (.int .u64 c)).set 8 (.int .u64 b)).set 13 (aN v)).set 14 (.int .i64 (Z' v:Nat))).set 15 (.int .i64 i))
def RP(n w m:Nat):Nat:=if w<m then w+4294967296^n-m else w-m
theorem Gs(A W Z v:N_)(f:Nat)(hW:Lim W)(hv:Lim v)(hl:Z' W=Z' v+1)(h1:Z' A+Z' v<=100000)(hf:f<=4294967296)(ν:val v*f<=val W+4294967296^(Z' v+1))(o:Nat) :
  MR.wp C (aW IT.res (λr H'=>r=.bool (decide (val W<val v*f))/\H'=h_.set o (.rows 1 (aO (A++fI (Z' v+1) (RP (Z' v+1) (val W) (val v*f))++Z)))))
   (g_ [.osl o 1 A.length (Z' v+1),aN v,.int .u64 f]) (h_.set o (.rows 1 (aO (A++W++Z)))):=by
 simp only[go_sem,MR,IT];refine wp_loop (α:=N_ × Nat × Nat) (λt=>Gr v A.length o t.1.length t.2.1 t.2.2 f) (λt=>h_.set o (.rows 1 (aO (A++(t.1++W.drop t.1.length)++Z))))
  (λt=>t.1.length<=Z' v/\Lim t.1/\t.2.1<4294967296/\t.2.2<=1/\val (W.take t.1.length)+4294967296^t.1.length*t.2.2+4294967296^t.1.length*t.2.1=val t.1+val (v.take t.1.length)*f) (λt=>Z' v-t.1.length) ([],0,0)
  ⟨by simp,by simp[Lim],by simp,by simp,by simp[val]⟩ ?_ (e_ a_ (by simp only[go_sem,axC,awM,azA])) ?_
 unfold Gr;exact Lq;rintro⟨P,c,b⟩ ⟨hP,i,hc,hb,w⟩;simp only at hP i hc hb w;simp only[go_sem,Gr];by_cases c1:Z' P<Z' v;have J:(Z' P:Int)<(Z' v:Nat):=Om;have E:Z' P<Z' W:=Om;have K:(Z' P:Int)<((Z' v+1:Nat):Int):=Om;have hx:=hv _ (avB c1);have hw:=hW _ (avB E);have η:=cW v c1;have F:=cW W E;have N:=sd (A:=A) (Z:=Z) (P:=P) rfl E;have u:=MY (A:=A) (Z:=Z) (P:=P) rfl E;generalize μ:v[Z' P]=x at *
 generalize κ:W[Z' P]=y at *
 have ι:(aO v)[Z' P]?=some [.int .u32 ((x:Nat):Int)]:=by rw[cG v c1,μ]
 obtain⟨k1,k2,k3⟩:=Xc hc hf hx;have ex:u_.wrap ((x:Nat):Int)=((x:Nat):Int):=bT Om;have ey:u_.wrap ((y:Nat):Int)=((y:Nat):Int):=bT Om;have em:u_.wrap ((f:Int)*(x:Int))=((f*x:Nat):Int):=by rw[show(f:Int)*(x:Int)=((f*x:Nat):Int) by simp];exact bT Om
 have l:c+f*x<18446744073709551616:=k1;have ea:u_.wrap ((c:Int)+((f*x:Nat):Int))=((c+f*x:Nat):Int):=gW l;have U:=W6 l;have θ:val (v.take (Z' P+1))*f=val (v.take P.length)*f+4294967296^P.length*(f*x):=by rw[η,awO,awC,awF x f]
 generalize f*x=B at *
 have X:(c+B)%4294967296<4294967296:=awY _ aU;obtain⟨s1,s2,s3,s4⟩:=Ih (a:=y) (bor:=b) (b:=(c+B)%4294967296) hw X hb (u_.wrap (u_.wrap ((y:Int)-(((c+B)%4294967296:Nat):Int))-(b:Int))) (by rw[iX,iX];omega);generalize hd:WT y b ((c+B)%4294967296)=d at *
 generalize δ:j8 y b ((c+B)%4294967296)=b' at *
 have γ:b'<=1:=by rw[<-δ];unfold j8;split<;>omega
 have hs:=u d;simp only[go_sem,J,ι,ex,em,ea,K,N,ey,U,s1,hs,Qm,s2,EV,eC (Om:Z' P<9223372036854775807)];refine aE (P++[d],(c+B)/4294967296,b') ⟨by simp;omega,i.app λz hz=>by simp at hz;omega,k2,γ,?_⟩ (by simp;omega) ?_ (e_ a_ ?_);simp only;rw[auZ,avG,mA,F,θ,axE,awC,awC];have h4:4294967296^P.length*y+4294967296^P.length*(4294967296*b')=4294967296^P.length*d+4294967296^P.length*((c+B)%4294967296)+4294967296^P.length*b:=by rw[<-avQ,s3,avQ,avQ]
 have h5:4294967296^P.length*(4294967296*((c+B)/4294967296))+4294967296^P.length*((c+B)%4294967296)=4294967296^P.length*c+4294967296^P.length*B:=by rw[<-avQ,azF,avQ]
 omega;simp only;rw[auZ,avG];exact Lq;simp only;rw[auZ,avG];simp only[go_sem];have e:Z' P=Z' v:=Om;have J:¬(Z' P:Int)<(Z' v:Nat):=Om;have E:Z' v<Z' W:=Om;have K:(Z' v:Int)<((Z' v+1:Nat):Int):=Om;have hw:=hW _ (avB E);have F:=cW W E;have N:=sd (A:=A) (Z:=Z) (P:=P) e E;have u:=MY (A:=A) (Z:=Z) (P:=P) e E;have M:val (W.take (Z' v+1))=val W:=by rw[avT Om]
 generalize κ:W[Z' v]=y at *
 have ey:u_.wrap ((y:Nat):Int)=((y:Nat):Int):=bT Om;have β:=gV i;rw[e]at w β;rw[avW]at w;rw[M]at F;have Y:4294967296^(Z' v+1)=4294967296^v.length*4294967296:=axE _ _;have ο:val W+4294967296^v.length*(b+c)=val P+val v*f+4294967296^v.length*y:=by rw[F,avQ];omega
 have ξ:b+c<=y+4294967296:=by
  rcases avX (y+4294967296) (b+c)with h|h
  exfalso;have:4294967296^v.length*(y+4294967296+1)<=4294967296^v.length*(b+c):=axW _ h;rw[avQ,avQ,ayG]at this;omega;exact h
 have R:∃d k:Nat,d<4294967296/\k<=1/\y+4294967296*k=d+(b+c)/\IntKind.u32.wrap (u_.wrap (u_.wrap ((y:Int)-(c:Int))-(b:Int)))=(d:Int)/\((u_.wrap (u_.wrap ((y:Int)-(c:Int))-(b:Int))/9223372036854775808==1)=decide (k=1)):=by rw[dl,iX,iX];by_cases h:y<b+c;refine⟨y+4294967296-(b+c),1,by omega,by omega,by omega,by omega,?_⟩;simp only[decide_true];exact bN Om;refine⟨y-(b+c),0,by omega,by omega,by omega,by omega,?_⟩;exact bA Om
 obtain⟨d,k,hd,hk,hy,w1,w2⟩:=R;have hs:=u d;have hN:val (P++[d])+val v*f=val W+4294967296^(Z' v+1)*k:=by
  have:4294967296^v.length*y+4294967296^v.length*(4294967296*k)=4294967296^v.length*d+4294967296^v.length*(b+c):=by rw[<-avQ,hy,avQ]
  rw[mA,e,Y,awC];omega
 have V:Lim (P++[d]):=i.app λz hz=>by simp at hz;omega
 have ε:=gV V;rw[auZ,avG,e]at ε;have O:decide (k=1)=decide (val W<val v*f):=by
  congr 1;apply propext;constructor;intro h;subst h;omega;intro h;rcases axJ k with h0|h0
  subst h0;omega;omega
 have S:RP (Z' v+1) (val W) (val v*f)=val (P++[d]):=by
  unfold RP;split;rename_i h;have:k=1:=by simpa[h]using O
  subst this;omega;rename_i h;have:k=0:=by
   have:¬k=1:=by simpa[h]using O
   omega
  subst this;omega
 have hD:fI (Z' v+1) (RP (Z' v+1) (val W) (val v*f))=P++[d]:=by have:=NX V;rw[auZ,avG,e]at this;rw[S,this]
 have ζ:W.drop (Z' v+1)=[]:=azH Om;simp only[go_sem,J,e,K,N,ey,w1,hs,Qm,w2,O];refine bC (vs:=[.bool (decide (val W<val v*f))]) (.inr rfl) (h_.set o (.rows 1 (aO (A++(P++[d]++W.drop (Z' v+1))++Z)))) rfl (e_ a_ Sq) ⟨rfl,?_⟩;rw[hD,ζ,awJ]
end Go.PM
namespace Go.Na
theorem Ld{xs ys:N_}(l:Lim xs)(u:Lim ys)(e:Z' xs=Z' ys)(i:val xs=val ys):xs=ys:=by
 rw[<-NX l,<-NX u,e,i]
theorem aeC{k n:Nat}{xs:N_}(l:Lim xs)(e:Z' xs=k)(i:val xs=n%4294967296^k):fI k n=xs:=
 Ld (qQ k n) l (by rw[pA,e]) (by rw[IA,i])
end Go.Na
namespace Go.PM
open Go Go.Na
def Gq(v:N_)(j o i c:Nat):PF:=((((((n_.set 0 (.osl o 1 j (Z' v+1))).set 1 (aN v)).set 4 (.int .u64 c)).set 7 (aN v)).set 8 (.int .i64 (Z' v:Nat))).set 9 (.int .i64 i))
variable{C:Ctx}
theorem Ju(A W Z v:N_)(hW:Lim W)(hv:Lim v)(hl:Z' W=Z' v+1)(h1:Z' A+Z' v<=100000)(o:Nat) :
  TF.wp C (aW QF.res (λr H'=>r=.tup []/\H'=h_.set o (.rows 1 (aO (A++fI (Z' v+1) (val W+val v)++Z)))))
   (g_ [.osl o 1 A.length (Z' v+1),aN v]) (h_.set o (.rows 1 (aO (A++W++Z)))):=by
 simp only[go_sem,TF,QF];refine wp_loop (α:=N_ × Nat) (λt=>Gq v A.length o t.1.length t.2) (λt=>h_.set o (.rows 1 (aO (A++(t.1++W.drop t.1.length)++Z))))
  (λt=>t.1.length<=Z' v/\Lim t.1/\t.2<=1/\val (W.take t.1.length)+val (v.take t.1.length)=val t.1+4294967296^t.1.length*t.2) (λt=>Z' v-t.1.length) ([],0)
  ⟨by simp,by simp[Lim],by simp,by simp[val]⟩ ?_ (e_ a_ (by simp only[go_sem,axC,awM,azA])) ?_
 unfold Gq;exact Lq;rintro⟨P,c⟩ ⟨hP,i,hc,u⟩;simp only at hP i hc u;simp only[go_sem,Gq];by_cases R:Z' P<Z' v;have B:(Z' P:Int)<(Z' v:Nat):=Om;have w:Z' P<Z' W:=Om;have E:(Z' P:Int)<((Z' v+1:Nat):Int):=Om;have hx:=hv _ (avB R);have hw:=hW _ (avB w);have Y:=cW v R;have K:=cW W w;have J:=sd (A:=A) (Z:=Z) (P:=P) rfl w;have l:=MY (A:=A) (Z:=Z) (P:=P) rfl w;generalize δ:v[Z' P]=x at *
 generalize γ:W[Z' P]=y at *
 have β:(aO v)[Z' P]?=some [.int .u32 ((x:Nat):Int)]:=by rw[cG v R,δ]
 have ex:u_.wrap ((x:Nat):Int)=((x:Nat):Int):=bT Om;have S:u_.wrap ((y:Nat):Int)=((y:Nat):Int):=bT Om;have e1:u_.wrap ((y:Int)+(x:Int))=((y+x:Nat):Int):=gW Om;have e2:u_.wrap ((c:Int)+((y+x:Nat):Int))=((c+(y+x):Nat):Int):=gW Om;have X:=l ((c+(y+x))%4294967296);simp only[go_sem,B,β,E,J,ex,S,e1,e2,dB,X,EV,eC (Om:Z' P<9223372036854775807)];refine aE (P++[(c+(y+x))%4294967296],(c+(y+x))/4294967296) ⟨by simp;omega,i.app λz O=>by simp at O;subst O;exact awY _ aU,by simp only;omega,?_⟩ (by simp;omega) ?_ (e_ a_ ?_);simp only;rw[auZ,avG,mA,K,Y,axE,awC];have h5:4294967296^P.length*(4294967296*((c+(y+x))/4294967296))+4294967296^P.length*((c+(y+x))%4294967296)=4294967296^P.length*c+(4294967296^P.length*y+4294967296^P.length*x):=by rw[<-avQ,azF,avQ,avQ]
 omega;simp only;rw[auZ,avG];exact Lq;simp only;rw[auZ,avG];simp only[go_sem];have e:Z' P=Z' v:=Om;have B:¬(Z' P:Int)<(Z' v:Nat):=Om;have w:Z' v<Z' W:=Om;have E:(Z' v:Int)<((Z' v+1:Nat):Int):=Om;have hw:=hW _ (avB w);have K:=cW W w;have J:=sd (A:=A) (Z:=Z) (P:=P) e w;have l:=MY (A:=A) (Z:=Z) (P:=P) e w;have F:val (W.take (Z' v+1))=val W:=by rw[avT Om]
 generalize γ:W[Z' v]=y at *
 have U:=gV i;rw[e]at u U;rw[avW]at u;rw[F]at K;have ec:IntKind.u32.wrap ((c:Nat):Int)=((c:Nat):Int):=by rw[dB,awT Om]
 have S:IntKind.u32.wrap ((y:Int)+(c:Int))=(((y+c)%4294967296:Nat):Int):=by rw[show(y:Int)+(c:Int)=((y+c:Nat):Int) by omega,dB]
 have X:=l ((y+c)%4294967296);have M:Lim (P++[(y+c)%4294967296]):=i.app λz O=>by simp at O;subst O;exact awY _ aU
 have N:=gV M;rw[auZ,avG,e]at N;have hD:fI (Z' v+1) (val W+val v)=P++[(y+c)%4294967296]:=by
  refine aeC M (by rw[auZ,avG,e]) ?_;have:val W+val v=val (P++[(y+c)%4294967296])+4294967296^(Z' v+1)*((y+c)/4294967296):=by rw[mA,e,axE,awC,axL,<-avQ,Nat.mod_add_div,avQ];omega
  rw[this,Nat.add_mul_mod_self_left,awT N]
 have V:W.drop (Z' v+1)=[]:=azH Om;simp only[go_sem,B,e,E,J,ec,S,X];refine bC (vs:=[]) (.inl rfl) (h_.set o (.rows 1 (aO (A++(P++[(y+c)%4294967296]++W.drop (Z' v+1))++Z)))) rfl (e_ a_ Sq) ⟨rfl,?_⟩;rw[hD,V,awJ]
def Pk(o n:Nat)(len:Nat):PF:=((n_.set 0 (.osl o 1 0 len)).set 3 (.int .i64 n))
theorem Jt(xs:N_)(y:Lim xs)(B:Z' xs<=35184372087808)(o:Nat):zO.wp C (aW FZ.res (λr H'=>r=.j (nl (val xs):Nat)/\H'=h_.set o (.rows 1 (aO xs)))) (g_ [.osl o 1 0 xs.length]) (h_.set o (.rows 1 (aO xs))):=by
 simp only[go_sem,zO,FZ];refine wp_loop (α:=Nat) (λn=>Pk o n xs.length) (λ_=>h_.set o (.rows 1 (aO xs))) (λn=>n<=Z' xs/\∀j x,n<=j->xs[j]?=some x->x=0) (λn=>n) xs.length ⟨avD _,λj x h e=>by rw[awN h]at e;cases e⟩ ?_ b_ ?_;unfold Pk;exact Lq;rintro n ⟨w,u⟩;have out:(∀x,0<n->xs[n-1]?=some x->x≠0)->nl (val xs)=n:=λh=>Mj y w u h;simp only[go_sem,Pk];by_cases l:(n:Int)>0;have hp:0<n:=Om;have hi:=cG xs (Om:n-1<Z' xs);have hlt:((n-1:Nat):Int)<(Z' xs:Nat):=Om;simp only[go_sem,l,DA (Om:n<=9223372036854775807) hp,hi,hlt];by_cases i:xs[n-1]=0;simp only[go_sem,bN (Om:((xs[n-1]:Nat):Int)=0),DA (Om:n<=9223372036854775807) hp];refine aE (n-1) ⟨by omega,λj x A he=>?_⟩ Om ?_ b_;rcases avX j n with h|h
 have:j=n-1:=Om;subst this;rw[avF Om]at he;cases he;exact i;exact u j x h he;exact Lq;simp only[go_sem,bA (Om:((xs[n-1]:Nat):Int)≠0)];refine bC (.inr rfl) _ rfl b_ ⟨?_,rfl⟩;rw[out λx _ he=>by rw[avF Om]at he;cases he;exact i];rfl;simp only[go_sem,l];refine bC (.inr rfl) _ rfl b_ ⟨?_,rfl⟩;rw[out λx h=>by omega];rfl
end Go.PM
namespace Go.Na
structure Kn(V W top next Vr head u2 Wr p:Nat):Prop where
 hV:V=top*(4294967296*p)+next*p+Vr
 hW:W=head*(4294967296*p)+u2*p+Wr
 hVr:Vr<p
 hWr:Wr<p
 htop:2147483648<=top
 auG:next<4294967296
 hu2:u2<4294967296
 hlt:W<V*4294967296
section
variable {V W top next Vr head u2 Wr p:Nat}
theorem Kn.low(K:Kn V W top next Vr head u2 Wr p):next*p+Vr<4294967296*p/\u2*p+Wr<4294967296*p:=by
 have e:(next+1)*p<=4294967296*p:=awI _ K.auG;have i:(u2+1)*p<=4294967296*p:=awI _ K.hu2;rw[awO,Nat.one_mul]at e i;have:=K.hVr;have:=K.hWr;omega
theorem Kn.Di(K:Kn V W top next Vr head u2 Wr p):0<V/\4294967296*p<=V/\0<p:=by
 have:=K.hVr;have h:1*(4294967296*p)<=top*(4294967296*p):=awI _ (by have:=K.htop;omega);have:=K.hV;omega
theorem Kn.akS(K:Kn V W top next Vr head u2 Wr p):W/V<4294967296:=by
 rw[ayO K.Di.1,awF];exact K.hlt
theorem Kn.g0(K:Kn V W top next Vr head u2 Wr p):W/V<=head/top:=by
 have e:0<top:=by have:=K.htop;omega
 rw[Nat.le_div_iff_mul_le e];have i:W/V*V<=W:=Nat.div_mul_le_self W V;have l:W/V*(top*(4294967296*p))<=W/V*V:=axW _ (by have:=K.hV;omega);have u:=K.low.2;have w:=K.hW;have h5:(W/V*top)*(4294967296*p)<(head+1)*(4294967296*p):=by rw[awC,awO,Nat.one_mul];omega
 have:=Nat.lt_of_mul_lt_mul_right h5;omega
theorem Kn.g1(K:Kn V W top next Vr head u2 Wr p){g r:Nat}(u:g*top+r=head)(hq:W/V<=g)(h:g>=4294967296\/g*next>r*4294967296+u2):1<=g/\W/V<=g-1:=by
 have x:=K.akS;have i:=Nat.div_mul_le_self W V;generalize W/V=Q at *
 rcases h with h|h
 ·omega
 ·have w:Q≠g:=by
   intro e;have y:g*V<=W:=by rw[<-e];exact i
   have A:g*V=g*top*(4294967296*p)+g*next*p+g*Vr:=by rw[K.hV,avQ,avQ,awC,awC]
   have l:(r*4294967296+u2+1)*p<=g*next*p:=awI _ h
   rw[awO,awO,Nat.one_mul,awC r]at l;have B:g*top*(4294967296*p)+r*(4294967296*p)=head*(4294967296*p):=by rw[<-awO,u]
   have:=K.hW;have:=K.hWr;omega
  omega
theorem Kn.g2(K:Kn V W top next Vr head u2 Wr p){g r:Nat}(w:g*top+r=head)(x:g<=4294967296)(h:g*next<=r*4294967296+u2):g<=W/V+1:=by
 rcases axJ g with e|e
 ·rw[e];exact auY _
 have l:g*V=g*top*(4294967296*p)+g*next*p+g*Vr:=by rw[K.hV,avQ,avQ,awC,awC]
 have i:g*next*p<=(r*4294967296+u2)*p:=awI _ h
 rw[awO,awC r]at i;have u:g*top*(4294967296*p)+r*(4294967296*p)=head*(4294967296*p):=by rw[<-awO,w]
 have h5:g*Vr<=4294967296*Vr:=awI _ x;have y:4294967296*(Vr+1)<=4294967296*p:=axW _ K.hVr;have hV:=K.Di;have hW:=K.hW;have h7:(g-1)*V<=W:=by
  have:g*V=(g-1)*V+V:=by obtain⟨k,rfl⟩:∃k,g=k+1:=⟨g-1,by omega⟩;rw[awO,Nat.one_mul];rfl
  omega
 have:=(Nat.le_div_iff_mul_le hV.1).2 h7;generalize W/V=Q at *
 clear l i u h5 h7;omega
theorem Kn.g3(K:Kn V W top next Vr head u2 Wr p){g r:Nat}(w:g*top+r=head)(x:g<=4294967296)(y:4294967296<=r):g<=W/V+1:=by
 have e:=K.low.1;have hV:=K.Di;have i:g*V=g*top*(4294967296*p)+g*(next*p+Vr):=by rw[K.hV,axL,avQ,awC]
 have l:g*(next*p+Vr)<=4294967296*(4294967296*p):=ayA x Om;have u:g*top*(4294967296*p)+r*(4294967296*p)=head*(4294967296*p):=by rw[<-awO,w]
 have h5:4294967296*(4294967296*p)<=r*(4294967296*p):=awI _ y;have hW:=K.hW;have h7:g*V<=W:=Om;have:=(Nat.le_div_iff_mul_le hV.1).2 h7;generalize W/V=Q at *
 clear i l u h5 h7;omega
theorem Kn.g4(K:Kn V W top next Vr head u2 Wr p):head/top<=4294967296+1:=by
 have e:=K.low.1;have hV:=K.Di;have hW:=K.hW;have hlt:=K.hlt;have x:=K.htop;have u:head<(top+1)*4294967296:=by
  have i:V<(top+1)*(4294967296*p):=by rw[K.hV,awO,Nat.one_mul];omega
  have w:V*4294967296<=(top+1)*(4294967296*p)*4294967296:=awI _ (Nat.le_of_lt i);have l:head*(4294967296*p)<(top+1)*4294967296*(4294967296*p):=by
   have:(top+1)*(4294967296*p)*4294967296=(top+1)*4294967296*(4294967296*p):=by rw[awC,awF (4294967296*p) 4294967296,<-awC]
   omega
  exact Nat.lt_of_mul_lt_mul_right l
 have h5:head/top<4294967296+2:=by rw[ayO Om];omega
 omega
end
theorem CF:∀(k n:Nat),fI (k+1) n=fI k n++[n/4294967296^k%4294967296]
 |0,n=>by simp[fI]
 |k+1,n=>by show(n%4294967296)::fI (k+1) (n/4294967296)=(n%4294967296)::fI k (n/4294967296)++[n/4294967296^(k+1)%4294967296];rw[CF k (n/4294967296),Nat.div_div_eq_div_mul,axE,awF 4294967296];rfl
theorem BB{xs:N_}(h:Lim xs):∀{k:Nat},k<=Z' xs->val (xs.drop k)=val xs/4294967296^k:=by
 intro k i;have e:val xs=val (xs.take k)+4294967296^k*val (xs.drop k):=by
  conv=>lhs;rw[<-ayK k xs,jD,avN,axS i]
 have l:=gV (h.take k);rw[avN,axS i]at l;rw[e,Nat.add_mul_div_left _ _ (ayH aU),azC l,avK]
theorem cv{R s i l u X:Nat}(w:s<32)(h:R/4294967296^i=l+4294967296*(u+4294967296*X)):(R/2^s)/4294967296^i%4294967296=(4294967296*u+l)/2^s%4294967296:=by
 rw[Nat.div_div_eq_div_mul,awF (2^s),<-Nat.div_div_eq_div_mul,h];have hp:4294967296*4294967296=2^s*(2^(32-s)*4294967296):=by rw[<-awC,<-Nat.pow_add,show s+(32-s)=32 by omega]
 have e:l+4294967296*(u+4294967296*X)=(4294967296*u+l)+2^s*(2^(32-s)*X*4294967296):=by
  have:4294967296*(4294967296*X)=2^s*(2^(32-s)*X*4294967296):=by rw[<-awC,hp,awC,awC,awC,awF 4294967296 X]
  rw[avQ,this];omega
 rw[e,Nat.add_mul_div_left _ _ (ayH aU),Nat.add_mul_mod_self_right]
end Go.Na
namespace Go.PM
open Go Go.Na
theorem ahN{A W Z:N_}{i:Nat}(hi:i<Z' W):(aO (A++W++Z))[Z' A+i]?=some [.int .u32 ((W[i]:Nat):Int)]:=by
 have e:Z' A+i<(A++W++Z).length:=by simp;omega
 rw[cG _ e];congr 4;rw[azM (by simp;omega),azK Om];congr 1;omega
def dF(u v:PV)(n:Nat)(q:PV)(top next j s:Nat):PF:=((((((((n_.set 8 (.int .u64 s)).set 9 (u)).set 10 (v)).set 11 (.int .i64 n)).set 12 (q)).set 13 (.int .u64 top)).set 14 (.int .u64 next)).set 15 (.int .i64 j))
def dG(u v:PV)(n:Nat)(q:PV)(top next j s g r:Nat):PF:=((((((((((n_.set 8 (.int .u64 s)).set 9 (u)).set 10 (v)).set 11 (.int .i64 n)).set 12 (q)).set 13 (.int .u64 top)).set 14 (.int .u64 next)).set 15 (.int .i64 j)).set 17 (.int .u64 g)).set 18 (.int .u64 r))
variable{C:Ctx}
theorem A9{V A top next Vr head i Wr p:Nat}(l:Kn V A top next Vr head i Wr p)(htop:top<4294967296)(o u m j s:Nat)(v q:PV)(ζ:j+m+2<u)(η:u<=100000)(U:N_)(hU:(aO U)[j+m]?=some [.int .u32 (i:Nat)])(K:bZ)(F:PF)(H:PH)
  (hF:(dG (.osl o 1 0 u) v (m+2) q top next j s (head/top) (head%top)).le F) (hH:H o=some (.rows 1 (aO U)))
  (Z:∀g r y,A/V<=g->g<=A/V+1->g<=4294967296->(dG (.osl o 1 0 u) v (m+2) q top next j s g r).le y->K .normal y H) :
  aI.wp C (.block 4 (.loop BO)) K F H:=by
 have Y:0<top:=by have:=l.htop;omega
 have hn:=l.auG;have hu2:=l.hu2;simp only[go_sem];refine wp_loop (α:=Nat × Nat) (λt=>dG (.osl o 1 0 u) v (m+2) q top next j s t.1 t.2) (λ_=>H) (λt=>t.1*top+t.2=head/\A/V<=t.1/\t.1<=4294967296+1/\t.2<4294967296) (λt=>t.1) (head/top,head%top)
  ⟨by simp only;rw[awF];exact azF head top,l.g0,l.g4,Nat.lt_trans (awY _ Y) htop⟩ hF b_ ?_
 rintro⟨g,r⟩ ⟨M,hq,X,hr⟩;simp only at M hq X hr;have e1:i_.wrap ((j:Int)+((m+2:Nat):Int))=((j+(m+2):Nat):Int):=jM Om;have e2:i_.wrap (((j+(m+2):Nat):Int)-2)=((j+m:Nat):Int):=wO_
 have hlt:((j+m:Nat):Int)<(u:Nat):=Om;have R:u_.wrap ((i:Nat):Int)=((i:Nat):Int):=bT Om;have E:shift .shl .u64 (r:Int) 32=some (.int .u64 ((2^32*r:Nat):Int)):=RH (s:=32) Om Om;have O:(2:Nat)^32=4294967296:=by decide
 have B:=orI (a:=2^32*r) (b:=i) (n:=2^32*r+i) Om Om (Nat.two_pow_add_eq_or_of_lt Om r).symm Om;rw[O]at E B;have more:(g>=4294967296\/g*next>r*4294967296+i)->∀y:PF,(dG (.osl o 1 0 u) v (m+2) q top next j s g r).le y->aI.wp C (.block 5 (.seq (.region KK) (.seq (.region KL) (.seq (.region KM) (.cond (.tmp 136) (.exit 4) .skip)))))
   (fL (λt:Nat × Nat=>dG (.osl o 1 0 u) v (m+2) q top next j s t.1 t.2) (λ_=>H) (λt=>t.1*top+t.2=head/\A/V<=t.1/\t.1<=4294967296+1/\t.2<4294967296) (λt=>t.1) g (fA 4 K)) y H:=by
  intro hc y e;obtain⟨g1,g2⟩:=l.g1 M hq hc;have f8:=e 8 _ (by unfold dG;simp only[go_sem];rfl);have f9:=e 9 _ (by unfold dG;simp only[go_sem];rfl);have β:=e 10 _ (by unfold dG;simp only[go_sem];rfl);have f11:=e 11 _ (by unfold dG;simp only[go_sem];rfl);have γ:=e 12 _ (by unfold dG;simp only[go_sem];rfl);have f13:=e 13 _ (by unfold dG;simp only[go_sem];rfl);have f14:=e 14 _ (by unfold dG;simp only[go_sem];rfl);have δ:=e 15 _ (by unfold dG;simp only[go_sem];rfl);have S:=e 17 _ (by unfold dG;simp only[go_sem];rfl);have W:=e 18 _ (by unfold dG;simp only[go_sem];rfl);have w1:u_.wrap ((g:Int)-1)=((g-1:Nat):Int):=by rw[wrap_u64 Om Om];omega
  have w2:u_.wrap ((r:Int)+(top:Int))=((r+top:Nat):Int):=gW Om;have J:(g-1)*top+(r+top)=head:=by obtain⟨k,rfl⟩:∃k,g=k+1:=⟨g-1,by omega⟩;rw[awO,Nat.one_mul]at M;simp only[Nat.add_sub_cancel];omega
  simp only[go_sem,KK,KL,KM,S,W,f13,w1,w2];by_cases c:r+top>=4294967296
  ·have N:((r+top:Nat):Int)>=4294967296:=Om;simp only[go_sem,N];refine Z (g-1) (r+top) _ g2 (l.g3 J Om c) Om ?_;unfold dG;exact Lq
  ·have N:¬((r+top:Nat):Int)>=4294967296:=Om;simp only[go_sem,N];refine aE (g-1,r+top) ⟨J,g2,by simp only;omega,by simp only;omega⟩ sO_ ?_ b_;unfold dG;exact Lq
 simp only[go_sem,BO,dG];by_cases c1:g>=4294967296
 ·have w:(g:Int)>=4294967296:=Om;simp only[go_sem,w];have:=more (.inl c1);simp only[go_sem,dG]at this;refine this _ ?_;exact Lq
 ·have w:¬(g:Int)>=4294967296:=Om;have ε:g*next<=4294967295*4294967295:=ayA Om Om
  have em:u_.wrap ((g:Int)*(next:Int))=((g*next:Nat):Int):=by rw[show(g:Int)*(next:Int)=((g*next:Nat):Int) by simp];exact bT Om
  simp only[go_sem,w,em,E,e1,e2,hlt,hH,hU,R,B];by_cases c2:g*next>r*4294967296+i
  ·have x:((g*next:Nat):Int)>((4294967296*r+i:Nat):Int):=Om;simp only[go_sem,x];have:=more (.inr c2);simp only[go_sem,dG]at this;refine this _ ?_;exact Lq
  ·have x:¬((g*next:Nat):Int)>((4294967296*r+i:Nat):Int):=Om;simp only[go_sem,x];refine Z g r _ hq (l.g2 M Om Om) Om ?_;unfold dG;exact Lq
end Go.PM
namespace Go.Na
theorem anZ{W v:N_}{m:Nat}(hW:Lim W)(e:Lim v)(x:Z' v=m+2)(w:Z' W=m+3)(y:2147483648<=v[m+1])(hlt:val W<val v*4294967296) :
  Kn (val v) (val W) (v[m+1]) (v[m]) (val (v.take m)) (W[m+2]*4294967296+W[m+1]) (W[m]) (val (W.take m)) (4294967296^m):=by
 have u:val v=val (v.take m)+4294967296^m*(v[m]+4294967296*v[m+1]):=by
  rw[yL v (Om:m<Z' v)];congr 4;have:v.drop (m+1)=[v[m+1]]:=by rw[axB Om,azH Om]
  rw[this];simp[val]
 have e2:val W=val (W.take m)+4294967296^m*(W[m]+4294967296*(W[m+1]+4294967296*W[m+2])):=by
  rw[yL W (Om:m<Z' W)];congr 4;have:W.drop (m+1)=[W[m+1],W[m+2]]:=by rw[axB Om,axB Om,azH Om]
  rw[this];simp[val]
 have i:=gV (e.take m);have l:=gV (hW.take m);rw[avN,axS Om]at i l;refine⟨?_,?_,i,l,y,e _ (avB _),hW _ (avB _),hlt⟩;rw[u,avQ,awF (4294967296^m) (v[m]),<-awC (4294967296^m),awF (4294967296^m*4294967296),awF (4294967296^m) 4294967296];omega;rw[e2,avQ,awF (4294967296^m) (W[m]),<-awC (4294967296^m),awF (4294967296^m*4294967296),awF (4294967296^m) 4294967296,awF (W[m+2]),Nat.add_comm (4294967296*W[m+2])];omega
end Go.Na
namespace Go.PM
open Go Go.Na
structure Bm(C:Ctx):Prop where
 subtract:∀(A W Z v:N_)(f o:Nat),Lim W->Lim v->Z' W=Z' v+1->Z' A+Z' v<=100000->f<=4294967296->val v*f<=val W+4294967296^(Z' v+1) ->
  aH C 142 [.osl o 1 A.length (Z' v+1),aN v,.int .u64 f] (h_.set o (.rows 1 (aO (A++W++Z)))) (λr H'=>r=.bool (decide (val W<val v*f))/\H'=h_.set o (.rows 1 (aO (A++fI (Z' v+1) (RP (Z' v+1) (val W) (val v*f))++Z))))
 restore:∀(A W Z v:N_)(o:Nat),Lim W->Lim v->Z' W=Z' v+1->Z' A+Z' v<=100000 ->
  aH C 139 [.osl o 1 A.length (Z' v+1),aN v] (h_.set o (.rows 1 (aO (A++W++Z)))) (λr H'=>r=.tup []/\H'=h_.set o (.rows 1 (aO (A++fI (Z' v+1) (val W+val v)++Z))))
theorem D5(k n:Nat):fI k (n%4294967296^k)=fI k n:=
 Ld (qQ _ _) (qQ _ _) (by rw[pA,pA]) (by rw[IA,IA,Nat.mod_mod])
variable{C:Ctx}
theorem A8(D:Bm C)(A W Z v Q:N_)(m o S R s:Nat)(β:S≠o)(hW:Lim W)(hv:Lim v)(ο:Z' v=m+2)(ξ:Z' W=m+3)(ht:2147483648<=v[m+1])(hlt:val W<val v*4294967296)
  (p':R=Z' A+(m+3)+Z' Z) (k':R<=10000) (a':Z' A<Z' Q) (K:bZ) (F:PF) (H:PH) (U:(dF (.osl o 1 0 R) (aN v) (m+2) (.osl S 1 0 Q.length) (v[m+1]) (v[m]) A.length s).le F)
  (hH:H o=some (.rows 1 (aO (A++W++Z)))) (κ:H S=some (.rows 1 (aO Q)))
  (hK:∀F' H',(dF (.osl o 1 0 R) (aN v) (m+2) (.osl S 1 0 Q.length) (v[m+1]) (v[m]) A.length s).le F'->H' o=some (.rows 1 (aO (A++fI (m+3) (val W%val v)++Z)))->H' S=some (.rows 1 (aO (Q.set A.length (val W/val v))))->K .normal F' H') :
  aI.wp C (.block 3 (.seq (.draw KI) (.seq (.draw KJ) (.seq (.block 4 (.loop BO)) (.seq (.seq (.region KN) (.cond (.tmp 146) (.seq (.region KO) (.region KP)) .skip)) (.region BP)))))) K F H:=by
 have Kk:=anZ hW hv ο ξ ht hlt;have w:∀i (h:i<Z' W),(aO (A++W++Z))[Z' A+i]?=some [.int .u32 ((W[i]:Nat):Int)]:=λi h=>ahN h;have g0:=w (m+2) Om;have g1:=w (m+1) Om;have g2:=w m Om;have hq:=Kk.akS;have htop:v[m+1]<4294967296:=hv _ (avB _);have t':=hW _ (avB (Om:m+2<Z' W));have u':=hW _ (avB (Om:m+1<Z' W));have α:=Kk.Di.1;generalize s':v[m+1]=top at *
 generalize q':v[m]=next at *
 generalize v':W[m+2]=E at *
 generalize w':W[m+1]=u1 at *
 generalize x':W[m]=u2 at *
 have f8:=U 8 _ (by unfold dF;simp only[go_sem];rfl);have f9:=U 9 _ (by unfold dF;simp only[go_sem];rfl);have Θ:=U 10 _ (by unfold dF;simp only[go_sem];rfl);have f11:=U 11 _ (by unfold dF;simp only[go_sem];rfl);have Λ:=U 12 _ (by unfold dF;simp only[go_sem];rfl);have f13:=U 13 _ (by unfold dF;simp only[go_sem];rfl);have f14:=U 14 _ (by unfold dF;simp only[go_sem];rfl);have ζ:=U 15 _ (by unfold dF;simp only[go_sem];rfl);have e1:i_.wrap ((Z' A:Int)+((m+2:Nat):Int))=((Z' A+(m+2):Nat):Int):=jM Om;have e2:i_.wrap (((Z' A+(m+2):Nat):Int)-1)=((Z' A+(m+1):Nat):Int):=wO_
 have c0:((Z' A+(m+2):Nat):Int)<(R:Nat):=Om;have c1:((Z' A+(m+1):Nat):Int)<(R:Nat):=Om;have Γ:u_.wrap ((E:Nat):Int)=((E:Nat):Int):=bT Om;have Δ:u_.wrap ((u1:Nat):Int)=((u1:Nat):Int):=bT Om;have ε:shift .shl .u64 (E:Int) 32=some (.int .u64 ((2^32*E:Nat):Int)):=RH (s:=32) Om Om;have ω:(2:Nat)^32=4294967296:=by decide
 have X:=orI (a:=2^32*E) (b:=u1) (n:=2^32*E+u1) Om Om (Nat.two_pow_add_eq_or_of_lt Om E).symm Om;rw[ω]at ε X;have Φ:4294967296*E+u1=E*4294967296+u1:=Om;rw[Φ]at X;simp only[go_sem];refine bK H cS b_ ?_;simp only[go_sem,KI,f9,ζ,f11,e1,e2,c0,c1,hH,g0,g1,Γ,Δ,ε,X];refine bK H cS b_ ?_;have r':0<top:=Om;have e':¬((top:Nat):Int)=0:=Om;generalize o':E*4294967296+u1=head at *
 have γ:u_.wrap (axQ ((head:Nat):Int) ((top:Nat):Int))=((head/top:Nat):Int):=by rw[show axQ ((head:Nat):Int) ((top:Nat):Int)=((head/top:Nat):Int)from rfl];exact bT (by have:=Kk.g4;omega)
 have δ:Int.tmod ((head:Nat):Int) ((top:Nat):Int)=((head%top:Nat):Int):=rfl;simp only[go_sem,KJ,f13,e',γ,δ];have u:=A9 (C:=C) Kk htop o R m A.length s (aN v) (.osl S 1 0 Q.length) Om Om (A++W++Z) g2;simp only[go_sem]at u;refine u _ _ H ?_ hH ?_
 ·unfold dG;refine c_ (c_ (c_ (c_ (c_ (c_ (c_ (c_ (c_ (c_ d_ ?_) ?_) ?_) ?_) ?_) ?_) ?_) ?_) ?_) ?_<;>simp only[go_sem,f8,f9,Θ,f11,Λ,f13,f14,ζ]
 clear u;intro g r F' q1 q2 q3 e;have h8:=e 8 _ (by unfold dG;simp only[go_sem];rfl);have h9:=e 9 _ (by unfold dG;simp only[go_sem];rfl);have J:=e 10 _ (by unfold dG;simp only[go_sem];rfl);have M:=e 11 _ (by unfold dG;simp only[go_sem];rfl);have η:=e 12 _ (by unfold dG;simp only[go_sem];rfl);have θ:=e 13 _ (by unfold dG;simp only[go_sem];rfl);have ι:=e 14 _ (by unfold dG;simp only[go_sem];rfl);have N:=e 15 _ (by unfold dG;simp only[go_sem];rfl);have Y:=e 17 _ (by unfold dG;simp only[go_sem];rfl);have e3:i_.wrap (((Z' A+(m+2):Nat):Int)+1)=((Z' A+(m+3):Nat):Int):=wO_
 have c3:(Z' A:Int)<=((Z' A+(m+3):Nat):Int):=Om;have c4:((Z' A+(m+3):Nat):Int)<=(R:Nat):=Om;have e4:Z' A+(m+3)-Z' A=Z' v+1:=Om;have y:Z' v+1=m+3:=Om;have n':val v*(val W/val v)+val W%val v=val W:=azF _ _;have μ:=gV hW;rw[ξ]at μ;have ψ:val W%val v<val v:=awY _ α;have υ:=gV hv;rw[ο]at υ;have σ:4294967296^(m+3)=4294967296^(m+2)*4294967296:=axE _ _;generalize l':val W/val v=B at *
 generalize m':val W%val v=rd at *
 have V:∀(x:PF)(H2:PH),x 8=some (.int .u64 s)->x 9=some (.osl o 1 0 R)->x 10=some (aN v)->x 11=some (.j ((m+2:Nat):Int))->x 12=some (.osl S 1 0 Q.length)->x 13=some (.int .u64 top)->x 14=some (.int .u64 next)->x 15=some (.j A.length)->x 17=some (.int .u64 B) ->
   H2 o=some (.rows 1 (aO (A++fI (m+3) rd++Z)))->H2 S=some (.rows 1 (aO Q))->aI.wp C (.region BP) (fA 3 K) x H2:=by
  intro x H2 k8 k9 f' g' φ h' i' χ j' kH kQ;have d':(aO Q)[Z' A]?=some [.int .u32 ((Q[Z' A]:Nat):Int)]:=cG Q a';have c':(Z' A:Int)<(Z' Q:Nat):=Om;have eq:IntKind.u32.wrap ((B:Nat):Int)=((B:Nat):Int):=by rw[dB,awT hq]
  have τ:=iL Q A.length B;have ρ:¬o=S:=λh=>β h.symm;simp only[go_sem,BP,φ,χ,j',eq,c',kQ,d',τ];refine hK _ _ ?_ (by simp only[go_sem,ρ,kH]) Sq;unfold dF;refine c_ (c_ (c_ (c_ (c_ (c_ (c_ (c_ d_ ?_) ?_) ?_) ?_) ?_) ?_) ?_) ?_<;>simp only[go_sem,k8,k9,f',g',φ,h',i',χ]
 have b':(h_.set o (.rows 1 (aO (A++W++Z)))).le H:=e_ a_ hH;have ν:val v*g<=val W+4294967296^(Z' v+1):=by have:val v*g<=val v*(B+1):=axW _ q2;rw[avQ,ayG]at this;rw[y,σ];omega
 simp only[go_sem,KN,h9,N,M,e1,e3,c3,c4,e4,J,Y];refine iS (D.subtract A W Z v g o hW hv Om Om q3 ν) rfl b' ?_;rintro rr H' ⟨rfl,rfl⟩ -;rw[PH.uS];by_cases Ω:g=B
 ·subst Ω;have l:¬val W<val v*g:=Om;have hN:RP (Z' v+1) (val W) (val v*g)=rd:=by unfold RP;rw[aC l];omega
  rw[hN,y];simp only[go_sem,l];have:=V;simp only[go_sem]at this;refine this _ _ ?_ ?_ ?_ ?_ ?_ ?_ ?_ ?_ ?_ ?_ ?_<;>simp only[go_sem,h8,h9,J,M,η,θ,ι,N,Y,β,κ]
 ·have Ψ:g=B+1:=Om;subst Ψ;rw[avQ,ayG];have l:val W<val v*B+val v:=Om;have hN:RP (Z' v+1) (val W) (val v*B+val v)=rd+4294967296^(m+3)-val v:=by unfold RP;rw[aF l,y];omega
  rw[hN];have w1:u_.wrap (((B+1:Nat):Int)-1)=((B:Nat):Int):=by rw[wrap_u64 Om Om];omega
  simp only[go_sem,l,KO,Y,w1,KP,h9,N,M,e1,e3,c3,c4,e4,J];have Ξ:val (fI (Z' v+1) (rd+4294967296^(m+3)-val v))=rd+4294967296^(m+3)-val v:=tM (by rw[y];omega);refine iS (D.restore A (fI (Z' v+1) (rd+4294967296^(m+3)-val v)) Z v o (qQ _ _) hv (pA _ _) Om) rfl (e_ a_ Sq) ?_;rintro rr H' ⟨rfl,rfl⟩ -;rw[PH.uS,PH.set_set,Ξ];have O:fI (Z' v+1) (rd+4294967296^(m+3)-val v+val v)=fI (m+3) rd:=by rw[y,<-D5 (m+3) (rd+4294967296^(m+3)-val v+val v)];rw[show rd+4294967296^(m+3)-val v+val v=rd+4294967296^(m+3) by omega,Nat.add_mod_right,D5]
  rw[O];simp only[go_sem];have:=V;simp only[go_sem]at this;refine this _ _ ?_ ?_ ?_ ?_ ?_ ?_ ?_ ?_ ?_ ?_ ?_<;>simp only[go_sem,h8,h9,J,M,η,θ,ι,N,β,κ]
open Go
section
variable {C:Ctx} {K:bZ} {F:PF} {H Hs:PH} {S:Spec}
theorem Kw{name:Nat}{vs:V_}{R:R_}{args:List aR}{st:Bool}{d:O_}{K:K_}(w:S name vs=some ([],λ_=>R))(h:aH C name vs .nil R)(e:aR.evs F args=some vs)
  (i:∀G:PH,∃r H',R r H'/\pI G .nil H') (y:∀r H',R r H'->pI H .nil H'->Hs.le (H.over .nil H')/\K (F.put d r) (H.over .nil H')):dOp C Hs S st (.call name args) d K F H:=by
 refine⟨vs,[],λ_=>R,e,w,λo A=>by simp at A,by rw[QJ];exact h,λG=>?_,λr H' B e=>?_⟩;obtain⟨r,H',l,u⟩:=i G;exact⟨r,H',l,λo x E J=>u o x E (by simp[h_])⟩;rw[QJ]at e ⊢;exact y r H' B e
theorem PH.over_self(i:PH)(h:i.le H):H.over i i=H:=PH.ext λq=>by
 rw[jV];cases e:i q with
 |none=>rfl
 |some x=>exact(h q x e).symm
theorem i8{o:Nat}{x:aV}(h:H o=some x):H.only [o]=h_.set o x:=PH.ext λq=>by
 rw[yH,aP];by_cases e:q=o;subst e;simp[h];simp[e,YP]
theorem ep{name o:Nat}{x:aV}{vs:V_}{v:PV}{R:PH->R_}{args:List aR}{st:Bool}{d:O_}{K:K_}(E:S name vs=some ([o],R))(B:H o=some x)
  (h:aH C name vs (h_.set o x) (λr H'=>r=v/\H'=h_.set o x)) (i:R (h_.set o x) v (h_.set o x)) (u:∀r H',R (h_.set o x) r H'->r=v/\H'=h_.set o x) (J:aR.evs F args=some vs) (w:Hs.le H) (M:K (F.put d v) H) :
  dOp C Hs S st (.call name args) d K F H:=by
 have e:=i8 B;refine⟨vs,[o],_,J,E,λq hq=>?_,?_,λG=>⟨v,_,by rw[e];exact i,λq y N A=>?_⟩,λr H' l _=>?_⟩;simp at hq;subst hq;exact⟨x,B⟩;rw[e];exact h.post λr H' l=>⟨r,.refl _,by rw[l.1,l.2];exact i⟩;rw[e]at A;rw[N]at A;cases A;rw[e]at l;obtain⟨rfl,rfl⟩:=u r H' l;rw[e,PH.over_self _ (by rw[<-e];exact ZC H [o])];exact⟨w,M⟩
theorem Ke{c:aI}{α:Type}(e:α->PF)(Hs:α->PH)(i:α->Prop)(m:α->Nat)(l:α)(o:Nat){s:Nat}{rs:P2_}(y:H o=some (.rows s rs))(u:i l)(w:(e l).le (F.frz o s rs))(x:(Hs l).le (H.frz o s rs))
  (hb:∀a,i a->c.wp C (fL e Hs i m (m a) K) (e a) (Hs a)):aI.wp C (.loop c) K F H:=
 ⟨α,e,Hs,i,m,l,_,_,.step o y (.refl _ _),u,w,x,hb⟩
@[go_sem] theorem FS(o s:Nat)(rs:P2_)(q:Nat):(H.frz o s rs) q=if q=o then none else(H q).map (aV.frz o s rs):=(rfl)
theorem U7{t u o1 o2 s1 s2 k1 k2:Nat}{rs1 rs2:P2_}{R:R_}{e:lG}(he:e=.normal\/e=.ret)(l:o1≠o2)(M:F t=some (.osl o1 s1 0 k1))(N:F u=some (.osl o2 s2 0 k2))(x:H o1=some (.rows s1 rs1))(y:H o2=some (.rows s2 rs2))
  (U:k1<=Z' rs1) (V:k2<=Z' rs2) (A:rs2.map (λr=>r.map (PV.dL o1 s1 rs1))=rs2) (W:(rs1.take k1)=rs1.take k1) (O:R (.tup [.sl s1 (rs1.take k1),.sl s2 (rs2.take k2)]) .nil):aW [.tmp t,.tmp u] R e F H:=by
 have B:∃vs,eE.evs F H [.tmp t,.tmp u]=some vs/\∃E J H2,jH (n_.set 0 (bL vs)) H E J/\H2.le J/\∃w,E 0=some w/\R w H2:=by
  have i:o2≠o1:=λh=>l h.symm;have e2:(H.frz o1 s1 rs1) o2=some (.rows s2 rs2):=by rw[FS,aC i,y];simp only[avS,aV.frz,A]
  refine⟨[.osl o1 s1 0 k1,.osl o2 s2 0 k2],by rw[nZ,rP,M,nZ,rP,N,tK],_,_,.nil,.step o1 x (.step o2 e2 (.refl _ _)),a_,_,?_,O⟩;have a1:0+k1<=Z' rs1:=Om;have a2:0+k2<=Z' rs2:=Om;simp only[PF.frz,mO,if_true,bL,avS,PV.frz,PV.qR,PV.dL,awE,axD,true_and,aF a1,aF a2,awM,aC i]
 rcases he with rfl|rfl<;>exact B
end
end Go.PM
namespace Go.Na
structure uB(U0 V n lu lq:Nat)(k:Nat)(U Q:N_):Prop where
 lu':Z' U=lu
 lq':Z' Q=lq
 limU:Lim U
 limQ:Lim Q
 v:val U+val Q*V=U0
 r:val (U.drop k)<V
 z:∀i x,i<k->Q[i]?=some x->x=0
theorem D6{O V n N A j:Nat}{U Q:N_}(h:uB O V n N A (j+1) U Q)(hV:V<4294967296^n)(hj:j<A)(hl:N=A+n) :
  val ((U.drop j).take (n+1))<V*4294967296/\uB O V n N A j (U.take j++fI (n+1) (val ((U.drop j).take (n+1))%V)++U.drop (j+(n+1))) (Q.set j (val ((U.drop j).take (n+1))/V)):=by
 have Z:=h.lu';have K:=h.lq';have e:0<V:=by have:=h.r;omega
 have u:j<Z' U:=Om;have e1:val (U.drop j)=U[j]+4294967296*val (U.drop (j+1)):=by rw[axB u];rfl
 have X:=h.limU _ (avB u);have hlt:val (U.drop j)<V*4294967296:=by have:=h.r;omega
 have J:((U.drop j).take (n+1)).length=n+1:=by rw[avN,awZ];omega
 have e2:val (U.drop j)=val ((U.drop j).take (n+1))+4294967296^(n+1)*val (U.drop (j+(n+1))):=by
  conv=>lhs;rw[<-ayK (n+1) (U.drop j),jD,J,List.drop_drop]
 have R:4294967296^(n+1)=4294967296^n*4294967296:=axE _ _;have Y:V*4294967296<=4294967296^n*4294967296:=awI _ (Nat.le_of_lt hV);have E:val (U.drop (j+(n+1)))=0:=by
  rcases axJ (val (U.drop (j+(n+1))))with h0|h0
  ·exact h0
  ·have:=axW (4294967296^(n+1)) h0;omega
 rw[E,Nat.mul_zero,awQ]at e2;generalize hW:val ((U.drop j).take (n+1))=W at *
 have e3:val U=val (U.take j)+4294967296^j*W:=by
  conv=>lhs;rw[<-ayK j U,jD,avN,axS Om,e2]
 have y:W%V<V:=awY _ e;have F:V*(W/V)+W%V=W:=azF _ _;have M:W/V<4294967296:=by rw[ayO e,awF];omega
 have hD:val (fI (n+1) (W%V))=W%V:=tM Om;have B:Q[j]=0:=h.z j _ Om (avF Om);have l:=NB (Om:j<Z' Q) (W/V);rw[B,Nat.mul_zero,awQ]at l;have w:(U.take j).length=j:=by rw[avN];omega
 refine⟨by omega,?_,?_,?_,?_,?_,?_,?_⟩
 ·simp only[auZ,pA,awZ,avN];omega
 ·rw[awS];exact K
 ·exact((h.limU.take j).app (qQ _ _)).app (h.limU.drop _)
 ·exact h.limQ.set _ M
 ·rw[awB,jD,jD,w,hD,pA,E,Nat.mul_zero,awQ,l];have:=h.v;have h5:(val Q+4294967296^j*(W/V))*V=val Q*V+4294967296^j*(V*(W/V)):=by rw[awO,awC,awF (W/V) V]
  have h6:4294967296^j*W=4294967296^j*(V*(W/V))+4294967296^j*(W%V):=by rw[<-avQ,F]
  omega
 ·rw[awB,List.drop_append_of_le_length Om,azH Om,azA,jD,hD,E,Nat.mul_zero,awQ];exact y
 ·intro i x hi S;rw[List.getElem?_set_ne Om]at S;exact h.z i x Om S
end Go.Na
namespace Go.PM
open Go Go.Na
def dI(u v:PV)(n:Nat)(q:PV)(top next s:Nat)(j:Int):PF:=((((((((n_.set 8 (.int .u64 s)).set 9 (u)).set 10 (v)).set 11 (.int .i64 n)).set 12 (q)).set 13 (.int .u64 top)).set 14 (.int .u64 next)).set 15 (.int .i64 j))
theorem yE(o s:Nat)(rs:P2_)(L:N_):(aO L).map (λr=>r.map (PV.dL o s rs))=aO L:=by
 unfold aO;rw[ayD];rfl
variable{C:Ctx}
theorem Gj(D:Bm C)(X m x u o o2 w s:Nat)(v e:N_)(h2:o2≠o)(h3:w≠o)(h4:w≠o2)(hv:Lim v)(R:Z' v=m+2)(Δ:(aO e).take (m+2)=aO v)(Θ:m+2<=Z' e)(ht:2147483648<=v[m+1])
  (Γ:x=u+(m+2)) (S:x<=10000) (U:N_) (B:uB X (val v) (m+2) x u u U (avA u 0)) (K:bZ) (F:PF) (H:PH)
  (A:(dI (.osl o 1 0 x) (.osl o2 1 0 (m+2)) (m+2) (.osl w 1 0 u) (v[m+1]) (v[m]) s ((u:Int)-1)).le F) (hH:H o=some (.rows 1 (aO U))) (ν:H o2=some (.rows 1 (aO e))) (μ:H w=some (.rows 1 (aO (avA u 0))))
  (hK:∀U' Q' W,uB X (val v) (m+2) x u 0 U' Q'->(dI (.osl o 1 0 x) (aN v) (m+2) (.osl w 1 0 u) (v[m+1]) (v[m]) s (-1)).le W->K .normal W ((h_.set o (.rows 1 (aO U'))).set w (.rows 1 (aO Q')))) :
  aI.wp C (.block 2 (.loop KF)) K F H:=by
 have f8:=A 8 _ (by unfold dI;simp only[go_sem];rfl);have f9:=A 9 _ (by unfold dI;simp only[go_sem];rfl);have Z:=A 10 _ (by unfold dI;simp only[go_sem];rfl);have f11:=A 11 _ (by unfold dI;simp only[go_sem];rfl);have β:=A 12 _ (by unfold dI;simp only[go_sem];rfl);have f13:=A 13 _ (by unfold dI;simp only[go_sem];rfl);have f14:=A 14 _ (by unfold dI;simp only[go_sem];rfl);have γ:=A 15 _ (by unfold dI;simp only[go_sem];rfl);have E:¬o=o2:=λh=>h2 h.symm;have J:¬w=o2:=h4;have V:¬o=w:=λh=>h3 h.symm;have υ:∀(k:IntKind)(n:Int),PV.frz o2 1 (aO e) (.int k n)=.int k n:=λ_ _=>rfl;have χ:∀l,PV.frz o2 1 (aO e) (.osl o 1 0 l)=.osl o 1 0 l:=λl=>by simp only[PV.frz,PV.qR,PV.dL,aC E]
 have φ:∀l,PV.frz o2 1 (aO e) (.osl w 1 0 l)=.osl w 1 0 l:=λl=>by simp only[PV.frz,PV.qR,PV.dL,aC J]
 have ψ:PV.frz o2 1 (aO e) (.osl o2 1 0 (m+2))=aN v:=by
  have:0+(m+2)<=(aO e).length:=by rw[cQ];omega
  simp only[PV.frz,PV.qR,PV.dL,if_true,true_and,aF this,awM,Δ]
 simp only[go_sem];refine Ke (α:=Nat × N_ × N_) (λt=>dI (.osl o 1 0 x) (aN v) (m+2) (.osl w 1 0 u) (v[m+1]) (v[m]) s ((t.1:Int)-1)) (λt=>(h_.set o (.rows 1 (aO t.2.1))).set w (.rows 1 (aO t.2.2)))
  (λt=>t.1<=u/\uB X (val v) (m+2) x u t.1 t.2.1 t.2.2) (λt=>t.1) (u,U,avA u 0) o2 ν ⟨avD _,B⟩ ?_ ?_ ?_
 unfold dI;refine c_ (c_ (c_ (c_ (c_ (c_ (c_ (c_ d_ ?_) ?_) ?_) ?_) ?_) ?_) ?_) ?_<;>simp only[go_sem,f8,f9,Z,f11,β,f13,f14,γ,υ,χ,φ,ψ];refine e_ (e_ a_ ?_) ?_;simp only[go_sem,E,hH,aV.frz,yE];simp only[go_sem,J,μ,aV.frz,yE];rintro⟨k,U,Q⟩ ⟨hk,B⟩;simp only at hk B;simp only[go_sem,KF,dI];by_cases h0:0<k;obtain⟨j,rfl⟩:∃j,k=j+1:=⟨k-1,by omega⟩;have hz:((j+1:Nat):Int)-1=(j:Int):=Om;have ω:(j:Int)>=0:=Om;have O:val v<4294967296^(m+2):=by have:=gV hv;rw[R]at this;exact this
 obtain⟨hlt,ξ⟩:=D6 B O Om Γ;have ρ:=B.lu';have ο:=B.lq';have hA:(U.take j).length=j:=by rw[avN];omega
 have σ:((U.drop j).take (m+3)).length=m+3:=by rw[avN,awZ];omega
 have y:U.take j++(U.drop j).take (m+3)++U.drop (j+(m+3))=U:=by rw[awB,<-List.drop_drop,ayK,ayK]
 have τ:(U.drop (j+(m+3))).length=x-(j+(m+3)):=by rw[awZ,ρ]
 have M:=A8 (C:=C) D (U.take j) ((U.drop j).take (m+3)) (U.drop (j+(m+3))) v Q m o w x s h3 ((B.limU.drop _).take _) hv R σ ht hlt (by rw[hA,τ];omega) S (by rw[hA];omega);rw[hA,y,ο]at M;have Y:i_.wrap ((j:Int)-1)=(j:Int)-1:=wrap_i64 Om Om;simp only[go_sem,hz,ω];simp only[go_sem]at M;refine M _ _ _ ?_ (by simp only[go_sem,V]) Sq ?_;unfold dF;exact Lq;intro W H' i κ N;have g8:=i 8 _ (by unfold dF;simp only[go_sem];rfl);have g9:=i 9 _ (by unfold dF;simp only[go_sem];rfl);have δ:=i 10 _ (by unfold dF;simp only[go_sem];rfl);have ε:=i 11 _ (by unfold dF;simp only[go_sem];rfl);have ζ:=i 12 _ (by unfold dF;simp only[go_sem];rfl);have η:=i 13 _ (by unfold dF;simp only[go_sem];rfl);have θ:=i 14 _ (by unfold dF;simp only[go_sem];rfl);have ι:=i 15 _ (by unfold dF;simp only[go_sem];rfl);simp only[go_sem,ι,Y];refine aE (j,_,_) ⟨by simp only;omega,ξ⟩ sO_ ?_ (e_ (e_ a_ κ) N);refine c_ (c_ (c_ (c_ (c_ (c_ (c_ (c_ d_ ?_) ?_) ?_) ?_) ?_) ?_) ?_) ?_<;>simp only[go_sem,g8,g9,δ,ε,ζ,η,θ];have:k=0:=Om;subst this;have hz:¬((0:Nat):Int)-1>=0:=by decide
 simp only[go_sem,hz];refine hK U Q _ B ?_;unfold dI;exact lE1 (show((0:Nat):Int)-1=-1 from rfl)
open Go Go.Na
def rFr(o l u e or n s i:Nat):PF:=((((((n_.set 8 (.int .u64 s)).set 9 (.osl o 1 0 l)).set 12 (.osl u 1 0 e)).set 19 (.osl or 1 0 n)).set 166 (.int .i64 n)).set 167 (.int .i64 i))
theorem alH{x s:Nat}(e:s<=64):shift .shr .u64 (x:Int) (s:Int)=some (.int .u64 ((x/2^s:Nat):Int)):=by
 unfold shift;rw[aC Om];simp only;have:min (Int.toNat (s:Int)) IntKind.u64.bits=s:=by rw[show IntKind.u64.bits=64 from rfl];omega
 rw[this,Int.fdiv_eq_ediv_of_nonneg _ (by exact_mod_cast auY _)]
 norm_cast
theorem Gk(o w i lq n s:Nat)(U Q:N_)(hs:s<32)(h3:i≠o)(hU:Lim U)(hl:Z' U=w)(hn:n<w)(ε:w<=10000)(K:bZ)(F:PF)
  (f8:F 8=some (.int .u64 s)) (f9:F 9=some (.osl o 1 0 w)) (f11:F 11=some (.j n)) (ζ:F 12=some (.osl i 1 0 lq))
  (hK:∀or F' H',or≠o->or≠i->(rFr o w i lq or n s n).le F'->H' i=some (.rows 1 (aO Q))->H' or=some (.rows 1 (aO (fI n (val U/2^s))))->K .normal F' H') :
  aI.wp C (.seq (.region KQ) (.seq (.region KR) (.block 6 (.loop KG)))) K F ((h_.set o (.rows 1 (aO U))).set i (.rows 1 (aO Q))):=by
 have γ:((n:Nat):Int)*((4:Nat):Int)<=140737488355328:=Om;have δ:((n:Nat):Int)<=9223372036854775807:=Om;have hz:avA n [PV.int .u32 0]=aO ([]++avA n 0):=by simp[aO]
 simp only[go_sem,KQ,f11,γ,δ,hz];refine aS λor R=>?_;have n1:¬or=i:=(kO.1 R).1;have n2:¬or=o:=(kO.1 (kO.1 R).2).1;have A:¬i=or:=λh=>n1 h.symm;have B:¬o=or:=λh=>n2 h.symm;have n3:¬i=o:=h3;have E:¬o=i:=λh=>n3 h.symm;simp only[go_sem,KR];refine wp_loop (α:=N_) (λP=>rFr o w i lq or n s P.length) (λP=>((h_.set o (.rows 1 (aO U))).set i (.rows 1 (aO Q))).set or (.rows 1 (aO (P++avA (n-Z' P) 0)))) (λP=>Z' P<=n/\P=fI P.length (val U/2^s)) (λP=>n-Z' P) []
  ⟨by simp,rfl⟩ ?_ ?_ ?_
 unfold rFr;exact Lq;refine e_ (e_ (e_ a_ ?_) ?_) ?_<;>simp only[go_sem,n1,A,n2,B,n3,E,axC];rintro P ⟨hP,hD⟩;simp only[go_sem,KG,rFr];by_cases c1:Z' P<n;have u:(Z' P:Int)<(n:Nat):=Om;obtain⟨k,hk⟩:∃k,n-Z' P=k+1:=⟨n-Z' P-1,by omega⟩;have β:(aO (P++avA (k+1) 0))[Z' P]?=some [.int .u32 ((0:Nat):Int)]:=by rw[cG _ aZ];simp
 have W:Z' P<Z' U:=Om;have a1:Z' P+1<Z' U:=Om;have b0:(Z' P:Int)<(w:Nat):=Om;have b1:((Z' P+1:Nat):Int)<(w:Nat):=Om;have η:=hU _ (avB W);have θ:=hU _ (avB a1);have e:val U/4294967296^P.length=U[Z' P]+4294967296*(U[Z' P+1]+4294967296*val (U.drop (Z' P+2))):=by rw[<-BB hU Om,axB W,axB a1];rfl
 have O:=cv hs e;have g0:=cG U W;have g1:=cG U a1;generalize ι:U[Z' P]=y at *
 generalize κ:U[Z' P+1]=l at *
 have e1:i_.wrap ((Z' P:Int)+1)=((Z' P+1:Nat):Int):=eC Om;have Y:u_.wrap ((y:Nat):Int)=((y:Nat):Int):=bT Om;have Z:u_.wrap ((l:Nat):Int)=((l:Nat):Int):=bT Om;have M:shift .shl .u64 (l:Int) 32=some (.int .u64 ((2^32*l:Nat):Int)):=RH (s:=32) Om Om;have X:(2:Nat)^32=4294967296:=by decide
 have J:=orI (a:=2^32*l) (b:=y) (n:=2^32*l+y) Om Om (Nat.two_pow_add_eq_or_of_lt Om l).symm Om;rw[X]at M J;have N:=alH (x:=4294967296*l+y) (s:=s) Om;have V:(aO (P++avA (k+1) 0)).set P.length [.int .u32 (((4294967296*l+y)/2^s%4294967296:Nat):Int)]=aO ((P++[(4294967296*l+y)/2^s%4294967296])++avA k 0):=by rw[iL,GC]
 simp only[go_sem,u];refine bK .nil cS a_ ?_;simp only[go_sem,u,e1,b0,b1,B,E,g0,g1,Y,Z,M,J,N,dB,hk,β,V];refine⟨a_,?_⟩
 try simp only[go_sem,e1]
 refine aE (P++[(4294967296*l+y)/2^s%4294967296]) ⟨by simp;omega,?_⟩ (by simp;omega) ?_ (e_ (e_ (e_ a_ ?_) ?_) ?_);rw[auZ,avG,CF,<-hD,O];rw[auZ,avG];exact Lq;simp only[go_sem,B,E];simp only[go_sem,A];rw[auZ,avG,show n-(Z' P+1)=k by omega];simp only[go_sem];have e:Z' P=n:=Om;have u:¬(Z' P:Int)<(n:Nat):=Om;have S:avA (n-Z' P) 0=[]:=by rw[show n-Z' P=0 by omega];rfl
 rw[e]at hD;simp only[go_sem,u,S,awJ];refine hK or _ _ n2 n1 ?_ (by simp only[go_sem,A]) (by simp only[go_sem];rw[<-hD]);unfold rFr;rw[e];exact Lq
structure Da(C:Ctx):Prop where
 L:wZ C
 D:Bm C
 up:∀(a:N_)(s:Nat),Lim a->s<32->Z' a<=1000->aH C 143 [aN a,.int .u64 s] .nil (upR a s)
 short:∀(a:N_)(d:Nat),Lim a->0<d->d<4294967296->Z' a<=1000->aH C 140 [aN a,.int .u32 d] .nil (aL (.tup [aN (aM (val a/d)),.int .u32 ((val a%d:Nat):Int)]))
 lengthO:∀(xs:N_)(o:Nat),Lim xs->Z' xs<=35184372087808->aH C 138 [.osl o 1 0 xs.length] (h_.set o (.rows 1 (aO xs))) (λr H'=>r=.int .i64 (nl (val xs):Nat)/\H'=h_.set o (.rows 1 (aO xs)))
def Xx:Spec:=λname vs=>match name,vs with
 |143,[x,.int _ s]=>some ([],λ_=>upR (lJ x) s.toNat)
 |138,[.osl q _ _ _]=>some ([q],λe r H'=>H'=e/\∀xs,Lim xs->e q=some (.rows 1 (aO xs))->r=.int .i64 (nl (val xs):Nat))
 |_,_=>none
theorem Kx(a:N_)(s:Nat):Xx 143 [aN a,.int .u64 s]=some ([],λ_=>upR a s):=by
 show some _=_;rw[fS,axA]
theorem Is(a:N_)(s:Nat):∀G:PH,∃r H',upR a s r H'/\pI G .nil H':=λG=>by
 obtain⟨o,l⟩:=G.fresh;refine⟨_,_,⟨o,rfl,rfl⟩,λq x i _=>?_⟩;rw[aP]at i;split at i;rename_i e;subst e;exact l;cases i
theorem VQ{xs ys:N_}(h:aO xs=aO ys):xs=ys:=by
 have:=congrArg lJ (show aN xs=aN ys by show PV.sl 1 (aO xs)=PV.sl 1 (aO ys);rw[h])
 rwa[fS,fS]at this
theorem zw(q:Nat)(L:N_):(h_.set q (.rows 1 (aO L)))=(h_.set q (.rows 1 (aO L)))/\∀xs,Lim xs->(h_.set q (.rows 1 (aO L))) q=some (.rows 1 (aO xs))->(PV.int .i64 (nl (val L):Nat))=.j (nl (val xs):Nat):=by
 refine⟨rfl,λxs i e=>?_⟩;rw[cE]at e;have:aO L=aO xs:=(aV.rows.inj (awV.inj e)).2;rw[VQ this]
def wG(A B:Nat):PV:=.tup [aN (aM (A/B)),aN (aM (A%B))]
def Pe(a b:N_)(s:Nat):PF:=(((n_.set 0 (aN a)).set 1 (aN b)).set 8 (.int .u64 s))
theorem ahQ{x s:Nat}(e:s<=31)(h:x*2^s<4294967296):shift .shl .u32 (x:Int) (s:Int)=some (.int .u32 ((x*2^s:Nat):Int)):=by
 unfold shift;rw[aC Om];simp only;have:min (Int.toNat (s:Int)) IntKind.u32.bits=s:=by rw[show IntKind.u32.bits=32 from rfl];omega
 rw[this,show(x:Int)*2^s=((x*2^s:Nat):Int) by simp,dB,awT h]
theorem I7{n i x:Nat}(e:(avA n 0)[i]?=some x):x=0:=by
 have:=axF e;rw[List.mem_replicate]at this;exact this.2
theorem Pg(K:Da C)(A B:Nat)(hB:B≠0)(hA:nl A<=900)(k':nl B<=900) :
  VM.wp C (aW eU.res (cC (wG A B))) (g_ [aN (aM A),aN (aM B)]) .nil:=by
 have LA:=bE A;have LB:=bE B;have vA:=aY A;have vB:=aY B;have lA:(aM A).length=nl A:=rfl;have lB:(aM B).length=nl B:=rfl;simp only[go_sem,VM,eU];refine aB (K.L.cmp _ _ LA LB Om Om) rfl ?_;rw[vA,vB];by_cases c1:A<B
 ·have hc:eZ A B<0:=by simp[eZ,c1]
  simp only[go_sem,hc];refine aB (K.L.trim _ LA Om) rfl ?_;rw[vA];simp only[go_sem];refine bC (vs:=[.aJ,aN (aM A)]) (.inr rfl) .nil rfl a_ ⟨?_,rfl⟩;rw[wG,azC c1,awT c1,iO];refine .tup rfl λj p q hp hq=>?_
  match j with
  |0=>simp at hp hq;subst hp;subst hq;exact .nil 1
  |1=>simp at hp hq;subst hp;subst hq;exact .refl _
  |j+2=>simp at hp
 have hc:¬eZ A B<0:=by unfold eZ;rw[aC c1];split<;>decide
 have W:0<B:=axX hB;have n':nl B≠0:=λh=>hB (kD.1 h);simp only[go_sem,hc];by_cases c2:nl B=1;have ε:B<4294967296:=by have:=(kU B 1).1 Om;simpa using this
 have Ψ:aM B=[B]:=tH hB ε;have hr:A%B<B:=awY _ W;have ew:u_.wrap ((A%B:Nat):Int)=((A%B:Nat):Int):=bT Om;rw[Ψ];have ρ:=K.short (aM A) B LA W ε Om;rw[vA]at ρ;simp only[go_sem,show(((1:Nat):Int)==1)=true from rfl];refine aB ρ rfl ?_;simp only[go_sem,ew];refine aB (K.L.make (A%B) Om) rfl ?_;simp only[go_sem];exact bC (vs:=[aN (aM (A/B)),aN (aM (A%B))]) (.inr rfl) .nil rfl a_ ⟨.refl _,rfl⟩;obtain⟨m,hm⟩:∃m,nl B=m+2:=⟨nl B-2,by omega⟩;have j':nl B<=nl A:=iW Om;obtain⟨bt,y,g'⟩:=Ip LB (n:=m+1) (by rw[vB];exact hm);have O:m+1<(aM B).length:=Om;have μ:bt<4294967296:=LB bt (axF y);have l':B=val ((aM B).take (m+1))+4294967296^(m+1)*bt:=by have u:=cW (aM B) O;rw[avT Om,vB]at u;rw[avF O]at y;rw[awV.inj y]at u;exact u
 have X:=gV (LB.take (m+1));rw[avN,axS Om]at X;have ο:(aO (aM B))[m+1]?=some [.int .u32 ((bt:Nat):Int)]:=by rw[cG _ O];rw[avF O]at y;rw[awV.inj y]
 have i1:i_.wrap ((((aM B).length:Nat):Int)-1)=((m+1:Nat):Int):=wO_
 have ν:¬(((aM B).length:Nat):Int)=1:=Om;simp only[go_sem,bA ν];refine wp_loop (α:=Nat) (λs=>Pe (aM A) (aM B) s) (λ_=>.nil) (λs=>s<=31/\bt*2^s<4294967296) (λs=>32-s) 0 ⟨by omega,by simpa using μ⟩ ?_ a_ ?_;unfold Pe;exact Lq;rintro s ⟨hs,Ξ⟩;have χ:=ahQ hs Ξ;simp only[go_sem,Pe,i1,ο,χ];refine Xn ?_ ?_;intro c3;have φ:=of_decide_eq_true c3;have h':s<31:=by
  rcases avX s 31 with h|h
  exact h;exfalso;have u:2147483648<=2^s:=ayU (show 0<2 by decide) h;have M:1*2^s<=bt*2^s:=awI _ Om;omega
 have es:u_.wrap ((s:Int)+1)=((s+1:Nat):Int):=by rw[wrap_u64 Om Om];omega
 simp only[go_sem,es];refine aE (s+1) ⟨by omega,by rw[axE,<-awC];omega⟩ Om ?_ a_;exact Lq;intro c3;have φ:=of_decide_eq_false c3;have F:s<32:=Om;have E:0<2^s:=ayH aU;have V:2147483648*4294967296^(m+1)<=B*2^s:=by
  have u:2147483648*4294967296^(m+1)<=(bt*2^s)*4294967296^(m+1):=awI _ Om;have M:(4294967296^(m+1)*bt)*2^s<=B*2^s:=awI _ Om;have h3:(4294967296^(m+1)*bt)*2^s=(bt*2^s)*4294967296^(m+1):=by rw[awC,awF]
  omega
 have κ:B*2^s<4294967296^(m+2):=by
  have h0:(bt+1)*2^s<=4294967296:=by
   have i':(4294967296:Nat)=2^(32-s)*2^s:=by rw[<-Nat.pow_add,show 32-s+s=32 by omega]
   have:bt<2^(32-s):=by
    rcases avX bt (2^(32-s))with h|h
    exact h;have:=awI (2^s) h;omega
   have:=awI (2^s) (show bt+1<=2^(32-s)from this);omega
  have u:B<(bt+1)*4294967296^(m+1):=by rw[awO,Nat.one_mul,awF bt];omega
  have M:B*2^s<(bt+1)*4294967296^(m+1)*2^s:=Nat.mul_lt_mul_of_pos_right u E;have h3:(bt+1)*4294967296^(m+1)*2^s=(bt+1)*2^s*4294967296^(m+1):=Nat.mul_right_comm _ _ _;have h4:(bt+1)*2^s*4294967296^(m+1)<=4294967296*4294967296^(m+1):=awI _ h0;have h5:4294967296^(m+2)=4294967296*4294967296^(m+1):=by rw[axE,awF]
  omega
 have U:A<4294967296^nl A:=(kU A _).1 (avD _);simp only[go_sem];refine bK .nil Xx a_ ?_;simp only[go_sem];have ua:=K.up (aM A) s LA F Om;have ub:=K.up (aM B) s LB F Om;refine Kw (Kx (aM A) s) ua rfl (Is _ _) ?_;rintro r H' ⟨o,rfl,rfl⟩ -;rw[PH.pG,lA,vA];refine⟨a_,?_⟩;simp only[go_sem];refine Kw (Kx (aM B) s) ub rfl (Is _ _) ?_;rintro r H' ⟨o2,rfl,rfl⟩ Λ;rw[PH.pG,lB,vB,hm];refine⟨a_,?_⟩;have Φ:=Λ o2 _ (by rw[aP,aF rfl]) (by rfl);have τ:¬o2=o:=(kO.1 Φ).1;have e':¬o=o2:=λh=>τ h.symm;have k1:((m+2:Nat):Int)<=((m+2+1:Nat):Int):=Om;have k2:i_.wrap (((nl A+1:Nat):Int)-((m+2:Nat):Int))=((nl A+1-(m+2):Nat):Int):=wO_
 obtain⟨e,Ω⟩:∃e,nl A+1-(m+2)=e:=⟨_,rfl⟩;have a':nl A+1=e+(m+2):=Om;rw[Ω]at k2;have k3:((e:Nat):Int)*((4:Nat):Int)<=140737488355328:=Om;have k4:((e:Nat):Int)<=9223372036854775807:=Om;have hz:avA e [PV.int .u32 0]=aO (avA e 0):=by simp[aO]
 have k5:m+2-0=m+2:=Om;simp only[go_sem,lB,hm,k1,k5,k2,k3,k4,hz];refine aS λJ ξ=>?_;have q2:¬J=o2:=(kO.1 ξ).1;have q1:¬J=o:=(kO.1 (kO.1 ξ).2).1;have υ:¬o2=J:=λh=>q2 h.symm;have f':¬o=J:=λh=>q1 h.symm;have b':fI (m+2+1) (B*2^s)=fI (m+2) (B*2^s)++[B*2^s/4294967296^(m+2)%4294967296]:=CF _ _;have Lv:=qQ (m+2) (B*2^s);have lv:=pA (m+2) (B*2^s);have vv:val (fI (m+2) (B*2^s))=B*2^s:=tM κ;have σ:(aO (fI (m+2+1) (B*2^s))).take (m+2)=aO (fI (m+2) (B*2^s)):=by unfold aO;rw[<-ayN,b',List.take_append_of_le_length Om,avT Om]
 generalize q':fI (m+2) (B*2^s)=v at *
 have r':(fI (m+2+1) (B*2^s)).length=m+2+1:=pA _ _;have S:∀i (h:i<Z' v),(aO (fI (m+2+1) (B*2^s)))[i]?=some [.int .u32 ((v[i]:Nat):Int)]:=by intro i h;have u:(aO v)[i]?=some [.int .u32 ((v[i]:Nat):Int)]:=cG v h;rw[<-σ,List.getElem?_take_of_lt Om]at u;exact u
 have g1:=S (m+1) Om;have g0:=S m Om;have htop:2147483648<=v[m+1]:=by
  have u:=cW v (Om:m+1<Z' v);rw[avT Om,vv]at u;have M:=gV (Lv.take (m+1));rw[avN,axS Om]at M;rcases avX v[m+1] 2147483648 with h|h
  exfalso;have h3:4294967296^(m+1)*(v[m+1]+1)<=4294967296^(m+1)*2147483648:=axW _ h;rw[avQ,ayG]at h3;rw[awF 2147483648]at V;omega;exact h
 have p':=Lv _ (avB (Om:m+1<Z' v));have o':=Lv _ (avB (Om:m<Z' v));have w1:u_.wrap ((v[m+1]:Nat):Int)=((v[m+1]:Nat):Int):=bT Om;have w0:u_.wrap ((v[m]:Nat):Int)=((v[m]:Nat):Int):=bT Om;have j1:i_.wrap (((m+2:Nat):Int)-1)=((m+1:Nat):Int):=wO_
 have j0:i_.wrap (((m+2:Nat):Int)-2)=((m:Nat):Int):=wO_
 have d1:((m+1:Nat):Int)<((m+2:Nat):Int):=Om;have d0:((m:Nat):Int)<((m+2:Nat):Int):=Om;have jq:i_.wrap ((e:Int)-1)=(e:Int)-1:=wrap_i64 Om Om;simp only[go_sem];refine bK .nil cS a_ ?_;simp only[go_sem,j1,j0,d1,d0,υ,g1,g0,w1,w0,jq];have ι:A*2^s<4294967296^(nl A+1):=by
  have h0:2^s<=4294967296:=by have:(2:Nat)^s<=2^32:=ayU aU Om;simpa using this
  have u:A*2^s<4294967296^nl A*2^s:=Nat.mul_lt_mul_of_pos_right U E;have M:4294967296^nl A*2^s<=4294967296^nl A*4294967296:=axW _ h0;rw[axE];omega
 have LU:=qQ (nl A+1) (A*2^s);have lU:=pA (nl A+1) (A*2^s);have vU:val (fI (nl A+1) (A*2^s))=A*2^s:=tM ι;have hI:uB (A*2^s) (val v) (m+2) (nl A+1) e e (fI (nl A+1) (A*2^s)) (avA e 0):=by
  refine⟨lU,List.length_replicate,LU,CM _,by rw[vU,yP];omega,?_,λi x _ hx=>I7 hx⟩;rw[BB LU Om,vU,vv,ayO (ayH aU)];have u:A*2^s<4294967296^nl A*2^s:=Nat.mul_lt_mul_of_pos_right U E;have hx:nl A=m+1+e:=Om;have M:4294967296^nl A=4294967296^(m+1)*4294967296^e:=by rw[hx,Nat.pow_add]
  have h3:2^s<=2147483648:=by have:(2:Nat)^s<=2^31:=ayU aU hs;simpa using this
  have h4:4294967296^nl A*2^s<=(2147483648*4294967296^(m+1))*4294967296^e:=by rw[M,awF (4294967296^(m+1)*4294967296^e),<-awC];exact awI _ (awI _ h3)
  have h5:(2147483648*4294967296^(m+1))*4294967296^e<=B*2^s*4294967296^e:=awI _ V;omega
 have β:=Gj (C:=C) K.D (A*2^s) m (nl A+1) e o o2 J s v (fI (m+2+1) (B*2^s)) τ q1 q2 Lv lv σ Om htop a' Om _ hI;simp only[go_sem]at β;refine β _ _ _ ?_ (by simp only[go_sem,e',f']) (by simp only[go_sem,υ]) Sq ?_;unfold dI;exact Lq;clear β;intro U' w F' l N;have hu:val U'<val v:=by have:=l.r;rwa[awM]at this
 have Z:=l.v;rw[vv]at hu Z;have Θ:0<B*2^s:=Om;have Γ:val w=A/B:=by
  have:A*2^s/(B*2^s)=val w:=by rw[<-Z,Nat.add_mul_div_right _ _ Θ,azC hu,avK]
  rw[<-this,Nat.mul_div_mul_right _ _ E]
 have Δ:val U'/2^s=A%B:=by
  have:A*2^s%(B*2^s)=val U':=by rw[<-Z,Nat.add_mul_mod_self_right,awT hu]
  rw[<-this,Nat.mul_mod_mul_right,Nat.mul_div_cancel _ E]
 have g8:=N 8 _ (by unfold dI;simp only[go_sem];rfl);have g9:=N 9 _ (by unfold dI;simp only[go_sem];rfl);have ψ:=N 11 _ (by unfold dI;simp only[go_sem];rfl);have ω:=N 12 _ (by unfold dI;simp only[go_sem];rfl);have rest:=Gk (C:=C) o (nl A+1) J e (m+2) s U' w F q1 l.limU l.lu' Om Om;simp only[go_sem]at rest;simp only[go_sem];refine rest _ _ g8 g9 ψ ω ?_;clear rest;intro or F2 H2 r1 r2 ζ η Y;rw[Δ]at Y;have c':=ζ 12 _ (by unfold rFr;simp only[go_sem];rfl);have d':=ζ 19 _ (by unfold rFr;simp only[go_sem];rfl);have θ:A%B<4294967296^(m+2):=by have u:A%B<B:=awY _ W;have M:B<4294967296^nl B:=(kU B _).1 (avD _);rw[hm]at M;omega
 have LR:=qQ (m+2) (A%B);have lR:=pA (m+2) (A%B);have vR:val (fI (m+2) (A%B))=A%B:=tM θ;have nQ:=iK l.limQ;have nR:=iK LR;have e1:=l.lq';generalize m':fI (m+2) (A%B)=R at *
 simp only[go_sem];refine bK .nil Xx a_ ?_;simp only[go_sem,c'];have γ:=K.lengthO w J l.limQ Om;rw[e1]at γ;have δ:=K.lengthO R or LR Om;rw[lR]at δ;refine ep (o:=J) (x:=.rows 1 (aO w)) (v:=.j (nl (val w):Nat)) rfl η γ (zw J w) (λr H' hr=>⟨hr.2 w l.limQ (by rw[cE]),hr.1⟩) rfl a_ ?_;have c4:((nl (val w):Nat):Int)<=(e:Nat):=Om;simp only[go_sem,c4,d',Nat.sub_zero];refine ep (o:=or) (x:=.rows 1 (aO R)) (v:=.j (nl (val R):Nat)) rfl Y δ (zw or R) (λr H' hr=>⟨hr.2 R LR (by rw[cE]),hr.1⟩) rfl a_ ?_;have c5:((nl (val R):Nat):Int)<=((m+2:Nat):Int):=Om;simp only[go_sem,c5];refine U7 (o1:=J) (o2:=or) (s1:=1) (s2:=1) (k1:=nl (val w)) (k2:=nl (val R)) (rs1:=aO w) (rs2:=aO R) (.inr rfl) (λh=>r2 h.symm) rfl rfl η Y (by rw[cQ];exact nQ) (by rw[cQ];exact nR) (yE _ _ _ _) rfl ⟨?_,rfl⟩;have t1:(aO w).take (nl (val w))=aO (aM (A/B)):=by have:=lS l.limQ;rw[Γ]at this ⊢;exact this
 have t2:(aO R).take (nl (val R))=aO (aM (A%B)):=by have:=lS LR;rw[vR]at this ⊢;exact this
 rw[t1,t2];exact .refl _
def Yd(a b:Nat):PF:=((n_.set 0 (aN (aM a))).set 1 (aN (aM b)))
theorem agM(L:wZ C)(e:∀A B:Nat,B≠0->nl A<=900->nl B<=900->aH C 136 [aN (aM A),aN (aM B)] .nil (aL (wG A B)))(a b:N_)(E:Lim a)(hb:Lim b)(J:Z' a<=35184372087808)(K:Z' b<=35184372087808) :
  y8.wp C (aW Pi.res (cC (if fK (val a) (val b)then .tup [aN [],.j 2]else .tup [aN (aM (avC (val a) (val b))),.j 0]))) (g_ [aN a,aN b]) .nil:=by
 simp only[go_sem,y8,Pi];refine aB (L.large a E J) rfl ?_;by_cases i:nl (val a)>512;simp only[go_sem,i];rw[aF (by simp[fK,i])];exact gI rfl;simp only[go_sem,i];refine aB (L.large b hb K) rfl ?_;by_cases l:nl (val b)>512;simp only[go_sem,l];rw[aF (by simp[fK,l])];exact gI rfl;rw[aC (by simp[fK,i,l])];simp only[go_sem,l];refine aB (L.trim a E J) rfl ?_;simp only[go_sem];refine aB (L.trim b hb K) rfl ?_;simp only[go_sem];refine wp_loop (α:=Nat × Nat) (λt=>Yd t.1 t.2) (λ_=>.nil) (λt=>avC t.1 t.2=avC (val a) (val b)/\nl t.1<=512/\nl t.2<=512) (λt=>t.2) (val a,val b) ⟨rfl,by simp only;omega,by simp only;omega⟩ ?_ a_ ?_;unfold Yd;exact Lq;rintro⟨x,y⟩ ⟨w,M,F⟩;simp only at w M F;simp only[go_sem,Yd,bJ];by_cases u:y=0;subst u;have:¬((nl 0:Nat):Int)>0:=by rw[FY];decide
 simp only[go_sem,this];refine bC (vs:=[aN (aM x),.j 0]) (.inr rfl) .nil rfl a_ ⟨?_,rfl⟩;rw[<-w,Nat.gcd_zero_right];exact .refl _;have N:nl y≠0:=λh=>u (kD.1 h);have:((nl y:Nat):Int)>0:=Om;simp only[go_sem,this];refine aB (e x y u Om Om) rfl ?_;simp only[go_sem,wG];have hlt:x%y<y:=awY _ (axX u);refine aE (y,x%y) ⟨?_,F,?_⟩ hlt ?_ a_;simp only;rw[<-w,Nat.gcd_comm y,<-Nat.gcd_rec y x,Nat.gcd_comm];have:=iW (Nat.le_of_lt hlt);simp only;omega;exact Lq
def qX(A B:Nat):PV:=if fK A B then .tup [aN [],aN [],.int .i64 2]else if B=0 then .tup [aN [],aN [],.int .i64 3]else .tup [aN (aM (A/B)),aN (aM (A%B)),.int .i64 0]
def Pf:Spec:=λname vs=>match name,vs with
 |138,[x]=>some ([],λ_=>aL (.int .i64 (nl (val (lJ x)):Nat)))
 |136,[x,y]=>some ([],λ_=>aL (wG (val (lJ x)) (val (lJ y))))
 |_,_=>none
theorem VL(xs:N_):Pf 138 [aN xs]=some ([],λ_=>aL (.j (nl (val xs):Nat))):=by
 show some _=_;rw[fS]
theorem Gi(A B:Nat):Pf 136 [aN (aM A),aN (aM B)]=some ([],λ_=>aL (wG A B)):=by
 show some _=_;rw[fS,fS,aY,aY]
theorem yG{res:List eE}{F:PF}{H:PH}{e:Int}(h:eE.evs F H res=some [.aJ,.aJ,.j e]):aW res (cC (.tup [aN [],aN [],.j e])) .ret F H:=by
 refine bC (.inr rfl) .nil h a_ ⟨?_,rfl⟩;refine .tup rfl λj p q hp hq=>?_
 match j with
 |0=>simp at hp hq;subst hp;subst hq;exact .nil 1
 |1=>simp at hp hq;subst hp;subst hq;exact .nil 1
 |2=>simp at hp hq;subst hp;subst hq;exact .refl _
 |j+3=>simp at hp
theorem agI(L:wZ C)(l:∀A B:Nat,B≠0->nl A<=900->nl B<=900->aH C 136 [aN (aM A),aN (aM B)] .nil (aL (wG A B)))(a b:N_)(w:Lim a)(hb:Lim b)(F:Z' a<=35184372087808)(E:Z' b<=35184372087808) :
  yy.wp C (aW Pd.res (cC (qX (val a) (val b)))) (g_ [aN a,aN b]) .nil:=by
 simp only[go_sem,yy,Pd];refine aB (L.large a w F) rfl ?_;by_cases e:nl (val a)>512;simp only[go_sem,e];rw[show qX (val a) (val b)=.tup [aN [],aN [],.j 2] by simp[qX,fK,e]];exact yG rfl;simp only[go_sem,e];refine aB (L.large b hb E) rfl ?_;by_cases u:nl (val b)>512;simp only[go_sem,u];rw[show qX (val a) (val b)=.tup [aN [],aN [],.j 2] by simp[qX,fK,u]];exact yG rfl;simp only[go_sem,u];refine aB (L.length b hb E) rfl ?_;by_cases i:val b=0;have:((nl (val b):Nat):Int)=0:=by rw[i,FY];rfl
 simp only[go_sem,bN this];rw[show qX (val a) (val b)=.tup [aN [],aN [],.j 3] by simp[qX,fK,e,i,FY]];exact yG rfl;have J:nl (val b)≠0:=λh=>i (kD.1 h);rw[show qX (val a) (val b)=.tup [aN (aM (val a/val b)),aN (aM (val a%val b)),.j 0] by simp[qX,fK,e,u,i]];simp only[go_sem,bA (show((nl (val b):Nat):Int)≠0 by omega)];refine bK .nil Pf a_ ?_;simp only[go_sem];have K:=iK w;have M:=iK hb;have x:((nl (val a):Nat):Int)<=(Z' a:Nat):=Om;have y:((nl (val b):Nat):Int)<=(Z' b:Nat):=Om;refine cB (VL a) (L.length a w F) rfl a_ ?_;simp only[go_sem,x,or_true,awM,lS w];refine cB (VL b) (L.length b hb E) rfl a_ ?_;simp only[go_sem,y,or_true,awM,lS hb];refine cB (Gi (val a) (val b)) (l _ _ i Om Om) rfl a_ ?_;simp only[go_sem,wG];exact bC (.inr rfl) .nil rfl a_ ⟨.refl _,rfl⟩
def mQ:=bP [] Proofs.Tryz.f119
def OE:=aA mQ 5
def EA:=aA mQ 6
def OF:=aA mQ 7
def UQ:aI:=(sq (aA mQ 0) (.seq (sq (aA mQ 1) (sq (aA mQ 2) (.cond (Tm 18) (sq (aA mQ 3) (.region (aA mQ 4))) .skip))) (kB OE 40 EA (sq OF .ret))))
def n0:=bP [] Proofs.Tryz.f131
def bf:=bV n0
def Bu:=bP [1] Proofs.Tryz.f132
def n8:=bV Bu
def ni:=bP [] Proofs.Tryz.f70
def nj:=bV ni
def Nw:=bP [] Proofs.Tryz.f120
def xy:=bV Nw
def n6:=bP [1] Proofs.Tryz.f129
def bg:=bV n6
def MJ:=bP [1] Proofs.Tryz.f179
def US:=bV MJ
def xL:=bP [2,3] Proofs.Tryz.f83
def FO:=aA xL 3
def vb:=aA xL 4
def MG:=aA xL 5
def vd:=aA xL 6
def YN:=aA xL 7
def fe:=aA xL 8
def ff:=aA xL 9
def x2:aI:=(sq (aA xL 0) (kB (aA xL 1) 16 (aA xL 2) (dq (eH xL 0) (dq (eH xL 1) (.seq (.block 0 (sq FO (.cond (Tm 42) (sq vb .ret) (sq MG (.cond (Tm 49) (sq vd .ret) (sq YN (.cond (Tm 51) (sq fe .ret) .skip))))))) (sq ff .ret))))))
def fc:=bP [2,3] Proofs.Tryz.f138
def xz:=bV fc
def vf:=bP [] Proofs.Tryz.f152
def x6:=bV vf
theorem CoL.nil:CoL [] []:=.refl _
theorem CoL.cons{p q:PV}{ps l:V_}(h:Co p q)(i:CoL ps l):CoL (p::ps) (q::l):=
 ⟨by simp[i.len],λj a b e hb=>by
  cases j with
  |zero=>simp at e hb;subst e;subst hb;exact h
  |succ j=>exact i.at_ j a b (by simpa using e) (by simpa using hb)⟩
theorem CoL.agg{ps e:V_}(h:CoL ps e):Co (.agg ps) (.agg e):=.agg h.len h.at_
theorem CoL.tup{ps e:V_}(h:CoL ps e):Co (.tup ps) (.tup e):=.tup h.len h.at_
structure yX(C:Ctx):Prop extends wZ C where
 bits:∀xs,Lim xs->Z' xs<=35184372087808->aH C 128 [aN xs] .nil (aL (.int .i64 (dC (val xs):Nat)))
 add:∀xs ys,Lim xs->Lim ys->Z' xs<=35184372087808->Z' ys<=35184372087808->aH C 127 [aN xs,aN ys] .nil (aL (opV (fK (val xs) (val ys)) (val xs+val ys)))
 sub:∀xs ys,Lim xs->Lim ys->Z' xs<=35184372087808->Z' ys<=35184372087808->aH C 134 [aN xs,aN ys] .nil (aL (xW (val xs) (val ys)))
 mul:∀xs ys,Lim xs->Lim ys->Z' xs<=35184372087808->Z' ys<=35184372087808->aH C 133 [aN xs,aN ys] .nil (aL (opV (fK (val xs) (val ys)) (val xs*val ys)))
 gcd:∀xs ys,Lim xs->Lim ys->Z' xs<=35184372087808->Z' ys<=35184372087808->aH C 131 [aN xs,aN ys] .nil (aL (if fK (val xs) (val ys)then .tup [aN [],.int .i64 2]else .tup [aN (aM (avC (val xs) (val ys))),.int .i64 0]))
 div:∀xs ys,Lim xs->Lim ys->Z' xs<=35184372087808->Z' ys<=35184372087808->aH C 130 [aN xs,aN ys] .nil (aL (qX (val xs) (val ys)))
theorem jZ{a b:Nat}(e:nl a<=512)(hb:nl b<=512):fK a b=false:=by
 simp[fK];omega
theorem pF{a b m n:Nat}(e:nl a<=m)(hb:nl b<=n):nl (a*b)<=m+n:=by
 rw[kU]at e hb ⊢;rw[Nat.pow_add];by_cases h:b=0
 ·subst h;exact Nat.mul_pos (ayH aU) (ayH aU)
 ·calc a*b<4294967296^m*b:=Nat.mul_lt_mul_of_pos_right e (axX h)
   _<=4294967296^m*4294967296^n:=axW _ (Nat.le_of_lt hb)
theorem HZ{n:Nat}(h:nl n<=512):szV n=.tup [aN (aM n),.j 0]:=by
 have:¬nl n>512:=Om;simp[szV,szL,szE,this]
theorem S7(L:yX C)(a b:N_)(e:Lim a)(hb:Lim b)(i:Z' a<=35184372087808)(l:Z' b<=35184372087808)(u:nl (val a)<=256)(w:nl (val b)<=256) :
  bf.wp C (aW n0.res (aL (aN (aM (val a*val b))))) (g_ [aN a,aN b]) .nil:=by
 simp only[go_sem,bf,n0];refine aB (L.mul a b e hb i l) rfl ?_;have:=pF u w;rw[jZ Om Om,opV,HZ Om];simp only[go_sem];refine cL ?_;rfl
abbrev fU(neg:Bool)(a b:N_):V_:=[.bool neg,aN a,aN b]
theorem X9(L:yX C)(neg:Bool)(a b:N_)(e:Lim a)(i:Z' a<=35184372087808) :
  n8.wp C (aW Bu.res (aL (.bool (decide (val a=0))))) (g_ [.agg (fU neg a b)]) .nil:=by
 simp only[go_sem,n8,Bu];refine aB (L.bits a e i) rfl ?_;simp only[go_sem];refine cL ?_;have:=@nB (val a);by_cases c:val a=0;rw[bN Om,bG c];rfl;rw[bA Om,bS c];rfl
def dU(a b:Nat):Bool:=decide (0<dC b)&&decide (dC b<=4096)&&decide (dC a<=4096)
theorem S8(L:yX C)(neg:Bool)(a b:N_)(w:Lim a)(hb:Lim b)(x:Z' a<=35184372087808)(y:Z' b<=35184372087808) :
  bg.wp C (aW n6.res (aL (.bool (dU (val a) (val b))))) (g_ [.agg (fU neg a b)]) .nil:=by
 simp only[go_sem,bg,n6];refine aB (L.bits b hb y) rfl ?_;by_cases l:0<dC (val b);have e:((dC (val b):Nat):Int)>0:=Om;by_cases u:dC (val b)<=4096;have i:((dC (val b):Nat):Int)<=4096:=Om;simp only[go_sem,e,i];refine aB (L.bits a w x) rfl ?_;simp only[go_sem];refine cL ?_;show PV.bool (decide _)=_;rw[dU,bG l,bG u,avR,avR];congr 1;rw[decide_eq_decide];omega;have i:¬((dC (val b):Nat):Int)<=4096:=Om;simp only[go_sem,e,i];refine cL ?_;show PV.bool _=_;simp[dU,l,u];have e:¬((dC (val b):Nat):Int)>0:=Om;simp only[go_sem,e];refine cL ?_;show PV.bool _=_;simp[dU,l]
theorem aeM(L:yX C)(v:Int)(i:-9223372036854775808<=v)(l:v<=9223372036854775807) :
  xy.wp C (aW Nw.res (aL (aN (aM v.natAbs)))) (g_ [.j v]) .nil:=by
 simp only[go_sem,xy,Nw];by_cases c:v<0;have e:u_.wrap (0-u_.wrap v)=(v.natAbs:Int):=by rw[iX,iX];omega
 simp only[go_sem,c,e];refine aB (L.make v.natAbs Om) rfl ?_;simp only[go_sem];refine cL ?_;rfl;have e:u_.wrap v=(v.natAbs:Int):=by rw[iX];omega
 simp only[go_sem,c,e];refine aB (L.make v.natAbs Om) rfl ?_;simp only[go_sem];refine cL ?_;rfl
abbrev IL(e:Int):PV:=.tup [.agg (fU false [] []),.int .i64 e]
abbrev N4(neg:Bool)(a b:Nat):PV:=.tup [.agg (fU neg (aM a) (aM b)),.int .i64 0]
def JV(neg:Bool)(a b:Nat):PV:=
 if dC (a/avC a b)>4096\/dC (b/avC a b)>4096 then IL 2 else N4 (neg&&decide (a/avC a b≠0)) (a/avC a b) (b/avC a b)
theorem kC{res:List eE}{F:PF}{H:PH}{e:Int}(h:eE.evs F H res=some [.agg [.bool false,.aJ,.aJ],.j e]):aW res (cC (IL e)) .ret F H:=
 bC (.inr rfl) .nil h a_ ⟨CoL.tup (.cons (CoL.agg (.cons (.refl _) (.cons (.nil 1) (.cons (.nil 1) .nil)))) (.cons (.refl _) .nil)),rfl⟩
theorem Dx{n:Nat}:dC n>1↔n>1:=by
 have:=pS n 1;omega
theorem qd{a n:Nat}(g:Nat)(h:nl a<=n):nl (a/g)<=n:=avZ (iW (ayL _ _)) h
theorem UR(L:yX C)(neg:Bool)(a b:N_)(w:Lim a)(hb:Lim b)(x:Z' a<=35184372087808)(y:Z' b<=35184372087808)(o:Nat)(F:PF)(H:PH)
  (f0:F 0=some (.bool neg)) (f1:F 1=some (aN a)) (f2:F 2=some (aN b)) (f6:F 6=some (.ptr o 3 0 0)) (f7:F 7=some (.j 0)) (i:H o=some (.rows 3 [[.bool false,.aJ,.aJ]])) :
  aI.wp C (.seq (.seq (.region OE) (.cond (.tmp 40) (.seq (.region EA) .ret) .skip)) (.seq (.region OF) .ret)) (aW mQ.res (cC (if dC (val a)>4096\/dC (val b)>4096 then IL 2 else N4 (neg&&decide (val a≠0)) (val a) (val b)))) F H:=by
 have fin:∀(r:P2_) F H,F 6=some (.ptr o 3 0 0)->F 7=some (.j 2)->H o=some (.rows 3 [[.bool false,.aJ,.aJ]])->aW mQ.res (cC (IL 2)) .ret F H:=by intro r F H E h7 h;refine kC ?_;simp only[go_sem,mQ,E,h7,h]
 simp only[go_sem,OE,f1];refine aB (L.bits a w x) rfl ?_;by_cases A:dC (val a)>4096;have l:((dC (val a):Nat):Int)>4096:=Om;rw[aF (.inl A)];simp only[go_sem,l,EA,f6,i];exact fin [] _ _ (by simp only[go_sem,f6]) rfl Sq;have l:¬((dC (val a):Nat):Int)>4096:=Om;simp only[go_sem,l,f2];refine aB (L.bits b hb y) rfl ?_;by_cases B:dC (val b)>4096;have u:((dC (val b):Nat):Int)>4096:=Om;rw[aF (.inr B)];simp only[go_sem,u,EA,f6,i];exact fin [] _ _ (by simp only[go_sem,f6]) rfl Sq
 ·have u:¬((dC (val b):Nat):Int)>4096:=Om;rw[aC Om];have last:∀F:PF,F 1=some (aN a)->F 2=some (aN b)->F 6=some (.ptr o 3 0 0)->∀(q:Bool),q=(neg&&decide (val a≠0))->F 47=some (.bool q) ->
    True:=λ_ _ _ _ _ _ _=>trivial
  simp only[go_sem,u,OF,f0,f1,f2,f6,i];cases neg with
  |false =>simp only[go_sem,f0,f1,f2,f6,i];refine aB (L.trim a w x) rfl ?_;simp only[go_sem,f0,f1,f2,f6,i];refine aB (L.trim b hb y) rfl ?_;simp only[go_sem,f0,f1,f2,f6,i,avJ];refine bC (.inr rfl) .nil (vs:=[.agg (fU false (aM (val a)) (aM (val b))),.int .i64 0]) ?_ a_ ⟨.refl _,rfl⟩;simp only[go_sem,mQ,f6,i]
  |true=>
   simp only[go_sem,f0,f1,f2,f6,i];refine aB (L.bits a w x) rfl ?_;have e:decide (((dC (val a):Nat):Int)>0)=decide (val a≠0):=by have:=@nB (val a);rw[decide_eq_decide];omega
   simp only[go_sem,f0,f1,f2,f6,i,e];refine aB (L.trim a w x) rfl ?_;simp only[go_sem,f0,f1,f2,f6,i];refine aB (L.trim b hb y) rfl ?_;simp only[go_sem,f0,f1,f2,f6,i,avR];refine bC (.inr rfl) .nil (vs:=[.agg (fU (decide (val a≠0)) (aM (val a)) (aM (val b))),.j 0]) ?_ a_ ⟨.refl _,rfl⟩;simp only[go_sem,mQ,f6,i]
theorem N2(L:yX C)(neg:Bool)(a b:N_)(x:Lim a)(hb:Lim b)(y:Z' a<=35184372087808)(A:Z' b<=35184372087808)(B:nl (val a)<=512)(u:nl (val b)<=512)(E:val b≠0) :
  UQ.wp C (aW mQ.res (cC (JV neg (val a) (val b)))) (g_ [.bool neg,aN a,aN b]) .nil:=by
 simp only[go_sem,UQ];refine aS λo K=>?_;simp only[go_sem];refine aB (L.gcd a b x hb y A) rfl ?_;rw[jZ B u];simp only[go_sem];have i:avC (val a) (val b)≠0:=by intro h;exact E (Nat.gcd_eq_zero_iff.1 h).2
 have l:nl (avC (val a) (val b))<=512:=avZ (iW (Nat.gcd_le_right _ (axX E))) u;have e:(aM (avC (val a) (val b))).length<=35184372087808:=by rw[bJ];omega
 refine aB (L.bits _ (bE _) e) rfl ?_;rw[aY];by_cases c:avC (val a) (val b)>1;have w:((dC (avC (val a) (val b)):Nat):Int)>1:=by have:=Dx.2 c;omega
 simp only[go_sem,w];refine aB (L.div a _ x (bE _) y e) rfl ?_;rw[aY,qX,jZ B l,aC aU,aC i];simp only[go_sem];refine aB (L.div b _ hb (bE _) A e) rfl ?_;rw[aY,qX,jZ u l,aC aU,aC i];simp only[go_sem];have:=UR L neg (aM (val a/avC (val a) (val b))) (aM (val b/avC (val a) (val b))) (bE _) (bE _) (by rw[bJ];have:=qd (avC (val a) (val b)) B;omega) (by rw[bJ];have:=qd (avC (val a) (val b)) u;omega) o;rw[aY,aY]at this;have:=λF H=>this F H;simp only[aI.wp,go_sem]at this;exact this _ _ rfl rfl rfl rfl rfl Sq;have w:¬((dC (avC (val a) (val b)):Nat):Int)>1:=by have:=(@Dx (avC (val a) (val b)));omega
 have J:avC (val a) (val b)=1:=Om;simp only[go_sem,w];rw[JV,J,Nat.div_one,Nat.div_one];have:=UR L neg a b x hb y A o;simp only[aI.wp,go_sem]at this;exact this _ _ rfl rfl rfl rfl rfl Sq
structure NH(C:Ctx):Prop extends yX C where
 times:∀a b,Lim a->Lim b->Z' a<=35184372087808->Z' b<=35184372087808->nl (val a)<=256->nl (val b)<=256->aH C 121 [aN a,aN b] .nil (aL (aN (aM (val a*val b))))
 zero:∀neg a b,Lim a->Z' a<=35184372087808->aH C 122 [.agg (fU neg a b)] .nil (aL (.bool (decide (val a=0))))
 valid:∀neg a b,Lim a->Lim b->Z' a<=35184372087808->Z' b<=35184372087808->aH C 118 [.agg (fU neg a b)] .nil (aL (.bool (dU (val a) (val b))))
 abs:∀v:Int,-9223372036854775808<=v->v<=9223372036854775807->aH C 119 [.int .i64 v] .nil (aL (aN (aM v.natAbs)))
 lowest:∀neg a b,Lim a->Lim b->Z' a<=35184372087808->Z' b<=35184372087808->nl (val a)<=512->nl (val b)<=512->val b≠0->aH C 120 [.bool neg,aN a,aN b] .nil (aL (JV neg (val a) (val b)))
def YV(n d:Int):PV:=if d=0 then IL 3 else JV (decide (n<0) != decide (d<0)) n.natAbs d.natAbs
theorem sI{n k:Nat}(h:n<4294967296^k):nl n<=k:=(kU _ _).2 h
theorem Fm(neg:Bool)(a b:Nat):∃i x y e,JV neg a b=.tup [.agg (fU i x y),.j e]:=by
 unfold JV;split;exact⟨_,_,_,_,rfl⟩;exact⟨_,_,_,_,rfl⟩
theorem X8(L:NH C)(n d:Int)(l:-9223372036854775808<=n)(u:n<=9223372036854775807)(w:-9223372036854775808<=d)(A:d<=9223372036854775807) :
  nj.wp C (aW ni.res (cC (YV n d))) (g_ [.j n,.j d]) .nil:=by
 simp only[go_sem,nj];refine aS λo E=>?_;unfold YV;by_cases c:d=0;subst c;simp only[go_sem];refine kC ?_;simp only[go_sem,ni];rw[aC c];simp only[go_sem,bA c];refine aB (L.abs n l u) rfl ?_;simp only[go_sem];refine aB (L.abs d w A) rfl ?_;simp only[go_sem];have F:nl n.natAbs<=2:=sI Om;have J:nl d.natAbs<=2:=sI Om;have low:=L.lowest (decide (n<0) != decide (d<0)) (aM n.natAbs) (aM d.natAbs) (bE _) (bE _) (by rw[bJ];omega) (by rw[bJ];omega);rw[aY,aY]at low;have low:=low Om Om Om;refine aB low rfl ?_;obtain⟨i,x,y,e,B⟩:=Fm (decide (n<0) != decide (d<0)) n.natAbs d.natAbs;rw[B];simp only[go_sem];exact bC (.inr rfl) .nil (vs:=[.agg (fU i x y),.j e]) (by simp only[go_sem,ni]) a_ ⟨.refl _,rfl⟩
theorem iR{a b:Nat}:dU a b=true↔b≠0/\nl b<=128/\nl a<=128:=by
 have e:=pT b 128;have i:=pT a 128;have l:=@nB b;simp only[dU,avE,dT_];omega
def ZF(neg:Bool)(a b:Nat):PV:=if dU a b then JV neg a b else IL 1
theorem N3(L:NH C)(neg:Bool)(a b:N_)(l:Lim a)(hb:Lim b)(u:Z' a<=35184372087808)(w:Z' b<=35184372087808) :
  US.wp C (aW MJ.res (cC (ZF neg (val a) (val b)))) (g_ [.agg (fU neg a b)]) .nil:=by
 simp only[go_sem,US];refine aS λo F=>?_;simp only[go_sem];refine aB (L.valid neg a b l hb u w) rfl ?_;unfold ZF;cases B:dU (val a) (val b)with
 |false =>simp only[go_sem,avP];refine kC ?_;simp only[go_sem,MJ]
 |true =>obtain⟨E,J,K⟩:=iR.1 B;simp only[go_sem,avH];refine aB (L.lowest neg a b l hb u w Om Om E) rfl ?_;obtain⟨i,x,y,e,A⟩:=Fm neg (val a) (val b);rw[A];simp only[go_sem];exact bC (.inr rfl) .nil (vs:=[.agg (fU i x y),.int .i64 e]) (by simp only[go_sem,MJ]) a_ ⟨.refl _,rfl⟩
def uQ(e:Bool)(a1 b1:Nat)(i:Bool)(a2 b2:Nat):Int:=
 match e&&decide (a1≠0),i&&decide (a2≠0)with
 |true,true=>- eZ (a1*b2) (a2*b1)
 |true,false=>-1
 |false,true=>1
 |false,false=>eZ (a1*b2) (a2*b1)
def DZ(e:Bool)(a1 b1:Nat)(i:Bool)(a2 b2:Nat):PV:=
 if dU a1 b1&&dU a2 b2 then .tup [.int .i64 (uQ e a1 b1 i a2 b2),.int .i64 0]else .tup [.int .i64 0,.int .i64 1]
def fr1:PV->N_
 | .agg [_,a,_]=>lJ a
 |_=>[]
def frS:Spec:=λname vs=>match name,vs with
 |121,[x,y]=>some ([],λ_=>aL (aN (aM (val (lJ x)*val (lJ y)))))
 |129,[x,y]=>some ([],λ_=>aL (.int .i64 (eZ (val (lJ x)) (val (lJ y)))))
 |122,[x]=>some ([],λ_=>aL (.bool (decide (val (fr1 x)=0))))
 |_,_=>none
theorem CI(a b:N_):frS 121 [aN a,aN b]=some ([],λ_=>aL (aN (aM (val a*val b)))):=by
 show some _=_;rw[fS,fS]
theorem aeR(a b:N_):frS 129 [aN a,aN b]=some ([],λ_=>aL (.j (eZ (val a) (val b)))):=by
 show some _=_;rw[fS,fS]
theorem fg(neg:Bool)(a b:N_):frS 122 [.agg (fU neg a b)]=some ([],λ_=>aL (.bool (decide (val a=0)))):=by
 show some _=_;rw[fr1,fS]
theorem Xk(a b:Nat):i_.wrap (0-eZ a b)=- eZ a b:=by
 unfold eZ;split;rfl;split<;>rfl
theorem aeO(L:NH C)(x w:Bool)(a1 b1 a2 b2:N_)(l:Lim a1)(y:Lim b1)(e:Lim a2)(E:Lim b2)
  (u:Z' a1<=35184372087808) (J:Z' b1<=35184372087808) (i:Z' a2<=35184372087808) (K:Z' b2<=35184372087808) :
  x2.wp C (aW xL.res (cC (DZ x (val a1) (val b1) w (val a2) (val b2)))) (g_ [.agg (fU x a1 b1),.agg (fU w a2 b2)]) .nil:=by
 simp only[go_sem,x2];refine aB (L.valid x a1 b1 l y u J) rfl ?_;unfold DZ;cases U:dU (val a1) (val b1)with
 |false =>simp only[go_sem,avP,avJ];exact bC (.inr rfl) .nil (vs:=[.int .i64 0,.int .i64 1]) rfl a_ ⟨.refl _,rfl⟩
 |true=>
  obtain⟨v1,W,X⟩:=iR.1 U;simp only[go_sem,avH];refine aB (L.valid w a2 b2 e E i K) rfl ?_;cases V:dU (val a2) (val b2)with
  |false =>simp only[go_sem,avP,awU];exact bC (.inr rfl) .nil (vs:=[.int .i64 0,.int .i64 1]) rfl a_ ⟨.refl _,rfl⟩
  |true=>
   obtain⟨w1,Y,Z⟩:=iR.1 V;simp only[go_sem,avH,axP];refine bK .nil frS a_ ?_;simp only[go_sem];refine cB (CI a1 b2) (L.times a1 b2 l E u K Om Om) rfl a_ ?_;simp only[go_sem];refine cB (CI a2 b1) (L.times a2 b1 e y i J Om Om) rfl a_ ?_;simp only[go_sem];have m1:=pF X Y;have m2:=pF Z W;have N:=L.cmp (aM (val a1*val b2)) (aM (val a2*val b1)) (bE _) (bE _) (by rw[bJ];omega) (by rw[bJ];omega);have O:=aeR (aM (val a1*val b2)) (aM (val a2*val b1));rw[aY,aY]at N O;refine cB O N rfl a_ ?_;simp only[go_sem];refine bK .nil frS a_ ?_;have z1:(!decide (val a1=0))=decide (val a1≠0):=by by_cases h:val a1=0<;>simp[h]
   have R:(!decide (val a2=0))=decide (val a2≠0):=by by_cases h:val a2=0<;>simp[h]
   have fin:∀(F:PF)(A B:Bool),F 6=some (.j (eZ (val a1*val b2) (val a2*val b1)))->F 7=some (.bool A)->F 8=some (.bool B)->A=(x&&decide (val a1≠0))->B=(w&&decide (val a2≠0)) ->
     aI.wp C (.seq (.block 0 (.seq (.region FO) (.cond (.tmp 42) (.seq (.region vb) .ret) (.seq (.region MG) (.cond (.tmp 49) (.seq (.region vd) .ret) (.seq (.region YN) (.cond (.tmp 51) (.seq (.region fe) .ret) .skip))))))) (.seq (.region ff) .ret)) (aW xL.res (cC (.tup [.j (uQ x (val a1) (val b1) w (val a2) (val b2)),.j 0]))) F .nil:=by
    intro F A B f6 f7 M S hB;rw[uQ,<-S,<-hB];cases A<;>cases B;simp only[go_sem,FO,MG,YN,ff,f6,f7,M];exact bC (.inr rfl) .nil rfl a_ ⟨.refl _,rfl⟩;simp only[go_sem,FO,MG,YN,fe,f6,f7,M];exact bC (.inr rfl) .nil rfl a_ ⟨.refl _,rfl⟩;simp only[go_sem,FO,MG,vd,f6,f7,M];exact bC (.inr rfl) .nil rfl a_ ⟨.refl _,rfl⟩;simp only[go_sem,FO,vb,f6,f7,M,Xk];exact bC (.inr rfl) .nil rfl a_ ⟨.refl _,rfl⟩
   simp only[aI.wp,go_sem]at fin;simp only[go_sem];cases x with
   |false=>
    simp only[go_sem];cases w with
    |false =>simp only[go_sem];exact fin _ false false rfl rfl rfl rfl rfl
    |true =>simp only[go_sem];refine cB (fg true a2 b2) (L.zero true a2 b2 e i) rfl a_ ?_;simp only[go_sem,R];exact fin _ false (decide (val a2≠0)) rfl rfl rfl rfl (by rw[avR])
   |true=>
    simp only[go_sem];refine cB (fg true a1 b1) (L.zero true a1 b1 l u) rfl a_ ?_;simp only[go_sem,z1];cases w with
    |false =>simp only[go_sem];exact fin _ (decide (val a1≠0)) false rfl rfl rfl (by rw[avR]) rfl
    |true =>simp only[go_sem];refine cB (fg true a2 b2) (L.zero true a2 b2 e i) rfl a_ ?_;simp only[go_sem,R];exact fin _ (decide (val a1≠0)) (decide (val a2≠0)) rfl rfl rfl (by rw[avR]) (by rw[avR])
abbrev FV:=Bool × Nat × Nat
abbrev FR:=Except Int FV
def kI(neg:Bool)(a b:Nat):FR:=
 if dC (a/avC a b)>4096\/dC (b/avC a b)>4096 then .error 2 else .ok (neg&&decide (a/avC a b≠0),a/avC a b,b/avC a b)
def frV:FR->PV
 | .ok (n,a,b)=>N4 n a b
 | .error e=>IL e
theorem vp(neg:Bool)(a b:Nat):JV neg a b=frV (kI neg a b):=by
 unfold JV kI;split<;>rfl
def jN:FV->FV->FR
 |(e,a1,b1),(i,a2,b2)=>if dU a1 b1&&dU a2 b2 then
   (if e=i then kI e (a1*b2+a2*b1) (b1*b2)else if a2*b1<=a1*b2 then kI e (a1*b2-a2*b1) (b1*b2)else kI i (a2*b1-a1*b2) (b1*b2))
  else .error 1
theorem Gp{a b m:Nat}(e:nl a<=m)(hb:nl b<=m):nl (a+b)<=m+1:=by
 rw[kU]at e hb ⊢;rw[axE];omega
theorem YH(a b:Nat):(eZ a b>=0)↔b<=a:=by
 unfold eZ;split;constructor;intro h;exact absurd h aU;intro h;omega;split;constructor;intro h;omega;intro h;decide;constructor;intro h;omega;intro h;decide
theorem AK(r:FR):∃i x y e,frV r=.tup [.agg (fU i x y),.j e]:=by
 rcases r with e|⟨n,a,b⟩
 exact⟨_,_,_,_,rfl⟩;exact⟨_,_,_,_,rfl⟩
theorem aeN(L:NH C)(l w:Bool)(a1 b1 a2 b2:N_)(R:Lim a1)(K:Lim b1)(S:Lim a2)(M:Lim b2)
  (U:Z' a1<=35184372087808) (N:Z' b1<=35184372087808) (V:Z' a2<=35184372087808) (O:Z' b2<=35184372087808) :
  xz.wp C (aW fc.res (cC (frV (jN (l,val a1,val b1) (w,val a2,val b2))))) (g_ [.agg (fU l a1 b1),.agg (fU w a2 b2)]) .nil:=by
 simp only[go_sem,xz];refine aS λo ho=>?_;simp only[go_sem];refine aB (L.valid l a1 b1 R K U N) rfl ?_;simp only[jN];cases hv:dU (val a1) (val b1)with
 |false =>simp only[go_sem,avP,avJ];refine kC ?_;simp only[go_sem,fc]
 |true=>
  obtain⟨v1,v2,v3⟩:=iR.1 hv;simp only[go_sem,avH];refine aB (L.valid w a2 b2 S M V O) rfl ?_;cases hw:dU (val a2) (val b2)with
  |false =>simp only[go_sem,avP,awU];refine kC ?_;simp only[go_sem,fc]
  |true=>
   obtain⟨w1,w2,w3⟩:=iR.1 hw;simp only[go_sem,avH,axP];refine bK .nil frS a_ ?_;simp only[go_sem];refine cB (CI a1 b2) (L.times a1 b2 R M U O Om Om) rfl a_ ?_;simp only[go_sem];refine cB (CI a2 b1) (L.times a2 b1 S K V N Om Om) rfl a_ ?_;simp only[go_sem];refine cB (CI b1 b2) (L.times b1 b2 K M N O Om Om) rfl a_ ?_;simp only[go_sem];have m1:=pF v3 w2;have m2:=pF w3 v2;have m3:=pF v2 w2;have d0:val b1*val b2≠0:=Nat.mul_ne_zero v1 w1;generalize hA:val a1*val b2=A at *
   generalize hB:val a2*val b1=B at *
   generalize hD:val b1*val b2=D at *
   have fin:∀(F:PF)(H:PH)(r:FR),(∃i x y e,frV r=.tup [.agg (fU i x y),.j e]/\F 4=some (.ptr o 3 0 0)/\F 5=some (.j e)/\H o=some (.rows 3 [fU i x y]))->aW fc.res (cC (frV r)) .ret F H:=by rintro F H r ⟨i,x,y,e,he,f4,f5,hH⟩;rw[he];exact bC (.inr rfl) .nil (vs:=[.agg (fU i x y),.j e]) (by simp only[go_sem,fc,f4,f5,hH]) a_ ⟨.refl _,rfl⟩
   have eb:(l==w)=decide (l=w):=by cases l<;>cases w<;>rfl
   have low:∀neg x,nl x<=257->aH C 120 [.bool neg,aN (aM x),aN (aM D)] .nil (aL (frV (kI neg x D))):=by
    intro neg x hx;have h1:(aM x).length<=35184372087808:=by rw[bJ];omega
    have h2:(aM D).length<=35184372087808:=by rw[bJ];omega
    have:=L.lowest neg (aM x) (aM D) (bE _) (bE _) h1 h2;rw[aY,aY,vp]at this;exact this Om Om d0
   have lA:(aM A).length<=35184372087808:=by rw[bJ];omega
   have lB:(aM B).length<=35184372087808:=by rw[bJ];omega
   try simp only[go_sem]
   by_cases c:l=w;rw[aF c];have W:(l==w)=true:=by rw[eb,bG c]
   simp only[go_sem,W];have E:=L.add (aM A) (aM B) (bE _) (bE _) lA lB;have α:=Gp m1 m2;rw[aY,aY,jZ Om Om,opV,HZ Om]at E;refine aB E rfl ?_;simp only[go_sem];refine aB (low l _ Om) rfl ?_;obtain⟨i,x,y,e,u⟩:=AK (kI l (A+B) D);rw[u];simp only[go_sem];rw[<-u];exact fin _ _ _ ⟨i,x,y,e,u,s_,s_,s_⟩;rw[aC c];have W:(l==w)=false:=by rw[eb,bS c]
   simp only[go_sem,W];have hc:=L.cmp (aM A) (aM B) (bE _) (bE _) lA lB;rw[aY,aY]at hc;refine aB hc rfl ?_;have J:∀X Y:Nat,nl X<=256->nl Y<=256->Y<=X->aH C 134 [aN (aM X),aN (aM Y)] .nil (aL (.tup [aN (aM (X-Y)),.j 0])):=by intro X Y h1 h2 h;have:=L.sub (aM X) (aM Y) (bE _) (bE _) (by rw[bJ];omega) (by rw[bJ];omega);have h3:=iW (Om:X-Y<=X);rw[aY,aY,xW,jZ Om Om,aC aU,aC Om,HZ Om]at this;exact this
   by_cases g:B<=A;have Z:eZ A B>=0:=(YH A B).2 g;rw[aF g];simp only[go_sem,Z];refine aB (J A B Om Om g) rfl ?_;simp only[go_sem];have h3:=iW (Om:A-B<=A);refine aB (low l (A-B) Om) rfl ?_;obtain⟨i,x,y,e,u⟩:=AK (kI l (A-B) D);rw[u];simp only[go_sem];rw[<-u];exact fin _ _ _ ⟨i,x,y,e,u,s_,s_,s_⟩;have Z:¬eZ A B>=0:=λh=>g ((YH A B).1 h);rw[aC g];simp only[go_sem,Z];refine aB (J B A Om Om Om) rfl ?_;simp only[go_sem];have h3:=iW (Om:B-A<=B);refine aB (low w (B-A) Om) rfl ?_;obtain⟨i,x,y,e,u⟩:=AK (kI w (B-A) D);rw[u];simp only[go_sem];rw[<-u];exact fin _ _ _ ⟨i,x,y,e,u,s_,s_,s_⟩
structure RF where
 neg:Bool
 num:N_
 den:N_
abbrev RF.cells(x:RF):V_:=fU x.neg x.num x.den
def RF.Ok(x:RF):Prop:=Lim x.num/\Lim x.den/\Z' x.num<=35184372087808/\Z' x.den<=35184372087808
def RF.v(x:RF):FV:=(x.neg,val x.num,val x.den)
abbrev frs(l:List RF):PV:=.sl 3 (l.map RF.cells)
def FV.rf:FV->RF
 |(n,a,b)=>⟨n,aM a,aM b⟩
def FV.Small:FV->Prop
 |(_,a,b)=>nl a<=900000/\nl b<=900000
theorem FV.akV(x:FV):x.rf.v=x:=by
 obtain⟨n,a,b⟩:=x;show(n,val (aM a),val (aM b))=_;rw[aY,aY]
def rT(l:List FV):FR:=l.foldlM jN (false,0,1)
theorem zJ{neg:Bool}{a b:Nat}{r:FV}(h:kI neg a b=.ok r):r.Small/\r.rf.Ok:=by
 unfold kI at h;split at h;cases h;rename_i l;have e:=(pT (a/avC a b) 128).1 Om;have i:=(pT (b/avC a b) 128).1 Om;injection h with h
 subst h;refine⟨⟨by omega,by omega⟩,bE _,bE _,?_,?_⟩;show(aM _).length<=_;rw[bJ];omega;show(aM _).length<=_;rw[bJ];omega
theorem uz{x y r:FV}(h:jN x y=.ok r):r.rf.Ok:=by
 obtain⟨e,a1,b1⟩:=x;obtain⟨i,a2,b2⟩:=y;simp only[jN]at h;split at h;split at h;exact(zJ h).2;split at h;exact(zJ h).2;exact(zJ h).2;cases h
theorem be{α β:Type}{f:β->α->Except Int β}(l:List α)(b:β){k:Nat}(h:k<Z' l):(l.take (k+1)).foldlM f b=((l.take k).foldlM f b).bind λx=>f x l[k]:=by
 rw[awP h,List.foldlM_append];cases(l.take k).foldlM f b with
 |error e=>rfl
 |ok x =>show([l[k]]:List α).foldlM f x=f x l[k];rw[List.foldlM_cons];cases f x l[k]<;>rfl
theorem np{α β:Type}{f:β->α->Except Int β}(l:List α)(b:β){k:Nat}{e:Int}(h:(l.take k).foldlM f b=.error e):l.foldlM f b=.error e:=by
 conv=>lhs;rw[<-ayK k l,List.foldlM_append,h]
 rfl
def abA(l:List RF)(o2 o4:Nat)(k:Nat):PF:=((((((n_.set 2 (.ptr o2 3 0 0)).set 3 (.int .i64 0)).set 4 (.ptr o4 3 0 0)).set 11 (frs l)).set 12 (.int .i64 (Z' l:Nat))).set 13 (.int .i64 k))
def j9(o2 o4:Nat)(c:V_):PH:=(h_.set o2 (.rows 3 [[.bool false,.aJ,.aJ]])).set o4 (.rows 3 [c])
theorem aeU(L:NH C)(W:∀x y:RF,x.Ok->y.Ok->aH C 113 [.agg x.cells,.agg y.cells] .nil (aL (frV (jN x.v y.v))))(l:List RF)(hl:∀x∈l,x.Ok)(γ:Z' l<=9223372036854775807) :
  x6.wp C (aW vf.res (cC (frV (rT (l.map RF.v))))) (g_ [frs l]) .nil:=by
 simp only[go_sem,x6];refine aS λo2 δ=>?_;simp only[go_sem];refine aB (L.make 1 aU) rfl ?_;simp only[go_sem];refine aS λo4 X=>?_;have w:o4≠o2:=by rintro rfl;simp only[aP,if_true]at X;cases X
 have i:o2≠o4:=Ne.symm w;simp only[go_sem];refine wp_loop (α:=Nat × FV × PV) (λt=>abA l o2 o4 t.1) (λt=>j9 o2 o4 [.bool t.2.1.1,t.2.2,aN (aM t.2.1.2.2)]) (λt=>t.1<=Z' l/\((l.map RF.v).take t.1).foldlM jN (false,0,1)=.ok t.2.1/\(t.2.2=.aJ/\t.2.1.2.1=0\/t.2.2=aN (aM t.2.1.2.1))/\(FV.rf t.2.1).Ok) (λt=>Z' l-t.1)
  (0,(false,0,1),.aJ) ⟨auY _,rfl,.inl ⟨rfl,rfl⟩,⟨bE _,bE _,?_,?_⟩⟩ ?_ ?_ ?_
 ·show(aM 0).length<=_;rw[iO];simp
 ·show(aM 1).length<=_;rw[tH aU aU];simp
 ·unfold abA;exact lM
 ·unfold j9;exact e_ (e_ a_ (by simp only[go_sem,i,w])) (by simp only[go_sem,i,w])
 rintro⟨k,⟨V,Y,U⟩,cy⟩ ⟨hk,Z,S,N⟩;simp only at hk Z S N ⊢;have O:CoL [.bool V,cy,aN (aM U)] (FV.rf (V,Y,U)).cells:=by
  refine .cons (.refl _) (.cons ?_ (.cons (.refl _) .nil));rcases S with⟨rfl,rfl⟩|rfl
  ·show Co .aJ (aN (aM 0));rw[iO];exact .nil 1
  ·exact .refl _
 simp only[go_sem,abA];by_cases hlt:k<Z' l
 ·have E:(k:Int)<(Z' l:Nat):=Om;have hr:(l.map RF.cells)[k]?=some (l[k]).cells:=by simp[hlt]
  simp only[go_sem,E,hr];refine aS λo6 K=>?_;have F:o4≠o6:=by rintro rfl;simp only[j9,aP,if_true]at K;cases K
  have B:o2≠o6:=by rintro rfl;simp only[j9,aP,if_true,aC i]at K;cases K
  simp only[go_sem,j9,F,B,w,i];refine aB ((W (FV.rf (V,Y,U)) l[k] N (hl _ (avB hlt))).args (.cons (CoL.agg O) (.cons (.refl _) .nil))) rfl ?_;rw[FV.akV];have u:=be (f:=jN) (l.map RF.v) (false,0,1) (k:=k) (by simpa using hlt);rw[Z]at u;simp only[Except.bind,awW]at u;cases he:jN (V,Y,U) (l[k]).v with
  |error e=>
   simp only[go_sem,frV];refine aS λo7 A=>?_;have β:e≠0:=by
    revert he;obtain⟨n2,a2,b2⟩:=(l[k]).v;simp only[jN,kI]
    repeat' split
    all_goals (intro h;first|(injection h with h;subst h;decide)|cases h)
   have J:o2≠o7:=by rintro rfl;simp only[aP,B,i,if_true,if_false]at A;cases A
   simp only[go_sem,cY β,J,B,i];rw[he]at u;rw[rT,np _ _ u];refine kC ?_;simp only[go_sem,vf]
  |ok r=>
   obtain⟨rn,ra,rb⟩:=r;simp only[go_sem,frV];refine aS λo7 A=>?_;have M:o4≠o7:=by rintro rfl;simp only[aP,F,if_true,if_false]at A;cases A
   have J:o2≠o7:=by rintro rfl;simp only[aP,B,i,if_true,if_false]at A;cases A
   simp only[go_sem,M,J,F,B,w,i,Ne.symm M,wZz k];rw[he]at u;refine aE (k+1,(rn,ra,rb),aN (aM ra)) ⟨hlt,u,.inr rfl,uz he⟩ sO_ ?_ ?_
   ·exact Lq
   ·refine e_ (e_ a_ ?_) ?_
    ·simp only[go_sem,i,w,M,J,F,B]
    ·simp only[go_sem,i,w,M,J,F,B]
 ·have E:¬(k:Int)<(Z' l:Nat):=Om;have:k=Z' l:=Om;subst this;rw[avT aZ]at Z;rw[rT,Z];have R:cC (frV (.ok (V,Y,U))) (bL [.agg [.bool V,cy,aN (aM U)],.j 0]) .nil:=⟨CoL.tup (.cons (CoL.agg O) (.cons (.refl _) .nil)),rfl⟩;rcases S with⟨rfl,rfl⟩|rfl
  ·simp only[go_sem,E,j9,w,i];refine bC (.inr rfl) .nil ?_ a_ R;simp only[go_sem,vf,w,i]
  ·simp only[go_sem,E,j9,w,i];refine bC (.inr rfl) .nil ?_ a_ R;simp only[go_sem,vf,w,i]
def MM:=bP [] Proofs.Tryz.f197
def rL:=bV MM
def UY:=bP [] Proofs.Tryz.f227
def BJ:=bV UY
def VA:=bP [] Proofs.Tryz.f198
def br:=bV VA
def pt:=bP [] Proofs.Tryz.f156
def EF:=bV pt
def gin:=bP [] Proofs.Tryz.f96
def OI:=bV gin
def oa:=bP [1] Proofs.Tryz.f150
def bi:=bV oa
def N8:=bP [1] Proofs.Tryz.f149
def x8:=bV N8
def gone:=bP [1] Proofs.Tryz.f196
def ya:=bV gone
def Bw:=bP [] Proofs.Tryz.f151
def oe:=bV Bw
def Bx:=bP [] Proofs.Tryz.f193
def og:=bV Bx
def Bv:=bP [] Proofs.Tryz.f191
def oc:=bV Bv
def oi:=bP [] Proofs.Tryz.f192
def bj:=bV oi
def oK:=bP [1] Proofs.Tryz.f153
def fl:=aA oK 8
def IM:aI:=(jB (aA oK 9) 45 4 (aA oK 12) (sq (aA oK 10) (.region (aA oK 11))))
def UU:=aA oK 13
def IN:aI:=(jB (aA oK 5) 21 2 UU (sq (aA oK 6) (sq (aA oK 7) (dD fl 4 IM))))
def oj:aI:=(sq (aA oK 0) (sq (aA oK 1) (.seq (dD (aA oK 2) 0 (dY (aA oK 3) 15 0 (aA oK 14) (dD (aA oK 4) 2 IN))) (sq (aA oK 15) .ret))))
def uL:=bP [1] Proofs.Tryz.f98
def fm:=aA uL 10
def OJ:=aA uL 11
def OK:=aA uL 12
def AN:=aA uL 13
def x7:aI:=(sq (aA uL 0) (sq (aA uL 1) (kB (aA uL 2) 43 (aA uL 3) (.seq (dD (aA uL 4) 0 (jB (aA uL 5) 48 0 (aA uL 9) (sq (aA uL 6) (sq (aA uL 7) (.cond (Tm 67) (sq (aA uL 8) .ret) .skip))))) (sq fm (sq OJ (sq OK (sq AN .ret))))))))
def B0:=bP [] Proofs.Tryz.f100
def ou:=bV B0
def Ep:=bP [1] Proofs.Tryz.f97
def UT:=bV Ep
def By:=bP [] Proofs.Tryz.f194
def oo:=bV By
def N9:=bP [7] Proofs.Tryz.f154
def x9:=bV N9
def oq:=bP [1] Proofs.Tryz.f195
def bn:=bV oq
def Bz:=bP [6,7] Proofs.Tryz.f155
def ot:=bV Bz
def Oa:=bP [2] Proofs.Tryz.f99
def yb:=bV Oa
def gJ:=bP [1,76,94,128,141,183,204] Proofs.Tryz.f49
def vh:=aA gJ 5
def ON:aI:=(jB (aA gJ 6) 70 0 (aA gJ 10) (sq (aA gJ 7) (sq (aA gJ 8) (.region (aA gJ 9)))))
def ft:=aA gJ 11
def OO:aI:=(jB (aA gJ 12) 88 2 (aA gJ 16) (sq (aA gJ 13) (sq (aA gJ 14) (.region (aA gJ 15)))))
def fv:=aA gJ 17
def OP:aI:=(jB (aA gJ 18) 122 4 (aA gJ 21) (sq (aA gJ 19) (.region (aA gJ 20))))
def fw:=aA gJ 22
def OQ:aI:=(jB (aA gJ 23) 135 6 (aA gJ 27) (sq (aA gJ 24) (sq (aA gJ 25) (.region (aA gJ 26)))))
def fx:=aA gJ 28
def OR:aI:=(jB (aA gJ 29) 177 8 (aA gJ 33) (sq (aA gJ 30) (sq (aA gJ 31) (.region (aA gJ 32)))))
def fy:=aA gJ 34
def OS:aI:=(jB (aA gJ 35) 198 10 (aA gJ 39) (sq (aA gJ 36) (sq (aA gJ 37) (.region (aA gJ 38)))))
def HB:=aA gJ 40
def sF:=aA gJ 41
def OT:=aA gJ 42
def yc:aI:=(sq (aA gJ 0) (kB (aA gJ 1) 65 (aA gJ 2) (sq (aA gJ 3) (sq (aA gJ 4) (.seq (dD vh 0 ON) (.seq (dD ft 2 OO) (.seq (dD fv 4 OP) (.seq (dD fw 6 OQ) (.seq (dD fx 8 OR) (.seq (dD fy 10 OS) (kB HB 243 sF (sq OT .ret))))))))))))
@[go_sem] theorem anD(a b:List UInt8):LY .eql a b=some (.bool (a==b)):=(rfl)
@[go_sem] theorem anE(a b:List UInt8):LY .neq a b=some (.bool !(a==b)):=(rfl)
@[go_sem] theorem Nf(a b:List UInt8):LY .add a b=if((Z' a+Z' b:Nat):Int)>9223372036854775807 then none else some (.str (a++b)):=(rfl)
@[go_sem] theorem aiY:(([]:List UInt8)==[])=true:=(rfl)
@[go_sem] theorem adX(c:UInt8)(t:List UInt8):((c::t)==[])=false:=(rfl)
theorem vH{a b:List UInt8}(h:a=b):(a==b)=true:=by simp[h]
theorem me{a b:List UInt8}(h:a≠b):(a==b)=false:=by simp[h]
section
variable {C:Ctx} {F:PF} {H:PH}
theorem tN{name o s:Nat}{rs:P2_}{vs:V_}{v:PV}{args:List aR}{d:O_}{K:K_}(h:aH C name vs .nil (aL v))(l:H o=some (.rows s rs))
  (i:aR.evs (F.frz o s rs) args=some vs) (e:K ((F.frz o s rs).put d v) (H.frz o s rs)):jS C name args [] d K F H:=by
 refine .inr ⟨_,_,.step o l (.refl _ _),vs,.nil,aL v,?_,a_,h,?_⟩;rw[i];simp;rintro r H' ⟨rfl,rfl⟩ -;rw[PH.xS];exact e
theorem jH.trans{e i l:PF}{u H2 w:PH}(h:jH e u i H2)(k:jH i H2 l w):jH e u l w:=by
 induction h with
 |refl=>exact k
 |step o x h y=>exact .step o x (y k)
theorem wF{c:aI}{K:bZ}{s:Nat}{v:PV}{rows:P2_}(O:bF H s v rows)
  (h:∀l,Seen s l rows->∀e w,(∀t,F t=some v->e t=some l)->(∀i u,F i=some u->Pure u->e i=some u)->aI.wp C (.loop c) K e w):aI.wp C (.loop c) K F H:=by
 obtain⟨l,R,N⟩:=O.frz;obtain⟨e,w,S,J,M⟩:=N F;obtain⟨α,A,Hs,B,m,E,y,H2,x,rest⟩:=h l R e w J M;exact⟨α,A,Hs,B,m,E,y,H2,S.trans x,rest⟩
theorem aH.Qk{name s:Nat}{v:PV}{rows:P2_}{e:PH}{R:R_}(h:aH C name [.sl s rows] e R)(i:Seen s v rows):aH C name [v] e R:=by
 rcases i with⟨rfl,rfl⟩|rfl
 ·refine h.args ⟨rfl,λj p q hp hq=>?_⟩;cases j with
  |zero=>simp at hp hq;subst hp;subst hq;exact .nil s
  |succ j=>simp at hp
 exact h
theorem bF.fresh{s:Nat}{v:PV}{rows:P2_}{o:Nat}(h:bF H s v rows)(u:H o=none)(x:aV):bF (H.set o x) s v rows/\∀l,v≠.osl o s 0 l:=by
 refine⟨h.ext λq y hq=>?_,λl e=>?_⟩;have:q≠o:=by rintro rfl;rw[u]at hq;cases hq
 simp only[aP,aC this,hq];rcases h with⟨_,i⟩|⟨q,rs,h1,i,_⟩
 rw[i]at e;cases e;rw[h1]at e;injection e with w
 subst w;rw[u]at i;cases i
theorem rF{s b:Nat}{v:PV}{rows:P2_}{r:V_}{o:Nat}{x:aV}{K:R_}(h:bF H s v rows)(w:H o=none)(y:roomFor rows.length 1 b)
  (u:∀v' H',bF H' s v' (rows++[r])->H' o=some x->K v' H'):kJ (H.set o x) s b v (.sl s [r]) K:=by
 obtain⟨e,i⟩:=h.fresh w x;refine eX (src:=[r]) e (by simp[dH]) y λv' H' l hp=>u v' H' l (hp o x (by simp only[aP,if_true]) i)
theorem AM{o s k:Nat}{rs:P2_}(e:k<=Z' rs):PV.frz o s rs (.osl o s 0 k)=.sl s (rs.take k):=by
 have:0+k<=Z' rs:=Om;simp only[PV.frz,PV.qR,PV.dL,if_true,true_and,aF this,awM]
end
def gP(n:Nat):Bool:=decide (97<=n)&&decide (n<=122)||decide (65<=n)&&decide (n<=90)
def qA(n:Nat):Bool:=decide (48<=n)&&decide (n<=57)
def iJ(n:Nat):Bool:=gP n||qA n||decide (n=45)||decide (n=46)
theorem Oy(n:Nat):rL.wp C (aW MM.res (aL (.bool (gP n)))) (g_ [.int .u8 n]) .nil:=by
 have fin:∀(F:PF)(b:Bool),F 2=some (.bool b)->b=gP n->aW MM.res (aL (.bool (gP n))) .ret F .nil:=by intro F b h e;subst e;refine dN (.inr rfl) (vs:=[.bool (gP n)]) (by simp only[go_sem,MM,h]) rfl
 unfold gP at *
 by_cases a:97<=n;have i:(n:Int)>=97:=Om;by_cases b:n<=122;have u:(n:Int)<=122:=Om;simp only[go_sem,rL,i,u];exact fin _ _ rfl (by simp[a,b]);have u:¬(n:Int)<=122:=Om;by_cases c:65<=n;have l:(n:Int)>=65:=Om;have d:¬(n:Int)<=90:=Om;simp only[go_sem,rL,i,u,l,d];exact fin _ _ rfl (by simp[a,b,c];omega);omega;have i:¬(n:Int)>=97:=Om;by_cases c:65<=n;have l:(n:Int)>=65:=Om;by_cases d:n<=90;have w:(n:Int)<=90:=Om;simp only[go_sem,rL,i,l,w];exact fin _ _ rfl (by simp[a,c,d]);have w:¬(n:Int)<=90:=Om;simp only[go_sem,rL,i,l,w];exact fin _ _ rfl (by simp[a,c,d]);have l:¬(n:Int)>=65:=Om;simp only[go_sem,rL,i,l];exact fin _ _ rfl (by simp[a,c])
theorem Tl(n:Nat):BJ.wp C (aW UY.res (aL (.bool (qA n)))) (g_ [.int .u8 n]) .nil:=by
 have fin:∀(F:PF)(b:Bool),F 2=some (.bool b)->b=qA n->aW UY.res (aL (.bool (qA n))) .ret F .nil:=by intro F b h e;subst e;refine dN (.inr rfl) (vs:=[.bool (qA n)]) (by simp only[go_sem,UY,h]) rfl
 unfold qA at *
 by_cases a:48<=n;have i:(n:Int)>=48:=Om;by_cases b:n<=57;have l:(n:Int)<=57:=Om;simp only[go_sem,BJ,i,l];exact fin _ _ rfl (by simp[a,b]);have l:¬(n:Int)<=57:=Om;simp only[go_sem,BJ,i,l];exact fin _ _ rfl (by simp[a,b]);have i:¬(n:Int)>=48:=Om;simp only[go_sem,BJ,i];exact fin _ _ rfl (by simp[a])
theorem Tr(u:∀n:Nat,aH C 126 [.int .u8 n] .nil (aL (.bool (gP n))))(w:∀n:Nat,aH C 124 [.int .u8 n] .nil (aL (.bool (qA n))))(n:Nat) :
  br.wp C (aW VA.res (aL (.bool (iJ n)))) (g_ [.int .u8 n]) .nil:=by
 have fin:∀(F:PF)(b:Bool),F 2=some (.bool b)->b=iJ n->aW VA.res (aL (.bool (iJ n))) .ret F .nil:=by intro F b h e;subst e;refine dN (.inr rfl) (vs:=[.bool (iJ n)]) (by simp only[go_sem,VA,h]) rfl
 simp only[go_sem,br];refine aB (u n) rfl ?_;cases l:gP n with
 |true =>simp only[go_sem];exact fin _ _ rfl (by simp[iJ,l])
 |false=>
  simp only[go_sem];refine aB (w n) rfl ?_;cases i:qA n with
  |true =>simp only[go_sem];exact fin _ _ rfl (by simp[iJ,i])
  |false =>by_cases c:n=45;simp only[go_sem,bN (Om:(n:Int)=45)];exact fin _ _ rfl (by simp[iJ,c]);by_cases d:n=46;simp only[go_sem,bA (Om:(n:Int)≠45),bN (Om:(n:Int)=46)];exact fin _ _ rfl (by simp[iJ,d]);simp only[go_sem,bA (Om:(n:Int)≠45),bA (Om:(n:Int)≠46)];exact fin _ _ rfl (by simp[iJ,c,d,l,i])
def isName(s:List UInt8):Bool:=match s with
 |[]=>false
 |c::_=>decide (Z' s<=16)&&gP c.toNat&&s.all λc=>iJ c.toNat
theorem uE{α:Type}{p:α->Bool}{l:List α}{k:Nat}(e:k<Z' l)(h:(l.take k).all p=true)(hp:p l[k]=true):(l.take (k+1)).all p=true:=by
 rw[awP e,List.all_append,h];simp[hp]
theorem uF{α:Type}{p:α->Bool}{l:List α}{k:Nat}(e:k<Z' l)(hp:p l[k]=false):l.all p=false:=by
 rw[List.all_eq_false];exact⟨l[k],avB e,by simp[hp]⟩
def Fh(s:List UInt8)(k:Nat):PF:=((n_.set 0 (.str s)).set 3 (.int .i64 k))
theorem Y3(B:∀n:Nat,aH C 126 [.int .u8 n] .nil (aL (.bool (gP n))))(E:∀n:Nat,aH C 125 [.int .u8 n] .nil (aL (.bool (iJ n))))(s:List UInt8) :
  EF.wp C (aW pt.res (aL (.bool (isName s)))) (g_ [.str s]) .nil:=by
 have fin:∀(F:PF)(b:Bool),F 2=some (.bool b)->b=isName s->aW pt.res (aL (.bool (isName s))) .ret F .nil:=by intro F b h e;subst e;refine dN (.inr rfl) (vs:=[.bool (isName s)]) (by simp only[go_sem,pt,h]) rfl
 cases s with
 |nil =>simp only[go_sem,EF];exact fin _ _ rfl rfl
 |cons c t=>
  have K:(c::t)[0]?=some c:=rfl;have w:(c::t==[])=false:=rfl;have u:isName (c::t)=(decide ((c::t).length<=16)&&gP c.toNat&&(c::t).all λc=>iJ c.toNat):=rfl;generalize c::t=s at *
  by_cases A:Z' s<=16
  ·have l:¬(Z' s:Int)>16:=Om;rw[bG A,avR]at u;simp only[go_sem,EF,w,l,K,avS];refine aB (B c.toNat) rfl ?_;cases y:gP c.toNat with
   |false =>simp only[go_sem,avP];exact fin _ _ rfl (by rw[u,y];rfl)
   |true=>
    rw[y,avR]at u;simp only[go_sem,avH];refine wp_loop (α:=Nat) (λk=>Fh s k) (λ_=>.nil) (λk=>k<=Z' s/\(s.take k).all (λc=>iJ c.toNat)=true) (λk=>Z' s-k) 0 ⟨auY _,rfl⟩ ?_ a_ ?_;unfold Fh;exact Lq;rintro k ⟨M,x⟩;simp only[go_sem,Fh];by_cases hlt:k<Z' s
    ·have i:(k:Int)<(Z' s:Nat):=Om;have J:s[k]?=some s[k]:=avF hlt;simp only[go_sem,i,J,avS];refine aB (E (s[k]).toNat) rfl ?_;cases hi:iJ (s[k]).toNat with
     |false =>simp only[go_sem,avP];refine fin _ false rfl ?_;rw[u,uF hlt hi]
     |true =>simp only[go_sem,avH,wZz k];refine aE (k+1) ⟨hlt,awA.1 (uE hlt x hi)⟩ Om ?_ a_;exact Lq
    have i:¬(k:Int)<(Z' s:Nat):=Om;simp only[go_sem,i];have:k=Z' s:=Om;subst this;rw[avT (avD _)]at x;exact fin _ true rfl (by rw[u,x])
  have l:(Z' s:Int)>16:=Om;simp only[go_sem,EF,w,l];exact fin _ _ rfl (by rw[u,bS A];rfl)
abbrev eI(x:Int):Prop:=-9223372036854775808<=x/\x<=9223372036854775807
structure cU where
 name:List UInt8
 start:List RF
 atM:List (List RF)
 exit:List RF
structure dR where
 name:List UInt8
 auA:Int
 port:Int
 law:Int
structure cR where
 name:List UInt8
 level:Int
 parent:Int
 auE:Int
 atZ:RF
structure eP where
 name:List UInt8
 model:Int
 machine:Int
structure cO where
 name:List UInt8
 k:Int
 m:Int
 auI:Int
 s0:Int
 s1:Int
 s2:Int
 s3:Int
 s4:Int
 atI:I_
 repair:List RF
 target:RF
 atU:RF
structure gN where
 name:List UInt8
 atW:Int
structure aD where
 auO:Int
 atQ:List cU
 atI:List dR
 atK:List cR
 atH:List eP
 atL:List cO
 atJ:List gN
abbrev I(x:Int):PV:=.int .i64 x
abbrev Qe(l:List (List RF)):PV:=.sl 1 (l.map λr=>[frs r])
abbrev cU.cells(x:cU):V_:=[.str x.name,frs x.start,Qe x.atM,frs x.exit]
abbrev dR.cells(x:dR):V_:=[.str x.name,.int .i64 x.auA,.int .i64 x.port,.int .i64 x.law]
abbrev cR.cells(x:cR):V_:=[.str x.name,.int .i64 x.level,.int .i64 x.parent,.int .i64 x.auE,.bool x.atZ.neg,aN x.atZ.num,aN x.atZ.den]
abbrev eP.cells(x:eP):V_:=[.str x.name,.int .i64 x.model,.int .i64 x.machine]
abbrev cO.cells(x:cO):V_:=[.str x.name,.int .i64 x.k,.int .i64 x.m,.int .i64 x.auI,.int .i64 x.s0,.int .i64 x.s1,.int .i64 x.s2,.int .i64 x.s3,.int .i64 x.s4,ints x.atI,frs x.repair,
 .bool x.target.neg,aN x.target.num,aN x.target.den,.bool x.atU.neg,aN x.atU.num,aN x.atU.den]
abbrev gN.cells(x:gN):V_:=[.str x.name,.int .i64 x.atW]
abbrev aD.cells(f:aD):V_:=[.int .i64 f.auO,.sl 4 (f.atQ.map cU.cells),.sl 4 (f.atI.map dR.cells),.sl 7 (f.atK.map cR.cells),.sl 3 (f.atH.map eP.cells),.sl 17 (f.atL.map cO.cells),.sl 2 (f.atJ.map gN.cells)]
def cO.spread(p:cO)(level:Nat):Int:=match level with
 |0=>p.s0
 |1=>p.s1
 |2=>p.s2
 |3=>p.s3
 |_=>p.s4
abbrev Fits{α:Type}(l:List α):Prop:=Z' l<=9223372036854775807
structure mP(l:List RF):Prop where
 fits:Fits l
 all:∀x∈l,x.Ok
structure cU.Ok(x:cU):Prop where
 start:mP x.start
 exit:mP x.exit
 atM:Fits x.atM
 row:∀r∈x.atM,mP r
structure cO.Ok(x:cO):Prop where
 k:eI x.k
 m:eI x.m
 auI:eI x.auI
 atI:Fits x.atI
 each:∀m∈x.atI,eI m
 repair:mP x.repair
 target:x.target.Ok
 atU:x.atU.Ok
structure aD.Ok(f:aD):Prop where
 atQ:Fits f.atQ
 atI:Fits f.atI
 atK:Fits f.atK
 atH:Fits f.atH
 atL:Fits f.atL
 atJ:Fits f.atJ
 law:∀x∈f.atQ,x.Ok
 dom:∀x∈f.atK,x.atZ.Ok/\eI x.level/\eI x.parent
 drive:∀x∈f.atH,eI x.model/\eI x.machine
 atW:∀x∈f.atL,x.Ok
 volume:∀x∈f.atJ,eI x.atW
def sM(x:RF):FR:=if dU (val x.num) (val x.den)then kI x.neg (val x.num) (val x.den)else .error 1
theorem P5(x:RF):ZF x.neg (val x.num) (val x.den)=frV (sM x):=by
 unfold ZF sM;split;exact vp _ _ _;rfl
def dS(x:RF):Bool:=match sM x with
 | .ok (n,a,b)=>!n&&(decide (dC a<=32)&&decide (dC b<=32))
 | .error _=>false
def bW(x:RF):Bool:=decide (val x.num≠0)
def DG(x:RF):Bool:=dU (val x.num) (val x.den)&&decide (uQ x.neg (val x.num) (val x.den) false 1 1<=0)
def within(n lo hi:Int):Bool:=decide (lo<=n)&&decide (n<=hi)
def dA(R:List Bool)(i:Nat)(row:List RF):Nat->List Bool
 |0=>R
 |k+1=>let e:=dA R i row k
  e.set i (e.getD i false||(row.map bW).getD k false&&e.getD k false)
def nY(l:cU)(R:List Bool)(i:Nat):List Bool:=
 dA (R.set i (R.getD i false||(l.exit.map bW).getD i false)) i (l.atM.getD i []) (l.atM.getD i []).length
def eA(l:cU)(R:List Bool):Nat->List Bool
 |0=>R
 |i+1=>nY l (eA l R i) i
def eD(l:cU):Nat->List Bool
 |0=>avA l.exit.length false
 |r+1=>eA l (eD l r) l.exit.length
def tT(l:cU):Bool:=(eD l (Z' l.exit+1)).all id
def nE(l:cU):Bool:=
 within l.start.length 1 4&&decide (Z' l.exit=Z' l.start)&&decide (Z' l.atM=Z' l.start)&&l.start.all dS&&l.exit.all dS
 && (auX l.atM.length).all (λi=>decide ((l.atM.getD i []).length=Z' l.start)&&(l.atM.getD i []).all dS&&!((l.atM.getD i []).map bW).getD i false)
 && (match rT (l.start.map RF.v)with
  | .ok (n,a,b)=>decide (uQ n a b false 1 1=0)
  | .error _=>false)&&tT l
def distinct(l:List (List UInt8)):Bool:=(auX l.length).all λi=>isName (l.getD i [])&&!(l.take i).contains (l.getD i [])
def NY(f:aD)(i:Nat)(d:cR):Bool:=
 within d.parent 0 i&&decide ((f.atK.map cR.level).getD d.parent.toNat 0=i_.wrap (d.level-1))&&within d.level 1 4&&within d.auE 1 64&&dS d.atZ
def IJ(f:aD)(r:cR)(t:List cR):Bool:=
 decide (r.name=[])&&decide (r.level=0)&&decide (r.parent=-1)&&decide (r.auE=0)&&dS r.atZ&&!bW r.atZ
  && (auX t.length).all λi=>match t[i]? with
   |some d=>NY f i d
   |none=>false
def sD(f:aD):Bool:=match f.atK with
 |[]=>false
 |r::t=>IJ f r t
def QG(p:cO):Bool:=
 within p.k 1 6&&within p.m 0 4&&decide (p.k+p.m<=8)&&within p.auI p.k (p.k+p.m)&&decide (p.s0=0)&&([p.s0,p.s1,p.s2,p.s3,p.s4].all λn=>within n 0 8)
def IW(p:cO):Bool:=
 decide ((Z' p.repair:Int)=max p.m 1)&&(p.repair.all λx=>dS x&&bW x)&&dS p.target&&DG p.target&&dS p.atU
def lT(atI:Nat)(p:cO):Bool:=
 QG p&&decide (Z' p.atI≠0)&&IW p&&(auX p.atI.length).all λj=>within (p.atI.getD j 0) 0 ((atI:Int)-1)&&!(p.atI.take j).contains (p.atI.getD j 0)
def nF(f:aD)(m:dR):Bool:=within m.auA 1 16&&within m.port 1 64&&within m.law 0 ((Z' f.atQ:Int)-1)
def kN(f:aD)(d:eP):Bool:=within d.model 0 ((Z' f.atI:Int)-1)&&within d.machine 0 ((Z' f.atK:Int)-1)&&decide ((f.atK.map cR.level).getD d.machine.toNat 0=4)
def sR(f:aD)(v:gN):Bool:=within v.atW 0 ((Z' f.atL:Int)-1)
def rR(f:aD):Bool:=within f.auO 1 4&&decide (Z' f.atQ<=4)&&decide (Z' f.atI<=4)&&decide (Z' f.atK<=40)&&decide (Z' f.atH<=24)&&decide (Z' f.atL<=4)&&decide (Z' f.atJ<=12)
def cM(f:aD):Bool:=
 rR f&&sD f&&(f.atQ.all nE&&f.atI.all (nF f)&&f.atH.all (kN f)&&f.atL.all (lT f.atI.length)&&f.atJ.all (sR f))
 && (distinct (f.atQ.map cU.name)&&distinct (f.atI.map dR.name)&&distinct ((f.atK.drop 1).map cR.name++f.atH.map eP.name)&&distinct (f.atL.map cO.name)&&distinct (f.atJ.map gN.name))
theorem bM{t:Nat}{b i:Bool}{F:PF}{H:PH}(h:F t=some (.bool b))(e:b=i):aW [.tmp t] (cC (.bool i)) .ret F H:=by
 subst e;exact bC (.inr rfl) .nil (vs:=[.bool b]) (by rw[nZ,rP,h,tK]) a_ ⟨.refl _,rfl⟩
theorem ajZ(n lo hi:Int):OI.wp C (aW gin.res (cC (.bool (within n lo hi)))) (g_ [.j n,.j lo,.j hi]) .nil:=by
 by_cases a:lo<=n;by_cases b:n<=hi;simp only[go_sem,OI,gin,show n>=lo from a,b];exact bM Ev (by simp[within,a,b]);simp only[go_sem,OI,gin,show n>=lo from a,b];exact bM Ev (by simp[within,a,b]);have e:¬n>=lo:=a;simp only[go_sem,OI,gin,e];exact bM Ev (by simp[within,a])
theorem S9(L:yX C)(x:RF)(e:x.Ok):bi.wp C (aW oa.res (cC (.bool (bW x)))) (g_ [.agg x.cells]) .nil:=by
 simp only[go_sem,bi,oa];refine aB (L.bits x.num e.1 e.2.2.1) Ev ?_;simp only[go_sem];refine bM Ev ?_;have:=@nB (val x.num);rw[bW,decide_eq_decide];omega
structure DL(C:Ctx):Prop extends NH C where
 frac:∀n d:Int,eI n->eI d->aH C 115 [.int .i64 n,.int .i64 d] .nil (aL (YV n d))
 red:∀x:RF,x.Ok->aH C 116 [.agg x.cells] .nil (aL (frV (sM x)))
 ord:∀x y:RF,x.Ok->y.Ok->aH C 114 [.agg x.cells,.agg y.cells] .nil (aL (DZ x.neg (val x.num) (val x.den) y.neg (val y.num) (val y.den)))
 plus:∀x y:RF,x.Ok->y.Ok->aH C 113 [.agg x.cells,.agg y.cells] .nil (aL (frV (jN x.v y.v)))
 tot:∀l:List RF,mP l->aH C 117 [frs l] .nil (aL (frV (rT (l.map RF.v))))
theorem PI{neg:Bool}{a b:Nat}{e:Int}(h:kI neg a b=.error e):e=2:=by
 unfold kI at h;split at h;injection h with h;exact h.symm
 cases h
theorem Hi{x:RF}{e:Int}(h:sM x=.error e):e≠0:=by
 unfold sM at h;split at h;rw[PI h];decide;injection h with h;subst h;decide
theorem ahE{x:RF}{r:FV}(h:sM x=.ok r):r.rf.Ok:=by
 unfold sM at h;split at h;exact(zJ h).2;cases h
theorem afA(L:DL C)(x:RF)(y:x.Ok):x8.wp C (aW N8.res (cC (.bool (dS x)))) (g_ [.agg x.cells]) .nil:=by
 simp only[go_sem,x8,N8];refine aB (L.red x y) Ev ?_;unfold dS;cases u:sM x with
 |error e =>have:=bA (Hi u);simp only[go_sem,frV];refine aS λo w=>?_;simp only[go_sem,this];exact bM Ev rfl
 |ok r=>
  obtain⟨n,a,b⟩:=r;obtain⟨A,B,E,F⟩:=ahE u;simp only[go_sem,frV];refine aS λo w=>?_;cases n with
  |true =>simp only[go_sem];exact bM Ev rfl
  |false =>simp only[go_sem];refine aB (L.bits _ A E) Ev ?_;rw[show val (FV.rf (false,a,b)).num=a from aY a];by_cases l:dC a<=32;have i:((dC a:Nat):Int)<=32:=Om;simp only[go_sem,i];refine aB (L.bits _ B F) Ev ?_;rw[show val (FV.rf (false,a,b)).den=b from aY b];simp only[go_sem];refine bM Ev ?_;rw[bG l];simp;omega;have i:¬((dC a:Nat):Int)<=32:=Om;simp only[go_sem,i];refine bM Ev ?_;rw[bS l];rfl
theorem Fl:kI false 1 1=.ok (false,1,1):=by
 have:dC 1=1:=by rw[uH aU,mE]
 simp[kI,this]
theorem Fq:YV 1 1=frV (.ok (false,1,1)):=by
 rw[YV,aC aU,vp];show frV (kI false 1 1)=_;rw[Fl]
theorem Uh:(FV.rf (false,1,1)).Ok:=(zJ Fl).2
theorem Au:dU 1 1=true:=by
 have:dC 1=1:=by rw[uH aU,mE]
 simp[dU,this]
theorem afC(L:DL C)(x:RF)(e:x.Ok):ya.wp C (aW gone.res (cC (.bool (DG x)))) (g_ [.agg x.cells]) .nil:=by
 simp only[go_sem,ya,gone];refine aB (L.frac 1 1 aU aU) Ev ?_;rw[Fq];simp only[go_sem,frV];refine aS λo i=>?_;simp only[go_sem];refine aB (L.ord x (FV.rf (false,1,1)) e Uh) Ev ?_;rw[show val (FV.rf (false,1,1)).num=1 from aY 1,show val (FV.rf (false,1,1)).den=1 from aY 1,show(FV.rf (false,1,1)).neg=false from rfl];unfold DZ DG;rw[Au,axP];cases l:dU (val x.num) (val x.den)with
 |false =>simp only[go_sem];exact bM Ev rfl
 |true =>simp only[go_sem];exact bM Ev rfl
theorem Yb(p:RF->Bool)(fn:Nat)(l:List RF)(w:Fits l)(h:∀x∈l,aH C fn [.agg x.cells] .nil (aL (.bool (p x)))) :
  oe.wp C (aW Bw.res (cC (.bool (l.all p)))) (g_ [frs l,.fn fn []]) .nil:=by
 simp only[go_sem,oe,Bw];refine wp_loop (α:=Nat) (λk=>((((n_.set 1 (.fn fn [])).set 7 (frs l)).set 8 (.j (Z' l:Nat))).set 9 (.j k))) (λ_=>.nil) (λk=>k<=Z' l/\(l.take k).all p=true) (λk=>Z' l-k) 0 ⟨auY _,rfl⟩ ?_ a_ ?_;exact lM;rintro k ⟨y,i⟩;simp only[go_sem];by_cases hlt:k<Z' l
 ·have e:(k:Int)<(Z' l:Nat):=Om;have u:(l.map RF.cells)[k]?=some (l[k]).cells:=by simp[hlt]
  simp only[go_sem,e,u];refine aS λo A=>?_;simp only[go_sem];refine aB (h _ (avB hlt)) Ev ?_;cases hp:p l[k]with
  |false =>simp only[go_sem];exact bM (b:=false) Ev (uF (p:=p) hlt hp).symm
  |true =>simp only[go_sem,wZz k];refine aE (k+1) ⟨hlt,awA.1 (uE hlt i hp)⟩ Om ?_ a_;exact Lq
 have e:¬(k:Int)<(Z' l:Nat):=Om;simp only[go_sem,e];have:k=Z' l:=Om;subst this;rw[avT (avD _)]at i;exact bM Ev i.symm
theorem Yc(p:Int->Bool)(fn:Nat)(l:I_)(w:Fits l)(h:∀x∈l,aH C fn [.j x] .nil (aL (.bool (p x)))) :
  og.wp C (aW Bx.res (cC (.bool (l.all p)))) (g_ [ints l,.fn fn []]) .nil:=by
 simp only[go_sem,og,Bx];refine wp_loop (α:=Nat) (λk=>((((n_.set 1 (.fn fn [])).set 7 (ints l)).set 8 (.j (Z' l:Nat))).set 9 (.j k))) (λ_=>.nil) (λk=>k<=Z' l/\(l.take k).all p=true) (λk=>Z' l-k) 0 ⟨auY _,rfl⟩ ?_ a_ ?_;exact lM;rintro k ⟨y,i⟩;simp only[go_sem];by_cases hlt:k<Z' l
 ·have e:(k:Int)<(Z' l:Nat):=Om;have u:(l.map λn=>[PV.int .i64 n])[k]?=some [.j l[k]]:=by simp[hlt]
  simp only[go_sem,e,u];refine aB (h _ (avB hlt)) Ev ?_;cases hp:p l[k]with
  |false =>simp only[go_sem];exact bM (b:=false) Ev (uF (p:=p) hlt hp).symm
  |true =>simp only[go_sem,wZz k];refine aE (k+1) ⟨hlt,awA.1 (uE hlt i hp)⟩ Om ?_ a_;exact Lq
 have e:¬(k:Int)<(Z' l:Nat):=Om;simp only[go_sem,e];have:k=Z' l:=Om;subst this;rw[avT (avD _)]at i;exact bM Ev i.symm
abbrev Ng(l:List Bool):PV:=.sl 1 (l.map λb=>[PV.bool b])
theorem Ya(p:Bool->Bool)(fn:Nat)(l:List Bool)(w:Fits l)(h:∀x∈l,aH C fn [.bool x] .nil (aL (.bool (p x)))) :
  oc.wp C (aW Bv.res (cC (.bool (l.all p)))) (g_ [Ng l,.fn fn []]) .nil:=by
 simp only[go_sem,oc,Bv];refine wp_loop (α:=Nat) (λk=>((((n_.set 1 (.fn fn [])).set 7 (Ng l)).set 8 (.j (Z' l:Nat))).set 9 (.j k))) (λ_=>.nil) (λk=>k<=Z' l/\(l.take k).all p=true) (λk=>Z' l-k) 0 ⟨auY _,rfl⟩ ?_ a_ ?_;exact lM;rintro k ⟨y,i⟩;simp only[go_sem];by_cases hlt:k<Z' l
 ·have e:(k:Int)<(Z' l:Nat):=Om;have u:(l.map λb=>[PV.bool b])[k]?=some [.bool l[k]]:=by simp[hlt]
  simp only[go_sem,e,u];refine aB (h _ (avB hlt)) Ev ?_;cases hp:p l[k]with
  |false =>simp only[go_sem];exact bM (b:=false) Ev (uF (p:=p) hlt hp).symm
  |true =>simp only[go_sem,wZz k];refine aE (k+1) ⟨hlt,awA.1 (uE hlt i hp)⟩ Om ?_ a_;exact Lq
 have e:¬(k:Int)<(Z' l:Nat):=Om;simp only[go_sem,e];have:k=Z' l:=Om;subst this;rw[avT (avD _)]at i;exact bM Ev i.symm
theorem Ta(b:Bool):bj.wp C (aW oi.res (cC (.bool b))) (g_ [.bool b]) .nil:=by
 simp only[go_sem,bj,oi];exact bM Ev rfl
theorem Yf(e:∀n lo hi:Int,aH C 104 [.j n,.j lo,.j hi] .nil (aL (.bool (within n lo hi))))(n:Int):oo.wp C (aW By.res (cC (.bool (within n 0 8)))) (g_ [.j n]) .nil:=by
 simp only[go_sem,oo,By];refine aB (e n 0 8) Ev ?_;simp only[go_sem];exact bM Ev rfl
theorem Tc(i:∀x:RF,x.Ok->aH C 105 [.agg x.cells] .nil (aL (.bool (dS x))))(l:∀x:RF,x.Ok->aH C 97 [.agg x.cells] .nil (aL (.bool (bW x))))(x:RF)(e:x.Ok) :
  bn.wp C (aW oq.res (cC (.bool (dS x&&bW x)))) (g_ [.agg x.cells]) .nil:=by
 simp only[go_sem,bn,oq];refine aB (i x e) Ev ?_;cases u:dS x with
 |false =>simp only[go_sem];exact bM Ev rfl
 |true =>simp only[go_sem];refine aB (l x e) Ev ?_;simp only[go_sem];exact bM Ev rfl
structure yR(C:Ctx):Prop extends DL C where
 inn:∀n lo hi:Int,aH C 104 [.int .i64 n,.int .i64 lo,.int .i64 hi] .nil (aL (.bool (within n lo hi)))
 rZ:∀x:RF,x.Ok->aH C 97 [.agg x.cells] .nil (aL (.bool (bW x)))
 lim:∀x:RF,x.Ok->aH C 105 [.agg x.cells] .nil (aL (.bool (dS x)))
 one:∀x:RF,x.Ok->aH C 101 [.agg x.cells] .nil (aL (.bool (DG x)))
 allf:∀(p:RF->Bool)(fn:Nat)(l:List RF),Fits l->(∀x∈l,aH C fn [.agg x.cells] .nil (aL (.bool (p x))))->aH C 99 [frs l,.fn fn []] .nil (aL (.bool (l.all p)))
 alli:∀(p:Int->Bool)(fn:Nat)(l:I_),Fits l->(∀x∈l,aH C fn [.int .i64 x] .nil (aL (.bool (p x))))->aH C 100 [ints l,.fn fn []] .nil (aL (.bool (l.all p)))
 allb:∀(p:Bool->Bool)(fn:Nat)(l:List Bool),Fits l->(∀x∈l,aH C fn [.bool x] .nil (aL (.bool (p x))))->aH C 98 [Ng l,.fn fn []] .nil (aL (.bool (l.all p)))
 ends1:∀b:Bool,aH C 103 [.bool b] .nil (aL (.bool b))
 num1:∀n:Int,aH C 107 [.int .i64 n] .nil (aL (.bool (within n 0 8)))
 rate1:∀x:RF,x.Ok->aH C 109 [.agg x.cells] .nil (aL (.bool (dS x&&bW x)))
 name:∀s:List UInt8,aH C 123 [.str s] .nil (aL (.bool (isName s)))
theorem yR.Y2(L:yR C)(l:List RF)(h:mP l):aH C 99 [frs l,.fn 105 []] .nil (aL (.bool (l.all dS))):=
 L.allf dS 105 l h.fits λx e=>L.lim x (h.all x e)
theorem within_iff{n lo hi:Int}:within n lo hi=true↔lo<=n/\n<=hi:=by simp[within]
theorem afB(L:yR C)(p:cO)(hp:p.Ok) :
  x9.wp C (aW N9.res (cC (.bool (QG p)))) (g_ [.j p.k,.j p.m,.j p.auI,.agg [.j p.s0,.j p.s1,.j p.s2,.j p.s3,.j p.s4]]) .nil:=by
 simp only[go_sem,x9,N9];refine aB (L.inn p.k 1 6) rfl ?_;unfold QG;cases y:within p.k 1 6 with
 |false =>simp only[go_sem,avP];exact bM rfl (by simp only[avJ])
 |true=>
  obtain⟨k1,k2⟩:=within_iff.1 y;simp only[go_sem,avH];refine aB (L.inn p.m 0 4) rfl ?_;cases A:within p.m 0 4 with
  |false =>simp only[go_sem,avP];exact bM rfl (by simp only[avJ,awU])
  |true=>
   obtain⟨F,J⟩:=within_iff.1 A;have w:i_.wrap (p.k+p.m)=p.k+p.m:=wrap_i64 Om Om;by_cases u:p.k+p.m<=8
   ·have e:¬p.k+p.m>8:=Om;simp only[go_sem,avH,w,e];refine aB (L.inn p.auI p.k (p.k+p.m)) rfl ?_;cases E:within p.auI p.k (p.k+p.m)with
    |false =>simp only[go_sem,avP];exact bM rfl (by simp only[avJ,awU])
    |true=>
     have i:(0:Int)<((5:Nat):Int):=by decide
     by_cases h5:p.s0=0;have l:chunks 1 5 [PV.int .i64 p.s0,.j p.s1,.j p.s2,.j p.s3,.j p.s4]=([p.s0,p.s1,p.s2,p.s3,p.s4].map λn=>[PV.int .i64 n]):=rfl;have B:5<=maxLen:=by decide
     simp only[go_sem,avH,i,cF h5,l,B];refine aB (L.alli (λn=>within n 0 8) 107 [p.s0,p.s1,p.s2,p.s3,p.s4] (show 5<=9223372036854775807 by decide) λx _=>L.num1 x) rfl ?_;simp only[go_sem];exact bM rfl (by rw[bG u,bG h5];simp only[avR]);simp only[go_sem,avH,i,cY h5];exact bM rfl (by rw[bS h5];simp only[avJ,awU])
   have e:p.k+p.m>8:=Om;simp only[go_sem,avH,w,e];exact bM rfl (by rw[bS u];simp only[avJ,awU])
theorem max_eq(a b:Int):(if a<b then b else a)=max a b:=by
 rw[Int.max_def];by_cases h:a<b;rw[aF h,aF Om];by_cases e:a<=b;rw[aC h,aF e];omega;rw[aC h,aC e]
theorem Yg(L:yR C)(p:cO)(hp:p.Ok) :
  ot.wp C (aW Bz.res (cC (.bool (IW p)))) (g_ [.j p.m,frs p.repair,.agg p.target.cells,.agg p.atU.cells]) .nil:=by
 simp only[go_sem,ot,Bz,max_eq,auW];unfold IW;by_cases e:(Z' p.repair:Int)=max p.m 1
 ·simp only[go_sem,bN e];refine aB (L.allf (λx=>dS x&&bW x) 109 p.repair hp.repair.fits λx i=>L.rate1 x (hp.repair.all x i)) rfl ?_;rw[bG e,avR];cases l:p.repair.all λx=>dS x&&bW x with
  |false =>simp only[go_sem];exact bM rfl rfl
  |true=>
   simp only[go_sem];refine aB (L.lim _ hp.target) rfl ?_;cases u:dS p.target with
   |false =>simp only[go_sem];exact bM rfl rfl
   |true=>
    simp only[go_sem];refine aB (L.one _ hp.target) rfl ?_;cases w:DG p.target with
    |false =>simp only[go_sem];exact bM rfl rfl
    |true =>simp only[go_sem];refine aB (L.lim _ hp.atU) rfl ?_;simp only[go_sem];exact bM rfl rfl
 simp only[go_sem,bA e];exact bM rfl (by rw[bS e];rfl)
def wB(l:List (List UInt8))(k:List KS):Option PV:=match k with
 |[.str s]=>if l.contains s then some (.bool true)else none
 |_=>none
theorem Vo(l:List (List UInt8))(s:List UInt8):(λk=>if k=[KS.str s]then some (PV.bool true)else wB l k)=wB (l++[s]):=by
 funext k
 match k with
 |[]=>rfl
 |[.int a b]=>simp[wB]
 |[.bool a]=>simp[wB]
 |[.str t] =>by_cases h:t=s;subst h;simp[wB];simp[wB,h]
 |a::b::c=>simp[wB]
abbrev texts(l:List (List UInt8)):PV:=.sl 1 (l.map λs=>[PV.str s])
theorem Vn:wB []=(λ_=>none:lI):=by
 funext k
 match k with
 |[]=>rfl
 |[.int a b]=>rfl
 |[.bool a]=>rfl
 |[.str t]=>rfl
 |a::b::c=>cases a<;>rfl
theorem Vp(l:List (List UInt8))(s:List UInt8):lI.upd (wB l) [KS.str s] (.bool true)=wB (l++[s]):=Vo l s
theorem Hw(l:List (List UInt8))(s:List UInt8):(wB l [KS.str s]).getD (.bool false)=.bool (l.contains s):=by
 show(if l.contains s then some (PV.bool true)else none).getD (.bool false)=_;cases l.contains s<;>rfl
theorem ww{p:Nat->Bool}{k:Nat}(h:(auX k).all p=true)(hp:p k=true):(auX (k+1)).all p=true:=by
 rw[axV,List.all_append,h];simp[hp]
theorem gQ{p:Nat->Bool}{n k:Nat}(e:k<n)(hp:p k=false):(auX n).all p=false:=by
 rw[List.all_eq_false];exact⟨k,awG.2 e,by simp[hp]⟩
def wY(p:Nat->Bool)(k:Nat):Prop:=(auX k).all p=true
theorem wY.zero{p:Nat->Bool}:wY p 0:=rfl
theorem wY.step{p:Nat->Bool}{k:Nat}(h:wY p k)(hp:p k=true):wY p (k+1):=ww h hp
def Q3(l:List (List UInt8))(o k:Nat):PF:=((((n_.set 3 (.map o)).set 7 (texts l)).set 8 (.int .i64 (Z' l:Nat))).set 9 (.int .i64 k))
theorem Yk(L:yR C)(l:List (List UInt8))(F:Fits l):ou.wp C (aW B0.res (cC (.bool (distinct l)))) (g_ [texts l]) .nil:=by
 simp only[go_sem,ou,B0];refine aS λo K=>?_;simp only[go_sem];have B:(h_.set o (.map (false,[.str]) (λ_=>none)))=h_.set o (.map (false,[.str]) (wB (l.take 0))):=by rw[List.take_zero,Vn]
 unfold distinct;generalize hp:(λi=>isName (l.getD i [])&&!(l.take i).contains (l.getD i []))=p;have x:∀k (h:k<Z' l),p k=(isName l[k]&&!(l.take k).contains l[k]):=by intro k h;rw[<-hp];simp only[avI,avF h,axK]
 refine wp_loop (α:=Nat) (λk=>Q3 l o k) (λk=>h_.set o (.map (false,[.str]) (wB (l.take k)))) (λk=>k<=Z' l/\wY p k) (λk=>Z' l-k) 0 ⟨auY _,.zero⟩ ?_ ?_ ?_;unfold Q3;exact lM;rw[B];exact b_;rintro k ⟨J,A⟩;simp only[go_sem,Q3];by_cases hlt:k<Z' l
 ·have u:(k:Int)<(Z' l:Nat):=Om;have E:(l.map λs=>[PV.str s])[k]?=some [.str l[k]]:=by simp[hlt]
  simp only[go_sem,u,E];refine aB (L.name l[k]) rfl ?_;have e:=x k hlt;cases y:isName l[k]with
  |false =>rw[y,avJ]at e;simp only[go_sem,avP];exact bM (b:=false) rfl (gQ hlt e).symm
  |true=>
   rw[y,avR]at e;cases w:(l.take k).contains l[k]with
   |true =>rw[w]at e;simp only[go_sem,avH,Hw,w];exact bM (b:=false) rfl (gQ hlt e).symm
   |false =>rw[w]at e;simp only[go_sem,avH,Hw,w,Vp,wZz k];refine aE (k+1) ⟨hlt,A.step e⟩ Om ?_ ?_;exact Lq;rw[awP hlt];exact e_ a_ Sq
 have u:¬(k:Int)<(Z' l:Nat):=Om;simp only[go_sem,u];have:k=Z' l:=Om;subst this;exact bM (b:=true) rfl (show wY p l.length from A).symm
def marks(n:Nat)(l:I_):List Bool:=(auX n).map λ(i:Nat)=>l.contains (i:Int)
theorem VD(n:Nat)(l:I_):(marks n l).length=n:=by simp[marks]
theorem yl(n:Nat):marks n []=avA n false:=by
 refine axZ (by simp[marks]) λi e l=>by simp[marks]
theorem HH{n:Nat}{l:I_}{m:Int}(e:0<=m)(i:m<n):(marks n l)[m.toNat]?=some (l.contains m):=by
 have:m.toNat<n:=Om;simp only[marks,avO,axO this,avS];rw[Int.toNat_of_nonneg e]
theorem VE{n:Nat}{l:I_}{m:Int}(u:0<=m)(w:m<n):(marks n l).set m.toNat true=marks n (l++[m]):=by
 refine axZ (by simp[marks]) λi x y=>?_;simp only[marks,awW,List.getElem_range,List.getElem_set,List.contains_append];by_cases h:m.toNat=i;subst h;rw[aF rfl,Int.toNat_of_nonneg u];simp;have e:((i:Nat):Int)≠m:=Om;rw[aC h];simp[e]
abbrev dW(l:List Bool):P2_:=l.map λb=>[PV.bool b]
theorem kK(l:List Bool)(i:Nat)(b:Bool):(dW l).set i [.bool b]=dW (l.set i b):=by unfold dW;rw[ayE]
structure C5(C:Ctx):Prop extends yR C where
 num:∀p:cO,p.Ok->aH C 106 [.int .i64 p.k,.int .i64 p.m,.int .i64 p.auI,.agg [.int .i64 p.s0,.int .i64 p.s1,.int .i64 p.s2,.int .i64 p.s3,.int .i64 p.s4]] .nil (aL (.bool (QG p)))
 rate:∀p:cO,p.Ok->aH C 108 [.int .i64 p.m,frs p.repair,.agg p.target.cells,.agg p.atU.cells] .nil (aL (.bool (IW p)))
 uniq:∀l:List (List UInt8),Fits l->aH C 110 [texts l] .nil (aL (.bool (distinct l)))
def Z3(p:cO)(atI:Nat)(o k:Nat):PF:=(((((n_.set 1 (.int .i64 atI)).set 5 (.osl o 1 0 atI)).set 39 (ints p.atI)).set 40 (.int .i64 (Z' p.atI:Nat))).set 41 (.int .i64 k))
theorem afD(L:C5 C)(p:cO)(hp:p.Ok)(atI:Nat)(U:atI<=4):yb.wp C (aW Oa.res (cC (.bool (lT atI p)))) (g_ [.agg p.cells,.j atI]) .nil:=by
 simp only[go_sem,yb,Oa];refine aB (L.num p hp) rfl ?_;unfold lT;cases w:QG p with
 |false =>simp only[go_sem,avP];exact bM rfl (by simp only[avJ])
 |true=>
  by_cases u:Z' p.atI=0;simp only[go_sem,avH,auW,bN (Om:(Z' p.atI:Int)=0)];refine bM rfl ?_;have:decide (Z' p.atI≠0)=false:=by simp[u]
  rw[this];simp only[avJ,awU]
  ·have A:decide (Z' p.atI≠0)=true:=by simp[u]
   simp only[go_sem,avH,auW,bA (Om:(Z' p.atI:Int)≠0)];refine aB (L.rate p hp) rfl ?_;rw[A];cases R:IW p with
   |false =>simp only[go_sem,avP];exact bM rfl (by simp only[avJ,awU])
   |true=>
    have B:((atI:Nat):Int)*((1:Nat):Int)<=140737488355328:=Om;have E:((atI:Nat):Int)<=9223372036854775807:=Om;simp only[avR];simp only[go_sem,avH,B,E];refine aS λo V=>?_;simp only[go_sem];have M:avA atI [PV.bool false]=dW (marks atI (p.atI.take 0)):=by rw[List.take_zero,yl];simp[dW]
    rw[M];generalize hq:(λj=>within (p.atI.getD j 0) 0 ((atI:Int)-1)&&!(p.atI.take j).contains (p.atI.getD j 0))=q;have F:∀k (h:k<Z' p.atI),q k=(within p.atI[k] 0 ((atI:Int)-1)&&!(p.atI.take k).contains p.atI[k]):=by intro k h;rw[<-hq];simp only[avI,avF h,axK]
    refine wp_loop (α:=Nat) (λk=>Z3 p atI o k) (λk=>h_.set o (.rows 1 (dW (marks atI (p.atI.take k))))) (λk=>k<=Z' p.atI/\wY q k) (λk=>Z' p.atI-k) 0 ⟨auY _,.zero⟩ ?_ (b_) ?_;unfold Z3;exact lM;rintro k ⟨S,J⟩;simp only[go_sem,Z3];have K:=hp.atI;by_cases hlt:k<Z' p.atI
    ·have i:(k:Int)<(Z' p.atI:Nat):=Om;have N:(p.atI.map λn=>[PV.int .i64 n])[k]?=some [.j p.atI[k]]:=by simp[hlt]
     have O:i_.wrap ((atI:Int)-1)=(atI:Int)-1:=wrap_i64 Om Om;simp only[go_sem,i,N,O];refine aB (L.inn p.atI[k] 0 ((atI:Int)-1)) rfl ?_;have e:=F k hlt;cases w:within p.atI[k] 0 ((atI:Int)-1)with
     |false =>rw[w,avJ]at e;simp only[go_sem,avP];exact bM (b:=false) rfl (gQ hlt e).symm
     |true=>
      rw[w,avR]at e;obtain⟨x,W⟩:=within_iff.1 w;have y:p.atI[k]<(atI:Nat):=Om;have l:(dW (marks atI (p.atI.take k)))[p.atI[k].toNat]?=some [.bool ((p.atI.take k).contains p.atI[k])]:=by unfold dW;rw[avO,HH x y];rfl
      cases u:(p.atI.take k).contains p.atI[k]with
      |true =>rw[u]at e l;simp only[go_sem,avH,x,y,avK,l];exact bM (b:=false) rfl (gQ hlt e).symm
      |false =>rw[u]at e l;simp only[go_sem,avH,x,y,avK,l,kK,VE x y,wZz k];refine aE (k+1) ⟨hlt,J.step e⟩ Om ?_ ?_;exact Lq;rw[awP hlt];exact e_ a_ Sq
    have i:¬(k:Int)<(Z' p.atI:Nat):=Om;simp only[go_sem,i];have:k=Z' p.atI:=Om;subst this;exact bM (b:=true) rfl (show wY q p.atI.length from J).symm
def Xw:PV->RF
 | .agg [.bool n,a,b]=>⟨n,lJ a,lJ b⟩
 |_=>⟨false,[],[]⟩
theorem Nq(x:RF):Xw (.agg x.cells)=x:=by
 show(⟨x.neg,lJ (aN x.num),lJ (aN x.den)⟩:RF)=x;rw[fS,fS]
def flS:Spec:=λname vs=>match name,vs with
 |104,[.int _ n,.int _ lo,.int _ hi]=>some ([],λ_=>aL (.bool (within n lo hi)))
 |105,[x]=>some ([],λ_=>aL (.bool (dS (Xw x))))
 |97,[x]=>some ([],λ_=>aL (.bool (bW (Xw x))))
 |_,_=>none
theorem Ek(n lo hi:Int):flS 104 [.j n,.j lo,.j hi]=some ([],λ_=>aL (.bool (within n lo hi))):=rfl
theorem aeQ(x:RF):flS 105 [.agg x.cells]=some ([],λ_=>aL (.bool (dS x))):=by
 show some _=_;rw[Nq]
def N7(f:aD)(t:List cR)(k:Nat):PF:=((((n_.set 1 (.aX f.cells)).set 45 (.sl 7 (t.map cR.cells))).set 46 (.int .i64 (Z' t:Nat))).set 47 (.int .i64 k))
theorem aeY(L:yR C)(f:aD)(hf:f.Ok):UT.wp C (aW Ep.res (cC (.bool (sD f)))) (g_ [.agg f.cells]) .nil:=by
 obtain⟨auO,atQ,atI,atK,atH,atL,atJ⟩:=f;cases atK with
 |nil =>rw[show sD ⟨auO,atQ,atI,[],atH,atL,atJ⟩=false from rfl];simp only[go_sem,UT,Ep,axD,axC];have:(((0:Nat):Int)==0)=true:=rfl;simp only[go_sem,this];exact bM rfl rfl
 |cons r t=>
  generalize hF:(⟨auO,atQ,atI,r::t,atH,atL,atJ⟩:aD)=f at *
  have E:f.atK=r::t:=by rw[<-hF]
  have hP:sD f=IJ f r t:=by unfold sD;rw[E]
  rw[hP];unfold IJ;have l:Z' f.atK=Z' t+1:=by rw[E];rfl
  have β:=hf.atK;have M:(f.atK.map cR.cells)[0]?=some r.cells:=by rw[E];rfl
  have γ:(f.atK.map cR.cells)[Int.toNat 0]?=some r.cells:=M;have J:=hf.dom;have x:=J r (by rw[E];exact List.mem_cons_self ..);simp only[go_sem,UT,Ep,auW,l,bA (Om:((Z' t+1:Nat):Int)≠0),M];refine aS λo ho=>?_;by_cases y:r.name=[];rw[bG y];by_cases B:r.level=0;rw[bG B];by_cases F:r.parent=-1;rw[bG F];by_cases N:r.auE=0
  ·rw[bG N];simp only[go_sem,vH y,avH,cF B,cF F,cF N];refine aB (L.lim r.atZ x.1) rfl ?_;cases c5:dS r.atZ with
   |false =>simp only[go_sem,avP];exact bM rfl (by simp only[awU,avJ])
   |true=>
    simp only[go_sem,avH];refine aB (L.rZ r.atZ x.1) rfl ?_;cases c6:bW r.atZ with
    |true =>simp only[go_sem];exact bM rfl (by simp only[avH,awU,avJ])
    |false=>
     have W:(0:Int)<=1/\(1:Int)<=((Z' t+1:Nat):Int):=Om;have A:((f.atK.map cR.cells).take (Z' t+1)).drop (Int.toNat 1)=t.map cR.cells:=by rw[avT (by simp[l]),E];rfl
     have w:((f.atK.map cR.cells).take (Z' t+1)).drop 1=t.map cR.cells:=A;simp only[go_sem,auW,l,W,w,axA];generalize hq:(λi=>match t[i]? with|some d=>NY f i d|none=>false)=q;have U:∀k (h:k<Z' t),q k=NY f k t[k]:=by intro k h;rw[<-hq];simp only[avF h]
     refine wp_loop (α:=Nat) (λk=>N7 f t k) (λk=>.nil) (λk=>k<=Z' t/\wY q k) (λk=>Z' t-k) 0 ⟨auY _,.zero⟩ ?_ a_ ?_;unfold N7;exact lM;rintro k ⟨hk,ha⟩;simp only[go_sem,N7];by_cases hlt:k<Z' t
     ·have u:(k:Int)<(Z' t:Nat):=Om;have V:(t.map cR.cells)[k]?=some (t[k]).cells:=by simp[hlt]
      have R:=J t[k] (by rw[E];exact ayT _ (avB hlt));have e:=U k hlt;unfold NY at e;simp only[go_sem,u,V];refine aS λo2 δ=>?_;simp only[go_sem];refine bK .nil flS a_ ?_;simp only[go_sem];refine cB (Ek _ 0 k) (L.inn (t[k]).parent 0 k) rfl a_ ?_;cases O:within (t[k]).parent 0 k with
      |false =>simp only[O,avJ]at e;simp only[go_sem,avP];exact bM (b:=false) rfl (gQ hlt e).symm
      |true=>
       obtain⟨i1,i2⟩:=within_iff.1 O;have i3:(t[k]).parent.toNat<Z' f.atK:=Om;have K:(f.atK.map cR.cells)[(t[k]).parent.toNat]?=some (f.atK[(t[k]).parent.toNat]).cells:=by simp[i3]
       have S:(f.atK.map cR.level).getD (t[k]).parent.toNat 0=(f.atK[(t[k]).parent.toNat]).level:=by simp[i3]
       rw[S,O,avR]at e;by_cases e2:(f.atK[(t[k]).parent.toNat]).level=i_.wrap ((t[k]).level-1)
       ·rw[bG e2,avR]at e;simp only[go_sem,avH,i1,K,cF e2];refine cB (Ek _ 1 4) (L.inn (t[k]).level 1 4) rfl a_ ?_;cases X:within (t[k]).level 1 4 with
        |false =>simp only[X,avJ]at e;simp only[go_sem,avP];exact bM (b:=false) rfl (gQ hlt e).symm
        |true=>
         rw[X,avR]at e;simp only[go_sem,avH];refine cB (Ek _ 1 64) (L.inn (t[k]).auE 1 64) rfl a_ ?_;cases Y:within (t[k]).auE 1 64 with
         |false =>simp only[Y,avJ]at e;simp only[go_sem,avP];exact bM (b:=false) rfl (gQ hlt e).symm
         |true=>
          rw[Y,avR]at e;simp only[go_sem,avH];refine cB (aeQ (t[k]).atZ) (L.lim _ R.1) rfl a_ ?_;cases Z:dS (t[k]).atZ with
          |false =>rw[Z]at e;simp only[go_sem,avP];exact bM (b:=false) rfl (gQ hlt e).symm
          |true =>rw[Z]at e;simp only[go_sem,avH,wZz k];refine aE (k+1) ⟨hlt,ha.step e⟩ Om ?_ a_;exact Lq
       simp only[bS e2,avJ]at e;simp only[go_sem,avH,i1,K,cY e2];exact bM (b:=false) rfl (gQ hlt e).symm
     have u:¬(k:Int)<(Z' t:Nat):=Om;simp only[go_sem,u];have:k=Z' t:=Om;subst this;exact bM (b:=true) rfl (show wY q t.length from ha).symm
  simp only[go_sem,vH y,avH,cF B,cF F,cY N];exact bM rfl (by rw[bS N];simp only[awU,avJ]);simp only[go_sem,vH y,avH,cF B,cY F];exact bM rfl (by rw[bS F];simp only[awU,avJ]);simp only[go_sem,vH y,avH,cY B];exact bM rfl (by rw[bS B];simp only[awU,avJ]);simp only[go_sem,me y,avP];exact bM rfl (by rw[bS y];simp only[awU,avJ])
theorem zV(R:List Bool)(i:Nat)(row:List RF):∀k,(dA R i row k).length=Z' R
 |0=>rfl
 |k+1=>by simp only[dA,awS,zV R i row k]
theorem Hh(l:cU)(R:List Bool)(i:Nat):(nY l R i).length=Z' R:=by
 unfold nY;rw[zV,awS]
theorem vX(l:cU)(R:List Bool):∀i,(eA l R i).length=Z' R
 |0=>rfl
 |i+1=>by simp only[eA,Hh,vX l R i]
theorem vW(l:cU):∀r,(eD l r).length=Z' l.exit
 |0=>by simp[eD]
 |r+1=>by simp only[eD,vX,vW l r]
theorem qP{R:List Bool}{i:Nat}(h:i<Z' R):(dW R)[i]?=some [.bool (R.getD i false)]:=by
 unfold dW;rw[avO,avF h,avI,avF h];rfl
theorem CB(R:List Bool):(dW R).length=Z' R:=by simp[dW]
def YL(l:cU)(o r:Nat):PF:=(((n_.set 1 (.aX l.cells)).set 3 (.osl o 1 0 l.exit.length)).set 4 (.int .i64 r))
def NZ(l:cU)(o r i:Nat):PF:=(((((n_.set 1 (.aX l.cells)).set 3 (.osl o 1 0 l.exit.length)).set 4 (.int .i64 r)).set 19 (.int .i64 (Z' l.exit:Nat))).set 20 (.int .i64 i))
def zF(l:cU)(o r i:Nat)(row:List RF)(k:Nat):PF:=(((((((((n_.set 1 (.aX l.cells)).set 3 (.osl o 1 0 l.exit.length)).set 4 (.int .i64 r)).set 19 (.int .i64 (Z' l.exit:Nat))).set 20 (.int .i64 i)).set 5 (.int .i64 i)).set 42 (frs row)).set 43 (.int .i64 (Z' row:Nat))).set 44 (.int .i64 k))
def jX(o:Nat)(R:List Bool):PH:=h_.set o (.rows 1 (dW R))
theorem Jk(L:yR C)(l:cU)(o r i:Nat)(row:List RF)(M:mP row)(Y:Z' row=Z' l.exit)(hi:i<Z' l.exit)(hn:Z' l.exit<=4)(e:List Bool)(Z:Z' e=Z' l.exit)(K:bZ)(F:PF)(H:PH)
  (S:(zF l o r i row 0).le F) (N:(jX o e).le H)
  (W:∀F H,(zF l o r i row row.length).le F->(jX o (dA e i row row.length)).le H->K .normal F H) :
  aI.wp C (.block 4 (.loop IM)) K F H:=by
 simp only[go_sem];refine wp_loop (α:=Nat) (λk=>zF l o r i row k) (λk=>jX o (dA e i row k)) (λk=>k<=Z' row) (λk=>Z' row-k) 0 (auY _) S N ?_;intro k hk;simp only[go_sem,IM,zF,jX];have U:=zV e i row k;by_cases hlt:k<Z' row
 ·have u:(k:Int)<(Z' row:Nat):=Om;have X:(row.map RF.cells)[k]?=some (row[k]).cells:=by simp[hlt]
  simp only[go_sem,u,X];refine aS λo7 J=>?_;have O:o≠o7:=by rintro rfl;simp only[aP,if_true]at J;cases J
  have x:(i:Int)<(Z' l.exit:Nat):=Om;have E:(k:Int)<(Z' l.exit:Nat):=Om;have w:=qP (R:=dA e i row k) (i:=i) Om;have y:=qP (R:=dA e i row k) (i:=k) Om;have B:dA e i row (k+1)=(dA e i row k).set i ((dA e i row k).getD i false||bW row[k]&&(dA e i row k).getD k false):=by simp only[dA,avI,avO,avF hlt,avS,axK]
  have fin:∀(b:Bool)(F:PF)(H:PH),b=((dA e i row k).getD i false||bW row[k]&&(dA e i row k).getD k false)->(zF l o r i row (k+1)).le F->H o=some (.rows 1 ((dW (dA e i row k)).set i [.bool b])) ->
    fL (λk=>zF l o r i row k) (λk=>jX o (dA e i row k)) (λk=>k<=Z' row) (λk=>Z' row-k) (Z' row-k) (fA 4 K) .normal F H:=by
   intro b F H hb S N;refine aE (k+1) hlt Om S ?_;rw[kK,hb,<-B]at N;exact e_ a_ N
  unfold zF jX at fin;generalize hb:(dA e i row k).getD i false=b at *
  generalize hc:(dA e i row k).getD k false=c at *
  generalize V:bW row[k]=A at *
  cases b with
  |true =>simp only[go_sem,O,x,avK,w,wZz k];exact fin true _ _ aZ Lq Sq
  |false=>
   simp only[go_sem,O,x,avK,w];refine aB (L.rZ _ (M.all _ (avB hlt))) rfl ?_;rw[V];cases A with
   |false =>simp only[go_sem,x,E,O,avK,w,y,wZz k];exact fin false _ _ aZ Lq Sq
   |true =>simp only[go_sem,x,E,O,avK,w,y,wZz k];exact fin c _ _ aZ Lq Sq
 have u:¬(k:Int)<(Z' row:Nat):=Om;simp only[go_sem,u];have:k=Z' row:=Om;subst this;exact W _ _ (by unfold zF;exact Lq) (b_)
structure IF(l:cU):Prop where
 n:Z' l.exit<=4
 atM:Z' l.atM=Z' l.exit
 row:∀r∈l.atM,Z' r=Z' l.exit
theorem Jl(L:yR C)(l:cU)(V:l.Ok)(he:IF l)(o r:Nat)(R:List Bool)(hR:Z' R=Z' l.exit)(K:bZ)(F:PF)(H:PH)
  (x:(NZ l o r 0).le F) (O:(jX o R).le H)
  (hK:∀F H,(YL l o r).le F->(jX o (eA l R l.exit.length)).le H->K .normal F H) :
  aI.wp C (.block 2 (.loop IN)) K F H:=by
 simp only[go_sem];refine wp_loop (α:=Nat) (λi=>NZ l o r i) (λi=>jX o (eA l R i)) (λi=>i<=Z' l.exit) (λi=>Z' l.exit-i) 0 (auY _) x O ?_;intro i hi;have W:=vX l R i;have hn:=he.n;by_cases hlt:i<Z' l.exit
 ·have e:(i:Int)<(Z' l.exit:Nat):=Om;have w:i<Z' l.atM:=by rw[he.atM];exact hlt
  have y:=qP (R:=eA l R i) (i:=i) Om;have hx:(l.exit.map RF.cells)[i]?=some (l.exit[i]).cells:=by simp[hlt]
  have J:(l.atM.map λr=>[frs r])[i]?=some [frs l.atM[i]]:=by simp[w]
  have U:(l.atM[i]).length=Z' l.exit:=he.row _ (avB w);generalize u:(eA l R i).set i ((eA l R i).getD i false||bW l.exit[i])=M;have E:Z' M=Z' l.exit:=by rw[<-u,awS];omega
  have A:eA l R (i+1)=dA M i l.atM[i] (l.atM[i]).length:=by
   simp only[eA,nY];have Y:(l.exit.map bW).getD i false=bW l.exit[i]:=by simp[avI,hlt]
   have e2:l.atM.getD i []=l.atM[i]:=by simp[avI,w]
   rw[Y,e2,u]
  have rest:∀(F:PF)(H:PH),(((((((n_.set 1 (.aX l.cells)).set 3 (.osl o 1 0 l.exit.length)).set 4 (.j r)).set 19 (.j (Z' l.exit:Nat))).set 20 (.j i)).set 5 (.j i)):PF).le F->H o=some (.rows 1 (dW M)) ->
    aI.wp C (.seq (.region fl) (.block 4 (.loop IM))) (fA 3 (fZ C (aI.wp C (.region UU)) (fL (λi=>NZ l o r i) (λi=>jX o (eA l R i)) (λi=>i<=Z' l.exit) (λi=>Z' l.exit-i) (Z' l.exit-i) (fA 2 K)))) F H:=by
   intro F H x O;have f1:F 1=some (.aX l.cells):=x 1 _ rfl;have f3:F 3=some (.osl o 1 0 l.exit.length):=x 3 _ rfl;have f4:F 4=some (.j r):=x 4 _ rfl;have Z:F 19=some (.j (Z' l.exit:Nat)):=x 19 _ rfl;have β:F 20=some (.j i):=x 20 _ rfl;have f5:F 5=some (.j i):=x 5 _ rfl;rw[xj];simp only[go_sem,fl,f1,f5,J,auW];have inner:=Jk L l o r i l.atM[i] (V.row _ (avB w)) U hlt hn M E;simp only[aI.wp,go_sem]at inner;refine inner _ _ _ ?_ (e_ a_ O) ?_;unfold zF;exact Lq;intro X H' B S;have N:X 20=some (.j i):=B 20 _ (by unfold zF;simp only[go_sem]);simp only[go_sem,UU,N,wZz i];refine aE (i+1) hlt Om ?_ (by rw[A];exact S);have g:=λ(q:Nat) v h=>B q v h;unfold NZ;unfold zF at g;refine c_ (c_ (c_ (c_ (c_ d_ ?_) ?_) ?_) ?_) ?_;simp only[go_sem];exact g 1 _ rfl;simp only[go_sem];exact g 3 _ rfl;simp only[go_sem];exact g 4 _ rfl;simp only[go_sem];exact g 19 _ rfl;simp only[go_sem]
  simp only[aI.wp,go_sem]at rest;simp only[go_sem,IN,NZ,jX,e];generalize hb:(eA l R i).getD i false=b at *
  cases b with
  |true =>simp only[go_sem,e,avK,y];refine rest _ _ Lq ?_;rw[<-u];simp only[go_sem,kK,Bool.true_or]
  |false =>simp only[go_sem,e,avK,y,hx];refine aB (L.rZ _ (V.exit.all _ (avB hlt))) rfl ?_;simp only[go_sem,e,avK,y];refine rest _ _ Lq ?_;rw[<-u];simp only[go_sem,kK,Bool.false_or]
 have e:¬(i:Int)<(Z' l.exit:Nat):=Om;simp only[go_sem,IN,NZ,jX,e];have:i=Z' l.exit:=Om;subst this;exact hK _ _ (by unfold YL;exact Lq) b_
theorem Ye(L:yR C)(l:cU)(J:l.Ok)(he:IF l):oj.wp C (aW oK.res (cC (.bool (tT l)))) (g_ [.agg l.cells]) .nil:=by
 have K:=he.n;have A:(Z' l.exit:Int)*((1:Nat):Int)<=140737488355328:=Om;have B:(Z' l.exit:Int)<=9223372036854775807:=Om;simp only[go_sem,oj,oK,auW,A,B];refine aS λo M=>?_;simp only[go_sem];refine wp_loop (α:=Nat) (λr=>YL l o r) (λr=>jX o (eD l r)) (λr=>r<=Z' l.exit+1) (λr=>Z' l.exit+1-r) 0 (auY _) ?_ ?_ ?_;unfold YL;exact Lq;refine e_ a_ ?_;simp only[go_sem,eD];simp[dW];intro r N;have i:=vW l r;simp only[go_sem,YL,jX];by_cases hlt:r<=Z' l.exit;have e:(r:Int)<=(Z' l.exit:Nat):=Om;simp only[go_sem,e];have inner:=Jl L l J he o r (eD l r) i;simp only[aI.wp,go_sem]at inner;refine inner _ _ _ ?_ b_ ?_;unfold NZ;exact Lq;intro E H' w y;have g:=λ(q:Nat) v h=>w q v h;unfold YL at g;have g4:E 4=some (.j r):=g 4 _ rfl;simp only[go_sem,g4,wZz r];refine aE (r+1) Om Om ?_ y;refine c_ (c_ (c_ d_ ?_) ?_) ?_;simp only[go_sem];exact g 1 _ rfl;simp only[go_sem];exact g 3 _ rfl;simp only[go_sem];have e:¬(r:Int)<=(Z' l.exit:Nat):=Om;have:r=Z' l.exit+1:=Om;subst this;simp only[go_sem,e];have u:=L.allb id 103 (eD l (Z' l.exit+1)) (Om:(eD l (Z' l.exit+1)).length<=_) λx _=>L.ends1 x;have F:(dW (eD l (Z' l.exit+1))).length=Z' l.exit:=by rw[CB,i]
 refine tN u (rs:=dW (eD l (Z' l.exit+1))) (o:=o) (s:=1) Sq ?_ ?_;simp only[go_sem,AM (show l.exit.length<=(dW (eD l (Z' l.exit+1))).length by omega),avT (show(dW (eD l (Z' l.exit+1))).length<=l.exit.length by omega)];simp only[go_sem];exact bM rfl rfl
structure k7(C:Ctx):Prop extends C5 C where
 ends:∀l:cU,l.Ok->IF l->aH C 102 [.agg l.cells] .nil (aL (.bool (tT l)))
def xT(l:cU)(i:Nat):Bool:=decide ((l.atM.getD i []).length=Z' l.start)&&(l.atM.getD i []).all dS&&!((l.atM.getD i []).map bW).getD i false
def AZ(l:cU):Bool:=match rT (l.start.map RF.v)with
 | .ok (n,a,b)=>decide (uQ n a b false 1 1=0)
 | .error _=>false
theorem K8(l:cU):nE l=(within l.start.length 1 4&&decide (Z' l.exit=Z' l.start)&&decide (Z' l.atM=Z' l.start)&&l.start.all dS&&l.exit.all dS&&(auX l.atM.length).all (xT l)&&AZ l&&tT l):=rfl
theorem Ii{l:List FV}{e:Int}(h:rT l=.error e):e≠0:=by
 have:∀(l:List FV)(b:FV)(e:Int),l.foldlM jN b=.error e->e≠0:=by
  intro l
  induction l with
  |nil=>intro b e h;cases h
  |cons x t w=>
   intro b e h;rw[List.foldlM_cons]at h;cases i:jN b x with
   |error u=>
    rw[i]at h;have:u=e:=by injection h
    subst this;obtain⟨A,a1,b1⟩:=b;obtain⟨B,a2,b2⟩:=x;simp only[jN]at i;split at i;split at i;rw[PI i];decide;split at i;rw[PI i];decide;rw[PI i];decide;injection i with i;subst i;decide
   |ok y=>rw[i]at h;exact w y e h
 exact this l _ e h
theorem Mg{l:List FV}{r:FV}(h:rT l=.ok r):r.rf.Ok:=by
 have:∀(l:List FV)(b r:FV),b.rf.Ok->l.foldlM jN b=.ok r->r.rf.Ok:=by
  intro l
  induction l with
  |nil=>intro b r hb h;injection h with h;subst h;exact hb
  |cons x t i=>
   intro b r hb h;rw[List.foldlM_cons]at h;cases e:jN b x with
   |error u=>rw[e]at h;cases h
   |ok y=>rw[e]at h;exact i y r (uz e) h
 refine this l _ r ⟨bE _,bE _,?_,?_⟩ h;show(aM 0).length<=_;rw[iO];simp;show(aM 1).length<=_;rw[tH aU aU];simp
theorem PJ{neg:Bool}{a b:Nat}{r:FV}(hb:b≠0)(h:kI neg a b=.ok r):dU r.2.1 r.2.2=true:=by
 unfold kI at h;split at h;cases h;rename_i u;injection h with h
 subst h;have e:avC a b ∣ b:=Nat.gcd_dvd_right _ _;have i:b/avC a b≠0:=by have:=Nat.div_pos (Nat.le_of_dvd (axX hb) e) (axX λh=>hb (Nat.gcd_eq_zero_iff.1 h).2);omega
 have l:=@nB (b/avC a b);simp only[dU,avE,dT_];omega
theorem M3{x y r:FV}(h:jN x y=.ok r):dU r.2.1 r.2.2=true:=by
 obtain⟨l,a1,b1⟩:=x;obtain⟨u,a2,b2⟩:=y;simp only[jN]at h;split at h;rename_i i;rw[avE]at i;have e:b1*b2≠0:=Nat.mul_ne_zero (iR.1 i.1).1 (iR.1 i.2).1;split at h;exact PJ e h;split at h;exact PJ e h;exact PJ e h;cases h
theorem Q9:dU 0 1=true:=by
 have:dC 1=1:=by rw[uH aU,mE]
 simp[dU,this,mE]
theorem su{l:List FV}{r:FV}(h:rT l=.ok r):dU r.2.1 r.2.2=true:=by
 have:∀(l:List FV)(b r:FV),dU b.2.1 b.2.2=true->l.foldlM jN b=.ok r->dU r.2.1 r.2.2=true:=by
  intro l
  induction l with
  |nil=>intro b r hb h;injection h with h;subst h;exact hb
  |cons x t i=>
   intro b r hb h;rw[List.foldlM_cons]at h;cases e:jN b x with
   |error u=>rw[e]at h;cases h
   |ok y=>rw[e]at h;exact i y r (M3 e) h
 exact this l _ r Q9 h
theorem X3:(⟨false,[],[]⟩:RF).Ok:=⟨λ_ h=>absurd h (avY),λ_ h=>absurd h (avY),show 0<=35184372087808 by decide,show 0<=35184372087808 by decide⟩
def Yt(l:cU)(k:Nat):PF:=(((((n_.set 1 (.aX l.cells)).set 3 (.int .i64 (Z' l.start:Nat))).set 45 (Qe l.atM)).set 46 (.int .i64 (Z' l.atM:Nat))).set 47 (.int .i64 k))
theorem Tb(L:k7 C)(l:cU)(E:l.Ok)(he:IF l)(F:PF)(B:F 1=some (.aX l.cells)) :
  aI.wp C (.seq (.region fm) (.seq (.region OJ) (.seq (.region OK) (.seq (.region AN) .ret)))) (aW [.tmp 2] (cC (.bool (AZ l&&tT l)))) F .nil:=by
 simp only[go_sem,fm,B];refine aB (L.tot l.start E.start) rfl ?_;obtain⟨J,x,y,e,U⟩:=AK (rT (l.start.map RF.v));have go:∀(z:RF)(e:Int),z.Ok->(e=0->(DZ z.neg (val z.num) (val z.den) false 1 1=.tup [.j (uQ z.neg (val z.num) (val z.den) false 1 1),.j 0])/\AZ l=decide (uQ z.neg (val z.num) (val z.den) false 1 1=0))->(e≠0->AZ l=false) ->
   frV (rT (l.start.map RF.v))=.tup [.agg z.cells,.j e] ->
   wpOps C [⟨(some 69),.mv (.tmp 72),none⟩,⟨(some 73),.extract (.tmp 69) 0,none⟩,⟨(some 74),.extract (.tmp 69) 1,none⟩,⟨(some 6),.alloc [(.bool false),.aJ,.aJ],none⟩,⟨none,.store 3 (.tmp 6) (.tmp 73),none⟩,⟨(some 7),.mv (.tmp 74),none⟩]
    (aI.wp C (.seq (.region OJ) (.seq (.region OK) (.seq (.region AN) .ret))) (aW [.tmp 2] (cC (.bool (AZ l&&tT l))))) ((((F.set 70 (.aX [frs l.start,Qe l.atM,frs l.exit])).set 71 (frs l.start))).set 72 (.tup [.agg z.cells,.j e])) .nil:=by
  intro z e R K M _;simp only[go_sem];refine aS λo6 N=>?_;simp only[go_sem,OJ];refine aB (L.frac 1 1 aU aU) rfl ?_;rw[Fq];simp only[go_sem,frV];refine aS λo8 u=>?_;have S:o6≠o8:=by rintro rfl;simp only[aP,if_true]at u;cases u
  simp only[go_sem,OK,S];refine aB (L.ord z (FV.rf (false,1,1)) R Uh) rfl ?_;rw[show val (FV.rf (false,1,1)).num=1 from aY 1,show val (FV.rf (false,1,1)).den=1 from aY 1,show(FV.rf (false,1,1)).neg=false from rfl];by_cases c:e=0;obtain⟨g1,g2⟩:=K c;rw[g1,g2];by_cases d:uQ z.neg (val z.num) (val z.den) false 1 1=0;simp only[go_sem,AN,bN c,bN d,B];refine aB (L.ends l E he) rfl ?_;simp only[go_sem];exact bM rfl (by rw[bG d,avR]);simp only[go_sem,AN,bN c,bA d];exact bM rfl (by rw[bS d,avJ]);rw[M c];have:∃v w,DZ z.neg (val z.num) (val z.den) false 1 1=.tup [.j v,.j w]:=by unfold DZ;split;exact⟨_,_,rfl⟩;exact⟨_,_,rfl⟩
  obtain⟨v,w,A⟩:=this;rw[A];simp only[go_sem,AN,bA c];exact bM rfl rfl
 cases i:rT (l.start.map RF.v)with
 |error e =>rw[i]at go;exact go ⟨false,[],[]⟩ e X3 (λh=>absurd h (Ii i)) (λ_=>by rw[AZ,i]) rfl
 |ok r =>obtain⟨n,a,b⟩:=r;rw[i]at go;have O:=Mg i;refine go (FV.rf (n,a,b)) 0 O (λ_=>?_) (λh=>absurd rfl h) rfl;rw[show val (FV.rf (n,a,b)).num=a from aY a,show val (FV.rf (n,a,b)).den=b from aY b,show(FV.rf (n,a,b)).neg=n from rfl];refine⟨?_,by rw[AZ,i]⟩;have A:dU a b=true:=su i;rw[DZ,A,Au];rfl
theorem aeZ(L:k7 C)(l:cU)(B:l.Ok):x7.wp C (aW uL.res (cC (.bool (nE l)))) (g_ [.agg l.cells]) .nil:=by
 rw[K8];simp only[go_sem,x7,uL,auW];refine aB (L.inn l.start.length 1 4) rfl ?_;cases S:within l.start.length 1 4 with
 |false =>simp only[go_sem,avP];exact bM rfl (by simp only[avJ])
 |true=>
  obtain⟨Y,Z⟩:=within_iff.1 S;by_cases J:Z' l.exit=Z' l.start;rw[bG J];by_cases K:Z' l.atM=Z' l.start
  ·rw[bG K];simp only[go_sem,avH,auW,cF (Om:(Z' l.exit:Int)=(Z' l.start:Nat)),cF (Om:(Z' l.atM:Int)=(Z' l.start:Nat))];refine aB (L.Y2 l.start B.start) rfl ?_;cases V:l.start.all dS with
   |false =>simp only[go_sem,avP];exact bM rfl (by simp only[avJ])
   |true=>
    simp only[go_sem,avH];refine aB (L.Y2 l.exit B.exit) rfl ?_;cases W:l.exit.all dS with
    |false =>simp only[go_sem,avP];exact bM rfl (by simp only[avJ])
    |true=>
     simp only[go_sem,avH,auW];have A:∀k (h:k<Z' l.atM),xT l k=(decide ((l.atM[k]).length=Z' l.start)&&(l.atM[k]).all dS&&!((l.atM[k]).map bW).getD k false):=by
      intro k h;have:l.atM.getD k []=l.atM[k]:=by simp[avI,h]
      rw[xT,this]
     refine wp_loop (α:=Nat) (λk=>Yt l k) (λ_=>.nil) (λk=>k<=Z' l.atM/\wY (xT l) k) (λk=>Z' l.atM-k) 0 ⟨auY _,.zero⟩ ?_ a_ ?_;unfold Yt;exact lM;rintro k ⟨X,R⟩;simp only[go_sem,Yt];by_cases hlt:k<Z' l.atM;have u:(k:Int)<(Z' l.atM:Nat):=Om;have F:(l.atM.map λr=>[frs r])[k]?=some [frs l.atM[k]]:=by simp[hlt]
     have e:=A k hlt;have x:=B.row l.atM[k] (avB hlt);simp only[go_sem,u,F,auW];by_cases M:(l.atM[k]).length=Z' l.start
     ·rw[bG M,avR]at e;simp only[go_sem,cF (show(((l.atM[k]).length:Nat):Int)=(Z' l.start:Nat) by omega)];refine aB (L.Y2 _ x) rfl ?_;cases N:(l.atM[k]).all dS with
      |false =>rw[N,avJ]at e;simp only[go_sem,avP];refine bM (b:=false) rfl ?_;have:(auX l.atM.length).all (xT l)=false:=gQ hlt e;rw[this];simp only[avJ,awU]
      |true=>
       have y:k<(l.atM[k]).length:=Om;have U:((l.atM[k]).map RF.cells)[k]?=some ((l.atM[k])[k]).cells:=by simp[y]
       have E:((l.atM[k]).map bW).getD k false=bW (l.atM[k])[k]:=by simp[avI,y]
       rw[N,avR,E]at e;simp only[go_sem,avH,U];refine aB (L.rZ _ (x.all _ (avB y))) rfl ?_;cases O:bW (l.atM[k])[k]with
       |true =>rw[O]at e;simp only[go_sem];refine bM (b:=false) rfl ?_;have:(auX l.atM.length).all (xT l)=false:=gQ hlt e;rw[this];simp only[avJ,awU]
       |false =>rw[O]at e;simp only[go_sem,wZz k];refine aE (k+1) ⟨hlt,R.step e⟩ Om ?_ a_;exact Lq
     simp only[bS M,avJ]at e;simp only[go_sem,cY (show(((l.atM[k]).length:Nat):Int)≠(Z' l.start:Nat) by omega)];refine bM (b:=false) rfl ?_;have:(auX l.atM.length).all (xT l)=false:=gQ hlt e;rw[this];simp only[avJ,awU];have u:¬(k:Int)<(Z' l.atM:Nat):=Om;have:k=Z' l.atM:=Om;subst this;have w:(auX l.atM.length).all (xT l)=true:=R;have he:IF l:=⟨by omega,by omega,λr F=>by obtain⟨i,hi,rfl⟩:=awR F;have:=awA.1 w i (awG.2 hi);rw[A i hi]at this;simp only[avE,dT_]at this;omega⟩
     have tail:=Tb L l B he;simp only[aI.wp,go_sem]at tail;rw[w];simp only[go_sem,u,avR,axP];exact tail _ rfl
  simp only[go_sem,avH,auW,cF (Om:(Z' l.exit:Int)=(Z' l.start:Nat)),cY (Om:(Z' l.atM:Int)≠(Z' l.start:Nat))];exact bM rfl (by rw[bS K];simp only[avJ,awU]);simp only[go_sem,avH,auW,cY (Om:(Z' l.exit:Int)≠(Z' l.start:Nat))];exact bM rfl (by rw[bS J];simp only[avJ,awU])
end Go.PM
