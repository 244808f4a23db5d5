/-Lemmas for the law. No condition.-/
import Derived.Test.YtfeiflgckfjohabGreatDoorIR1
import Derived.Shelf.Strconv.Itoa3
import Derived.Shelf.Sort.Plain
import Derived.Test.YtfeiflgckfjohabGreatDoorProg
import Derived.ProofKit
import Derived.OpenShut
set_option linter.unusedSimpArgs false
set_option linter.unusedVariables false
open Nat renaming reduceEqDiff->γ,reduceAdd->δ,reduceSub->ε,reduceMul->ζ,reduceLT->η,reduceLeDiff->θ,reduceBEq->τ
open Int renaming reduceLT->ι,reduceLE->κ,reduceEq->μ,reduceToNat->ν,reduceAdd->ξ,reduceNeg->ο,reduceBEq->ρ,reduceBNe->σ
open List renaming reduceReplicate->υ
open List renaming length_map->apP,range->apQ,length_append->apV,getElem_mem->apW,replicate->apX,getD_eq_getElem?_getD->apY,getElem?_eq_getElem->apZ,getElem?_map->aqE,length_take->aqF,mem_cons->aqG,length_singleton->aqH,mem_map->aqJ,all_eq_true->aqM,mem_range->aqN,take_length->aqO,map_append->aqP,map_cons->aqQ,take_of_length_le->aqR,not_mem_nil->aqS,append_assoc->aqT,getElem?_eq_some_iff->aqU,length_cons->aqV,append_nil->aqY,mem_append->aqZ,mem_singleton->arA,take_succ_eq_append_getElem->arB,getElem?_eq_none->arC,length_set->arD,getElem_of_mem->arF,getElem_map->arI,map_nil->arL,length_drop->arM,map_congr_left->arQ,getElem?_append_right->arS,getElem?_range->arU,range_succ->arV,mem_of_getElem?->asC,getElem?_append_left->asE,Sublist->asF,length_nil->asG,drop_eq_getElem_cons->asI,ext_getElem->asJ,Perm->asM,drop_zero->asN,take_zero->asO,map_set->asP,map_map->asR,nodup_append->asS,set_cons_zero->asT,cons_append->asV,getElem?_set->asX,set_append_right->asY,take_append_drop->asZ,getElem?_drop->atI,mem_cons_of_mem->atK,nil_append->atL,all_append->atQ,all_cons->atS,countP_append->atW,flatMap_append->atX,flatten_cons->atY,mem_cons_self->atZ,mem_of_mem_take->auA,mem_or_eq_of_mem_set->auB,eq_nil_of_length_eq_zero->auF,getElem_range->auG,length_filter_le->auH
open Nat renaming zero_le->apR,gcd->apS,le_refl->apU,zero_add->aqA,lt_or_ge->aqW,le_trans->aqX,add_zero->arG,mul_add->arH,add_mul->arJ,mul_le_mul_right->arK,mul_assoc->arN,beq->arR,mul_comm->arW,eq_zero_or_pos->arZ,sub_self->asA,div_le_self->asH,min_eq_left->asK,succ_mul->asL,mod_eq_of_lt->asU,add_assoc->atA,pos_of_ne_zero->atB,pow_succ->atF,mul_le_mul_left->atM,mul_le_mul->atU,div_eq_of_lt->auC,div_lt_iff_lt_mul->auD
open Bool renaming and_eq_true->apT,not_true->aqC,false_and->aqD,not_false->aqI,true_and->aqL,and_false->arE,and_true->arY,and_assoc->atG
open Option renaming map_eq_some_iff->aqB,map_some->aqK,getD_some->arT,some->asB,bind_some->atO,bind_eq_some_iff->atV
open Int renaming toNat_natCast->arP
open Array renaming getElem?_eq_some_iff->atC,length_toList->atD
open List renaming length->Z'
set_option maxRecDepth 100000
set_option maxHeartbeats 800000
open Go.IntKind renaming i64->i_,u64->u_
open Go.PM.PF renaming nil->n_,args->g_
open Go.PM.PH renaming nil->h_
noncomputable section
namespace Go.Proofs
open Go.Shelf
def Tryz.Fc:Go.Shelf.Ren:=⟨λ|171=>74|243=>118|246=>164|283=>208|284=>209|285=>210|286=>211|129=>202|317=>229|318=>230|319=>231|320=>232|337=>238|338=>239|n=>n,λ|3=>3|9=>9|2=>2|4=>4|171=>245|0=>0|53=>158|37=>22|5=>5|173=>247|212=>258|51=>195|20=>20|213=>259|46=>200|232=>267|233=>268|n=>n,λ|17=>0|18=>1|19=>2|n=>n⟩
theorem tQ_{α:Type}{x:Option α}{a b:α}(h:x=some a)(k:a=b:=by kernel_rfl):x=some b:=h.trans (congrArg some k)
theorem Tryz.aaE:Go.Proofs.Lays.n171 Tryz.prog Tryz.Fc:={
 mixed:=by kernel_rfl
 f129:=tQ_ Tryz.func202
 f171:=tQ_ Tryz.func74
 f243:=tQ_ Tryz.func118
 f246:=tQ_ Tryz.func164
 f283:=tQ_ Tryz.func208
 f284:=tQ_ Tryz.func209
 f285:=tQ_ Tryz.func210
 f286:=tQ_ Tryz.func211
 f317:=tQ_ Tryz.func229
 f318:=tQ_ Tryz.func230
 f319:=tQ_ Tryz.func231
 f320:=tQ_ Tryz.func232
 f337:=tQ_ Tryz.func238
 f338:=tQ_ Tryz.func239
 t0:=Tryz.underlying0
 a0:=Tryz.isAgg0
 z0:=Tryz.sizeOf0
 v0:=Tryz.zeroValue0
 t2:=Tryz.underlying2
 a2:=Tryz.isAgg2
 z2:=Tryz.sizeOf2
 v2:=Tryz.zeroValue2
 t3:=Tryz.underlying3
 a3:=Tryz.isAgg3
 z3:=Tryz.sizeOf3
 v3:=Tryz.zeroValue3
 t4:=Tryz.underlying4
 a4:=Tryz.isAgg4
 z4:=Tryz.sizeOf4
 v4:=Tryz.zeroValue4
 t5:=Tryz.underlying5
 a5:=Tryz.isAgg5
 z5:=Tryz.sizeOf5
 v5:=Tryz.zeroValue5
 t9:=Tryz.underlying9
 a9:=Tryz.isAgg9
 z9:=Tryz.sizeOf9
 v9:=Tryz.zeroValue9
 t20:=Tryz.underlying20
 a20:=Tryz.isAgg20
 z20:=Tryz.sizeOf20
 v20:=Tryz.zeroValue20
 t37:=Tryz.underlying22
 a37:=Tryz.isAgg22
 z37:=Tryz.sizeOf22
 v37:=Tryz.zeroValue22
 t46:=Tryz.underlying200
 a46:=Tryz.isAgg200
 z46:=Tryz.sizeOf200
 v46:=Tryz.zeroValue200
 t51:=Tryz.underlying195
 a51:=Tryz.isAgg195
 z51:=Tryz.sizeOf195
 v51:=Tryz.zeroValue195
 t53:=Tryz.underlying158
 a53:=Tryz.isAgg158
 z53:=Tryz.sizeOf158
 v53:=Tryz.zeroValue158
 t171:=Tryz.underlying245
 a171:=Tryz.isAgg245
 z171:=Tryz.sizeOf245
 v171:=Tryz.zeroValue245
 t173:=Tryz.underlying247
 a173:=Tryz.isAgg247
 z173:=Tryz.sizeOf247
 v173:=Tryz.zeroValue247
 t212:=Tryz.underlying258
 a212:=Tryz.isAgg258
 z212:=Tryz.sizeOf258
 v212:=Tryz.zeroValue258
 t213:=Tryz.underlying259
 a213:=Tryz.isAgg259
 z213:=Tryz.sizeOf259
 t232:=Tryz.underlying267
 a232:=Tryz.isAgg267
 z232:=Tryz.sizeOf267
 v232:=Tryz.zeroValue267
 t233:=Tryz.underlying268
 a233:=Tryz.isAgg268
 z233:=Tryz.sizeOf268
 v233:=Tryz.zeroValue268
 g17:=by kernel_rfl
 g18:=by kernel_rfl
 g19:=by kernel_rfl }
def Tryz.Bs:Go.Shelf.Ren:=⟨λ|191=>59|189=>102|125=>156|257=>155|128=>201|129=>202|294=>192|295=>193|296=>194|297=>195|298=>196|299=>197|216=>198|300=>199|301=>200|328=>221|329=>222|330=>223|331=>224|332=>225|215=>226|343=>237|n=>n,λ|28=>33|0=>0|3=>3|46=>200|51=>195|53=>158|4=>4|183=>238|182=>237|131=>123|5=>5|9=>9|218=>251|222=>255|228=>265|229=>230|n=>n,λ|n=>n⟩
theorem Tryz.Ux:Go.Proofs.Lays.n191 Tryz.prog Tryz.Bs:={
 mixed:=by kernel_rfl
 f125:=tQ_ Tryz.func156
 f128:=tQ_ Tryz.func201
 f129:=tQ_ Tryz.func202
 f189:=tQ_ Tryz.func102
 f191:=tQ_ Tryz.func59
 f215:=tQ_ Tryz.func226
 f216:=tQ_ Tryz.func198
 f257:=tQ_ Tryz.func155
 f294:=tQ_ Tryz.func192
 f295:=tQ_ Tryz.func193
 f296:=tQ_ Tryz.func194
 f297:=tQ_ Tryz.func195
 f298:=tQ_ Tryz.func196
 f299:=tQ_ Tryz.func197
 f300:=tQ_ Tryz.func199
 f301:=tQ_ Tryz.func200
 f328:=tQ_ Tryz.func221
 f329:=tQ_ Tryz.func222
 f330:=tQ_ Tryz.func223
 f331:=tQ_ Tryz.func224
 f332:=tQ_ Tryz.func225
 f343:=tQ_ Tryz.func237
 t0:=Tryz.underlying0
 a0:=Tryz.isAgg0
 z0:=Tryz.sizeOf0
 v0:=Tryz.zeroValue0
 t3:=Tryz.underlying3
 a3:=Tryz.isAgg3
 z3:=Tryz.sizeOf3
 v3:=Tryz.zeroValue3
 t4:=Tryz.underlying4
 a4:=Tryz.isAgg4
 z4:=Tryz.sizeOf4
 v4:=Tryz.zeroValue4
 t5:=Tryz.underlying5
 a5:=Tryz.isAgg5
 z5:=Tryz.sizeOf5
 v5:=Tryz.zeroValue5
 t9:=Tryz.underlying9
 a9:=Tryz.isAgg9
 z9:=Tryz.sizeOf9
 v9:=Tryz.zeroValue9
 t28:=Tryz.underlying33
 a28:=Tryz.isAgg33
 z28:=Tryz.sizeOf33
 v28:=Tryz.zeroValue33
 t46:=Tryz.underlying200
 a46:=Tryz.isAgg200
 z46:=Tryz.sizeOf200
 v46:=Tryz.zeroValue200
 t51:=Tryz.underlying195
 a51:=Tryz.isAgg195
 z51:=Tryz.sizeOf195
 v51:=Tryz.zeroValue195
 t53:=Tryz.underlying158
 a53:=Tryz.isAgg158
 z53:=Tryz.sizeOf158
 v53:=Tryz.zeroValue158
 t131:=Tryz.underlying123
 a131:=Tryz.isAgg123
 z131:=Tryz.sizeOf123
 v131:=Tryz.zeroValue123
 t182:=Tryz.underlying237
 a182:=Tryz.isAgg237
 z182:=Tryz.sizeOf237
 v182:=Tryz.zeroValue237
 t183:=Tryz.underlying238
 a183:=Tryz.isAgg238
 z183:=Tryz.sizeOf238
 v183:=Tryz.zeroValue238
 t218:=Tryz.underlying251
 a218:=Tryz.isAgg251
 z218:=Tryz.sizeOf251
 v218:=Tryz.zeroValue251
 t222:=Tryz.underlying255
 a222:=Tryz.isAgg255
 z222:=Tryz.sizeOf255
 v222:=Tryz.zeroValue255
 t228:=Tryz.underlying265
 a228:=Tryz.isAgg265
 z228:=Tryz.sizeOf265
 v228:=Tryz.zeroValue265
 t229:=Tryz.underlying230
 a229:=Tryz.isAgg230
 z229:=Tryz.sizeOf230
 v229:=Tryz.zeroValue230 }
end Go.Proofs
namespace Go.PM
open Go
inductive Co:PV->PV->Prop
 |refl (v:PV):Co v v
 |junk (v:PV):Co v .junk
 |nil (s:Nat):Co .aG (.sl s [])
 |osl0 (o s off s':Nat):Co (.osl o s off 0) (.sl s' [])
 |agg {cs ds:V_} (hl:Z' ds=Z' cs) (h:∀(j:Nat) p q,cs[j]?=some p->ds[j]?=some q->Co p q):Co (.agg cs) (.agg ds)
 |tup {cs ds:V_} (hl:Z' ds=Z' cs) (h:∀(j:Nat) p q,cs[j]?=some p->ds[j]?=some q->Co p q):Co (.tup cs) (.tup ds)
 |aU {cs ds:V_} (hl:Z' ds=Z' cs) (h:∀(j:Nat) p q,cs[j]?=some p->ds[j]?=some q->Co p q):Co (.aU cs) (.aU ds)
 |sl {s:Nat} {rs ts:P2_} (hl:Z' ts=Z' rs) (hr:∀(i:Nat) r t,rs[i]?=some r->ts[i]?=some t->Z' t=Z' r)
   (h:∀(i j:Nat) p q,at2 rs i j=some p->at2 ts i j=some q->Co p q):Co (.sl s rs) (.sl s ts)
structure CoL(ps qs:V_):Prop where
 len:Z' qs=Z' ps
 at_:∀(j:Nat) p q,ps[j]?=some p->qs[j]?=some q->Co p q
theorem CoL.refl(ps:V_):CoL ps ps:=⟨rfl,λj p q h k=>by rw[h]at k;cases k;exact .refl p⟩
theorem Co.sound{E:Env}{p q:PV}(h:Co p q):∀{v:Value},bB E p v->bB E q v:=by
 induction h with
 |refl=>intro v r;exact r
 |junk=>intro v _;exact .junk v
 |nil s =>intro v r;cases r;exact .sl (λ_ _=>.bool false) aX aT aX aX (λ_ _=>rfl) (by simp[at2])
 |osl0 o s off s'=>
  intro v r;cases r with
  |osl hb J V U x hn O=>exact .sl (λ_ _=>.bool false) aX x aX aX (λ_ _=>rfl) (by simp[at2])
 |agg w h B=>
  intro v r;cases r with
  |agg vs A D y=>
  refine .agg vs (A.trans w.symm) D λj q u hq R=>?_;have l:=(aqU.1 hq).1;have hp:=apZ (show j<_ by rw[w]at l;exact l);exact B j _ q hp hq (y j _ u hp R)
 |tup w h B=>
  intro v r;cases r with
  |tup vs A y=>
  refine .tup vs (A.trans w.symm) λj q u hq R=>?_;have l:=(aqU.1 hq).1;have hp:=apZ (show j<_ by rw[w]at l;exact l);exact B j _ q hp hq (y j _ u hp R)
 |aU w h B=>
  intro v r;cases r with
  |aU u J M D y=>
  refine .aU u J (λj q hq=>?_) D λj q hq=>?_;have l:=(aqU.1 hq).1;exact M j _ (apZ (show j<_ by rw[w]at l;exact l));have l:=(aqU.1 hq).1;have hp:=apZ (show j<_ by rw[w]at l;exact l);exact B j _ q hp hq (y j _ hp)
 |@sl s rs ts w F h B=>
  intro v r;have K:∀(i j:Nat) q,at2 ts i j=some q->∃p,at2 rs i j=some p:=by intro i j q hq;unfold at2 at hq ⊢;rw[atV]at hq;obtain⟨t,L,hq⟩:=hq;have hi:=(aqU.1 L).1;have y:=apZ (Om:i<Z' rs);have:=F i _ t y L;have l:=(aqU.1 hq).1;rw[y];exact⟨(rs[i])[j]'Om,by simp⟩
  cases r with
  |sl u S x Y X D y=>
  rw[<-w];refine .sl u Om x (λt L=>?_) (λN=>?_) D λi j q hq=>?_;obtain⟨i,hi,rfl⟩:=arF L;have:=F i rs[i] ts[i] aX aX;rw[this];exact Y _ aX;obtain⟨W,e,Z,M⟩:=X (by rintro rfl;exact N (auF (by simpa using w)));refine⟨W,e,Z,λi j q hq=>?_⟩;obtain⟨p,hp⟩:=K i j q hq;exact M i j p hp;obtain⟨p,hp⟩:=K i j q hq;exact B i j p q hp hq (y i j p hp)
theorem CoL.sound{E:Env}:∀{ps e:V_}{vs:List Value},CoL ps e->fO E ps vs->fO E e vs
 |[],e,vs,h,r=>by cases r;have:e=[]:=auF h.len;subst this;exact .nil
 |p::ps,e,vs,h,r=>by
  cases r with
  |cons r1 r2=>
  cases e with
  |nil=>have:=h.len;simp at this
  |cons q e =>refine .cons ((h.at_ 0 p q rfl rfl).sound r1) (CoL.sound ⟨by simpa using h.len,λj x y a b=>h.at_ (j+1) x y (by simpa using a) (by simpa using b)⟩ r2)
variable{C:Ctx}
theorem aJ.args{name:Nat}{args e:V_}{H:PH}{R:R_}(h:aJ C name e H R)(u:CoL args e):aJ C name args H R:=
 ⟨h.1,λE w vs l hW i=>h.2 E w vs l hW (u.sound i)⟩
theorem aJ.post{name:Nat}{args:V_}{H:PH}{R A:R_}(h:aJ C name args H R)(J:∀r H',R r H'->∃r',Co r r'/\A r' H'):aJ C name args H A:=
 ⟨h.1,λE w vs F hW x=>(h.2 E w vs F hW x).mono λe L he=>by obtain⟨v,pv,B,H',rfl,i,K,D,hp⟩:=he;obtain⟨y,l,u⟩:=J pv H' hp;exact⟨v,y,B,H',rfl,i,l.sound K,D,u⟩⟩
attribute [go_sem] List.getElem?_cons_succ List.getElem?_cons_zero and_self and_true true_and or_true true_or or_false false_or aqC aqI aqK atO if_true if_false aqV asG List.drop_succ_cons asN List.take_succ_cons asO aqQ arL asB.injEq PV.bool.injEq PV.int.injEq aV PV.bin
@[go_sem] theorem ahB(k:IntKind)(a b:Int):oY .add k a b=some (.int k (k.wrap (a+b))):=(rfl)
@[go_sem] theorem ahL(k:IntKind)(a b:Int):oY .sub k a b=some (.int k (k.wrap (a-b))):=(rfl)
@[go_sem] theorem ahH(k:IntKind)(a b:Int):oY .mul k a b=some (.int k (k.wrap (a*b))):=(rfl)
@[go_sem] theorem ahJ(k:IntKind)(a b:Int):oY .quo k a b=if b=0 then none else some (.int k (k.wrap (a.tdiv b))):=(rfl)
@[go_sem] theorem ahK(k:IntKind)(a b:Int):oY .rem k a b=if b=0 then none else some (.int k (a.tmod b)):=(rfl)
@[go_sem] theorem ahC(k:IntKind)(a b:Int):oY .eql k a b=some (.bool (a==b)):=(rfl)
@[go_sem] theorem ahI(k:IntKind)(a b:Int):oY .neq k a b=some (.bool (a != b)):=(rfl)
@[go_sem] theorem ahG(k:IntKind)(a b:Int):oY .lss k a b=some (.bool (decide (a<b))):=(rfl)
@[go_sem] theorem ahF(k:IntKind)(a b:Int):oY .leq k a b=some (.bool (decide (a<=b))):=(rfl)
@[go_sem] theorem ahE(k:IntKind)(a b:Int):oY .gtr k a b=some (.bool (decide (a>b))):=(rfl)
@[go_sem] theorem ahD(k:IntKind)(a b:Int):oY .geq k a b=some (.bool (decide (a>=b))):=(rfl)
section
variable {C:Ctx} {K:bT} {F:PF} {H:PH}
@[go_sem] theorem anG:aI.wp C .skip K F H=K .normal F H:=(rfl)
@[go_sem] theorem ajG(ops:List bQ):aI.wp C (.region ops) K F H=wpOps C ops (K .normal) F H:=(rfl)
@[go_sem] theorem s8(a b:aI):aI.wp C (.seq a b) K F H=a.wp C (gH C (b.wp C) K) F H:=(rfl)
@[go_sem] theorem akP(id:Nat)(c:aI):aI.wp C (.block id c) K F H=c.wp C (fE id K) F H:=(rfl)
@[go_sem] theorem anF(id:Nat):aI.wp C (.exit id) K F H=K (.exit id) F H:=(rfl)
@[go_sem] theorem anU:aI.wp C .ret K F H=K .ret F H:=(rfl)
def jj(C:Ctx)(v:Option PV)(a b:aI)(K:bT)(F:PF)(H:PH):Prop:=
 match v with
 |some (.bool t)=>if t then a.wp C K F H else b.wp C K F H
 |_=>False
@[go_sem] theorem X0(c:aP)(a b:aI):aI.wp C (.cond c a b) K F H=jj C (c.ev F) a b K F H:=(rfl)
@[go_sem] theorem ahQ(a b:aI):jj C (some (.bool true)) a b K F H=a.wp C K F H:=(rfl)
@[go_sem] theorem agA(a b:aI):jj C (some (.bool false)) a b K F H=b.wp C K F H:=(rfl)
@[go_sem] theorem agI(w:bT->K_):gH C w K .normal F H=w K F H:=(rfl)
@[go_sem] theorem afI(w:bT->K_):gH C w K .normal=w K:=(rfl)
@[go_sem] theorem akC(w:bT->K_)(id:Nat):gH C w K (.exit id)=K (.exit id):=(rfl)
@[go_sem] theorem amP(w:bT->K_):gH C w K .ret=K .ret:=(rfl)
@[go_sem] theorem adA(id:Nat):fE id K .normal=K .normal:=(rfl)
@[go_sem] theorem ahO(id:Nat):fE id K .ret=K .ret:=(rfl)
@[go_sem] theorem JX(id e:Nat):fE id K (.exit e) F H=if e=id then K .normal F H else K (.exit e) F H:=(rfl)
@[go_sem] theorem ajE(K:K_):wpOps C [] K F H=K F H:=(rfl)
@[go_sem] theorem ajF(d:O_)(op:POp)(rest:List bQ)(K:K_):wpOps C (⟨d,op,none⟩::rest) K F H=wpOp C op d (wpOps C rest K) F H:=(rfl)
def CD(C:Ctx)(v:Option PV)(e:Bool)(op:POp)(d:O_)(rest:List bQ)(K:K_)(F:PF)(H:PH):Prop:=
 match v with
 |some (.bool b)=>if b=e then wpOp C op d (wpOps C rest K) F H else wpOps C rest K (F.put d (.tup [])) H
 |some (.tup [])=>wpOps C rest K (F.put d (.tup [])) H
 |_=>False
@[go_sem] theorem Gg(d:O_)(op:POp)(t:Nat)(e:Bool)(rest:List bQ)(K:K_) :
  wpOps C (⟨d,op,some (t,e)⟩::rest) K F H=CD C (F t) e op d rest K F H:=(rfl)
@[go_sem] theorem ajY(op:POp)(d:O_)(rest:List bQ)(K:K_):CD C (some (.bool true)) true op d rest K F H=wpOp C op d (wpOps C rest K) F H:=(rfl)
@[go_sem] theorem ajV(op:POp)(d:O_)(rest:List bQ)(K:K_):CD C (some (.bool false)) false op d rest K F H=wpOp C op d (wpOps C rest K) F H:=(rfl)
@[go_sem] theorem ajX(op:POp)(d:O_)(rest:List bQ)(K:K_):CD C (some (.bool true)) false op d rest K F H=wpOps C rest K (F.put d (.tup [])) H:=(rfl)
@[go_sem] theorem ajW(op:POp)(d:O_)(rest:List bQ)(K:K_):CD C (some (.bool false)) true op d rest K F H=wpOps C rest K (F.put d (.tup [])) H:=(rfl)
@[go_sem] theorem agF(e:Bool)(op:POp)(d:O_)(rest:List bQ)(K:K_):CD C (some (.tup [])) e op d rest K F H=wpOps C rest K (F.put d (.tup [])) H:=(rfl)
@[go_sem] theorem amE(d:Nat)(v:PV):F.put (some d) v=F.set d v:=(rfl)
@[go_sem] theorem amD(v:PV):F.put none v=F:=(rfl)
@[go_sem] theorem mU(i j:Nat)(v:PV):(F.set i v) j=if j=i then some v else F j:=(rfl)
@[go_sem] theorem args_at(vs:V_)(i:Nat):g_ vs i=vs[i]?:=(rfl)
@[go_sem] theorem anX(i:Nat):n_ i=none:=(rfl)
@[go_sem] theorem jv(t:Nat):(aP.tmp t).ev F=F t:=(rfl)
@[go_sem] theorem alK(v:PV):(aP.const v).ev F=some v:=(rfl)
@[go_sem] theorem aM(i j:Nat)(x:aR):(H.set i x) j=if j=i then some x else H j:=(rfl)
@[go_sem] theorem WT(i:Nat):h_ i=none:=(rfl)
@[go_sem] theorem WS:aP.evs F []=some []:=(rfl)
@[go_sem] theorem GH(x:aP)(xs:List aP):aP.evs F (x::xs)=(match x.ev F,aP.evs F xs with|some v,some vs=>some (v::vs)|_,_=>none):=(rfl)
theorem yD{i j:Nat}{x:aR}:(H.set i x) j=none↔j≠i/\H j=none:=by
 rw[aM];split<;>simp_all
@[go_sem] theorem agJ(v:PV)(d:O_)(K:K_):wU (some v) d K F H=K (F.put d v) H:=by
 simp[wU]
theorem aQ{e:Nat->PV}{x:aR}{d:O_}{K:K_}(h:∀o,H o=none->K (F.put d (e o)) (H.set o x)):oN (some (e,x)) d K F H:=⟨e,x,rfl,h⟩
abbrev Wq(C:Ctx)(o:POp):Prop:=∀(d:O_)(K:K_)(F:PF)(H:PH),wpOp C o d K F H=wU (aV o F H) d K F H
theorem wqr{o:POp}(h:Wq C o:=by intro _ _ _ _;rfl):Wq C o:=h
@[go_sem] theorem anS(x:aP):Wq C (.mv x):=wqr
@[go_sem] theorem akO(x:aP):Wq C (.same x):=wqr
@[go_sem] theorem akN(c a b:aP):Wq C (.pick c a b):=wqr
@[go_sem] theorem anA(o:BinOp)(x y:aP):Wq C (.bin o x y):=wqr
@[go_sem] theorem anC(n:Bool)(x y:aP):Wq C (.eqb n x y):=wqr
@[go_sem] theorem anD(n:Bool)(e:List Sc)(x y:aP):Wq C (.eqs n e x y):=wqr
@[go_sem] theorem anT(o:UnOp)(x:aP):Wq C (.un o x):=wqr
@[go_sem] theorem akG(k:IntKind)(x:aP):Wq C (.conv k x):=wqr
@[go_sem] theorem aiX(z:V_)(ps:List (Nat × Nat × aP)):Wq C (.build z ps):=wqr
@[go_sem] theorem akL(n:O_)(p:aP):Wq C (.load n p):=wqr
@[go_sem] theorem agV(x:aP):Wq C (.aoQ x):=wqr
@[go_sem] theorem agN(off:Nat)(x:aP):Wq C (.apG off x):=wqr
@[go_sem] theorem aiZ(off:Nat)(n:O_)(x:aP):Wq C (.field off n x):=wqr
@[go_sem] theorem akI(s:Nat)(x i:aP):Wq C (.aoU s x i):=wqr
@[go_sem] theorem akH(n s:Nat)(x i:aP):Wq C (.idxA n s x i):=wqr
@[go_sem] theorem akJ(n s:Nat)(g:Bool)(x i:aP):Wq C (.idxV n s g x i):=wqr
@[go_sem] theorem agO(x i:aP):Wq C (.apE x i):=wqr
@[go_sem] theorem ajC(s:Nat)(x:aP)(lo hi mx:Option aP):Wq C (.slice s x lo hi mx):=wqr
@[go_sem] theorem agW(n s:Nat)(x:aP)(lo hi mx:Option aP):Wq C (.sliceA n s x lo hi mx):=wqr
@[go_sem] theorem adD(x:aP)(lo hi:Option aP):Wq C (.apA x lo hi):=wqr
@[go_sem] theorem ajZ:PV.sI .aG=some (.int .i64 0):=(rfl)
@[go_sem] theorem anQ(s:Nat)(rows:P2_):PV.sI (.sl s rows)=some (.int .i64 rows.length):=(rfl)
@[go_sem] theorem alR(o s off n:Nat):PV.sI (.osl o s off n)=some (.int .i64 n):=(rfl)
@[go_sem] theorem anE(x:aP):Wq C (.len x):=wqr
@[go_sem] theorem agR(x:aP):Wq C (.apD x):=wqr
@[go_sem] theorem akK(x:aP):Wq C (.lenM x):=wqr
@[go_sem] theorem ajA(n:Bool)(x:aP):Wq C (.isNil n x):=wqr
@[go_sem] theorem agH:PV.sW .aG=some true:=(rfl)
@[go_sem] theorem aiH(o s off len:Nat):PV.sW (.osl o s off len)=some false:=(rfl)
@[go_sem] theorem agG(s:Nat)(r:V_)(rs:P2_):PV.sW (.sl s (r::rs))=some false:=(rfl)
@[go_sem] theorem agM(x:aP):Wq C (.apO x):=wqr
@[go_sem] theorem afW(x:aP)(i:Nat):Wq C (.extract x i):=wqr
@[go_sem] theorem agU(m:Bool)(x y:aP):Wq C (.aoY m x y):=wqr
@[go_sem] theorem akM(n:Nat)(cs:List aP):Wq C (.mkfn n cs):=wqr
@[go_sem] theorem agS(sh:MSh)(z:PV)(x k:aP)(ok:Bool):Wq C (.lookup sh z x k ok):=wqr
@[go_sem] theorem acQ(x:aP):Wq C (.aoR x):=wqr
@[go_sem] theorem akE(x:aP):Wq C (.box true x):=wqr
@[go_sem] theorem afV(s l:Nat)(z:V_)(ps:List (Nat × aP)):Wq C (.aoI true s l z ps):=wqr
@[go_sem] theorem aiW(cs:V_)(d:O_)(K:K_):wpOp C (.alloc cs) d K F H=oN (cK (.alloc cs) F) d K F H:=(rfl)
@[go_sem] theorem afX(s b:Nat)(z:V_)(l c:aP)(d:O_)(K:K_):wpOp C (.aoL s b z l c) d K F H=oN (cK (.aoL s b z l c) F) d K F H:=(rfl)
@[go_sem] theorem ajB(sh:MSh)(d:O_)(K:K_):wpOp C (.apK sh) d K F H=oN (cK (.apK sh) F) d K F H:=(rfl)
@[go_sem] theorem anB(x:aP)(d:O_)(K:K_):wpOp C (.box false x) d K F H=oN (cK (.box false x) F) d K F H:=(rfl)
@[go_sem] theorem agL(s l:Nat)(z:V_)(ps:List (Nat × aP))(d:O_)(K:K_):wpOp C (.aoI false s l z ps) d K F H=oN (cK (.aoI false s l z ps) F) d K F H:=(rfl)
@[go_sem] theorem ajD(n:Nat)(p x:aP)(d:O_)(K:K_):wpOp C (.store n p x) d K F H=cG (.store n p x) F H (λr H'=>K (F.put d r) H'):=(rfl)
@[go_sem] theorem agK(s b:Nat)(x y:aP)(d:O_)(K:K_):wpOp C (.append s b x y) d K F H=cG (.append s b x y) F H (λr H'=>K (F.put d r) H'):=(rfl)
@[go_sem] theorem agT(sh:MSh)(x k v:aP)(d:O_)(K:K_):wpOp C (.aoV sh x k v) d K F H=cG (.aoV sh x k v) F H (λr H'=>K (F.put d r) H'):=(rfl)
@[go_sem] theorem agP(sh:MSh)(x k v:aP)(d:O_)(K:K_):wpOp C (.insert sh x k v) d K F H=cG (.insert sh x k v) F H (λr H'=>K (F.put d r) H'):=(rfl)
@[go_sem] theorem akF(n:Nat)(e:List aP)(d:O_)(K:K_):wpOp C (.call n e) d K F H=jX C n e [] d K F H:=(rfl)
@[go_sem] theorem aiY(x:aP)(e:List aP)(d:O_)(K:K_):wpOp C (.apF x e) d K F H=wD C (x.ev F) e d K F H:=(rfl)
@[go_sem] theorem aiV(n:Nat)(cs:V_)(e:List aP)(d:O_)(K:K_):wD C (some (.fn n cs)) e d K F H=jX C n e cs d K F H:=(rfl)
theorem PF.nil_le:n_.le F:=λ_ _ h=>(by cases h)
abbrev d_:=@PF.nil_le
theorem PF.aK{i:Nat}{v:PV}{G:PF}(w:F.le G)(x:G i=some v):(F.set i v).le G:=by
 intro j u l;rw[mU]at l;split at l;rename_i e;subst e;cases l;exact x;exact w _ _ l
abbrev e_:=@PF.aK
theorem PF.le_refl:F.le F:=λ_ _ h=>h
theorem PH.nil_le:h_.le H:=λ_ _ h=>(by cases h)
abbrev a_:=@PH.nil_le
theorem PH.aK{i:Nat}{x:aR}{G:PH}(w:H.le G)(y:G i=some x):(H.set i x).le G:=by
 intro j u l;rw[aM]at l;split at l;rename_i e;subst e;cases l;exact y;exact w _ _ l
abbrev c_:=@PH.aK
theorem PH.le_refl:H.le H:=λ_ _ h=>h
abbrev b_:=@PH.le_refl
theorem wp_loop{c:aI}{α:Type}(e:α->PF)(Hs:α->PH)(i:α->Prop)(m:α->Nat)(l:α)(u:i l)(w:(e l).le F)(x:(Hs l).le H)
  (hb:∀a,i a->c.wp C (fK e Hs i m (m a) K) (e a) (Hs a)):aI.wp C (.loop c) K F H:=
 ⟨α,e,Hs,i,m,l,F,H,.refl F H,u,w,x,hb⟩
theorem aF{α:Type}{e:α->PF}{Hs:α->PH}{i:α->Prop}{m:α->Nat}{n:Nat}(a:α)(l:i a)(x:m a<n)(u:(e a).le F)(w:(Hs a).le H):fK e Hs i m n K .normal F H:=
 ⟨a,F,H,.refl F H,l,x,u,w⟩
@[go_sem] theorem aiK{α:Type}{e:α->PF}{Hs:α->PH}{i:α->Prop}{m:α->Nat}{n:Nat}(id:Nat):fK e Hs i m n K (.exit id)=K (.exit id):=(rfl)
@[go_sem] theorem akA{α:Type}{e:α->PF}{Hs:α->PH}{i:α->Prop}{m:α->Nat}{n:Nat}:fK e Hs i m n K .ret=K .ret:=(rfl)
def aL(v:PV)(r:PV)(H:PH):Prop:=r=v/\H=h_
theorem PH.xR:H.over .nil .nil=H:=PH.ext λo=>rfl
theorem Gf{name:Nat}{vs cs:V_}{v:PV}{args:List aP}{d:O_}{K:K_}(h:aJ C name (vs++cs) .nil (aL v))(e:aP.evs F args=some vs)
  (i:K (F.put d v) H):jX C name args cs d K F H:=by
 refine .inl ⟨vs++cs,.nil,_,by rw[e];rfl,a_,h,?_⟩;rintro r H' ⟨rfl,rfl⟩ _;rw[PH.xR];exact i
theorem aD{name:Nat}{vs:V_}{v:PV}{args:List aP}{d:O_}{K:K_}(h:aJ C name vs .nil (aL v))(e:aP.evs F args=some vs)
  (i:K (F.put d v) H):jX C name args [] d K F H:=Gf (cs:=[]) (by rw[aqY];exact h) e i
theorem cR{res:List dY}{vs:V_}{v:PV}{e:lY}(he:e=.normal\/e=.ret)(h:dY.evs F H res=some vs)(x:bO vs=v):aW res (aL v) e F H:=by
 have i:∃vs,dY.evs F H res=some vs/\∃l w H2,jJ (n_.set 0 (bO vs)) H l w/\H2.le w/\∃u,l 0=some u/\aL v u H2:=
  ⟨vs,h,_,H,.nil,.refl _ _,a_,v,by rw[mU,aE rfl,x],rfl,rfl⟩
 rcases he with rfl|rfl<;>exact i
theorem eD{F:PF}{H:PH}{res:List dY}{vs:V_}{v:PV}(e:bO vs=v)(h:dY.evs F H res=some vs:=by rfl):aW res (aL v) .ret F H:=cR (.inr rfl) h e
@[go_sem] theorem tK:dY.evs F H []=some []:=(rfl)
@[go_sem] theorem nM(x:dY)(xs:List dY):dY.evs F H (x::xs)=(match x.ev F H,dY.evs F H xs with|some v,some vs=>some (v::vs)|_,_=>none):=(rfl)
@[go_sem] theorem rK(t:Nat):dY.ev F H (.tmp t)=F t:=(rfl)
@[go_sem] theorem amG(t:Nat):dY.ev F H (.cell t none)=(match F t with|some p=>(match loadCells H p 1 with|some [v]=>some v|_=>none)|none=>none):=(rfl)
@[go_sem] theorem akB(t k:Nat):dY.ev F H (.cell t (some k))=(match F t with|some p=>(loadCells H p k).map .agg|none=>none):=(rfl)
end
section
variable {C:Ctx} {K:bT} {F:PF} {H Hs:PH} {S:Spec}
theorem bE{ops:List (bQ × Bool)}(Hs:PH)(S:Spec)(e:Hs.le H)(h:wpD C Hs S ops (K .normal) F H):aI.wp C (.draw ops) K F H:=⟨Hs,S,e,h⟩
def cO:Spec:=λ_ _=>none
def dOp(C:Ctx)(Hs:PH)(S:Spec)(st:Bool)(op:POp)(d:O_)(K:K_)(F:PF)(H:PH):Prop:=(op.kind F).run C Hs S st (λv H'=>K (F.put d v) H') H
@[go_sem] theorem amY(K:K_):wpD C Hs S [] K F H=K F H:=(rfl)
@[go_sem] theorem amZ(d:O_)(op:POp)(st:Bool)(rest:List (bQ × Bool))(K:K_):wpD C Hs S ((⟨d,op,none⟩,st)::rest) K F H=dOp C Hs S st op d (wpD C Hs S rest K) F H:=(rfl)
def GP(C:Ctx)(Hs:PH)(S:Spec)(v:Option PV)(e st:Bool)(op:POp)(d:O_)(rest:List (bQ × Bool))(K:K_)(F:PF)(H:PH):Prop:=
 match v with
 |some (.bool b)=>if b=e then dOp C Hs S st op d (wpD C Hs S rest K) F H else wpD C Hs S rest K (F.put d (.tup [])) H
 |some (.tup [])=>wpD C Hs S rest K (F.put d (.tup [])) H
 |_=>False
@[go_sem] theorem akD(d:O_)(op:POp)(t:Nat)(e st:Bool)(rest:List (bQ × Bool))(K:K_) :
  wpD C Hs S ((⟨d,op,some (t,e)⟩,st)::rest) K F H=GP C Hs S (F t) e st op d rest K F H:=by
 have i:wpD C Hs S ((⟨d,op,some (t,e)⟩,st)::rest) K F H=((⟨d,op,some (t,e)⟩:bQ).kind F).run C Hs S st (λv H'=>wpD C Hs S rest K (F.put d v) H') H:=(rfl);rw[i];unfold bQ.kind GP;simp only;cases F t with
 |none=>rfl
 |some v=>
  cases v
  case bool b=>
   simp only;by_cases hb:b=e
   ·rw[aE hb,aE hb];rfl
   ·rw[aC hb,aC hb];simp[Kind.run]
  case tup vs=>cases vs<;>simp[Kind.run]
  all_goals rfl
@[go_sem] theorem ajU(op:POp)(st:Bool)(d:O_)(rest:List (bQ × Bool))(K:K_):GP C Hs S (some (.bool true)) true st op d rest K F H=dOp C Hs S st op d (wpD C Hs S rest K) F H:=(rfl)
@[go_sem] theorem ajR(op:POp)(st:Bool)(d:O_)(rest:List (bQ × Bool))(K:K_):GP C Hs S (some (.bool false)) false st op d rest K F H=dOp C Hs S st op d (wpD C Hs S rest K) F H:=(rfl)
@[go_sem] theorem ajT(op:POp)(st:Bool)(d:O_)(rest:List (bQ × Bool))(K:K_):GP C Hs S (some (.bool true)) false st op d rest K F H=wpD C Hs S rest K (F.put d (.tup [])) H:=(rfl)
@[go_sem] theorem ajS(op:POp)(st:Bool)(d:O_)(rest:List (bQ × Bool))(K:K_):GP C Hs S (some (.bool false)) true st op d rest K F H=wpD C Hs S rest K (F.put d (.tup [])) H:=(rfl)
@[go_sem] theorem agE(e:Bool)(op:POp)(st:Bool)(d:O_)(rest:List (bQ × Bool))(K:K_):GP C Hs S (some (.tup [])) e st op d rest K F H=wpD C Hs S rest K (F.put d (.tup [])) H:=(rfl)
abbrev Dq(C:Ctx)(Hs:PH)(S:Spec)(o:POp):Prop:=∀(st:Bool)(d:O_)(K:K_)(F:PF)(H:PH),dOp C Hs S st o d K F H=wU (aV o F (if st then Hs else H)) d K F H
theorem dqr{Hs:PH}{S:Spec}{o:POp}(h:Dq C Hs S o:=by intro _ _ _ _ _;rfl):Dq C Hs S o:=h
@[go_sem] theorem anV(x:aP):Dq C Hs S (.mv x):=dqr
@[go_sem] theorem alI(x:aP):Dq C Hs S (.same x):=dqr
@[go_sem] theorem alH(c a b:aP):Dq C Hs S (.pick c a b):=dqr
@[go_sem] theorem anI(o:BinOp)(x y:aP):Dq C Hs S (.bin o x y):=dqr
@[go_sem] theorem anK(n:Bool)(x y:aP):Dq C Hs S (.eqb n x y):=dqr
@[go_sem] theorem anL(n:Bool)(e:List Sc)(x y:aP):Dq C Hs S (.eqs n e x y):=dqr
@[go_sem] theorem anW(o:UnOp)(x:aP):Dq C Hs S (.un o x):=dqr
@[go_sem] theorem alA(k:IntKind)(x:aP):Dq C Hs S (.conv k x):=dqr
@[go_sem] theorem ajI(z:V_)(ps:List (Nat × Nat × aP)):Dq C Hs S (.build z ps):=dqr
@[go_sem] theorem alF(n:O_)(p:aP):Dq C Hs S (.load n p):=dqr
@[go_sem] theorem aiA(x:aP):Dq C Hs S (.aoQ x):=dqr
@[go_sem] theorem ahU(off:Nat)(x:aP):Dq C Hs S (.apG off x):=dqr
@[go_sem] theorem ajJ(off:Nat)(n:O_)(x:aP):Dq C Hs S (.field off n x):=dqr
@[go_sem] theorem alC(s:Nat)(x i:aP):Dq C Hs S (.aoU s x i):=dqr
@[go_sem] theorem alB(n s:Nat)(x i:aP):Dq C Hs S (.idxA n s x i):=dqr
@[go_sem] theorem alD(n s:Nat)(g:Bool)(x i:aP):Dq C Hs S (.idxV n s g x i):=dqr
@[go_sem] theorem ahV(x i:aP):Dq C Hs S (.apE x i):=dqr
@[go_sem] theorem ajM(s:Nat)(x:aP)(lo hi mx:Option aP):Dq C Hs S (.slice s x lo hi mx):=dqr
@[go_sem] theorem adT(x:aP)(lo hi:Option aP):Dq C Hs S (.apA x lo hi):=dqr
@[go_sem] theorem anM(x:aP):Dq C Hs S (.len x):=dqr
@[go_sem] theorem ahW(x:aP):Dq C Hs S (.apD x):=dqr
@[go_sem] theorem alE(x:aP):Dq C Hs S (.lenM x):=dqr
@[go_sem] theorem ajK(n:Bool)(x:aP):Dq C Hs S (.isNil n x):=dqr
@[go_sem] theorem ahT(x:aP):Dq C Hs S (.apO x):=dqr
@[go_sem] theorem agC(x:aP)(i:Nat):Dq C Hs S (.extract x i):=dqr
@[go_sem] theorem ahZ(m:Bool)(x y:aP):Dq C Hs S (.aoY m x y):=dqr
@[go_sem] theorem alG(n:Nat)(cs:List aP):Dq C Hs S (.mkfn n cs):=dqr
@[go_sem] theorem ahX(sh:MSh)(z:PV)(x k:aP)(ok:Bool):Dq C Hs S (.lookup sh z x k ok):=dqr
@[go_sem] theorem adC(x:aP):Dq C Hs S (.aoR x):=dqr
@[go_sem] theorem akZ(x:aP):Dq C Hs S (.box true x):=dqr
@[go_sem] theorem agB(s l:Nat)(z:V_)(ps:List (Nat × aP)):Dq C Hs S (.aoI true s l z ps):=dqr
@[go_sem] theorem ajH(cs:V_)(st:Bool)(d:O_)(K:K_):dOp C Hs S st (.alloc cs) d K F H=oN (cK (.alloc cs) F) d K F H:=(rfl)
@[go_sem] theorem agD(s b:Nat)(z:V_)(l c:aP)(st:Bool)(d:O_)(K:K_):dOp C Hs S st (.aoL s b z l c) d K F H=oN (cK (.aoL s b z l c) F) d K F H:=(rfl)
@[go_sem] theorem ajL(sh:MSh)(st:Bool)(d:O_)(K:K_):dOp C Hs S st (.apK sh) d K F H=oN (cK (.apK sh) F) d K F H:=(rfl)
@[go_sem] theorem anJ(x:aP)(st:Bool)(d:O_)(K:K_):dOp C Hs S st (.box false x) d K F H=oN (cK (.box false x) F) d K F H:=(rfl)
@[go_sem] theorem ahS(s l:Nat)(z:V_)(ps:List (Nat × aP))(st:Bool)(d:O_)(K:K_):dOp C Hs S st (.aoI false s l z ps) d K F H=oN (cK (.aoI false s l z ps) F) d K F H:=(rfl)
@[go_sem] theorem ajN(n:Nat)(p x:aP)(st:Bool)(d:O_)(K:K_):dOp C Hs S st (.store n p x) d K F H=cG (.store n p x) F H (λr H'=>Hs.le H'/\K (F.put d r) H'):=(rfl)
@[go_sem] theorem ahR(s b:Nat)(x y:aP)(st:Bool)(d:O_)(K:K_):dOp C Hs S st (.append s b x y) d K F H=cG (.append s b x y) F H (λr H'=>Hs.le H'/\K (F.put d r) H'):=(rfl)
@[go_sem] theorem ahY(sh:MSh)(x k v:aP)(st:Bool)(d:O_)(K:K_):dOp C Hs S st (.aoV sh x k v) d K F H=cG (.aoV sh x k v) F H (λr H'=>Hs.le H'/\K (F.put d r) H'):=(rfl)
theorem Ct:H.only []=h_:=PH.ext λo=>by simp[PH.only,h_]
theorem cM{name:Nat}{vs:V_}{v:PV}{args:List aP}{st:Bool}{d:O_}{K:K_}(i:S name vs=some ([],λ_=>aL v))(h:aJ C name vs .nil (aL v))(l:aP.evs F args=some vs)
  (e:Hs.le H) (u:K (F.put d v) H):dOp C Hs S st (.call name args) d K F H:=by
 refine⟨vs,[],λ_=>aL v,l,i,λo w=>by simp at w,by rw[Ct];exact h,λG=>⟨v,.nil,⟨rfl,rfl⟩,λo x y=>by simp[h_]at y⟩,?_⟩;rintro r H' ⟨rfl,rfl⟩ -;rw[Ct,PH.xR];exact⟨e,u⟩
end
theorem wrap_i64{n:Int}(i:-9223372036854775808<=n)(l:n<=9223372036854775807):i_.wrap n=n:=by
 have e:i_.wrap n=if decide (n%18446744073709551616>=9223372036854775808)=true then n%18446744073709551616-18446744073709551616 else n%18446744073709551616:=by simp[IntKind.wrap,IntKind.bits,IntKind.signed]
 rw[e];split;rename_i h;simp only[dT_]at h;omega;rename_i h;simp only[dT_]at h;omega
theorem ia{k:Nat}(h:k<=9223372036854775807):i_.wrap (k:Int)=k:=wrap_i64 Om Om
theorem fQ{k:Nat}(h:k<9223372036854775807):i_.wrap ((k:Int)+1)=((k+1:Nat):Int):=by
 rw[wrap_i64 Om Om];omega
theorem wZz(k:Nat)(h:k<9223372036854775807:=by omega):i_.wrap ((k:Int)+1)=((k+1:Nat):Int):=fQ h
theorem wrap_u64{n:Int}(i:0<=n)(l:n<18446744073709551616):u_.wrap n=n:=by
 have e:u_.wrap n=n%18446744073709551616:=by simp[IntKind.wrap,IntKind.bits,IntKind.signed]
 rw[e];omega
abbrev ints(xs:I_):PV:=.sl 1 (xs.map λn=>[.int .i64 n])
open Go Go.RowKit
inductive CT where
 |int (k:IntKind)
 |bool
 |str
 |sl (es:List CT)
 deriving Inhabited
def wP(P:Program)(rec:TypeId->Option (List CT)):Nat->List Field->Option (List CT)
 |_,[]=>some []
 |k,f::e=>match rec f.type with
  |some cts=>if f.offset=k/\P.cellsOf f.type=cts.length then(wP P rec (k+Z' cts) e).map (cts++·)else none
  |none=>none
def jP(P:Program):Nat->TypeId->Option (List CT)
 |0,_=>none
 |n+1,t=>match P.underlying t with
  |some .bool=>some [.bool]
  |some (.int k)=>some [.int k]
  |some .string=>some [.str]
  |some (.slice e)=>match jP P n e with
   |some cts=>if P.cellsOf e=Z' cts/\0<cts.length then some [.sl cts]else none
   |none=>none
  |some (.struct i)=>match wP P (jP P n) 0 i.toList with
   |some cts=>if P.cellsOf t=cts.length then some cts else none
   |none=>none
  |some (.array k e)=>match jP P n e with
   |some cts=>if P.cellsOf e=Z' cts/\P.cellsOf t=k*cts.length then some (apX k cts).flatten else none
   |none=>none
  |_=>none
inductive PV.Ty:CT->PV->Prop
 |int {k:IntKind} {n:Int} (h:(Lit.int k n).wf=true):PV.Ty (.int k) (.int k n)
 |bool (b:Bool):PV.Ty .bool (.bool b)
 |str {s:List UInt8} (h:Z' s<=maxLen):PV.Ty .str (.str s)
 |sl {es:List CT} {rows:P2_} (hr:∀r∈rows,Z' r=Z' es) (hl:Z' rows<=maxLen) (h:∀(i j:Nat) pv ct,at2 rows i j=some pv->es[j]?=some ct->PV.Ty ct pv):PV.Ty (.sl es) (.sl es.length rows)
def Env.of(W:World)(num:Nat->FuncId):Env:=⟨λb=>match W.heap[b]? with|some (.cells cs _ _)=>some cs|_=>none,λ_=>none,num⟩
theorem bS.start(W:World)(num:Nat->FuncId):bS (Env.of W num) h_ W:=by
 refine⟨λb cs hb=>⟨λx e=>(by cases e),?_⟩,λo x e=>(by cases e),λo n h=>(by cases h)⟩;simp only[Env.of]at hb;split at hb;rename_i c ty fr h;cases hb;exact⟨ty,fr,h⟩;cases hb
structure Reads(E:Env)(cts:List CT)(pvs:V_)(cs:List Value):Prop where
 lp:Z' pvs=Z' cts
 lc:Z' cs=Z' cts
 rep:∀(j:Nat) pv c,pvs[j]?=some pv->cs[j]?=some c->bB E pv c/\c.oneCell'=true
 ty:∀(j:Nat) pv ct,pvs[j]?=some pv->cts[j]?=some ct->PV.Ty ct pv
theorem Reads.one{E:Env}{ct:CT}{pv:PV}{c:Value}(h:bB E pv c)(e:c.oneCell'=true)(i:PV.Ty ct pv):Reads E [ct] [pv] [c]:=by
 refine⟨rfl,rfl,λj p u a b=>?_,λj p u a b=>?_⟩
 ·cases j with
  |zero=>simp at a b;subst a;subst b;exact⟨h,e⟩
  |succ j=>simp at a
 ·cases j with
  |zero=>simp at a b;subst a;subst b;exact i
  |succ j=>simp at a
theorem Reads.append{E:Env}{e l:List CT}{i y:V_}{w x:List Value}(h:Reads E e i w)(k:Reads E l y x):Reads E (e++l) (i++y) (w++x):=by
 refine⟨by simp[h.lp,k.lp],by simp[h.lc,k.lc],λj p u a b=>?_,λj p u a b=>?_⟩;rcases aqW j i.length with hj|hj
 rw[asE hj]at a;rw[asE (by rw[h.lc,<-h.lp];exact hj)]at b;exact h.rep j p u a b;rw[arS hj]at a;rw[arS (by rw[h.lc,<-h.lp];exact hj)]at b;rw[show j-Z' w=j-i.length by rw[h.lc,h.lp]]at b;exact k.rep _ p u a b;rcases aqW j i.length with hj|hj
 rw[asE hj]at a;rw[asE (by rw[<-h.lp];exact hj)]at b;exact h.ty j p u a b;rw[arS hj]at a;rw[arS (by rw[<-h.lp];exact hj)]at b;rw[show j-Z' e=j-i.length by rw[h.lp]]at b;exact k.ty _ p u a b
theorem ja{W:World}{num:Nat->FuncId}{a:Addr}{v:Value}(h:W.cell? a=some v):a.spot=none/\(Env.of W num).cell a.block a.off=some v:=by
 unfold World.cell? at h;split at h;rename_i c ty fr hb;split at h;cases h;rename_i e;refine⟨by simpa using e,?_⟩;simp only[Env.cell,Env.of,hb];exact h;cases h
inductive PV.Len (N:Nat):PV->Prop
 |flat {pv:PV} (h1:∀n rows,pv≠.sl n rows) (h2:∀vs,pv≠.agg vs):PV.Len N pv
 |sl {n:Nat} {rows:P2_} (h:Z' rows<=N) (hr:∀r∈rows,∀v∈r,PV.Len N v):PV.Len N (.sl n rows)
 |agg {vs:V_} (h:∀v∈vs,PV.Len N v):PV.Len N (.agg vs)
theorem PV.Len.int{N:Nat}(k:IntKind)(n:Int):PV.Len N (.int k n):=.flat (λ_ _ h=>by cases h) λ_ h=>by cases h
theorem PV.Len.bool{N:Nat}(b:Bool):PV.Len N (.bool b):=.flat (λ_ _ h=>by cases h) λ_ h=>by cases h
theorem PV.Len.str{N:Nat}(s:List UInt8):PV.Len N (.str s):=.flat (λ_ _ h=>by cases h) λ_ h=>by cases h
theorem PV.Len.rows{N n:Nat}{rows:P2_}(h:PV.Len N (.sl n rows)):Z' rows<=N/\∀r∈rows,∀v∈r,PV.Len N v:=by
 cases h with
 |flat e _=>exact absurd rfl (e n rows)
 |sl e i=>exact⟨e,i⟩
theorem PV.Len.parts{N:Nat}{vs:V_}(h:PV.Len N (.agg vs)):∀v∈vs,PV.Len N v:=by
 cases h with
 |flat _ e=>exact absurd rfl (e vs)
 |agg h=>exact h
structure ay{H:Type}(P:Program)(N:Nat)(S:TypeId->DataW H->Prop):Prop where
 sl:∀t e elems spare,P.underlying t=some (.slice e)->S t (.slice elems spare)->Z' elems<=N/\∀d∈elems,S e d
 st:∀t fs parts,P.underlying t=some (.struct fs)->S t (.agg parts)->∀(i:Nat) g d,fs[i]?=some g->parts[i]?=some d->S g.type d
 ar:∀t n e parts,P.underlying t=some (.array n e)->S t (.agg parts)->∀d∈parts,S e d
theorem WJ{H:Type}{P:Program}{A:(TypeId->DataW H->Prop)->Prop}{pv:PV}(h:∀{N},PV.Len N pv):∀N S,ay P N S->A S->∀v∈[pv],PV.Len N v:=λN S _ _ v e=>by
 obtain rfl:=arA.1 e;exact h
theorem jw{P:Program}{E:Env}{rec:TypeId->Option (List CT)}{H:Type}{f:TypeId->List Value->Option (DataW H × List MemPlace)}
  (F:∀t cs x cts,f t cs=some x->rec t=some cts->∃e,Reads E cts e cs/\∀N S,ay P N S->S t x.1->∀v∈e,PV.Len N v) (cs:List Value) :
  ∀(l:List Field)(k:Nat)(cts:List CT),(∀g∈l,∃x,f g.type ((cs.drop g.offset).take (P.cellsOf g.type))=some x)->wP P rec k l=some cts ->
   ∃e,Reads E cts e ((cs.drop k).take cts.length)/\∀N S,ay P N S->(∀g∈l,∀x,f g.type ((cs.drop g.offset).take (P.cellsOf g.type))=some x->S g.type x.1)->∀v∈e,PV.Len N v
 |[],k,cts,_,h=>by simp[wP]at h;subst h;exact⟨[],⟨rfl,by simp,λj p c a=>by simp at a,λj p c a=>by simp at a⟩,λ_ _ _ _ v hv=>by cases hv⟩
 |g::l,k,cts,B,h=>by
  simp only[wP]at h;split at h;rename_i J L;split at h;rename_i A;simp only[aqB]at h;obtain⟨K,M,rfl⟩:=h;obtain⟨x,D⟩:=B g aX;obtain⟨U,r1,O⟩:=F _ _ _ _ D L;rw[A.1,A.2]at r1;obtain⟨V,r2,R⟩:=jw F cs l (k+Z' J) K (λu i=>B u (by simp[i])) M;refine⟨U++V,?_,λN S w y v hv=>?_⟩;have:=r1.append r2;rw[apV,List.take_add,List.drop_drop];exact this;rcases aqZ.1 hv with hv|hv
  exact O N S w (y g aX x D) v hv;exact R N S w (λu i=>y u (by simp[i])) v hv;cases h;cases h
theorem tp{E:Env}{cts:List CT}{R:V_->Prop}(l:R [])(u:∀a b,R a->R b->R (a++b))(cs:List Value) :
  ∀n:Nat,(∀i,i<n->∃e,Reads E cts e ((cs.drop (i*Z' cts)).take cts.length)/\R e)->∃e,Reads E (apX n cts).flatten e (cs.take (n*Z' cts))/\R e
 |0,_=>⟨[],⟨rfl,by simp,λj p c a=>by simp at a,λj p c a=>by simp at a⟩,l⟩
 |n+1,h=>by obtain⟨w,r1,y⟩:=tp l u cs n λi hi=>h i Om;obtain⟨x,r2,A⟩:=h n Om;refine⟨w++x,?_,u _ _ y A⟩;rw[List.replicate_succ',List.flatten_append,List.flatten_singleton,asL,List.take_add];exact r1.append r2
theorem W9{H:Type}{enc:TypeId × Value->H}{P:Program}{W:World}{base:Nat}{sp:Nat->Bool}{α:Bool}(num:Nat->FuncId) :
  ∀(fuel m:Nat)(t:TypeId)(cs:List Value)(x:DataW H × List MemPlace)(cts:List CT),DataW.trod enc P W base sp α fuel t cs=some x->jP P m t=some cts->∃l,Reads (Env.of W num) cts l cs/\∀N S,ay P N S->S t x.1->∀v∈l,PV.Len N v:=by
 intro fuel
 induction fuel with
 |zero=>intro m t cs x cts h;simp[DataW.trod]at h
 |succ fuel ih=>
  intro m t cs x cts h A;cases m with
  |zero=>simp[jP]at A
  |succ m=>
   simp only[jP]at A;split at A;rename_i L;cases A;obtain⟨b,rfl,-⟩:=DataW.trod_bool L h;exact⟨[.bool b],.one (.bool b) rfl (.bool b),WJ (.bool b)⟩;rename_i k L;cases A;obtain⟨n,rfl,-,hw⟩:=DataW.trod_int L h;exact⟨[.int k n],.one (.int k n) rfl (.int hw),WJ (.int k n)⟩;rename_i L;cases A;obtain⟨s,rfl,-,hs⟩:=DataW.trod_string L h;exact⟨[.str s.data.toList],.one (.str s) rfl (.str (by rw[atD];exact hs)),WJ (.str _)⟩;rename_i e L;split at A;rename_i u he;split at A;rename_i B;cases A;rcases DataW.trod_slice L h with⟨rfl,-⟩|⟨a,len,cap,elems,rest,n,hn,rfl,V,-,β,hcap,hel,helem,-⟩
   refine⟨[.sl u.length []],.one ?_ rfl (.sl aX aX (by simp[at2])),WJ (.sl (apR _) (λr O=>by cases O))⟩;exact .sl (λ_ _=>.bool false) aX aT aX aX (λ_ _=>rfl) (by simp[at2]);cases hn;have each:∀i,i<len->∃l X,(Reads (Env.of W num) u l X/\∀N S,ay P N S->(∀d∈elems.map (·.1),S e d)->∀v∈l,PV.Len N v)/\W.cells? base (a.add (i*Z' u)) u.length=some X:=by intro i hi;have Z:=helem i hi;rw[apZ Om,atV]at Z;obtain⟨X,h2,h3⟩:=Z;obtain⟨l,r,rl⟩:=ih m e X _ u h3 he;rw[B.1]at h2;exact⟨l,X,⟨r,λN S F J=>rl N S F (J _ (aqJ.2 ⟨_,apW _,rfl⟩))⟩,h2⟩
   have γ:∀i,∃l,∃X,i<len->(Reads (Env.of W num) u l X/\∀N S,ay P N S->(∀d∈elems.map (·.1),S e d)->∀v∈l,PV.Len N v)/\W.cells? base (a.add (i*Z' u)) u.length=some X:=by intro i;by_cases hi:i<len;obtain⟨l,X,Z⟩:=each i hi;exact⟨l,X,λ_=>Z⟩;exact⟨[],[],λh=>(hi h).elim⟩
   obtain⟨pf,ν⟩:=Classical.axiomOfChoice γ;obtain⟨uf,K⟩:=Classical.axiomOfChoice ν;have δ:∀i j pv,at2 ((apQ len).map pf) i j=some pv->i<len/\(pf i)[j]?=some pv:=by
    intro i j pv hp;unfold at2 at hp;rw[aqE,atV]at hp;obtain⟨r,O,hp⟩:=hp;rw[aqB]at O;obtain⟨i',M,rfl⟩:=O;have hi:i<len:=by simpa using(aqU.1 M).1
    have:i'=i:=by simp[hi]at M;exact M.symm
    subst this;exact⟨hi,hp⟩
   have hu2:∀i j pv,at2 ((apQ len).map pf) i j=some pv->∃v,(uf i)[j]?=some v/\j<Z' u/\bB (Env.of W num) pv v/\v.oneCell'=true:=by
    intro i j pv hp;obtain⟨hi,U⟩:=δ i j pv hp;obtain⟨⟨r,-⟩,-⟩:=K i hi;have hj:j<Z' u:=by rw[<-r.lp];exact(aqU.1 U).1
    have D:(uf i)[j]?=some ((uf i)[j]'(by rw[r.lc];exact hj)):=apZ _;exact⟨_,D,hj,(r.rep j pv _ U D).1,(r.rep j pv _ U D).2⟩
   have Y:((apQ len).map pf).length=len:=by simp
   refine⟨[.sl u.length ((apQ len).map pf)],.one ?_ rfl (.sl (λr O=>?_) (by rw[Y];omega) λi j pv ct hp ι=>?_),λN S F J v D=>?_⟩;have ζ:=bB.sl (E:=Env.of W num) (size:=Z' u) (rows:=(apQ len).map pf) (a:=some a) (cap:=cap)
    (λi j=>match at2 ((apQ len).map pf) i j with|some _=>((uf i)[j]?).getD (.bool false)|none=>.bool false) (by rw[Y];exact β) hcap
    (λr O=>by simp only[aqJ,aqN]at O;obtain⟨i,hi,rfl⟩:=O;exact(K i hi).1.1.lp)
    (λμ=>by
     have κ:0<len:=by
      rcases arZ len with h|h
      subst h;exact(μ rfl).elim;exact h
     have ε:a.spot=none:=by obtain⟨⟨r,-⟩,A⟩:=K 0 κ;have h3:=(World.cells?_some A).2.2 0 B.2;rw[Nat.zero_mul,Addr.add_zero',Addr.add_zero',apZ (by rw[r.lc];exact B.2)]at h3;exact(ja (num:=num) h3).1
     refine⟨a,rfl,ε,λi j pv hp=>?_⟩;obtain⟨hi,-⟩:=δ i j pv hp;obtain⟨v,D,hj,-⟩:=hu2 i j pv hp;have h3:=(World.cells?_some (K i hi).2).2.2 j hj;rw[rZ ε,add_plain,add_plain,D]at h3;have h4:=(ja (num:=num) h3).2;simp only[hp,D,arT];exact h4)
    (λi j=>by split;rename_i pv hp;obtain⟨v,D,-,-,Z⟩:=hu2 i j pv hp;simp[D,Z];rfl)
    (λi j pv hp=>by obtain⟨v,D,-,Z,-⟩:=hu2 i j pv hp;simp only[hp,D,arT];exact Z)
   rw[Y]at ζ;exact ζ;simp only[aqJ,aqN]at O;obtain⟨i,hi,rfl⟩:=O;exact(K i hi).1.1.lp;obtain⟨hi,U⟩:=δ i j pv hp;exact(K i hi).1.1.ty j pv ct U ι;rw[V]at J;obtain⟨m1,m2⟩:=F.sl t e _ _ L J;obtain rfl:=arA.1 D;refine .sl (by rw[Y];simpa[hel]using m1) λr O w hw=>?_;simp only[aqJ,aqN]at O;obtain⟨i,hi,rfl⟩:=O;exact(K i hi).1.2 N S F m2 w hw;cases A;cases A;rename_i fs L;split at A;rename_i ο η;split at A;rename_i β;cases A;obtain⟨xs,n,hn,V,θ,ξ,hx⟩:=DataW.trod_struct L h;cases hn;have:=jw (f:=DataW.trod enc P W base sp α fuel) (λt cs x cts a b=>ih m t cs x cts a b) cs fs.toList 0 cts (λg hg=>by obtain⟨i,hi,rfl⟩:=arF hg;have:=hx i fs.toList[i] (by simp at hi;simp[hi]);rw[this];exact⟨_,apZ (by simp at hi;omega)⟩) η
   rw[asN,aqR Om]at this;obtain⟨l,r,rl⟩:=this;refine⟨l,r,λN S F J=>rl N S F λg hg y hy=>?_⟩;rw[V]at J;obtain⟨i,hi,rfl⟩:=arF hg;have M:i<fs.size:=by simpa using hi
   have:=hx i fs.toList[i] (by simp[M]);rw[hy,apZ Om]at this;refine F.st t fs _ L J i fs.toList[i] y.1 (by simp[M]) ?_;rw[aqE,apZ Om,<-this];rfl;cases A;cases A;rename_i k e L;split at A;rename_i u he;split at A;rename_i B;cases A;obtain⟨xs,n,hn,V,θ,ξ,hx⟩:=DataW.trod_array L h;cases hn;obtain⟨l,r,hq⟩:=tp (E:=Env.of W num) (cts:=u) (R:=λl=>∀N S,ay P N S->(∀d:DataW H,d∈xs.map (λy:DataW H × List MemPlace=>y.1)->S e d)->∀v∈l,PV.Len N v) (λ_ _ _ _ v D=>by cases D)
    (λa b ha hb N S F J v D=>(aqZ.1 D).elim (ha N S F J v) (hb N S F J v)) cs k λi hi=>by have h2:=hx i hi;rw[apZ Om,B.1]at h2;obtain⟨l,r,rl⟩:=ih m e _ _ u h2 he;exact⟨l,r,λN S F J=>rl N S F (J _ (aqJ.2 ⟨_,apW _,rfl⟩))⟩
   rw[aqR Om]at r;exact⟨l,r,λN S F J=>hq N S F (F.ar t k e _ L (by rw[V]at J;exact J))⟩;cases A;cases A;cases A
theorem ny{H:Type}{enc:TypeId × Value->H}{P:Program}{W:World}{base:Nat}{u:Nat->Bool}{e:Bool}(num:Nat->FuncId)
  (fuel m:Nat) (t:TypeId) (cs:List Value) (x:DataW H × List MemPlace) (cts:List CT) (h:DataW.trod enc P W base u e fuel t cs=some x) (l:jP P m t=some cts):∃i,Reads (Env.of W num) cts i cs:=
 (W9 num fuel m t cs x cts h l).imp λ_ r=>r.1
open Go Go.RowKit Go.ChangeShapes Go.WideShapes
theorem Ext.below{E i:Env}{H':PH}{w e:World}(h:Ext E h_ w i H' e):Below w.heap.size w e:=
 ⟨h.os,h.tape,h.output,h.size,λk l=>h.block k l rfl⟩
theorem Below.trodAll{H:Type}{enc:TypeId × Value->H}{P:Program}(w:laidOutB P=true){W i:World}(hb:Below W.heap.size W i) :
  ∀{ts:List TypeId}{vs:List Value}{ds:List (DataW H)}{ps:List MemPlace},(∀t∈ts,P.readableRec t=true/\t<P.types.size)->DataW.TrodAll enc P W 0 (λ_=>true) true ts vs ds ps ->
   DataW.TrodAll enc P i 0 (λb=>decide (b<W.heap.size)) true ts vs ds ps
 |[],[],[],ps,_,h=>h
 |[],_::_,_,_,_,h=>h.elim
 |[],[],_::_,_,_,h=>h.elim
 |_::_,[],_,_,_,h=>h.elim
 |_::_,_::_,[],_,_,h=>h.elim
 |t::ts,v::vs,d::ds,ps,e,h=>by obtain⟨p,q,l,y,rfl⟩:=h;have hlt:∀x∈p,x.block<W.heap.size:=λx B=>DataW.TrodAll.lt (ts:=[t]) (vs:=[v]) (ds:=[d]) ⟨p,[],l,rfl,(aqY p).symm⟩ x B;exact⟨p,q,Below.trod w (e t aX).1 (e t aX).2 l hb hlt,Below.trodAll w hb (λu A=>e u (by simp[A])) y,rfl⟩
theorem Qm{H:Type}{enc:TypeId × Value->H}{P:Program}{f:Func}{s:ChangeSpec}{e apart fresh:Bool}{W B:World}{args:Array Value}{ds l:List (DataW H)}{i:List MemPlace}{bt:TypeId}
  (F:laidOutB P=true) (hW:DataW.Whole enc P f.params.toList s.vars apart W args.toList ds l i) (hb:Below W.heap.size W B) (x:∀t∈f.params.toList,P.readableRec t=true/\t<P.types.size)
  (w:f.resultTypes=#[bt]) (u:P.underlying bt=some .bool) (y:s.vars=[]) (K:(s.fn H (ds++l)).results=[.lit (.bool true)]) (E:(s.fn H (ds++l)).args=ds) (A:(s.fn H (ds++l)).vars=[]) :
  s.post enc P f apart fresh e false W args (.bool true) B:=by
 obtain⟨p,q,D,hV,rfl,L,J⟩:=hW;rw[y]at hV;obtain⟨rfl,rfl⟩:=trodVars_none hV;refine⟨ds,[],p++[],[],p,[],⟨p,[],D,by rw[y];exact hV,rfl,L,J⟩,?_,?_,?_,hb.frame _,λh=>by cases h⟩;rw[K,w];refine⟨[],[],⟨1,?_⟩,rfl,rfl⟩;simp[DataW.trod,u,Value.cells,Value.resultList];rw[E];exact Below.trodAll F hb x D;rw[y,A];exact rfl
theorem Ph{name:Nat}{W:World}{args:Array Value}{l:V_}(h:aJ C name l h_ (aL (.bool true)))(x:fO (Env.of W C.num) l args.toList) :
  Calls C.P (C.num name) args W λe u=>e=.returned (.bool true)/\Below W.heap.size W u:=
 (h.2 (Env.of W C.num) W args rfl (bS.start W C.num) x).mono λe u he=>by obtain⟨v,pv,y,H',rfl,-,i,w,rfl,-⟩:=he;cases i;exact⟨rfl,w.below⟩
theorem Jd{H:Type}{enc:TypeId × Value->H}{P:Program}{W:World}{r:Reach}{base:Nat}{F:Nat->Bool}{l:Bool}(num:Nat->FuncId){t:TypeId}{v:Value}{d:DataW H}{ps:List MemPlace}{A:Array Field}{n:Nat}{cts:List CT}
  (x:P.underlying t=some (.struct A)) (w:Value.okWide P W r base t v) (D:DataW.Trod enc P W 0 F l t v d ps) (B:jP P n t=some cts) :
  ∃e,bB (Env.of W num) (.agg e) v/\Z' e=Z' cts/\∀(j:Nat) pv ct,e[j]?=some pv->cts[j]?=some ct->PV.Ty ct pv:=by
 obtain⟨cs,rfl,-⟩:=okWide_struct x w;obtain⟨fuel,h⟩:=D;obtain⟨e,i⟩:=ny num fuel n t _ _ cts h B;have E:cs.size=Z' e:=by have:=i.lc;rw[i.lp,<-this];simp[Value.cells]
 refine⟨e,.agg cs E (λu x=>?_) (λj pv u a b=>(i.rep j pv u a (by simpa[Value.cells]using b)).1),i.lp,i.ty⟩;obtain⟨j,y,rfl⟩:=arF x;simp only[atD]at y;exact(i.rep j _ _ (apZ Om) (by simp[Value.cells,y])).2
theorem AG{H:Type}{enc:TypeId × Value->H}{P:Program}{W:World}{A:Nat->Bool}{e:Bool}(num:Nat->FuncId){t:TypeId}{v:Value}{d:DataW H}{ps:List MemPlace}{n:Nat}{ct:CT}
  (y:v.cells=#[v]) (w:DataW.Trod enc P W 0 A e t v d ps) (u:jP P n t=some [ct]):∃pv,bB (Env.of W num) pv v/\PV.Ty ct pv:=by
 obtain⟨fuel,h⟩:=w;obtain⟨l,i⟩:=ny num fuel n t _ _ [ct] h u;rw[y]at i;have x:=i.lp;cases l with
 |nil=>simp at x
 |cons pv rest=>exact⟨pv,(i.rep 0 pv v rfl rfl).1,i.ty 0 pv ct rfl rfl⟩
def InK(k:IntKind)(n:Int):Prop:=k.min<=n/\n<=k.max
def Kt(k:IntKind)(xs:I_):PV:=.sl 1 (xs.map λn=>[.int k n])
theorem Ty.Hb{k:IntKind}{pv:PV}(h:PV.Ty (.int k) pv):∃n,pv=.int k n/\InK k n:=by
 cases h with
 |int h=>simp only[Lit.wf,apT,dT_]at h;exact⟨_,rfl,h⟩
theorem Ty.abV{ct:CT}{pv:PV}(h:PV.Ty (.sl [ct]) pv):∃vs:V_,pv=.sl 1 (vs.map λv=>[v])/\Z' vs<=maxLen/\∀v∈vs,PV.Ty ct v:=by
 cases h with
 |@sl D rows B A h=>
 have l:∀r∈rows,r=[r.headD .junk]:=λr u=>by
  have:=B r u
  match r,this with
  |[x],_=>rfl
 have e:rows=(rows.map λr=>r.headD .junk).map λv=>[v]:=by rw[asR];apply asJ aX;intro n y E;simp only[arI,Function.comp];exact l _ (apW y)
 refine⟨rows.map λr=>r.headD .junk,by rw[<-e];rfl,by simpa using A,λv w=>?_⟩;rw[aqJ]at w;obtain⟨r,u,rfl⟩:=w;obtain⟨i,hi,rfl⟩:=arF u;refine h i 0 _ ct ?_ rfl;have:=l rows[i] u;unfold at2;rw[apZ hi,atO,this];rfl
theorem Ty.Ur{k:IntKind}{pv:PV}(h:PV.Ty (.sl [.int k]) pv):∃xs:I_,pv=Kt k xs/\Z' xs<=maxLen/\∀x∈xs,InK k x:=by
 obtain⟨vs,rfl,A,l⟩:=Ty.abV h;have e:vs=(vs.map λv=>match v with | .int _ n=>n|_=>0).map λn=>PV.int k n:=by rw[asR];apply asJ aX;intro n w B;simp only[arI,Function.comp];obtain⟨m,i,-⟩:=Ty.Hb (l _ (apW w));rw[i]
 refine⟨vs.map λv=>match v with | .int _ n=>n|_=>0,?_,by simpa using A,λx u=>?_⟩
 ·unfold Kt
  conv=>lhs;rw[e]
  rw[asR];rfl
 ·rw[aqJ]at u;obtain⟨v,i,rfl⟩:=u;obtain⟨m,rfl,y⟩:=Ty.Hb (l v i);exact y
end Go.PM
namespace Go.Proofs.YtfeiflgckfjohabGreatDoor
open Go Go.PM
def Hm:N_:=[0,0,0,383,376,310,363,365,366,84,213,29,5,1,7,308,304,307,309,28,364,367,231,151,368,369,370,153,152,371,372,68,88,95,3,30,48,8,6,51,306,305,78,86,300,303,301,83,334,289,331,329,373,97,207,208,211,162,155,374,206,158,77,74,71,69,57,55,75,73,70,91,85,2,196,59,36,60,343,344,345,346,116,347,337,287,299,288,285,336,115,338,232,339,105,112,96,113,111,212,161,159,181,204,230,63,72,76,56,54,39,52,53,62,67,50,90,81,164,35,34,352,353,354,355,356,121,120,357,286,283,284,293,297,298,349,119,130,122,123,233,209,279,350,114,106,98,100,118,103,107,109,124,157,160,193,172,202,66,65,47,61,33,89,163,42,40,359,360,361,132,129,131,136,133,292,295,296,117,139,134,280,128,135,99,104,101,108,110,102,127,126,185,184,182,183,194,190,10,191,192,173,174,64,31,58,38,37,171,170,166,167,32,46,45,43,41,138,137,142,125,195,188,0,186,187,11,44,49,169,165,168,175,141,144,143,140,189,176,177]
def aeR : N_ -> Nat -> Nat -> Nat
 | [], _, _ => 0
 | x :: l, n, k => if arR x n then k else aeR l n (k+1)
def num(n:Nat):FuncId:=aeR Hm (n+1) 0
def nameOf (f : FuncId) : O_ := match Hm.getD f 0 with
 | 0 => none
 | n+1 => some n
noncomputable def T(ro:N_):Tbl:={ P:=Tryz.prog,num:=num,name:=nameOf,ro:=ro }
end Go.Proofs.YtfeiflgckfjohabGreatDoor
namespace Go.PM
open Go
abbrev Rg:=List bQ
abbrev Rd:=List (bQ×Bool)
def aI.rs : aI->List Rg
 | .region r=>[r] | .seq a b=>a.rs++b.rs | .cond _ a b=>a.rs++b.rs | .block _ a=>a.rs | .loop a=>a.rs | _=>[]
def aI.ds : aI->List Rd
 | .draw r=>[r] | .seq a b=>a.ds++b.ds | .cond _ a b=>a.ds++b.ds | .block _ a=>a.ds | .loop a=>a.ds | _=>[]
theorem FJ (n:Nat) (h:n<2^8):UInt8.ofBitVec (BitVec.ofFin ⟨n,h⟩)=UInt8.ofNat n:=by
 apply UInt8.toNat_inj.1;have e:n<256:=h;simp [UInt8.toNat_ofNat'];omega
def aI.ls : aI->List aI
 | .seq a b=>a.ls++b.ls | .cond _ a b=>a.ls++b.ls | .block _ a=>a.ls | .loop a=>a::a.ls | _=>[]
def bV(ro:N_)(f:Func)(x:{p:kT//(Go.Proofs.YtfeiflgckfjohabGreatDoor.T ro).func f=some p}:=by refine⟨?_,?_⟩;rotate_left;conv=>lhs;reduce):kT:=x.1
def aA(q:kT)(k:Nat)(x:{l:Rg//(q.body.rs).getD k []=l}:=by refine⟨?_,?_⟩;rotate_left;conv=>lhs;reduce;try simp only[FJ,UInt8.reduceOfNat,Int.reduceOfNat,Int.reduceNegSucc]):Rg:=x.1
def eH(q:kT)(k:Nat)(x:{l:Rd//(q.body.ds).getD k []=l}:=by refine⟨?_,?_⟩;rotate_left;conv=>lhs;reduce;try simp only[FJ,UInt8.reduceOfNat,Int.reduceOfNat,Int.reduceNegSucc]):Rd:=x.1
def aiL(q:kT)(k:Nat)(x:{c:aI//(q.body.ls).getD k .skip=c}:=by refine⟨?_,?_⟩;rotate_left;conv=>lhs;reduce;try simp only[FJ,UInt8.reduceOfNat,Int.reduceOfNat,Int.reduceNegSucc]):aI:=x.1
def cF(q:kT)(x:{c:aI//q.body=c}:=by refine⟨?_,?_⟩;rotate_left;conv=>lhs;reduce;try simp only[FJ,UInt8.reduceOfNat,Int.reduceOfNat,Int.reduceNegSucc]):aI:=x.1
@[go_sem ↓] theorem anN(ro:N_)(f:Func)(p:kT)(h:(Go.Proofs.YtfeiflgckfjohabGreatDoor.T ro).func f=some p):bV ro f ⟨p,h⟩=p:=(rfl)
@[go_sem ↓] theorem alZ(q:kT)(k:Nat)(l:aI)(h:(q.body.ls).getD k .skip=l):aiL q k ⟨l,h⟩=l:=(rfl)
@[go_sem ↓] theorem akV(q:kT)(l:aI)(h:q.body=l):cF q ⟨l,h⟩=l:=(rfl)
@[go_sem ↓] theorem amI(q:kT)(k:Nat)(l:Rg)(h:(q.body.rs).getD k []=l):aA q k ⟨l,h⟩=l:=(rfl)
@[go_sem ↓] theorem alJ(q:kT)(k:Nat)(l:Rd)(h:(q.body.ds).getD k []=l):eH q k ⟨l,h⟩=l:=(rfl)
def gB(d:Nat)(o:BinOp)(x y g:Nat)(b:Bool):bQ:=⟨some d,.bin o (.tmp x) (.tmp y),some (g,b)⟩
def sq(r:Rg)(c:aI):aI:=.seq (.region r) c
def dq(r:Rd)(c:aI):aI:=.seq (.draw r) c
def Tm(n:Nat):aP:=.tmp n
@[go_sem] theorem aoA(d:Nat)(o:BinOp)(x y g:Nat)(b:Bool):gB d o x y g b=⟨some d,.bin o (.tmp x) (.tmp y),some (g,b)⟩:=(rfl)
@[go_sem] theorem aoB(r:Rg)(c:aI):sq r c=.seq (.region r) c:=(rfl)
@[go_sem] theorem anZ(r:Rd)(c:aI):dq r c=.seq (.draw r) c:=(rfl)
@[go_sem] theorem anY(n:Nat):Tm n=.tmp n:=(rfl)
def gW(r:Rg)(t k:Nat)(s:Rg)(b:aI):aI:=sq r (.seq (.cond (Tm t) .skip (.exit k)) (.seq (.block (k+1) b) (.region s)))
@[go_sem] theorem alX(r:Rg)(t k:Nat)(s:Rg)(b:aI):gW r t k s b=sq r (.seq (.cond (Tm t) .skip (.exit k)) (.seq (.block (k+1) b) (.region s))):=(rfl)
def eN(r:Rg)(t k:Nat)(s:Rg)(b:aI):aI:=.seq (sq r (.cond (Tm t) .skip (.exit k))) (.seq (.block (k+1) b) (.region s))
@[go_sem] theorem alY(r:Rg)(t k:Nat)(s:Rg)(b:aI):eN r t k s b=.seq (sq r (.cond (Tm t) .skip (.exit k))) (.seq (.block (k+1) b) (.region s)):=(rfl)
def pI(r:Rg)(n:Nat)(y:Rg)(b:aI):aI:=.seq (sq r (.cond (Tm n) (sq y .ret) .skip)) b
@[go_sem] theorem akY(r:Rg)(n:Nat)(y:Rg)(b:aI):pI r n y b=.seq (sq r (.cond (Tm n) (sq y .ret) .skip)) b:=(rfl)
def jQ(r:Rg)(n:Nat)(a b:aI):aI:=.seq (sq r (.cond (Tm n) a .skip)) b
@[go_sem] theorem akX(r:Rg)(n:Nat)(a b:aI):jQ r n a b=.seq (sq r (.cond (Tm n) a .skip)) b:=(rfl)
def dF(r:Rg)(k:Nat)(l:aI):aI:=sq r (.block k (.loop l))
@[go_sem] theorem anH(r:Rg)(k:Nat)(l:aI):dF r k l=sq r (.block k (.loop l)):=(rfl)
end Go.PM
namespace Go.PM
open Go
def xq:=bV [] Proofs.Tryz.f33
def js:=cF xq
open Go Go.RowKit Go.ChangeShapes Go.WideShapes
inductive AT where
 |one (ct:CT)
 |struct (cts:List CT)
 deriving Inhabited
def Jc(P:Program)(n:Nat)(t:TypeId):Option AT:=
 match P.underlying t with
 |some .bool=>some (.one .bool)
 |some (.int k)=>some (.one (.int k))
 |some .string=>some (.one .str)
 |some (.slice _)=>match jP P n t with
  |some [ct]=>some (.one ct)
  |_=>none
 |some (.struct _)=>(jP P n t).map .struct
 |_=>none
def LD(P:Program)(n:Nat):List TypeId->Option (List AT)
 |[]=>some []
 |t::ts=>match Jc P n t,LD P n ts with
  |some a,some e=>some (a::e)
  |_,_=>none
inductive AT.Ty:AT->PV->Prop
 |one {ct:CT} {pv:PV} (h:PV.Ty ct pv):AT.Ty (.one ct) pv
 |struct {cts:List CT} {pvs:V_} (hl:Z' pvs=Z' cts) (h:∀(j:Nat) pv ct,pvs[j]?=some pv->cts[j]?=some ct->PV.Ty ct pv):AT.Ty (.struct cts) (.agg pvs)
def AT.TyL:List AT->V_->Prop
 |[],[]=>True
 |a::e,p::ps=>AT.Ty a p/\AT.TyL e ps
 |_,_=>False
section
variable {H:Type} {enc:TypeId × Value->H} {P:Program} {W:World} {sp:Nat->Bool} {held:Bool}
theorem adP{r:Reach}{base:Nat}(num:Nat->FuncId){t:TypeId}{v:Value}{d:DataW H}{ps:List MemPlace}{n:Nat}{a:AT}
  (i:Value.okWide P W r base t v) (A:DataW.Trod enc P W 0 sp held t v d ps) (u:Jc P n t=some a):∃pv,bB (Env.of W num) pv v/\AT.Ty a pv:=by
 unfold Jc at u;cases n with
 |zero =>split at u;rename_i l;cases u;obtain⟨b,rfl⟩:=okWide_bool l i;obtain⟨pv,w,y⟩:=AG (n:=1) (ct:=.bool) num (by simp[Value.cells]) A (by simp[jP,l]);exact⟨pv,w,.one y⟩;rename_i k l;cases u;obtain⟨b,rfl⟩:=okWide_int l i;obtain⟨pv,w,y⟩:=AG (n:=1) (ct:=.int k) num (by simp[Value.cells]) A (by simp[jP,l]);exact⟨pv,w,.one y⟩;rename_i l;cases u;obtain⟨b,rfl⟩:=okWide_string l i;obtain⟨pv,w,y⟩:=AG (n:=1) (ct:=.str) num (by simp[Value.cells]) A (by simp[jP,l]);exact⟨pv,w,.one y⟩;simp[jP]at u;simp[jP]at u;cases u
 |succ n =>split at u;rename_i l;cases u;obtain⟨b,rfl⟩:=okWide_bool l i;obtain⟨pv,w,y⟩:=AG (n:=n+1) (ct:=.bool) num (by simp[Value.cells]) A (by simp[jP,l]);exact⟨pv,w,.one y⟩;rename_i k l;cases u;obtain⟨b,rfl⟩:=okWide_int l i;obtain⟨pv,w,y⟩:=AG (n:=n+1) (ct:=.int k) num (by simp[Value.cells]) A (by simp[jP,l]);exact⟨pv,w,.one y⟩;rename_i l;cases u;obtain⟨b,rfl⟩:=okWide_string l i;obtain⟨pv,w,y⟩:=AG (n:=n+1) (ct:=.str) num (by simp[Value.cells]) A (by simp[jP,l]);exact⟨pv,w,.one y⟩;rename_i e l;split at u;rename_i ct B;cases u;obtain⟨x,len,cap,rfl⟩:=okWide_slice l i;obtain⟨pv,w,y⟩:=AG num (by simp[Value.cells]) A B;exact⟨pv,w,.one y⟩;cases u;rename_i F l;rw[aqB]at u;obtain⟨cts,B,rfl⟩:=u;obtain⟨E,w,y,D⟩:=Jd num l i A B;exact⟨_,w,.struct y D⟩;cases u
theorem Gr{r:Reach}{base:Nat}(num:Nat->FuncId){n:Nat}:∀{ts:List TypeId}{vs:List Value}{ds:List (DataW H)}{ps:List MemPlace}{i:List AT},DataW.TrodAll enc P W 0 sp held ts vs ds ps ->
  (∀(j:Nat) t v,ts[j]?=some t->vs[j]?=some v->Value.okWide P W r base t v)->LD P n ts=some i->∃e,fO (Env.of W num) e vs/\AT.TyL i e
 |[],[],_,_,i,_,_,h=>by simp[LD]at h;subst h;exact⟨[],.nil,trivial⟩
 |[],_::_,_,_,_,h,_,_=>h.elim
 |_::_,[],[],_,_,h,_,_=>h.elim
 |_::_,[],_::_,_,_,h,_,_=>h.elim
 |_::_,_::_,[],_,_,h,_,_=>h.elim
 |t::ts,v::vs,d::ds,ps,i,h,u,l=>by obtain⟨p,q,y,A,rfl⟩:=h;simp only[LD]at l;split at l;rename_i a w x e2;cases l;obtain⟨pv,r1,B⟩:=adP num (u 0 t v rfl rfl) y x;obtain⟨e,r2,D⟩:=Gr num A (λj t v a b=>u (j+1) t v (by simpa using a) (by simpa using b)) e2;exact⟨pv::e,.cons r1 r2,B,D⟩;cases l
theorem TrodAll.length:∀{ts:List TypeId}{vs:List Value}{ds:List (DataW H)}{ps:List MemPlace},DataW.TrodAll enc P W 0 sp held ts vs ds ps->Z' ds=Z' ts
 |[],[],[],_,_=>rfl
 |[],[],_::_,_,h=>h.elim
 |[],_::_,_,_,h=>h.elim
 |_::_,[],[],_,h=>h.elim
 |_::_,[],_::_,_,h=>h.elim
 |_::_,_::_,[],_,h=>h.elim
 |t::ts,v::vs,d::ds,ps,h=>by obtain⟨p,q,i,e,rfl⟩:=h;simp[TrodAll.length e]
end
theorem Aa{H:Type}{enc:TypeId × Value->H}{P:Program}{f:FuncId}{fn:Func}{s:ChangeSpec}{apart fresh i:Bool}{bt:TypeId}{num:Nat->FuncId}{name n:Nat}{ats:List AT}
  (R:laidOutB P=true) (J:fn.params.toList.all (λt=>P.readableRec t&&decide (t<P.types.size))=true) (E:fn.resultTypes=#[bt]) (D:P.underlying bt=some .bool) (M:s.vars=[])
  (U:∀ds:List (DataW H),Z' ds=Z' fn.params.toList->(s.fn H ds).results=[.lit (.bool true)]/\(s.fn H ds).args=ds/\(s.fn H ds).vars=[])
  (x:num name=f) (O:LD P n fn.params.toList=some ats) (h:∀u,AT.TyL ats u->aJ ⟨P,num⟩ name u h_ (aL (.bool true)))
  {W:World} {base:Nat} {args:Array Value} {ds N:List (DataW H)} {l:List MemPlace}
  (A:∀(j:Nat) t v,fn.params[j]?=some t->args[j]?=some v->Value.okWide P W .any base t v) (hW:DataW.Whole enc P fn.params.toList s.vars apart W args.toList ds N l) :
  Calls P f args W λe K=>∃v,e=.returned v/\s.post enc P fn apart fresh i false W args v K:=by
 have y:∀t∈fn.params.toList,P.readableRec t=true/\t<P.types.size:=λt F=>by have:=aqM.1 J t F;simpa using this
 have B:=hW;obtain⟨p,q,L,hV,rfl,Y,X⟩:=hW;rw[M]at hV;obtain⟨rfl,rfl⟩:=trodVars_none hV;obtain⟨u,S,F⟩:=Gr num L (λj t v a b=>A j t v (by simpa using a) (by simpa using b)) O;have w:=TrodAll.length L;subst x;obtain⟨r1,r2,V⟩:=U (ds++[]) (by simpa using w);refine(Ph (C:=⟨P,num⟩) (h u F) S).mono λe K he=>?_;obtain⟨rfl,hb⟩:=he;exact⟨_,rfl,Qm R B hb y E D M r1 (by rw[r2];simp) V⟩
open Go
attribute [go_sem] pZ gU setCells PV.cells PV.one cG storeAt cK loadCells dH bnd PV.slice PV.intOf PV.eqs PV.eq1 PV.un keyOf KS.of KS.ofs KS.sh atS List.all_nil asT List.set_cons_succ aqL arY aqD arE aqM Bool.and_self
attribute [go_sem] Bool.bne_false Bool.bne_true Int.le_refl Int.lt_irrefl decide_true decide_false exists_eq_left exists_eq_left' apP List.length_replicate arP Int.natCast_nonneg Option.isSome_some Option.isSome_none arT Option.getD_none dT_ decide_eq_false_iff_not aqA arG apU Nat.sub_zero
def aN(xs:I_):P2_:=xs.map λn=>[.int .i64 n]
theorem bJ{a b:Int}(h:a≠b):(a==b)=false:=by simp[h]
theorem cC{a b:Int}(h:a=b):(a==b)=true:=by simp[h]
theorem cX{a b:Int}(h:a≠b):(a != b)=true:=by simp[h]
theorem bW{a b:Int}(h:a=b):(a != b)=false:=by simp[h]
section
variable {H:PH}
@[go_sem] theorem PH.set_set(o:Nat)(x y:aR):(H.set o x).set o y=H.set o y:=PH.ext λq=>by
 simp only[aM];split<;>rfl
@[go_sem] theorem bL(o:Nat)(x:aR):(H.set o x) o=some x:=by simp only[aM,if_true]
end
section
variable {C:Ctx} {K:bT} {F:PF} {H:PH}
theorem PH.uP(o:Nat)(x:aR):H.over .nil (h_.set o x)=H.set o x:=PH.ext λq=>by
 rw[iN];simp only[aM,WT];split<;>simp_all
theorem PH.HE(o:Nat)(x y:aR):H.over (h_.set o x) (h_.set o y)=H.set o y:=PH.ext λq=>by
 rw[iN];simp only[aM,WT];split<;>simp_all
theorem jG{name:Nat}{vs:V_}{e:PH}{R:R_}{args:List aP}{d:O_}{K:K_}(h:aJ C name vs e R)(l:aP.evs F args=some vs)(i:e.le H)
  (u:∀r H',R r H'->qS H e H'->K (F.put d r) (H.over e H')):jX C name args [] d K F H:=
 .inl ⟨vs,e,R,by rw[l];simp,i,h,u⟩
theorem bK{res:List dY}{R:R_}{vs:V_}{e:lY}(he:e=.normal\/e=.ret)(i:PH)(h:dY.evs F H res=some vs)(l:i.le H)(A:R (bO vs) i):aW res R e F H:=by
 have w:∃vs,dY.evs F H res=some vs/\∃x y H2,jJ (n_.set 0 (bO vs)) H x y/\H2.le y/\∃u,x 0=some u/\R u H2:=
  ⟨vs,h,_,H,i,.refl _ _,l,bO vs,by rw[mU,aE rfl],A⟩
 rcases he with rfl|rfl<;>exact w
theorem PL{t o s k:Nat}{rs:P2_}{R:R_}{e:lY}(he:e=.normal\/e=.ret)(h:F t=some (.osl o s 0 k))(y:H o=some (.rows s rs))(A:k<=Z' rs)(x:R (.sl s (rs.take k)) .nil) :
  aW [.tmp t] R e F H:=by
 have i:∃vs,dY.evs F H [.tmp t]=some vs/\∃l w H2,jJ (n_.set 0 (bO vs)) H l w/\H2.le w/\∃u,l 0=some u/\R u H2:=by refine⟨[.osl o s 0 k],by rw[nM,rK,h,tK],_,_,.nil,.step o y (.refl _ _),a_,.sl s (rs.take k),?_,x⟩;have:0+k<=Z' rs:=Om;simp only[PF.frz,mU,if_true,bO,aqK,PV.frz,PV.nF,PV.cZ,true_and,aE this,asN]
 rcases he with rfl|rfl<;>exact i
def cY(v:PV)(r:PV)(H:PH):Prop:=Co r v/\H=h_
theorem aJ.Me{name:Nat}{args:V_}{H:PH}{v:PV}(h:aJ C name args H (cY v)):aJ C name args H (aL v):=
 h.post λr H' ⟨e,i⟩=>⟨v,e,rfl,i⟩
theorem aL.Me{v r:PV}{H:PH}(h:aL v r H):cY v r H:=by
 obtain⟨rfl,rfl⟩:=h;exact⟨.refl _,rfl⟩
theorem rS{s b:Nat}{y:PV}{src:P2_}{K:R_}(u:dH H s y=some src)(l:roomFor 0 src.length b)(e:src=[]->K .aG H)
  (i:src≠[]->∀o,H o=none->K (.osl o s 0 src.length) (H.set o (.rows s src))):kM H s b .aG y K:=⟨src,u,l,e,i⟩
theorem Em{o s b len:Nat}{rs:P2_}{y:PV}{src:P2_}{K:R_}(x:dH H s y=some src)(w:roomFor len src.length b)(u:H o=some (.rows s rs))(l:len<=Z' rs)
  (e:K (.osl o s 0 (len+Z' src)) (H.set o (.rows s (rs.take len++src))))
  (i:∀o',H o'=none->K (.osl o' s 0 (len+Z' src)) (H.set o' (.rows s (rs.take len++src)))):kM H s b (.osl o s 0 len) y K:=
 ⟨src,x,rfl,rfl,w,rs,u,l,e,i⟩
end
def bA(H:PH)(s:Nat)(v:PV)(rows:P2_):Prop:=
 (rows=[]/\v=.aG)\/∃q rs,v=.osl q s 0 rows.length/\H q=some (.rows s rs)/\Z' rows<=Z' rs/\rs.take rows.length=rows
def Seen(s:Nat)(v:PV)(rows:P2_):Prop:=(rows=[]/\v=.aG)\/v=.sl s rows
section
variable {C:Ctx} {K:bT} {F:PF} {H:PH} {s b:Nat} {v y:PV} {rows src:P2_}
theorem bA.nil:bA H s .aG []:=.inl ⟨rfl,rfl⟩
theorem bA.view(h:bA H s v rows):dH H s v=some rows:=by
 rcases h with⟨rfl,rfl⟩|⟨q,rs,rfl,h1,h2,h3⟩
 rfl;have:0+Z' rows<=Z' rs:=Om;simp only[dH,if_true,h1,true_and,aE this,asN,h3]
theorem Seen.view(h:Seen s v rows):dH H s v=some rows:=by
 rcases h with⟨rfl,rfl⟩|rfl
 rfl;simp[dH]
theorem bA.ext{H':PH}(h:bA H s v rows)(e:∀o x,H o=some x->H' o=some x):bA H' s v rows:=by
 rcases h with h|⟨q,rs,h0,h1,h2,h3⟩
 exact .inl h;exact .inr ⟨q,rs,h0,e q _ h1,h2,h3⟩
theorem fS{K:R_}(h:bA H s v rows)(E:dH H s y=some src)(D:roomFor rows.length src.length b)
  (B:∀v' H',bA H' s v' (rows++src)->(∀o x,H o=some x->(∀l,v≠.osl o s 0 l)->H' o=some x)->K v' H'):kM H s b v y K:=by
 rcases h with⟨rfl,rfl⟩|⟨q,rs,rfl,h1,h2,h3⟩
 refine⟨src,E,D,λe=>?_,λe o A=>?_⟩;subst e;exact B _ _ (.inl ⟨rfl,rfl⟩) λo x A _=>A;refine B _ _ (.inr ⟨o,src,rfl,by simp only[aM,if_true],apU _,by simp⟩) λo' x i _=>?_;have:o'≠o:=by rintro rfl;rw[A]at i;cases i
 simp only[aM,aC this,i];have u:(rows++src).length=Z' rows+Z' src:=apV;refine⟨src,E,rfl,rfl,D,rs,h1,h2,?_,λo A=>?_⟩;rw[h3];refine B _ _ (.inr ⟨q,rows++src,by rw[u],by simp only[aM,if_true],apU _,aqO⟩) λo' x i w=>?_;have:o'≠q:=by rintro rfl;exact w _ rfl
 simp only[aM,aC this,i];rw[h3];refine B _ _ (.inr ⟨o,rows++src,by rw[u],by simp only[aM,if_true],apU _,aqO⟩) λo' x i w=>?_;have J:o'≠o:=by rintro rfl;rw[A]at i;cases i
 simp only[aM,aC J,i]
def Pure(u:PV):Prop:=∀q s rs,PV.frz q s rs u=u
theorem bA.frz(h:bA H s v rows):∃l,Seen s l rows/\∀F:PF,∃e w,jJ F H e w/\(∀t,F t=some v->e t=some l)/\∀i u,F i=some u->Pure u->e i=some u:=by
 rcases h with⟨rfl,rfl⟩|⟨q,rs,rfl,h1,h2,h3⟩
 exact⟨.aG,.inl ⟨rfl,rfl⟩,λF=>⟨F,H,.refl _ _,λt h=>h,λi u h _=>h⟩⟩;refine⟨.sl s rows,.inr rfl,λF=>⟨_,_,.step q h1 (.refl _ _),λt x=>?_,λi u hi hp=>?_⟩⟩;have:0+Z' rows<=Z' rs:=Om;simp only[PF.frz,x,aqK,PV.frz,PV.nF,PV.cZ,if_true,true_and,aE this,asN,h3];simp only[PF.frz,hi,aqK];rw[hp]
theorem oK{t:Nat}{e:lY}(he:e=.normal\/e=.ret)(h:bA H s v rows)(i:F t=some v):aW [.tmp t] (cY (.sl s rows)) e F H:=by
 rcases h with⟨rfl,rfl⟩|⟨q,rs,rfl,h1,h2,h3⟩
 exact bK (vs:=[.aG]) he .nil (by rw[nM,rK,i,tK]) a_ ⟨.nil s,rfl⟩;exact PL he i h1 h2 ⟨by rw[h3];exact .refl _,rfl⟩
end
end Go.PM
namespace Go.PM
open Go
section
variable {C:Ctx} {F:PF} {H:PH}
@[go_sem] theorem uE(o s:Nat)(rs:P2_)(i:Nat):(F.frz o s rs) i=(F i).map (PV.frz o s rs):=(rfl)
theorem p5{name t o s k:Nat}{rs:P2_}{v:PV}{d:O_}{K:K_}(h:aJ C name [.sl s (rs.take k)] .nil (aL v))(l:F t=some (.osl o s 0 k))(i:H o=some (.rows s rs))(u:k<=Z' rs)
  (e:K ((F.frz o s rs).put d v) (H.frz o s rs)):jX C name [.tmp t] [] d K F H:=by
 refine .inr ⟨_,_,.step o i (.refl _ _),[.sl s (rs.take k)],.nil,aL v,?_,a_,h,?_⟩;have:0+k<=Z' rs:=Om;simp only[GH,WS,jv,uE,l,aqK,PV.frz,PV.nF,PV.cZ,if_true,true_and,aE this,asN,aqY];rintro r H' ⟨rfl,rfl⟩ -;rw[PH.xR];exact e
end
section
variable {C:Ctx} {K:bT} {F:PF} {H Hs:PH} {S:Spec}
theorem PH.over_self(i:PH)(h:i.le H):H.over i i=H:=PH.ext λq=>by
 rw[iN];cases e:i q with
 |none=>rfl
 |some x=>exact(h q x e).symm
theorem dy{o:Nat}{x:aR}(h:H o=some x):H.only [o]=h_.set o x:=PH.ext λq=>by
 rw[yF,aM];by_cases e:q=o;subst e;simp[h];simp[e,WT]
theorem To{name o:Nat}{x:aR}{vs:V_}{v:PV}{R:PH->R_}{args:List aP}{st:Bool}{d:O_}{K:K_}(D:S name vs=some ([o],R))(B:H o=some x)
  (h:aJ C name vs (h_.set o x) (λr H'=>r=v/\H'=h_.set o x)) (i:R (h_.set o x) v (h_.set o x)) (u:∀r H',R (h_.set o x) r H'->r=v/\H'=h_.set o x) (E:aP.evs F args=some vs) (w:Hs.le H) (J:K (F.put d v) H) :
  dOp C Hs S st (.call name args) d K F H:=by
 have e:=dy B;refine⟨vs,[o],_,E,D,λq hq=>?_,?_,λG=>⟨v,_,by rw[e];exact i,λq y L A=>?_⟩,λr H' l _=>?_⟩;simp at hq;subst hq;exact⟨x,B⟩;rw[e];exact h.post λr H' l=>⟨r,.refl _,by rw[l.1,l.2];exact i⟩;rw[e]at A;rw[L]at A;cases A;rw[e]at l;obtain⟨rfl,rfl⟩:=u r H' l;rw[e,PH.over_self _ (by rw[<-e];exact XE H [o])];exact⟨w,J⟩
@[go_sem] theorem AL(o s:Nat)(rs:P2_)(q:Nat):(H.frz o s rs) q=if q=o then none else(H q).map (aR.frz o s rs):=(rfl)
end
@[go_sem] theorem ahM(a b:List UInt8):LG .eql a b=some (.bool (a==b)):=(rfl)
@[go_sem] theorem ahN(a b:List UInt8):LG .neq a b=some (.bool !(a==b)):=(rfl)
@[go_sem] theorem Jh(a b:List UInt8):LG .add a b=if((Z' a+Z' b:Nat):Int)>9223372036854775807 then none else some (.str (a++b)):=(rfl)
@[go_sem] theorem adB:(([]:List UInt8)==[])=true:=(rfl)
@[go_sem] theorem Y6(c:UInt8)(t:List UInt8):((c::t)==[])=false:=(rfl)
theorem vG{a b:List UInt8}(h:a=b):(a==b)=true:=by simp[h]
theorem i8{a b:List UInt8}(h:a≠b):(a==b)=false:=by simp[h]
section
variable {C:Ctx} {F:PF} {H:PH}
theorem tM{name o s:Nat}{rs:P2_}{vs:V_}{v:PV}{args:List aP}{d:O_}{K:K_}(h:aJ C name vs .nil (aL v))(l:H o=some (.rows s rs))
  (i:aP.evs (F.frz o s rs) args=some vs) (e:K ((F.frz o s rs).put d v) (H.frz o s rs)):jX C name args [] d K F H:=by
 refine .inr ⟨_,_,.step o l (.refl _ _),vs,.nil,aL v,?_,a_,h,?_⟩;rw[i];simp;rintro r H' ⟨rfl,rfl⟩ -;rw[PH.xR];exact e
theorem jJ.trans{e i l:PF}{u H2 w:PH}(h:jJ e u i H2)(k:jJ i H2 l w):jJ e u l w:=by
 induction h with
 |refl=>exact k
 |step o x h y=>exact .step o x (y k)
theorem wE{c:aI}{K:bT}{s:Nat}{v:PV}{rows:P2_}(M:bA H s v rows)
  (h:∀l,Seen s l rows->∀e w,(∀t,F t=some v->e t=some l)->(∀i u,F i=some u->Pure u->e i=some u)->aI.wp C (.loop c) K e w):aI.wp C (.loop c) K F H:=by
 obtain⟨l,N,L⟩:=M.frz;obtain⟨e,w,O,E,J⟩:=L F;obtain⟨α,A,Hs,B,m,D,y,H2,x,rest⟩:=h l N e w E J;exact⟨α,A,Hs,B,m,D,y,H2,O.trans x,rest⟩
theorem aJ.Mc{name s:Nat}{v:PV}{rows:P2_}{e:PH}{R:R_}(h:aJ C name [.sl s rows] e R)(i:Seen s v rows):aJ C name [v] e R:=by
 rcases i with⟨rfl,rfl⟩|rfl
 ·refine h.args ⟨rfl,λj p q hp hq=>?_⟩;cases j with
  |zero=>simp at hp hq;subst hp;subst hq;exact .nil s
  |succ j=>simp at hp
 exact h
theorem bA.fresh{s:Nat}{v:PV}{rows:P2_}{o:Nat}(h:bA H s v rows)(u:H o=none)(x:aR):bA (H.set o x) s v rows/\∀l,v≠.osl o s 0 l:=by
 refine⟨h.ext λq y hq=>?_,λl e=>?_⟩;have:q≠o:=by rintro rfl;rw[u]at hq;cases hq
 simp only[aM,aC this,hq];rcases h with⟨_,i⟩|⟨q,rs,h1,i,_⟩
 rw[i]at e;cases e;rw[h1]at e;injection e with w
 subst w;rw[u]at i;cases i
theorem rC{s b:Nat}{v:PV}{rows:P2_}{r:V_}{o:Nat}{x:aR}{K:R_}(h:bA H s v rows)(w:H o=none)(y:roomFor rows.length 1 b)
  (u:∀v' H',bA H' s v' (rows++[r])->H' o=some x->K v' H'):kM (H.set o x) s b v (.sl s [r]) K:=by
 obtain⟨e,i⟩:=h.fresh w x;refine fS (src:=[r]) e (by simp[dH]) y λv' H' l hp=>u v' H' l (hp o x (by simp only[aM,if_true]) i)
theorem AK{o s k:Nat}{rs:P2_}(e:k<=Z' rs):PV.frz o s rs (.osl o s 0 k)=.sl s (rs.take k):=by
 have:0+k<=Z' rs:=Om;simp only[PV.frz,PV.nF,PV.cZ,if_true,true_and,aE this,asN]
end
section
variable (o s:Nat) (rs:P2_)
@[go_sem] theorem alL(k:IntKind)(n:Int):PV.frz o s rs (.int k n)=.int k n:=(rfl)
@[go_sem] theorem ajO(b:Bool):PV.frz o s rs (.bool b)=.bool b:=(rfl)
@[go_sem] theorem alP(l:List UInt8):PV.frz o s rs (.str l)=.str l:=(rfl)
@[go_sem] theorem ajP:PV.frz o s rs .aG=.aG:=(rfl)
@[go_sem] theorem anP(n:Nat)(r:P2_):PV.frz o s rs (.sl n r)=.sl n r:=(rfl)
@[go_sem] theorem ajQ(c:V_):PV.frz o s rs (.aU c)=.aU c:=(rfl)
@[go_sem] theorem alO(q z i c:Nat):PV.frz o s rs (.ptr q z i c)=.ptr q z i c:=(rfl)
@[go_sem] theorem anO(n:Nat)(c:V_):PV.frz o s rs (.fn n c)=.fn n c:=(rfl)
@[go_sem] theorem alM(q:Nat):PV.frz o s rs (.map q)=.map q:=(rfl)
@[go_sem] theorem alN(q z off len:Nat):PV.frz o s rs (.osl q z off len)=if q=o then(if z=s/\off+len<=rs.length then .sl s ((rs.drop off).take len)else .junk)else .osl q z off len:=(rfl)
end
def pH(s:Nat)(rows:P2_)(r:PV)(H:PH):Prop:=
 (rows=[]/\r=.aG/\H=h_)\/∃q rs,r=.osl q s 0 rows.length/\H=h_.set q (.rows s rs)/\Z' rows<=Z' rs/\rs.take rows.length=rows
theorem qu(q s:Nat)(rs:P2_):(h_.set q (.rows s rs)).frz q s rs=h_:=PH.ext λo=>by
 rw[AL];by_cases e:o=q;rw[aE e];rfl;rw[aC e,aM,aC e];rfl
section
variable {C:Ctx} {K:bT} {F:PF} {H:PH} {s:Nat} {v:PV} {rows:P2_}
theorem pH.over{r:PV}{H':PH}(h:pH s rows r H')(u:qS H .nil H'):bA (H.over .nil H') s r rows/\∀o x,H o=some x->(H.over .nil H') o=some x:=by
 rcases h with⟨e,l,rfl⟩|⟨q,rs,e,rfl,h3,h4⟩
 rw[PH.xR];exact⟨.inl ⟨e,l⟩,λo x h=>h⟩;rw[PH.uP];have hq:H q=none:=u q (.rows s rs) (by simp only[aM,if_true]) rfl;refine⟨.inr ⟨q,rs,e,by simp only[aM,if_true],h3,h4⟩,λo x i=>?_⟩;have:o≠q:=by rintro rfl;rw[hq]at i;cases i
 simp only[aM,aC this,i]
theorem PN{t:Nat}{e:lY}(he:e=.normal\/e=.ret)(h:bA H s v rows)(i:F t=some v):aW [.tmp t] (pH s rows) e F H:=by
 rcases h with⟨rfl,rfl⟩|⟨q,rs,rfl,h1,h2,h3⟩
 exact bK (vs:=[.aG]) he .nil (by rw[nM,rK,i,tK]) a_ (.inl ⟨rfl,rfl,rfl⟩);exact bK (vs:=[.osl q s 0 rows.length]) he (h_.set q (.rows s rs)) (by rw[nM,rK,i,tK]) (c_ a_ h1) (.inr ⟨q,rs,rfl,rfl,h2,h3⟩)
theorem MD{t:Nat}{e:lY}(he:e=.normal\/e=.ret)(i:F t=some .aG):aW [.tmp t] (pH s []) e F H:=PN he .nil i
theorem Qy{t:Nat}{e:lY}{r:PV}{H':PH}(he:e=.normal\/e=.ret)(h:pH s rows r H')(l:F t=some r):aW [.tmp t] (pH s rows) e F (H.over .nil H'):=by
 refine bK (vs:=[r]) he H' (by rw[nM,rK,l,tK]) (λo x i=>?_) h;rw[iN,i]
theorem aJ.freeze{name:Nat}{args:V_}(h:aJ C name args H (pH s rows)):aJ C name args H (aL (.sl s rows)):=
 ⟨h.1,λE w vs N hW y=>(h.2 E w vs N hW y).mono λe S he=>by
  obtain⟨u,pv,L,H',rfl,l,B,A,hp⟩:=he;rcases hp with⟨rfl,rfl,rfl⟩|⟨q,rs,rfl,rfl,h3,h4⟩
  exact⟨u,_,L,_,rfl,l,(Co.nil s).sound B,A,rfl,rfl⟩;have O:jJ (n_.set 0 (.osl q s 0 rows.length)) (h_.set q (.rows s rs)) _ _:=.step q (s:=s) (rs:=rs) (by simp only[aM,if_true]) (.refl _ _);obtain⟨M,D,J,R⟩:=O.sound l;have x:=R (λ_=>u) (λi p hi=>by rw[mU]at hi;split at hi;cases hi;exact B;cases hi) 0 (.sl s rows) (by rw[uE,mU,aE rfl,aqK,AK h3,h4])
  rw[qu]at D J;exact⟨u,_,M,_,rfl,D,x,A.trans J,rfl,rfl⟩⟩
theorem fO.of:∀{E:Env}(ps:V_)(vs:List Value),Z' vs=Z' ps->(∀(i:Nat) p v,ps[i]?=some p->vs[i]?=some v->bB E p v)->fO E ps vs
 |_,[],[],_,_=>.nil
 |_,[],_::_,h,_=>by simp at h
 |_,_::_,[],h,_=>by simp at h
 |_,p::ps,v::vs,h,k=>.cons (k 0 p v rfl rfl) (fO.of ps vs (by simpa using h) λi q u a b=>k (i+1) q u (by simpa using a) (by simpa using b))
theorem bS.same{E:Env}{w y:World}(hW:bS E H w)(D:w.heap.size<=y.heap.size)(hb:∀b,b<w.heap.size->H b=none->y.heap[b]?=w.heap[b]?)(B:∀o x,H o=some x->y.heap[o]?=w.heap[o]?):bS E H y:=by
 have l:∀b,b<w.heap.size->y.heap[b]?=w.heap[b]?:=λb hlt=>by
  cases e:H b with
  |none=>exact hb b hlt e
  |some x=>exact B b x e
 refine⟨λb cs h=>?_,λo x h=>?_,λo n h=>?_⟩;obtain⟨i,ty,fr,u⟩:=hW.g b cs h;exact⟨i,ty,fr,(l b (atC.1 u).1).trans u⟩;obtain⟨i,u⟩:=hW.h o x h;exact⟨Nat.lt_of_lt_of_le i D,u.mono (.refl E) (l o i)⟩;obtain⟨A,ty,fr,i,u⟩:=hW.s o n h;exact⟨A,ty,fr,(l o (atC.1 i).1).trans i,u⟩
inductive Plain:PV->Prop
 |int (k:IntKind) (n:Int):Plain (.int k n)
 |bool (b:Bool):Plain (.bool b)
 |str (l:List UInt8):Plain (.str l)
 |two (k k':IntKind) (n n':Int):Plain (.tup [.int k n,.int k' n'])
theorem Plain.rep{v:PV}(h:Plain v){E e:Env}{u:Value}(r:bB E v u):bB e v u:=by
 cases h<;>cases r;exact .int _ _;exact .bool _;exact .str _
 ·rename_i vs i l;refine .tup vs i λj pv v a b=>?_;have h:=l j pv v a b
  match j,a with
  |0,a=>cases a;cases h;exact .int _ _
  |1,a=>cases a;cases h;exact .int _ _
theorem aJ.U1{name o:Nat}{rs:P2_}{args:V_}(X:Plain v)(h:aJ C name (args.map (PV.frz o s rs)) .nil (aL v)) :
  aJ C name args (h_.set o (.rows s rs)) (λr H'=>r=v/\H'=h_.set o (.rows s rs)):=by
 refine⟨h.1,λE w vs R hW D=>?_⟩;have Y:jJ (g_ args) (h_.set o (.rows s rs)) _ _:=.step o (s:=s) (rs:=rs) (by simp only[aM,if_true]) (.refl _ _);obtain⟨L,N,O,Z⟩:=Y.sound hW;rw[qu]at N O;have B:=D.len;have J:fO L (args.map (PV.frz o s rs)) vs.toList:=by
  refine fO.of _ _ (by rw[apP];exact B) λi p u hp W=>?_;have:=Z (λi=>(vs.toList[i]?).getD undef) (λj q M=>by have U:=(aqU.1 M).1;have A:j<Z' vs.toList:=Om;simp only[apZ A,arT];exact D.at_ j q _ M (apZ A)) i p (by rw[uE,args_at,<-aqE];exact hp)
  simp only[W,arT]at this;exact this
 refine(h.2 L w vs (O.env.num.trans R) N J).mono λe w' he=>?_;obtain⟨u,pv,E2,H2,rfl,S,V,y,rfl,rfl⟩:=he;have l:∀b,b<w.heap.size->w'.heap[b]?=w.heap[b]?:=λb hb=>y.block b hb rfl;refine⟨u,pv,E,_,rfl,hW.same y.size (λb hb _=>l b hb) (λq x hq=>l q (hW.h q x hq).1),X.rep V,⟨.refl E,y.os,y.tape,y.output,y.size,λb hb _=>l b hb,λq x hq=>.inl ⟨x,hq⟩,λb cs hb=>.inl hb⟩,rfl,rfl⟩
theorem Ge{name o:Nat}{rs:P2_}{args:List aP}{vs:V_}{d:O_}{K:K_}(u:Plain v)(h:aJ C name (vs.map (PV.frz o s rs)) .nil (aL v))(e:H o=some (.rows s rs))(i:aP.evs F args=some vs)
  (l:K (F.put d v) H):jX C name args [] d K F H:=by
 refine jG (h.U1 u) i (c_ a_ e) ?_;rintro r H' ⟨rfl,rfl⟩ -;rw[PH.over_self _ (c_ a_ e)];exact l
theorem Tn{Hs:PH}{S:Spec}{name o:Nat}{rs:P2_}{vs:V_}{R:PH->R_}{args:List aP}{st:Bool}{d:O_}{K:K_}(u:S name vs=some ([o],R))(A:Plain v)(y:H o=some (.rows s rs))
  (h:aJ C name (vs.map (PV.frz o s rs)) .nil (aL v)) (e:R (h_.set o (.rows s rs)) v (h_.set o (.rows s rs))) (i:∀r H',R (h_.set o (.rows s rs)) r H'->r=v/\H'=h_.set o (.rows s rs)) (w:aP.evs F args=some vs) (l:Hs.le H) (x:K (F.put d v) H) :
  dOp C Hs S st (.call name args) d K F H:=To u y (h.U1 A) e i w l x
theorem xj{name t:Nat}{R:R_}{d:O_}{K:K_}(h:aJ C name [.sl s rows] .nil R)(y:bA H s v rows)(x:F t=some v)
  (w:∀(e:PF)(l:PH),(∀i u,F i=some u->Pure u->e i=some u)->∀r H',R r H'->qS l .nil H'->K (e.put d r) (l.over .nil H')):jX C name [.tmp t] [] d K F H:=by
 rcases y with⟨rfl,rfl⟩|⟨q,rs,rfl,h1,h2,h3⟩
 exact .inl ⟨[.aG],.nil,R,by rw[GH,jv,x,WS];rfl,a_,h.Mc (.inl ⟨rfl,rfl⟩),w F H λi u hi _=>hi⟩;refine .inr ⟨_,_,.step q h1 (.refl _ _),[.sl s rows],.nil,R,?_,a_,h,w _ _ λi u hi hp=>?_⟩;simp only[GH,WS,jv,uE,x,aqK,AK h2,h3,aqY];rw[uE,hi,aqK,hp q s rs]
end
def PV.oid:PV->O_
 | .osl q _ _ _=>some q
 |_=>none
abbrev LI:=PV × Nat × P2_
abbrev BX:=Nat × aR
def fZ(B:List BX):N_:=B.map (·.1)
def fJ(L:List LI):N_:=L.filterMap λx=>x.1.oid
structure aO(H:PH)(B:List BX)(L:List LI):Prop where
 box:∀b∈B,H b.1=some b.2
 lst:∀x∈L,bA H x.2.1 x.1 x.2.2
 nd:(fZ B++fJ L).Nodup
section
variable {C:Ctx} {H:PH} {B:List BX} {L:List LI} {K:R_}
theorem bA.id{s q:Nat}{v:PV}{rows:P2_}(h:bA H s v rows)(hq:v.oid=some q):∃rs,H q=some (.rows s rs)/\v=.osl q s 0 rows.length/\Z' rows<=Z' rs/\rs.take rows.length=rows:=by
 rcases h with⟨_,rfl⟩|⟨p,rs,rfl,h1,h2,h3⟩
 cases hq;cases hq;exact⟨rs,h1,rfl,h2,h3⟩
theorem bA.same{s:Nat}{v:PV}{rows:P2_}{H':PH}(h:bA H s v rows)(e:∀q,v.oid=some q->H' q=H q):bA H' s v rows:=by
 rcases h with h|⟨p,rs,rfl,h1,h2,h3⟩
 exact .inl h;exact .inr ⟨p,rs,rfl,by rw[e p rfl];exact h1,h2,h3⟩
theorem pG{x:LI}{q:Nat}(h:x∈L)(hq:x.1.oid=some q):q∈fJ L:=List.mem_filterMap.2 ⟨x,h,hq⟩
theorem AP{b:BX}(h:b∈B):b.1∈fZ B:=aqJ.2 ⟨b,h,rfl⟩
theorem aO.nil:aO H [] []:=⟨by simp,by simp,by simp[fZ,fJ]⟩
theorem aO.at(h:aO H B L)(i:Nat){o:Nat}{x:aR}(hi:B[i]?=some (o,x)):H o=some x:=h.box _ (asC hi)
theorem aO.own(h:aO H B L)(i:Nat){s:Nat}{v:PV}{rows:P2_}(hi:L[i]?=some (v,s,rows)):bA H s v rows:=h.lst _ (asC hi)
theorem aO.ndB(h:aO H B L):(fZ B).Nodup:=(asS.1 h.nd).1
theorem aO.ndL(h:aO H B L):(fJ L).Nodup:=(asS.1 h.nd).2.1
theorem aO.ndX(h:aO H B L){o q:Nat}(e:o∈fZ B)(hq:q∈fJ L):o≠q:=(asS.1 h.nd).2.2 o e q hq
theorem aO.ne(h:aO H B L)(i j:Nat){o p:Nat}{x y:aR}(hi:B[i]?=some (o,x))(F:B[j]?=some (p,y))(l:i≠j):o≠p:=by
 intro e;have D:(fZ B)[i]?=some o:=by unfold fZ;rw[aqE,hi];rfl
 have E:(fZ B)[j]?=some p:=by unfold fZ;rw[aqE,F];rfl
 obtain⟨w,u⟩:=aqU.1 D;obtain⟨A,e2⟩:=aqU.1 E;have hp:=List.pairwise_iff_getElem.1 h.ndB;rcases Nat.lt_or_gt_of_ne l with g|g
 exact hp i j w A g (by rw[u,e2,e]);exact hp j i A w g (by rw[u,e2,e])
theorem aO.neL(h:aO H B L)(i j:Nat){o q:Nat}{x:aR}{y:LI}(hi:B[i]?=some (o,x))(e:L[j]?=some y)(hq:y.1.oid=some q):o≠q:=
 h.ndX (AP (asC hi)) (pG (asC e) hq)
theorem aO.fresh(h:aO H B L){o:Nat}(i:H o=none):o ∉ fZ B/\o ∉ fJ L:=by
 refine⟨λl=>?_,λl=>?_⟩;obtain⟨b,hb,rfl⟩:=aqJ.1 l;rw[h.box b hb]at i;cases i;obtain⟨x,w,e⟩:=List.mem_filterMap.1 l;obtain⟨rs,u,_⟩:=(h.lst x w).id e;rw[u]at i;cases i
theorem aO.keep(h:aO H B L){H':PH}(e:∀q,q∈fZ B\/q∈fJ L->H' q=H q):aO H' B L:=
 ⟨λb hb=>by rw[e _ (.inl (AP hb))];exact h.box b hb,λx i=>(h.lst x i).same λq hq=>e q (.inr (pG i hq)),h.nd⟩
theorem Ul{i:Nat}{o:Nat}{x y:aR}(hi:B[i]?=some (o,x)):fZ (B.set i (o,y))=fZ B:=by
 unfold fZ;rw[asP];refine List.ext_getElem? λj=>?_;rw[asX];split;rename_i e;subst e;rw[aqE,hi];have:=(aqU.1 hi).1;simp[this];rfl
theorem aO.set(h:aO H B L)(i:Nat){o:Nat}{x:aR}(hi:B[i]?=some (o,x))(y:aR):aO (H.set o y) (B.set i (o,y)) L:=by
 have w:o∈fZ B:=AP (asC hi);refine⟨λb hb=>?_,λz A=>(h.lst z A).same λq hq=>?_,by rw[Ul hi];exact h.nd⟩;obtain⟨j,l⟩:=List.mem_iff_getElem?.1 hb;rw[asX]at l;split at l;split at l;cases l;simp only[aM,if_true];cases l;rename_i u;have:b.1≠o:=λe=>h.ne i j hi (show B[j]?=some (b.1,b.2)from l) u e.symm;rw[aM,aC this];exact h.box b (asC l);have:q≠o:=λe=>h.ndX w (pG A hq) e.symm;rw[aM,aC this]
theorem aO.new(h:aO H B L){o:Nat}(l:H o=none)(y:aR):aO (H.set o y) (B++[(o,y)]) L:=by
 obtain⟨f1,f2⟩:=h.fresh l;refine⟨λb hb=>?_,λz i=>(h.lst z i).same λq hq=>?_,?_⟩;rw[aqZ,arA]at hb;rcases hb with hb|rfl
 have:b.1≠o:=λe=>f1 (e ▸ AP hb);rw[aM,aC this];exact h.box b hb;simp only[aM,if_true];have:q≠o:=λe=>f2 (e ▸ pG i hq);rw[aM,aC this];have:=h.nd;simp only[fZ,aqP,aqQ,arL]at *
 rw[aqT,asS]at *
 obtain⟨a,b,c⟩:=this;refine⟨a,?_,λp hp q hq=>?_⟩;rw[List.singleton_append,List.nodup_cons];exact⟨f2,b⟩;rw[List.singleton_append,aqG]at hq;rcases hq with rfl|hq
 intro e;subst e;exact f1 hp;exact c p hp q hq
theorem oO(L1 L2:List LI):fJ (L1++L2)=fJ L1++fJ L2:=List.filterMap_append ..
theorem aO.oF(h:aO H B L)(s:Nat):aO H B (L++[(.aG,s,[])]):=by
 refine⟨h.box,λz e=>?_,?_⟩;rw[aqZ,arA]at e;rcases e with e|rfl
 exact h.lst z e;exact .nil;rw[oO,show fJ [((.aG:PV),s,([]:P2_))]=[]from rfl,aqY];exact h.nd
theorem aO.Vq(h:aO H B L){o s:Nat}{rows:P2_}(l:H o=none):aO (H.set o (.rows s rows)) B (L++[(.osl o s 0 rows.length,s,rows)]):=by
 obtain⟨f1,f2⟩:=h.fresh l;have i:=h.keep (H':=H.set o (.rows s rows)) λq hq=>by
  have:q≠o:=by rintro rfl;exact hq.elim f1 f2
  rw[aM,aC this]
 refine⟨i.box,λz e=>?_,?_⟩;rw[aqZ,arA]at e;rcases e with e|rfl
 exact i.lst z e;exact .inr ⟨o,rows,rfl,by simp only[aM,if_true],apU _,aqO⟩;rw[oO,show fJ [((.osl o s 0 rows.length:PV),s,rows)]=[o]from rfl,<-aqT,asS];refine⟨h.nd,by simp,λp hp q hq=>?_⟩;rw[arA]at hq;subst hq;rintro rfl;rcases aqZ.1 hp with hp|hp
 exact f1 hp;exact f2 hp
theorem Bg{i:Nat}{v v':PV}{s s':Nat}{rows rows':P2_}(hi:L[i]?=some (v,s,rows)):∃L1 L2,L=L1++(v,s,rows)::L2/\L.set i (v',s',rows')=L1++(v',s',rows')::L2:=by
 obtain⟨e,he⟩:=aqU.1 hi;refine⟨L.take i,L.drop (i+1),?_,?_⟩;rw[<-he,<-asI e,asZ];rw[List.set_eq_take_append_cons_drop,aE e]
theorem aO.JJ(h:aO H B L)(i:Nat){s:Nat}{v:PV}{rows:P2_}(hi:L[i]?=some (v,s,rows)){s':Nat}{v':PV}{rows':P2_}{H':PH}(M:bA H' s' v' rows')
  (E:∀q,v'.oid=some q->v.oid=some q\/H q=none) (J:∀q,q∈fZ B\/q∈fJ L->(∀p,v.oid=some p->q≠p)->H' q=H q):aO H' B (L.set i (v',s',rows')):=by
 obtain⟨L1,L2,F,e2⟩:=Bg (v':=v') (s':=s') (rows':=rows') hi;rw[e2];subst F;have l:=h.nd;have A:fJ (L1++(v,s,rows)::L2)=fJ L1++(v.oid.toList++fJ L2):=by rw[oO];congr 1;unfold fJ;rw[List.filterMap_cons];cases e:v.oid<;>simp
 have D:fJ (L1++(v',s',rows')::L2)=fJ L1++(v'.oid.toList++fJ L2):=by rw[oO];congr 1;unfold fJ;rw[List.filterMap_cons];cases e:v'.oid<;>simp
 rw[A]at l;have x:∀q,q∈fZ B\/q∈fJ L1\/q∈fJ L2->∀p,v.oid=some p->q≠p:=by
  intro q hq p hp e;subst e;rw[hp]at l;simp only[Option.toList_some]at l;rw[asS]at l;obtain⟨a,b,c⟩:=l;rw[asS]at b;obtain⟨b1,b2,y⟩:=b;rw[List.singleton_append,List.nodup_cons]at b2;rcases hq with hq|hq|hq
  exact c q hq q aX rfl;exact y q hq q aX rfl;exact b2.1 hq
 have u:∀q,q∈fZ B\/q∈fJ L1\/q∈fJ L2->H' q=H q:=by
  intro q hq;refine J q ?_ (x q hq);rw[A];simp only[aqZ];rcases hq with hq|hq|hq
  exact .inl hq;exact .inr (.inl hq);exact .inr (.inr (.inr hq))
 refine⟨λb hb=>by rw[u _ (.inl (AP hb))];exact h.box b hb,λz hz=>?_,?_⟩;rw[aqZ,aqG]at hz;rcases hz with hz|rfl|hz
 exact(h.lst z (by simp[hz])).same λq hq=>u q (.inr (.inl (pG hz hq)));exact M;exact(h.lst z (by simp[hz])).same λq hq=>u q (.inr (.inr (pG hz hq)))
 ·rw[D];cases e:v'.oid with
  |none =>simp only[Option.toList_none,atL];refine List.Nodup.sublist ?_ l;exact asF.append (asF.refl _) (asF.append (asF.refl _) (List.sublist_append_right _ _))
  |some q=>
   rcases E q e with N|hn
   rw[N]at l;exact l;obtain⟨f1,f2⟩:=h.fresh hn;rw[A]at f2;simp only[aqZ,not_or]at f2;have w:(fZ B++(fJ L1++fJ L2)).Nodup:=List.Nodup.sublist (asF.append (asF.refl _) (asF.append (asF.refl _) (List.sublist_append_right _ _))) l;simp only[Option.toList_some];rw[asS]at w ⊢;obtain⟨a,b,c⟩:=w;rw[asS]at b;obtain⟨b1,b2,y⟩:=b;refine⟨a,?_,?_⟩;rw[asS];refine⟨b1,by rw[List.singleton_append,List.nodup_cons];exact⟨f2.2.2,b2⟩,λp hp r hr=>?_⟩;rw[List.singleton_append,aqG]at hr;rcases hr with rfl|hr
   rintro rfl;exact f2.1 hp;exact y p hp r hr;intro p hp r hr;rw[aqZ,List.singleton_append,aqG]at hr;rcases hr with hr|rfl|hr
   exact c p hp r (by simp[hr]);rintro rfl;exact f1 hp;exact c p hp r (by simp[hr])
theorem aO.append(h:aO H B L)(i:Nat){s b:Nat}{v y:PV}{rows src:P2_}(hi:L[i]?=some (v,s,rows))(D:dH H s y=some src)(A:roomFor rows.length src.length b)
  (w:∀v' H',aO H' B (L.set i (v',s,rows++src))->(src≠[]->∃q,v'=.osl q s 0 (rows++src).length)->K v' H'):kM H s b v y K:=by
 rcases h.own i hi with⟨rfl,rfl⟩|⟨q,rs,rfl,h1,h2,h3⟩
 refine⟨src,D,A,λe=>?_,λe o u=>?_⟩;subst e;refine w _ _ ?_ λh=>absurd rfl h;exact h.JJ i hi (.inl ⟨rfl,rfl⟩) (λq hq=>by cases hq) λq _ _=>rfl;refine w _ _ (h.JJ i hi (.inr ⟨o,src,rfl,by simp only[aM,if_true],apU _,aqO⟩) (λq hq=>by cases hq;exact .inr u) λq hq _=>?_) λ_=>⟨o,rfl⟩;obtain⟨f1,f2⟩:=h.fresh u;have:q≠o:=by rintro rfl;exact hq.elim f1 f2
 rw[aM,aC this];have l:(rows++src).length=Z' rows+Z' src:=apV;refine⟨src,D,rfl,rfl,A,rs,h1,h2,?_,λo u=>?_⟩;rw[h3];refine w _ _ (h.JJ i hi (.inr ⟨q,rows++src,by rw[l],by simp only[aM,if_true],apU _,aqO⟩) (λp hp=>by cases hp;exact .inl rfl) λp _ hp=>?_) λ_=>⟨q,by rw[l]⟩;rw[aM,aC (hp q rfl)];rw[h3];refine w _ _ (h.JJ i hi (.inr ⟨o,rows++src,by rw[l],by simp only[aM,if_true],apU _,aqO⟩) (λp hp=>by cases hp;exact .inr u) λp x hp=>?_) λ_=>⟨o,by rw[l]⟩;obtain⟨f1,f2⟩:=h.fresh u;have E:p≠o:=by rintro rfl;exact x.elim f1 f2
 rw[aM,aC E]
theorem aO.sub(h:aO H B L){B':List BX}{L':List LI}(hB:B'.Sublist B)(e:L'.Sublist L):aO H B' L':=
 ⟨λb hb=>h.box b (hB.subset hb),λx i=>h.lst x (e.subset i),List.Nodup.sublist (asF.append (hB.map _) (e.filterMap _)) h.nd⟩
theorem aO.wW(h:aO H B L)(i:Nat):aO H (B.eraseIdx i) L:=h.sub (List.eraseIdx_sublist ..) (asF.refl _)
theorem aO.Jv(h:aO H B L)(i:Nat):aO H B (L.eraseIdx i):=h.sub (asF.refl _) (List.eraseIdx_sublist ..)
end
section
variable {C:Ctx} {F:PF} {H:PH} {B:List BX} {L:List LI}
theorem aO.MG(h:aO H B L){q:Nat}(hq:q∈fZ B\/q∈fJ L):∃x,H q=some x:=by
 rcases hq with hq|hq
 obtain⟨b,hb,rfl⟩:=aqJ.1 hq;exact⟨_,h.box b hb⟩;obtain⟨x,l,e⟩:=List.mem_filterMap.1 hq;obtain⟨rs,i,_⟩:=(h.lst x l).id e;exact⟨_,i⟩
theorem aO.perm(h:aO H B L){B':List BX}{L':List LI}(hB:B.Perm B')(e:L.Perm L'):aO H B' L':=
 ⟨λb hb=>h.box b (hB.mem_iff.2 hb),λx i=>h.lst x (e.mem_iff.2 i),(asM.nodup_iff ((hB.map _).append (e.filterMap _))).1 h.nd⟩
theorem aO.only(h:aO H B L){B1:List BX}{L1:List LI}(hB:B1.Sublist B)(e:L1.Sublist L):aO (H.only (fZ B1++fJ L1)) B1 L1:=by
 refine(h.sub hB e).keep λq hq=>?_;rw[yF];rw[aE (aqZ.2 hq)]
theorem aeQ{a b c d:N_}(i:(a++c).Nodup)(l:(b++d).Nodup)(u:∀q,q∈a\/q∈c->q∈b\/q∈d->False):((a++b)++(c++d)).Nodup:=by
 have e:asM ((a++b)++(c++d)) ((a++c)++(b++d)):=by rw[aqT,aqT];exact asM.append_left a (by rw[<-aqT,<-aqT];exact asM.append_right d List.perm_append_comm)
 rw[e.nodup_iff,asS];refine⟨i,l,λp hp q hq=>?_⟩;rintro rfl;exact u p (aqZ.1 hp) (aqZ.1 hq)
theorem aO.frame{H':PH}{B1 B2 B':List BX}{L1 L2 L':List LI}(h:aO H (B1++B2) (L1++L2))(w:aO H' B' L')(J:qS H (H.only (fZ B1++fJ L1)) H'):aO (H.over (H.only (fZ B1++fJ L1)) H') (B'++B2) (L'++L2):=by
 have D:aO H B2 L2:=h.sub (List.sublist_append_right ..) (List.sublist_append_right ..);have l:∀q,q∈fZ B2\/q∈fJ L2->¬(q∈fZ B1++fJ L1):=by
  intro q hq N;have i:=h.nd;rw[show fZ (B1++B2)=fZ B1++fZ B2 from aqP,oO]at i;have e:asM ((fZ B1++fZ B2)++(fJ L1++fJ L2)) ((fZ B1++fJ L1)++(fZ B2++fJ L2)):=by rw[aqT,aqT];exact asM.append_left _ (by rw[<-aqT,<-aqT];exact asM.append_right _ List.perm_append_comm)
  rw[e.nodup_iff,asS]at i;exact i.2.2 q N q (aqZ.2 hq) rfl
 have new:∀q,q∈fZ B'\/q∈fJ L'->(H.over (H.only (fZ B1++fJ L1)) H') q=H' q:=by intro q hq;obtain⟨x,hx⟩:=w.MG hq;rw[iN,hx]
 have E:∀q,q∈fZ B2\/q∈fJ L2->(H.over (H.only (fZ B1++fJ L1)) H') q=H q:=by
  intro q hq;obtain⟨x,hx⟩:=D.MG hq;have A:(H.only (fZ B1++fJ L1)) q=none:=by rw[yF,aC (l q hq)]
  rw[iN];cases e:H' q with
  |none=>simp only[A]
  |some y =>have:=J q y e A;rw[hx]at this;cases this
 have K:=w.keep new;have M:=D.keep E;refine⟨λb hb=>?_,λx hx=>?_,?_⟩;rcases aqZ.1 hb with hb|hb
 exact K.box b hb;exact M.box b hb;rcases aqZ.1 hx with hx|hx
 exact K.lst x hx;exact M.lst x hx;rw[show fZ (B'++B2)=fZ B'++fZ B2 from aqP,oO];refine aeQ w.nd D.nd λq hq u=>?_;obtain⟨x,hx⟩:=w.MG hq;obtain⟨y,O⟩:=D.MG u;have A:(H.only (fZ B1++fJ L1)) q=none:=by rw[yF,aC (l q u)]
 have:=J q x hx A;rw[O]at this;cases this
theorem KW{name:Nat}{vs:V_}{args:List aP}{d:O_}{K:K_}{B1 B2:List BX}{L1 L2:List LI}{Q:PV->List BX->List LI->Prop}(h:aO H (B1++B2) (L1++L2))
  (w:∀i,aO i B1 L1->aJ C name vs i (λr H'=>∃B' L',Q r B' L'/\aO H' B' L')) (u:aP.evs F args=some vs)
  (x:∀r B' L' H',Q r B' L'->aO H' (B'++B2) (L'++L2)->K (F.put d r) H'):jX C name args [] d K F H:=by
 refine jG (w (H.only (fZ B1++fJ L1)) (h.only (List.sublist_append_left ..) (List.sublist_append_left ..))) u (XE H _) ?_;rintro r H' ⟨B',L',hq,l⟩ e;exact x r B' L' _ hq (h.frame l e)
theorem aO.LF{B:List BX}{o:Nat}{x:aR}(h:aO H (B++[(o,x)]) L):H o=some x:=h.box (o,x) aX
theorem aO.XK{B:List BX}{o:Nat}{x:aR}(h:aO H (B++[(o,x)]) L)(y:aR):aO (H.set o y) (B++[(o,y)]) L:=by
 have:=h.set B.length (o:=o) (x:=x) aX y
 rwa[asY _ _ (apU _),asA]at this
theorem aO.dropLast{B:List BX}{b:BX}(h:aO H (B++[b]) L):aO H B L:=h.sub (List.sublist_append_left ..) (asF.refl _)
theorem aO.abU{B:List BX}{o:Nat}{x:aR}(h:aO H ((o,x)::B) L)(y:aR):aO (H.set o y) ((o,y)::B) L:=h.set 0 rfl y
theorem aO.adR{B:List BX}{o:Nat}{x:aR}(h:aO H ((o,x)::B) L):H o=some x:=h.at 0 rfl
theorem oT{name o:Nat}{x y:aR}{r:PV}{vs:V_}{args:List aP}{d:O_}{K:K_}(h:aJ C name vs (h_.set o x) (λr' H'=>r'=r/\H'=h_.set o y))(l:H o=some x)(e:aP.evs F args=some vs)
  (i:K (F.put d r) (H.set o y)):jX C name args [] d K F H:=by
 refine jG h e (c_ a_ l) ?_;rintro r' H' ⟨rfl,rfl⟩ -;rw[PH.HE];exact i
theorem Ah{Hs:PH}{S:Spec}{name o:Nat}{x y:aR}{r:PV}{vs:V_}{R:PH->R_}{args:List aP}{st:Bool}{d:O_}{K:K_}(M:S name vs=some ([o],R))(J:H o=some x)
  (h:aJ C name vs (h_.set o x) (λr' H'=>r'=r/\H'=h_.set o y)) (i:R (h_.set o x) r (h_.set o y)) (w:∀r' H',R (h_.set o x) r' H'->r'=r/\H'=h_.set o y) (N:aP.evs F args=some vs)
  (A:Hs.le (H.set o y)) (O:K (F.put d r) (H.set o y)):dOp C Hs S st (.call name args) d K F H:=by
 have e:=dy J;refine⟨vs,[o],_,N,M,λq hq=>?_,?_,λG=>⟨r,_,by rw[e];exact i,λq z E u=>?_⟩,λr' H' l _=>?_⟩;simp at hq;subst hq;exact⟨x,J⟩;rw[e];exact h.post λr' H' l=>⟨r',.refl _,by rw[l.1,l.2];exact i⟩;rw[e]at u;rw[aM]at E u;split at u;cases u;rename_i D;rw[aC D]at E;cases E;rw[e]at l;obtain⟨rfl,rfl⟩:=w r' H' l;rw[e,PH.HE];exact⟨A,O⟩
theorem W2{s:Nat}{q z:Nat}{rs:P2_}{v:PV}{rows:P2_}(h:bA H s v rows)(l:v.oid≠some q):bA (H.frz q z rs) s v (rows.map λr=>r.map (PV.cZ q z rs)):=by
 rcases h with⟨rfl,rfl⟩|⟨p,rs',rfl,h1,h2,h3⟩
 exact .inl ⟨rfl,rfl⟩;have i:¬p=q:=λe=>l (by rw[e];rfl);refine .inr ⟨p,rs'.map λr=>r.map (PV.cZ q z rs),by rw[apP],?_,by simpa using h2,?_⟩;rw[AL,aC i,h1];rfl;rw[apP,<-List.map_take,h3]
theorem aO.frz(h:aO H B L)(i:Nat){q s k:Nat}{rows:P2_}(hi:L[i]?=some (.osl q s 0 k,s,rows)):∃rs,H q=some (.rows s rs)/\PV.cZ q s rs (.osl q s 0 k)=.sl s rows/\PV.frz q s rs (.osl q s 0 k)=.sl s rows/\(∀j x,j≠i->L[j]?=some x->PV.cZ q s rs x.1=x.1) /\
  aO (H.frz q s rs) (B.map λb=>(b.1,b.2.frz q s rs)) ((L.eraseIdx i).map λx=>(x.1,x.2.1,x.2.2.map λr=>r.map (PV.cZ q s rs))):=by
 obtain⟨rs,U,V,W,X⟩:=(h.own i hi).id rfl;injection V with _ _ _ hk
 subst hk;have e:PV.frz q s rs (.osl q s 0 rows.length)=.sl s rows:=by rw[AK W,X]
 refine⟨rs,U,e,e,?_⟩;refine⟨λj x J R=>?_,?_⟩;have u:x.1.oid≠some q:=by
  intro u;obtain⟨K,he⟩:=aqU.1 hi;obtain⟨α,Y⟩:=aqU.1 R;have w:x∈L.eraseIdx i:=List.mem_eraseIdx_iff_getElem?.2 ⟨j,J,R⟩;have l:=h.ndL;have N:L=L.take i++(L[i]::L.drop (i+1)):=by rw[<-asI K,asZ]
  rw[List.eraseIdx_eq_take_drop_succ]at w;rw[N,oO]at l;have E:fJ (L[i]::L.drop (i+1))=q::fJ (L.drop (i+1)):=by rw[he];rfl
  rw[E,asS]at l;obtain⟨a,b,c⟩:=l;rcases aqZ.1 w with hx|hx
  exact c q (pG hx u) q aX rfl;exact(List.nodup_cons.1 b).1 (pG hx u)
 cases hx:x.1<;>try rfl
 rename_i p z off len;have:¬p=q:=λe=>u (by rw[hx,e];rfl);simp only[PV.cZ,aC this];obtain⟨L1,L2,e1,e2⟩:=Bg (v':=.aG) (s':=s) (rows':=rows) hi;have Z:i=Z' L1\/True:=.inr trivial;have y:(L.eraseIdx i).Sublist L:=List.eraseIdx_sublist ..;have M:∀x∈L.eraseIdx i,x.1.oid≠some q:=by
  intro x hx u;obtain⟨K,he⟩:=aqU.1 hi;have l:=h.ndL;have N:L=L.take i++(L[i]::L.drop (i+1)):=by rw[<-asI K,asZ]
  rw[List.eraseIdx_eq_take_drop_succ]at hx;rw[N,oO]at l;have E:fJ (L[i]::L.drop (i+1))=q::fJ (L.drop (i+1)):=by rw[he];rfl
  rw[E,asS]at l;obtain⟨a,b,c⟩:=l;rcases aqZ.1 hx with hx|hx
  exact c q (pG hx u) q aX rfl;exact(List.nodup_cons.1 b).1 (pG hx u)
 refine⟨λb hb=>?_,λx hx=>?_,?_⟩;obtain⟨O,A,rfl⟩:=aqJ.1 hb;have:¬O.1=q:=h.ndX (AP A) (pG (asC hi) rfl);simp only;rw[AL,aC this,h.box O A];rfl;obtain⟨S,D,rfl⟩:=aqJ.1 hx;exact W2 (h.lst S (y.subset D)) (M S D);have i1:fZ (B.map λb=>(b.1,b.2.frz q s rs))=fZ B:=by unfold fZ;rw[asR];rfl
 have i2:fJ ((L.eraseIdx i).map λx=>(x.1,x.2.1,x.2.2.map λr=>r.map (PV.cZ q s rs)))=fJ (L.eraseIdx i):=by unfold fJ;rw[List.filterMap_map];rfl
 rw[i1,i2];exact List.Nodup.sublist (asF.append (asF.refl _) (y.filterMap _)) h.nd
def Flat(rows:P2_):Prop:=∀q s rs,rows.map (λr=>r.map (PV.cZ q s rs))=rows
theorem Flat.nil:Flat []:=λ_ _ _=>rfl
theorem Flat.of{rows:P2_}(h:∀r∈rows,∀c∈r,∀q s rs,PV.cZ q s rs c=c):Flat rows:=λq s rs=>by
 conv=>rhs;rw[<-List.map_id rows]
 refine arQ λr i=>?_
 conv=>rhs;rw[id,<-List.map_id r]
 exact arQ λc e=>h r i c e q s rs
theorem Flat.map{α:Type}{f:α->V_}(l:List α)(h:∀x,∀c∈f x,∀q s rs,PV.cZ q s rs c=c):Flat (l.map f):=Flat.of λr e=>by
 obtain⟨x,_,rfl⟩:=aqJ.1 e;exact h x
theorem Flat.append{r1 r2:P2_}(e:Flat r1)(i:Flat r2):Flat (r1++r2):=λq s rs=>by rw[aqP,e,i]
theorem aO.flat{φ:PV->P2_}(h:aO H B L):aO H B L:=h
def uY(v:PV)(H:PH)(R:R_):Prop:=∃e i H2,jJ (n_.set 0 v) H e i/\H2.le i/\∃u,e 0=some u/\R u H2
theorem uY.done{v:PV}{H2:PH}{R:R_}(i:R v H2)(e:H2.le H):uY v H R:=⟨_,_,H2,.refl _ _,e,v,by rw[mU,aE rfl],i⟩
theorem uY.step{v:PV}{q s:Nat}{rs:P2_}{R:R_}(hq:H q=some (.rows s rs))(h:uY (PV.frz q s rs v) (H.frz q s rs) R):uY v H R:=by
 obtain⟨l,u,H2,w,x,y⟩:=h;have e:(n_.set 0 v).frz q s rs=n_.set 0 (PV.frz q s rs v):=by funext i;rw[uE,mU,mU];split<;>rfl
 exact⟨l,u,H2,.step q hq (by rw[e];exact w),x,y⟩
theorem rJ{res:List dY}{R:R_}{vs:V_}{e:lY}(he:e=.normal\/e=.ret)(h:dY.evs F H res=some vs)(x:uY (bO vs) H R):aW res R e F H:=by
 have i:∃vs,dY.evs F H res=some vs/\∃l w H2,jJ (n_.set 0 (bO vs)) H l w/\H2.le w/\∃u,l 0=some u/\R u H2:=⟨vs,h,x⟩;rcases he with rfl|rfl<;>exact i
theorem j0{u:PV}(h:u.oid=none)(q s:Nat)(rs:P2_):PV.cZ q s rs u=u:=by
 cases u<;>first|rfl|(simp[PV.oid]at h)
theorem Seen.co{s:Nat}{v:PV}{rows:P2_}(h:Seen s v rows):Co v (.sl s rows):=by
 rcases h with⟨rfl,rfl⟩|rfl
 exact .nil s;exact .refl _
theorem aO.giveUp:∀(L:List LI){H:PH}{B:List BX},aO H B L->(∀x∈L,Flat x.2.2)->(∀b∈B,∀q s rs,aR.frz q s rs b.2=b.2) ->
  ∃(φ:PV->PV)(l:PH),(∀x∈L,Seen x.2.1 (φ x.1) x.2.2)/\(∀u,u.oid=none->φ u=u)/\aO l B []/\∀cs R,uY (.agg (cs.map φ)) l R->uY (.agg cs) H R
 |[],H,B,h,_,_=>⟨id,H,by simp,λ_ _=>rfl,h,λcs R E=>by rwa[List.map_id]at E⟩
 |(w,s,rows)::L,H,B,h,D,hB=>by
  have i:∀q z rs,(L.map λx=>(x.1,x.2.1,x.2.2.map λr=>r.map (PV.cZ q z rs)))=L:=λq z rs=>by
   conv=>rhs;rw[<-List.map_id L]
   refine arQ λx hx=>?_;rw[D x (by simp[hx]) q z rs];rfl
  rcases h.own 0 rfl with⟨A,U⟩|⟨q,rs,A,_⟩
  ·obtain⟨φ,l,J,y,K,M⟩:=aO.giveUp L (h.Jv 0) (λx hx=>D x (by simp[hx])) hB;refine⟨φ,l,λx hx=>?_,y,K,M⟩;rw[aqG]at hx;rcases hx with rfl|hx
   ·exact .inl ⟨A,by simp only;rw[U];exact y _ rfl⟩
   ·exact J x hx
  ·subst A;obtain⟨rs,W,X,z3,Y,O⟩:=h.frz 0 rfl;have Z:aO (H.frz q s rs) B L:=by
    have S:(B.map λb=>(b.1,b.2.frz q s rs))=B:=by
     conv=>rhs;rw[<-List.map_id B]
     refine arQ λb hb=>?_;rw[hB b hb q s rs];rfl
    rw[S]at O;have:=O;simp only[List.eraseIdx_cons_zero]at this
    rwa[i q s rs]at this
   obtain⟨φ,l,J,y,K,M⟩:=aO.giveUp L Z (λx hx=>D x (by simp[hx])) hB;refine⟨λu=>φ (PV.cZ q s rs u),l,λx hx=>?_,λu N=>?_,K,λcs R E=>?_⟩
   ·rw[aqG]at hx;rcases hx with rfl|hx
    ·simp only;rw[X];exact .inr (y _ rfl)
    ·obtain⟨j,V⟩:=List.mem_iff_getElem?.1 hx;have:=Y (j+1) x Om (by simpa using V);simp only;rw[this];exact J x hx
   ·simp only;rw[j0 N,y u N]
   ·refine .step W ?_;have e:PV.frz q s rs (.agg cs)=.agg (cs.map (PV.cZ q s rs)):=rfl;rw[e];refine M _ R ?_;rw[asR];exact E
theorem IM{K:bT}{α:Type}{e:α->PF}{Hs:α->PH}{i:α->Prop}{m:α->Nat}{n q s:Nat}{rs:P2_}(a:α)(hq:H q=some (.rows s rs))(l:i a)(x:m a<n)(u:(e a).le (F.frz q s rs))(w:(Hs a).le (H.frz q s rs)):fK e Hs i m n K .normal F H:=
 ⟨a,_,_,.step q hq (.refl _ _),l,x,u,w⟩
end
end Go.PM
namespace Go.Na
def val:N_->Nat
 |[]=>0
 |x::xs=>x+4294967296*val xs
def Lim(xs:N_):Prop:=∀x∈xs,x<4294967296
def aS(n:Nat):N_:=if h:n=0 then[]else(n%4294967296)::aS (n/4294967296)
termination_by n
decreasing_by exact Nat.div_lt_self (atB h) aT
def nl(n:Nat):Nat:=(aS n).length
theorem jT:aS 0=[]:=by rw[aS];simp
theorem yE{n:Nat}(h:n≠0):aS n=(n%4294967296)::aS (n/4294967296):=by rw[aS];simp[h]
theorem tI{n:Nat}(h:n≠0)(hb:n<4294967296):aS n=[n]:=by
 rw[yE h,asU hb,auC hb,jT]
theorem bZ(n:Nat):val (aS n)=n:=by
 induction n using Nat.strongRecOn with
 |_ n e =>by_cases h:n=0;subst h;rw[jT];rfl;rw[yE h,val,e _ (Nat.div_lt_self (atB h) aT)];exact Nat.mod_add_div n 4294967296
theorem cA(n:Nat):Lim (aS n):=by
 induction n using Nat.strongRecOn with
 |_ n e=>
  by_cases h:n=0;subst h;rw[jT];intro x hx;cases hx;rw[yE h];intro x hx;rw[aqG]at hx;rcases hx with rfl|hx
  exact Nat.mod_lt _ aT;exact e _ (Nat.div_lt_self (atB h) aT) x hx
theorem ry:nl 0=0:=by rw[nl,jT];rfl
theorem P4{n:Nat}(h:n≠0):nl n=nl (n/4294967296)+1:=by rw[nl,yE h];rfl
theorem oG(n k:Nat):nl n<=k↔n<4294967296^k:=by
 induction k generalizing n with
 |zero =>by_cases h:n=0;subst h;simp[ry];rw[P4 h];simp;omega
 |succ k e =>by_cases h:n=0;subst h;simp[ry,Nat.pow_pos];rw[P4 h,Nat.succ_le_succ_iff,e,atF,auD aT]
theorem qE{n:Nat}:nl n=0↔n=0:=by
 have:=oG n 0;simp at this;exact this
theorem jW(xs ys:N_):val (xs++ys)=val xs+4294967296^xs.length*val ys:=by
 induction xs with
 |nil=>simp[val]
 |cons x xs e =>simp only[asV,val,aqV,e,atF];rw[arH,atA,<-arN,arW 4294967296 (4294967296^xs.length)]
theorem nR{xs:N_}(h:Lim xs):val xs<4294967296^xs.length:=by
 induction xs with
 |nil=>simp[val]
 |cons x xs l =>have u:=h x aX;have e:=l λy i=>h y (by simp[i]);simp only[val,aqV,atF];have:4294967296*(val xs+1)<=4294967296*4294967296^xs.length:=atM _ e;rw[arH,Nat.mul_one]at this;rw[arW (4294967296^xs.length)];omega
theorem Lim.app{xs ys:N_}(h:Lim xs)(k:Lim ys):Lim (xs++ys):=λx e=>by
 rw[aqZ]at e;exact e.elim (h x) (k x)
theorem Lim.take{xs:N_}(h:Lim xs)(n:Nat):Lim (xs.take n):=λx e=>h x (auA e)
theorem Lim.drop{xs:N_}(h:Lim xs)(n:Nat):Lim (xs.drop n):=λx e=>h x (List.mem_of_mem_drop e)
theorem Lim.set{xs:N_}(h:Lim xs)(i:Nat){v:Nat}(e:v<4294967296):Lim (xs.set i v):=λx l=>by
 rcases auB l with h1|h1
 exact h x h1;subst h1;exact e
theorem TS(n:Nat):Lim (apX n 0):=λx e=>by
 rw[List.mem_replicate]at e;rw[e.2];decide
theorem JR(n:Nat):val (apX n 0)=0:=by
 induction n with
 |zero=>rfl
 |succ n e=>simp[List.replicate_succ,val,e]
theorem Pn{xs:N_}(h:Lim xs)(A:∀x,xs.getLast?=some x->x≠0):aS (val xs)=xs:=by
 induction xs with
 |nil=>simp[val,jT]
 |cons x xs J=>
  have u:=h x aX;have w:Lim xs:=λy E=>h y (by simp[E]);cases xs with
  |nil =>have:=A x aX;simp only[val,Nat.mul_zero,arG];exact tI this u
  |cons y ys=>
   have i:=J w λz F=>A z (by rw[List.getLast?_cons_cons];exact F);have D:val (y::ys)≠0:=λe=>by rw[e,jT]at i;cases i
   have l:x+4294967296*val (y::ys)≠0:=by have:0<4294967296*val (y::ys):=Nat.mul_pos aT (atB D);omega
   show aS (x+4294967296*val (y::ys))=_;rw[yE l];have B:(x+4294967296*val (y::ys))%4294967296=x:=by rw[Nat.add_mul_mod_self_left,asU u]
   have e2:(x+4294967296*val (y::ys))/4294967296=val (y::ys):=by rw[Nat.add_mul_div_left _ _ aT,auC u,aqA]
   rw[B,e2,i]
theorem Ef{xs:N_}{n:Nat}(h:∀j x,n<=j->xs[j]?=some x->x=0):val (xs.take n)=val xs:=by
 have e:xs.drop n=apX (xs.drop n).length 0:=by apply asJ aX;intro i l u;rw[List.getElem_replicate,List.getElem_drop];exact h (n+i) _ Om (apZ _)
 conv=>rhs;rw[<-asZ n xs,jW,e,JR]
 simp
theorem nt{xs:N_}(w:Lim xs){n:Nat}(u:n<=Z' xs)(h:∀j x,n<=j->xs[j]?=some x->x=0)(l:∀x,0<n->xs[n-1]?=some x->x≠0):xs.take n=aS (val xs):=by
 rw[<-Ef h,Pn (w.take n)];intro x i;rw[List.getLast?_eq_getElem?,aqF,asK u]at i;rcases arZ n with e|e
 subst e;simp at i;rw[List.getElem?_take_of_lt Om]at i;exact l x e i
theorem CK{xs:N_}(h:Lim xs):nl (val xs)<=Z' xs:=(oG _ _).2 (nR h)
theorem xi {xs : N_} (h : Lim xs) : xs.take (nl (val xs)) = aS (val xs) := by
  have hl := CK h;have e : val (xs.take (nl (val xs)) ++ xs.drop (nl (val xs))) = val xs := by rw [asZ]
  rw [jW, aqF, asK hl] at e;have h1 := nR (h.take (nl (val xs)));rw [aqF, asK hl] at h1;have h2 := (oG (val xs) (nl (val xs))).1 (apU _);have hd : val (xs.drop (nl (val xs))) = 0 := by
    rcases arZ (val (xs.drop (nl (val xs)))) with h | h
    · exact h
    · have := atM (4294967296 ^ nl (val xs)) h
      omega
  have hz : ∀ j x, nl (val xs) <= j -> xs[j]? = some x -> x = 0 := by
    have zero : ∀ ys : N_, val ys = 0 -> ∀ y ∈ ys, y = 0 := by
      intro ys
      induction ys with
      | nil => intro _ y hy; cases hy
      | cons z zs ih =>
        intro hv y hy;simp only [val] at hv;rw [aqG] at hy;rcases hy with rfl | hy
        · omega
        · exact ih (by have : 4294967296 * val zs = 0 := Om
                       rcases Nat.mul_eq_zero.1 this with h | h
                       · cases h
                       · exact h) y hy
    intro j x hj hx;refine zero _ hd x ?_;rw [List.mem_iff_getElem?];exact ⟨j - nl (val xs), by rw [atI, Nat.add_sub_cancel' hj]; exact hx⟩
  refine nt h hl hz fun x hpos hx e => ?_;subst e;have hz2 : ∀ j x, nl (val xs) - 1 <= j -> xs[j]? = some x -> x = 0 := fun j y hj hy => by
    rcases aqW j (nl (val xs)) with h3 | h3
    · have : j = nl (val xs) - 1 := Om
      subst this; rw [hx] at hy; cases hy; rfl
    · exact hz j y h3 hy
  have h3 := Ef hz2;have h4 := nR (h.take (nl (val xs) - 1));rw [h3, aqF, asK Om] at h4;have := (oG (val xs) (nl (val xs) - 1)).2 h4;omega
theorem afQ{xs:N_}(h:Lim xs){n:Nat}(w:nl (val xs)=n+1):∃x,xs[n]?=some x/\x≠0:=by
 have y:=CK h;refine⟨xs[n]'Om,apZ _,λe=>?_⟩;have u:=xi h;have i:=bZ (val xs);rw[<-u,w,arB Om,e,jW]at i;simp only[val,Nat.mul_zero,arG]at i;have l:=nR (h.take n);rw[i,aqF,asK Om]at l;have:=(oG (val xs) n).2 l;omega
theorem JE(xs:N_){k:Nat}(h:k<Z' xs):val xs=val (xs.take k)+4294967296^k*(xs[k]+4294967296*val (xs.drop (k+1))):=by
 conv=>lhs;rw[<-asZ k xs,jW,aqF,asK Om,asI h]
 rfl
theorem N8{xs ys:N_}(x:Lim xs){k:Nat}(e:k<Z' xs)(i:k<Z' ys)(w:xs.drop (k+1)=ys.drop (k+1))(h:xs[k]<ys[k]):val xs<val ys:=by
 rw[JE xs e,JE ys i,w];have l:=nR (x.take k);rw[aqF,asK Om]at l;have u:4294967296^k*(xs[k]+4294967296*val (ys.drop (k+1))+1)<=4294967296^k*(ys[k]+4294967296*val (ys.drop (k+1))):=atM _ Om;rw[arH _ _ 1,Nat.mul_one]at u;omega
def iV(a b:Nat):Int:=if a<b then -1 else if b<a then 1 else 0
theorem Oq{xs ys:N_}{k:Nat}(e:k<Z' xs)(i:k<Z' ys)(l:xs.drop (k+1)=ys.drop (k+1))(h:xs[k]=ys[k]):xs.drop k=ys.drop k:=by
 rw[asI e,asI i,l,h]
theorem pQ{a b:Nat}(h:a<=b):nl a<=nl b:=(oG a _).2 (Nat.lt_of_le_of_lt h ((oG b _).1 (apU _)))
def fC(n:Nat):Nat:=if h:n=0 then 0 else fC (n/2)+1
termination_by n
decreasing_by exact Nat.div_lt_self (atB h) aT
theorem rV:fC 0=0:=by rw[fC];simp
theorem GA{n:Nat}(h:n≠0):fC n=fC (n/2)+1:=by rw[fC];simp[h]
theorem tF(n k:Nat):fC n<=k↔n<2^k:=by
 induction k generalizing n with
 |zero =>by_cases h:n=0;subst h;simp[rV];rw[GA h];simp;omega
 |succ k e =>by_cases h:n=0;subst h;simp[rV,Nat.pow_pos];rw[GA h,Nat.succ_le_succ_iff,e,atF,auD aT]
theorem tZ{n:Nat}:fC n=0↔n=0:=by
 have:=tF n 0;simp at this;exact this
theorem S8{hi lo k:Nat}(u:lo<2^k)(i:hi≠0):fC (lo+2^k*hi)=k+fC hi:=by
 apply Nat.le_antisymm;rw[tF,Nat.pow_add];have e:=(tF hi _).1 (apU _);have:2^k*(hi+1)<=2^k*2^fC hi:=atM _ e;rw[arH,Nat.mul_one]at this;omega;obtain⟨b,hb⟩:∃b,fC hi=b+1:=⟨fC hi-1,by have:=mt tZ.1 i;omega⟩;rw[hb];rcases aqW (fC (lo+2^k*hi)) (k+(b+1))with h|h
 have e:=(tF (lo+2^k*hi) (k+b)).1 Om;rw[Nat.pow_add]at e;have l:¬hi<2^b:=λh=>by have:=(tF hi b).2 h;omega
 have:2^k*2^b<=2^k*hi:=atM _ Om;omega;exact h
theorem pO(n k:Nat):fC n<=32*k↔nl n<=k:=by
 rw[tF,oG,Nat.pow_mul]
end Go.Na
namespace Go.PM
theorem Lq{F e:PF}(h:F.le e:=by(repeat' (first|exact d_|refine e_ ?_ ?_))<;>first|(simp only[go_sem]<;>rfl)|rfl|assumption):F.le e:=h
end Go.PM
namespace Go.PM
theorem lE1{F e:PF}{i:Prop}(l:i)(k:i->F.le e:=by intro u;(repeat' (first|exact d_|refine e_ ?_ ?_))<;>first|(simp only[go_sem,u]<;>rfl)|rfl):F.le e:=k l
theorem lE3{F e:PF}{i l pc:Prop}(u:i)(hb:l)(w:pc)(k:i->l->pc->F.le e:=by intro x y A;(repeat' (first|exact d_|refine e_ ?_ ?_))<;>first|(simp only[go_sem,x,y,A]<;>rfl)|rfl):F.le e:=k u hb w
theorem lE5{F e:PF}{i l pc u w:Prop}(x:i)(hb:l)(y:pc)(A:u)(he:w)(k:i->l->pc->u->w->F.le e:=by intro B D E J K;(repeat' (first|exact d_|refine e_ ?_ ?_))<;>first|(simp only[go_sem,B,D,E,J,K]<;>rfl)|rfl):F.le e:=k x hb y A he
theorem lE6{F e:PF}{i l pc u w pf:Prop}(x:i)(hb:l)(y:pc)(A:u)(he:w)(B:pf)(k:i->l->pc->u->w->pf->F.le e:=by intro D E J K L M;(repeat' (first|exact d_|refine e_ ?_ ?_))<;>first|(simp only[go_sem,D,E,J,K,L,M]<;>rfl)|rfl):F.le e:=k x hb y A he B
theorem lE7{F e:PF}{i l pc u w pf x:Prop}(y:i)(hb:l)(A:pc)(B:u)(he:w)(D:pf)(E:x)(k:i->l->pc->u->w->pf->x->F.le e:=by intro J K L M N O R;(repeat' (first|exact d_|refine e_ ?_ ?_))<;>first|(simp only[go_sem,J,K,L,M,N,O,R]<;>rfl)|rfl):F.le e:=k y hb A B he D E
theorem lM{F e:PF}(h:F.le e:=by(repeat' (first|exact d_|refine e_ ?_ ?_))<;>first|(simp only[go_sem,apP]<;>rfl)|rfl):F.le e:=h
end Go.PM
namespace Go.PM
open Go Go.Na
abbrev bC(xs:N_):P2_:=xs.map λ(n:Nat)=>[PV.int .u32 (n:Int)]
abbrev aY(xs:N_):PV:=.sl 1 (xs.map λ(n:Nat)=>[PV.int .u32 (n:Int)])
theorem eJ(xs:N_):(bC xs).length=Z' xs:=by simp
theorem gM(xs:N_){i:Nat}(h:i<Z' xs):(bC xs)[i]?=some [.int .u32 (xs[i]:Nat)]:=by simp[h]
theorem iG(n:Nat):IntKind.u32.wrap (n:Int)=((n%4294967296:Nat):Int):=by
 have e:IntKind.u32.wrap (n:Int)=(n:Int)%4294967296:=by simp[IntKind.wrap,IntKind.bits,IntKind.signed]
 rw[e];rfl
theorem Ss{k:Nat}(h:k<=9223372036854775807)(e:0<k):i_.wrap ((k:Int)-1)=((k-1:Nat):Int):=by
 rw[wrap_i64 Om Om];omega
def szL(n:Nat):N_:=if nl n>512 then[]else aS n
def szE(n:Nat):Int:=if nl n>512 then 2 else 0
def szV(n:Nat):PV:=.tup [aY (szL n),.int .i64 (szE n)]
end Go.PM
theorem Sq{p:Prop}(h:p:=by simp only[go_sem]):p:=h
theorem Ev{p:Prop}(h:p:=by simp only[go_sem]<;>rfl):p:=h
namespace Go.PM
open Go Go.Na
def sD:PV->N_
 | .sl _ rows=>rows.map λr=>match r with|[.int _ n]=>n.toNat|_=>0
 |_=>[]
theorem lS(xs:N_):sD (aY xs)=xs:=by
 simp[sD,asR,Function.comp_def]
theorem uL(L:N_)(i v:Nat):(bC L).set i [.int .u32 (v:Int)]=bC (L.set i v):=by
 unfold bC;rw[asP]
theorem HT(P:N_)(v:Nat):val (P++[v])=val P+4294967296^P.length*v:=by
 rw[jW];simp[val]
theorem gQ(xs:N_){i:Nat}(h:i<Z' xs):val (xs.take (i+1))=val (xs.take i)+4294967296^i*xs[i]:=by
 rw[arB h,HT,aqF,asK Om]
theorem yj{v:Nat}:shift .shr .u64 (v:Int) 32=some (.int .u64 ((v/4294967296:Nat):Int)):=by
 unfold shift;rw[aC aT];simp only;have:min (Int.toNat 32) IntKind.u64.bits=32:=by decide
 rw[this,show(2:Int)^32=4294967296 by decide,Int.fdiv_eq_ediv_of_nonneg _ aT];rfl
theorem rU{a b:Nat}(h:a+b<18446744073709551616):u_.wrap ((a:Int)+(b:Int))=((a+b:Nat):Int):=by
 rw[wrap_u64 Om Om];omega
theorem eA{a:Nat}(h:a<18446744073709551616):u_.wrap (a:Int)=(a:Int):=wrap_u64 Om Om
def opV(big:Bool)(n:Nat):PV:=if big then .tup [aY [],.int .i64 2]else szV n
def nC(a b:Nat):Bool:=decide (nl a>512)||decide (nl b>512)
theorem mS{res:List dY}{F:PF}{H:PH}{e:Int}(h:dY.evs F H res=some [.aG,.j e]):aW res (cY (.tup [aY [],.j e])) .ret F H:=by
 refine bK (.inr rfl) .nil h a_ ⟨?_,rfl⟩;refine .tup rfl λj p q hp hq=>?_
 match j with
 |0=>simp at hp hq;subst hp;subst hq;exact .nil 1
 |1=>simp at hp hq;subst hp;subst hq;exact .refl _
 |j+2=>simp at hp
theorem cE(n:Nat):(aS n).length=nl n:=rfl
theorem KX(n:Int):u_.wrap n=n%18446744073709551616:=by simp[IntKind.wrap,IntKind.bits,IntKind.signed]
def Mi(a b:Nat):PV:=if nC a b then .tup [aY [],.int .i64 2]else if a<b then .tup [aY [],.int .i64 4]else szV (a-b)
end Go.PM
namespace Go.Na
def pL:Nat->Nat->N_
 |0,_=>[]
 |k+1,n=>(n%4294967296)::pL k (n/4294967296)
theorem bo:∀k n,(pL k n).length=k
 |0,_=>rfl
 |k+1,n=>by simp[pL,bo k]
theorem br:∀k n,Lim (pL k n)
 |0,_=>λx hx=>by cases hx
 |k+1,n=>λx hx=>by
  simp only[pL,aqG]at hx;rcases hx with rfl|hx
  exact Nat.mod_lt _ aT;exact br k _ x hx
theorem Ee:∀k n,val (pL k n)=n%4294967296^k
 |0,n=>by simp[pL,val,Nat.mod_one]
 |k+1,n=>by simp only[pL,val,Ee k];rw[atF,arW (4294967296^k) 4294967296,Nat.mod_mul]
theorem ZX{k n:Nat}(h:n<4294967296^k):val (pL k n)=n:=by rw[Ee,asU h]
end Go.Na
namespace Go.PM
open Go Go.Na
theorem ahP{a b:Nat}(e:a<18446744073709551616)(hb:b<18446744073709551616):(BitVec.ofInt 64 (a:Int) ||| BitVec.ofInt 64 (b:Int)).toNat=a ||| b:=by
 rw[BitVec.ofInt_natCast,BitVec.ofInt_natCast,BitVec.toNat_or,BitVec.toNat_ofNat,BitVec.toNat_ofNat,asU (by simpa using e),asU (by simpa using hb)]
theorem Qd{c x s:Nat}(e:c<2^s)(h:c+2^s*x<18446744073709551616):c ||| (2^s*x)=c+2^s*x:=by
 rw[Nat.or_comm,<-Nat.two_pow_add_eq_or_of_lt e,Nat.add_comm]
theorem orI{a b n:Nat}(e:a<18446744073709551616)(hb:b<18446744073709551616)(h:a ||| b=n)(i:n<18446744073709551616):oY .or .u64 (a:Int) (b:Int)=some (.int .u64 (n:Int)):=by
 show some (PV.int .u64 (u_.wrap (((BitVec.ofInt 64 (a:Int) ||| BitVec.ofInt 64 (b:Int)).toNat:Nat):Int)))=_;rw[ahP e hb,h,eA i]
theorem Mf{x s:Nat}(e:s<=64)(h:x*2^s<18446744073709551616):shift .shl .u64 (x:Int) (s:Int)=some (.int .u64 ((2^s*x:Nat):Int)):=by
 unfold shift;rw[aC Om];simp only;have:min (Int.toNat (s:Int)) IntKind.u64.bits=s:=by rw[show IntKind.u64.bits=64 from rfl];omega
 rw[this,show(x:Int)*2^s=((x*2^s:Nat):Int) by simp,eA h,arW]
end Go.PM
namespace Go.Na
theorem sw{L:N_}{i:Nat}(h:i<Z' L)(v:Nat):val (L.set i v)+4294967296^i*L[i]=val L+4294967296^i*v:=by
 have e:i<(L.set i v).length:=by rw[arD];exact h
 rw[JE L h,JE (L.set i v) e,List.getElem_set_self,List.take_set_of_le (apU _),List.drop_set_of_lt Om,arH,arH];omega
theorem Nh{L:N_}{i:Nat}(h:∀(j x:Nat),i<=j->L[j]?=some x->x=0)(k v:Nat)(u:k<i):∀(j x:Nat),i<=j->(L.set k v)[j]?=some x->x=0:=λj x l e=>by
 rw[List.getElem?_set_ne Om]at e;exact h j x l e
end Go.Na
namespace Go.PM
open Go Go.Na
structure zi(a b L:N_)(i:Nat):Prop where
 len:Z' L=Z' a+Z' b
 lim:Lim L
 v:val L=val (a.take i)*val b
 z:∀j x,i+Z' b<=j->L[j]?=some x->x=0
theorem aaP{x y:Nat}(e:x<4294967296)(i:y<4294967296):u_.wrap ((x:Int)*(y:Int))=((x*y:Nat):Int):=by
 have:x*y<=4294967295*4294967295:=atU Om Om;rw[show(x:Int)*(y:Int)=((x*y:Nat):Int) by simp];exact eA Om
theorem rT{a b:Nat}(h:a+b<=9223372036854775807):i_.wrap ((a:Int)+(b:Int))=((a+b:Nat):Int):=by
 rw[wrap_i64 Om Om];omega
open Go Go.Na
theorem abT{A P W Z:N_}{i:Nat}(e:Z' P=i)(hi:i<Z' W)(v:Nat):(bC (A++(P++W.drop i)++Z)).set (Z' A+i) [.int .u32 (v:Int)]=bC (A++((P++[v])++W.drop (i+1))++Z):=by
 rw[uL];congr 1;rw[List.set_append_left _ _ (by simp;omega),asY _ _ Om,asY _ _ Om,asI hi];rw[show A.length+i-Z' A-Z' P=0 by omega,asT];simp
end Go.PM
namespace Go.Na
structure Kn(V W top next Vr head u2 Wr p:Nat):Prop where
 hV:V=top*(4294967296*p)+next*p+Vr
 hW:W=head*(4294967296*p)+u2*p+Wr
 hVr:Vr<p
 hWr:Wr<p
 htop:2147483648<=top
 aoZ:next<4294967296
 hu2:u2<4294967296
 hlt:W<V*4294967296
section
variable {V W top next Vr head u2 Wr p:Nat}
theorem Kn.low(K:Kn V W top next Vr head u2 Wr p):next*p+Vr<4294967296*p/\u2*p+Wr<4294967296*p:=by
 have e:(next+1)*p<=4294967296*p:=arK _ K.aoZ;have i:(u2+1)*p<=4294967296*p:=arK _ K.hu2;rw[arJ,Nat.one_mul]at e i;have:=K.hVr;have:=K.hWr;omega
theorem Kn.I6(K:Kn V W top next Vr head u2 Wr p):0<V/\4294967296*p<=V/\0<p:=by
 have:=K.hVr;have h:1*(4294967296*p)<=top*(4294967296*p):=arK _ (by have:=K.htop;omega);have:=K.hV;omega
theorem Kn.amF(K:Kn V W top next Vr head u2 Wr p):W/V<4294967296:=by
 rw[auD K.I6.1,arW];exact K.hlt
theorem Kn.g0(K:Kn V W top next Vr head u2 Wr p):W/V<=head/top:=by
 have e:0<top:=by have:=K.htop;omega
 rw[Nat.le_div_iff_mul_le e];have i:W/V*V<=W:=Nat.div_mul_le_self W V;have l:W/V*(top*(4294967296*p))<=W/V*V:=atM _ (by have:=K.hV;omega);have u:=K.low.2;have w:=K.hW;have h5:(W/V*top)*(4294967296*p)<(head+1)*(4294967296*p):=by rw[arN,arJ,Nat.one_mul];omega
 have:=Nat.lt_of_mul_lt_mul_right h5;omega
theorem Kn.g1(K:Kn V W top next Vr head u2 Wr p){g r:Nat}(u:g*top+r=head)(hq:W/V<=g)(h:g>=4294967296\/g*next>r*4294967296+u2):1<=g/\W/V<=g-1:=by
 have x:=K.amF;have i:=Nat.div_mul_le_self W V;generalize W/V=Q at *
 rcases h with h|h
 ·omega
 ·have w:Q≠g:=by
   intro e;have y:g*V<=W:=by rw[<-e];exact i
   have A:g*V=g*top*(4294967296*p)+g*next*p+g*Vr:=by rw[K.hV,arH,arH,arN,arN]
   have l:(r*4294967296+u2+1)*p<=g*next*p:=arK _ h
   rw[arJ,arJ,Nat.one_mul,arN r]at l;have B:g*top*(4294967296*p)+r*(4294967296*p)=head*(4294967296*p):=by rw[<-arJ,u]
   have:=K.hW;have:=K.hWr;omega
  omega
theorem Kn.g2(K:Kn V W top next Vr head u2 Wr p){g r:Nat}(w:g*top+r=head)(x:g<=4294967296)(h:g*next<=r*4294967296+u2):g<=W/V+1:=by
 rcases arZ g with e|e
 ·rw[e];exact apR _
 have l:g*V=g*top*(4294967296*p)+g*next*p+g*Vr:=by rw[K.hV,arH,arH,arN,arN]
 have i:g*next*p<=(r*4294967296+u2)*p:=arK _ h
 rw[arJ,arN r]at i;have u:g*top*(4294967296*p)+r*(4294967296*p)=head*(4294967296*p):=by rw[<-arJ,w]
 have h5:g*Vr<=4294967296*Vr:=arK _ x;have y:4294967296*(Vr+1)<=4294967296*p:=atM _ K.hVr;have hV:=K.I6;have hW:=K.hW;have h7:(g-1)*V<=W:=by
  have:g*V=(g-1)*V+V:=by obtain⟨k,rfl⟩:∃k,g=k+1:=⟨g-1,by omega⟩;rw[arJ,Nat.one_mul];rfl
  omega
 have:=(Nat.le_div_iff_mul_le hV.1).2 h7;generalize W/V=Q at *
 clear l i u h5 h7;omega
theorem Kn.g3(K:Kn V W top next Vr head u2 Wr p){g r:Nat}(w:g*top+r=head)(x:g<=4294967296)(y:4294967296<=r):g<=W/V+1:=by
 have e:=K.low.1;have hV:=K.I6;have i:g*V=g*top*(4294967296*p)+g*(next*p+Vr):=by rw[K.hV,atA,arH,arN]
 have l:g*(next*p+Vr)<=4294967296*(4294967296*p):=atU x Om;have u:g*top*(4294967296*p)+r*(4294967296*p)=head*(4294967296*p):=by rw[<-arJ,w]
 have h5:4294967296*(4294967296*p)<=r*(4294967296*p):=arK _ y;have hW:=K.hW;have h7:g*V<=W:=Om;have:=(Nat.le_div_iff_mul_le hV.1).2 h7;generalize W/V=Q at *
 clear i l u h5 h7;omega
theorem Kn.g4(K:Kn V W top next Vr head u2 Wr p):head/top<=4294967296+1:=by
 have e:=K.low.1;have hV:=K.I6;have hW:=K.hW;have hlt:=K.hlt;have x:=K.htop;have u:head<(top+1)*4294967296:=by
  have i:V<(top+1)*(4294967296*p):=by rw[K.hV,arJ,Nat.one_mul];omega
  have w:V*4294967296<=(top+1)*(4294967296*p)*4294967296:=arK _ (Nat.le_of_lt i);have l:head*(4294967296*p)<(top+1)*4294967296*(4294967296*p):=by
   have:(top+1)*(4294967296*p)*4294967296=(top+1)*4294967296*(4294967296*p):=by rw[arN,arW (4294967296*p) 4294967296,<-arN]
   omega
  exact Nat.lt_of_mul_lt_mul_right l
 have h5:head/top<4294967296+2:=by rw[auD Om];omega
 omega
end
theorem TB:∀(k n:Nat),pL (k+1) n=pL k n++[n/4294967296^k%4294967296]
 |0,n=>by simp[pL]
 |k+1,n=>by show(n%4294967296)::pL (k+1) (n/4294967296)=(n%4294967296)::pL k (n/4294967296)++[n/4294967296^(k+1)%4294967296];rw[TB k (n/4294967296),Nat.div_div_eq_div_mul,atF,arW 4294967296];rfl
theorem QU{xs:N_}(h:Lim xs):∀{k:Nat},k<=Z' xs->val (xs.drop k)=val xs/4294967296^k:=by
 intro k i;have e:val xs=val (xs.take k)+4294967296^k*val (xs.drop k):=by
  conv=>lhs;rw[<-asZ k xs,jW,aqF,asK i]
 have l:=nR (h.take k);rw[aqF,asK i]at l;rw[e,Nat.add_mul_div_left _ _ (Nat.pow_pos aT),auC l,aqA]
theorem Fy{R s i l u X:Nat}(w:s<32)(h:R/4294967296^i=l+4294967296*(u+4294967296*X)):(R/2^s)/4294967296^i%4294967296=(4294967296*u+l)/2^s%4294967296:=by
 rw[Nat.div_div_eq_div_mul,arW (2^s),<-Nat.div_div_eq_div_mul,h];have hp:4294967296*4294967296=2^s*(2^(32-s)*4294967296):=by rw[<-arN,<-Nat.pow_add,show s+(32-s)=32 by omega]
 have e:l+4294967296*(u+4294967296*X)=(4294967296*u+l)+2^s*(2^(32-s)*X*4294967296):=by
  have:4294967296*(4294967296*X)=2^s*(2^(32-s)*X*4294967296):=by rw[<-arN,hp,arN,arN,arN,arW 4294967296 X]
  rw[arH,this];omega
 rw[e,Nat.add_mul_div_left _ _ (Nat.pow_pos aT),Nat.add_mul_mod_self_right]
end Go.Na
namespace Go.Na
structure FL(U0 V n lu lq:Nat)(k:Nat)(U Q:N_):Prop where
 lu':Z' U=lu
 lq':Z' Q=lq
 limU:Lim U
 limQ:Lim Q
 v:val U+val Q*V=U0
 r:val (U.drop k)<V
 z:∀i x,i<k->Q[i]?=some x->x=0
theorem Tr{M V n L A j:Nat}{U Q:N_}(h:FL M V n L A (j+1) U Q)(hV:V<4294967296^n)(hj:j<A)(hl:L=A+n) :
  val ((U.drop j).take (n+1))<V*4294967296/\FL M V n L A j (U.take j++pL (n+1) (val ((U.drop j).take (n+1))%V)++U.drop (j+(n+1))) (Q.set j (val ((U.drop j).take (n+1))/V)):=by
 have X:=h.lu';have J:=h.lq';have e:0<V:=by have:=h.r;omega
 have u:j<Z' U:=Om;have Y:val (U.drop j)=U[j]+4294967296*val (U.drop (j+1)):=by rw[asI u];rfl
 have R:=h.limU _ (apW u);have hlt:val (U.drop j)<V*4294967296:=by have:=h.r;omega
 have F:((U.drop j).take (n+1)).length=n+1:=by rw[aqF,arM];omega
 have e2:val (U.drop j)=val ((U.drop j).take (n+1))+4294967296^(n+1)*val (U.drop (j+(n+1))):=by
  conv=>lhs;rw[<-asZ (n+1) (U.drop j),jW,F,List.drop_drop]
 have N:4294967296^(n+1)=4294967296^n*4294967296:=atF _ _;have S:V*4294967296<=4294967296^n*4294967296:=arK _ (Nat.le_of_lt hV);have D:val (U.drop (j+(n+1)))=0:=by
  rcases arZ (val (U.drop (j+(n+1))))with h0|h0
  ·exact h0
  ·have:=atM (4294967296^(n+1)) h0;omega
 rw[D,Nat.mul_zero,arG]at e2;generalize hW:val ((U.drop j).take (n+1))=W at *
 have Z:val U=val (U.take j)+4294967296^j*W:=by
  conv=>lhs;rw[<-asZ j U,jW,aqF,asK Om,e2]
 have y:W%V<V:=Nat.mod_lt _ e;have E:V*(W/V)+W%V=W:=Nat.div_add_mod _ _;have K:W/V<4294967296:=by rw[auD e,arW];omega
 have hD:val (pL (n+1) (W%V))=W%V:=ZX Om;have B:Q[j]=0:=h.z j _ Om (apZ Om);have l:=sw (Om:j<Z' Q) (W/V);rw[B,Nat.mul_zero,arG]at l;have w:(U.take j).length=j:=by rw[aqF];omega
 refine⟨by omega,?_,?_,?_,?_,?_,?_,?_⟩
 ·simp only[apV,bo,arM,aqF];omega
 ·rw[arD];exact J
 ·exact((h.limU.take j).app (br _ _)).app (h.limU.drop _)
 ·exact h.limQ.set _ K
 ·rw[aqT,jW,jW,w,hD,bo,D,Nat.mul_zero,arG,l];have:=h.v;have h5:(val Q+4294967296^j*(W/V))*V=val Q*V+4294967296^j*(V*(W/V)):=by rw[arJ,arN,arW (W/V) V]
  have h6:4294967296^j*W=4294967296^j*(V*(W/V))+4294967296^j*(W%V):=by rw[<-arH,E]
  omega
 ·rw[aqT,List.drop_append_of_le_length Om,List.drop_of_length_le Om,atL,jW,hD,D,Nat.mul_zero,arG];exact y
 ·intro i x hi O;rw[List.getElem?_set_ne Om]at O;exact h.z i x Om O
end Go.Na
namespace Go.PM
open Go Go.Na
theorem TH(o s:Nat)(rs:P2_)(L:N_):(bC L).map (λr=>r.map (PV.cZ o s rs))=bC L:=by
 unfold bC;rw[asR];rfl
open Go Go.Na
theorem amT{x s:Nat}(e:s<=64):shift .shr .u64 (x:Int) (s:Int)=some (.int .u64 ((x/2^s:Nat):Int)):=by
 unfold shift;rw[aC Om];simp only;have:min (Int.toNat (s:Int)) IntKind.u64.bits=s:=by rw[show IntKind.u64.bits=64 from rfl];omega
 rw[this,Int.fdiv_eq_ediv_of_nonneg _ (by exact_mod_cast apR _)]
 norm_cast
theorem uy{xs ys:N_}(h:bC xs=bC ys):xs=ys:=by
 have:=congrArg sD (show aY xs=aY ys by show PV.sl 1 (bC xs)=PV.sl 1 (bC ys);rw[h])
 rwa[lS,lS]at this
def bs(A B:Nat):PV:=.tup [aY (aS (A/B)),aY (aS (A%B))]
theorem X1{n i x:Nat}(e:(apX n 0)[i]?=some x):x=0:=by
 have:=asC e;rw[List.mem_replicate]at this;exact this.2
def yd(A B:Nat):PV:=if nC A B then .tup [aY [],aY [],.int .i64 2]else if B=0 then .tup [aY [],aY [],.int .i64 3]else .tup [aY (aS (A/B)),aY (aS (A%B)),.int .i64 0]
theorem UA{res:List dY}{F:PF}{H:PH}{e:Int}(h:dY.evs F H res=some [.aG,.aG,.j e]):aW res (cY (.tup [aY [],aY [],.j e])) .ret F H:=by
 refine bK (.inr rfl) .nil h a_ ⟨?_,rfl⟩;refine .tup rfl λj p q hp hq=>?_
 match j with
 |0=>simp at hp hq;subst hp;subst hq;exact .nil 1
 |1=>simp at hp hq;subst hp;subst hq;exact .nil 1
 |2=>simp at hp hq;subst hp;subst hq;exact .refl _
 |j+3=>simp at hp

theorem CoL.nil:CoL [] []:=.refl _
theorem CoL.cons{p q:PV}{ps l:V_}(h:Co p q)(i:CoL ps l):CoL (p::ps) (q::l):=
 ⟨by simp[i.len],λj a b e hb=>by
  cases j with
  |zero=>simp at e hb;subst e;subst hb;exact h
  |succ j=>exact i.at_ j a b (by simpa using e) (by simpa using hb)⟩
theorem CoL.agg{ps e:V_}(h:CoL ps e):Co (.agg ps) (.agg e):=.agg h.len h.at_
theorem CoL.tup{ps e:V_}(h:CoL ps e):Co (.tup ps) (.tup e):=.tup h.len h.at_
theorem vE{a b:Nat}(e:nl a<=512)(hb:nl b<=512):nC a b=false:=by
 simp[nC];omega
theorem zK{a b m n:Nat}(e:nl a<=m)(hb:nl b<=n):nl (a*b)<=m+n:=by
 rw[oG]at e hb ⊢;rw[Nat.pow_add];by_cases h:b=0
 ·subst h;exact Nat.mul_pos (Nat.pow_pos aT) (Nat.pow_pos aT)
 ·calc a*b<4294967296^m*b:=Nat.mul_lt_mul_of_pos_right e (atB h)
   _<=4294967296^m*4294967296^n:=atM _ (Nat.le_of_lt hb)
theorem nj{n:Nat}(h:nl n<=512):szV n=.tup [aY (aS n),.j 0]:=by
 have:¬nl n>512:=Om;simp[szV,szL,szE,this]
abbrev pD(neg:Bool)(a b:N_):V_:=[.bool neg,aY a,aY b]
def fT(a b:Nat):Bool:=decide (0<fC b)&&decide (fC b<=4096)&&decide (fC a<=4096)
abbrev J6(e:Int):PV:=.tup [.agg (pD false [] []),.int .i64 e]
abbrev aiF(neg:Bool)(a b:Nat):PV:=.tup [.agg (pD neg (aS a) (aS b)),.int .i64 0]
theorem vK{res:List dY}{F:PF}{H:PH}{e:Int}(h:dY.evs F H res=some [.agg [.bool false,.aG,.aG],.j e]):aW res (cY (J6 e)) .ret F H:=
 bK (.inr rfl) .nil h a_ ⟨CoL.tup (.cons (CoL.agg (.cons (.refl _) (.cons (.nil 1) (.cons (.nil 1) .nil)))) (.cons (.refl _) .nil)),rfl⟩
theorem P3{a n:Nat}(g:Nat)(h:nl a<=n):nl (a/g)<=n:=aqX (pQ (asH _ _)) h
theorem xO{n k:Nat}(h:n<4294967296^k):nl n<=k:=(oG _ _).2 h
theorem mN{a b:Nat}:fT a b=true↔b≠0/\nl b<=128/\nl a<=128:=by
 have e:=pO b 128;have i:=pO a 128;have l:=@tZ b;simp only[fT,apT,dT_];omega
def CZ(e:Bool)(a1 b1:Nat)(i:Bool)(a2 b2:Nat):Int:=
 match e&&decide (a1≠0),i&&decide (a2≠0)with
 |true,true=>- iV (a1*b2) (a2*b1)
 |true,false=>-1
 |false,true=>1
 |false,false=>iV (a1*b2) (a2*b1)
abbrev FV:=Bool × Nat × Nat
abbrev FR:=Except Int FV
def qP(neg:Bool)(a b:Nat):FR:=
 if fC (a/apS a b)>4096\/fC (b/apS a b)>4096 then .error 2 else .ok (neg&&decide (a/apS a b≠0),a/apS a b,b/apS a b)
def frV:FR->PV
 | .ok (n,a,b)=>aiF n a b
 | .error e=>J6 e
def nU:FV->FV->FR
 |(e,a1,b1),(i,a2,b2)=>if fT a1 b1&&fT a2 b2 then
   (if e=i then qP e (a1*b2+a2*b1) (b1*b2)else if a2*b1<=a1*b2 then qP e (a1*b2-a2*b1) (b1*b2)else qP i (a2*b1-a1*b2) (b1*b2))
  else .error 1
theorem P2{a b m:Nat}(e:nl a<=m)(hb:nl b<=m):nl (a+b)<=m+1:=by
 rw[oG]at e hb ⊢;rw[atF];omega
theorem Gx(a b:Nat):(iV a b>=0)↔b<=a:=by
 unfold iV;split;constructor;intro h;exact absurd h aT;intro h;omega;split;constructor;intro h;omega;intro h;decide;constructor;intro h;omega;intro h;decide
theorem qt(r:FR):∃i x y e,frV r=.tup [.agg (pD i x y),.j e]:=by
 rcases r with e|⟨n,a,b⟩
 exact⟨_,_,_,_,rfl⟩;exact⟨_,_,_,_,rfl⟩
structure RF where
 neg:Bool
 num:N_
 den:N_
abbrev RF.cells(x:RF):V_:=pD x.neg x.num x.den
def RF.Ok(x:RF):Prop:=Lim x.num/\Lim x.den/\Z' x.num<=35184372087808/\Z' x.den<=35184372087808
def RF.v(x:RF):FV:=(x.neg,val x.num,val x.den)
abbrev frs(l:List RF):PV:=.sl 3 (l.map RF.cells)
def FV.rf:FV->RF
 |(n,a,b)=>⟨n,aS a,aS b⟩
def FV.Small:FV->Prop
 |(_,a,b)=>nl a<=900000/\nl b<=900000
theorem FV.amH(x:FV):x.rf.v=x:=by
 obtain⟨n,a,b⟩:=x;show(n,val (aS a),val (aS b))=_;rw[bZ,bZ]
def AA(l:List FV):FR:=l.foldlM nU (false,0,1)
theorem OE{neg:Bool}{a b:Nat}{r:FV}(h:qP neg a b=.ok r):r.Small/\r.rf.Ok:=by
 unfold qP at h;split at h;cases h;rename_i l;have e:=(pO (a/apS a b) 128).1 Om;have i:=(pO (b/apS a b) 128).1 Om;injection h with h
 subst h;refine⟨⟨by omega,by omega⟩,cA _,cA _,?_,?_⟩;show(aS _).length<=_;rw[cE];omega;show(aS _).length<=_;rw[cE];omega
theorem Gn{x y r:FV}(h:nU x y=.ok r):r.rf.Ok:=by
 obtain⟨e,a1,b1⟩:=x;obtain⟨i,a2,b2⟩:=y;simp only[nU]at h;split at h;split at h;exact(OE h).2;split at h;exact(OE h).2;exact(OE h).2;cases h
theorem E5{α β:Type}{f:β->α->Except Int β}(l:List α)(b:β){k:Nat}(h:k<Z' l):(l.take (k+1)).foldlM f b=((l.take k).foldlM f b).bind λx=>f x l[k]:=by
 rw[arB h,List.foldlM_append];cases(l.take k).foldlM f b with
 |error e=>rfl
 |ok x =>show([l[k]]:List α).foldlM f x=f x l[k];rw[List.foldlM_cons];cases f x l[k]<;>rfl
theorem J5{α β:Type}{f:β->α->Except Int β}(l:List α)(b:β){k:Nat}{e:Int}(h:(l.take k).foldlM f b=.error e):l.foldlM f b=.error e:=by
 conv=>lhs;rw[<-asZ k l,List.foldlM_append,h]
 rfl
def fsN:List (Nat × Nat):=[(0,1),(1,1),(1,2),(1,3),(1,4),(1,5),(1,6),(1,7),(1,8),(2,1),(2,3),(2,5),(2,7),(3,1),(3,2),(3,4),(3,5),(3,7),(3,8),(4,1),(4,3),(4,5),(4,7),(5,1),(5,2),(5,3),(5,4),(5,6),(5,7),(5,8),(6,1),(6,5),(6,7),(7,8)]
def tgN:List (Nat × Nat):=[(0,1),(1,8),(1,4),(3,8),(1,2),(5,8),(3,4),(7,8),(1,1)]
def stN:List (List (Nat × Nat)):=[[(1,1)],[(0,1),(1,1)],[(1,8),(7,8)],[(1,4),(3,4)],[(3,8),(5,8)],[(1,2),(1,2)],[(5,8),(3,8)],[(3,4),(1,4)],[(7,8),(1,8)],[(1,1),(0,1)]]
def rfQ(p:Nat × Nat):RF:=⟨false,match p.1 with|0=>[]|n+1=>[n+1],[p.2]⟩
def FOk(x:RF):Prop:=∃p∈fsN,x=rfQ p
def TOk(x:RF):Prop:=∃p∈tgN,x=rfQ p
def JW(l:List RF):Prop:=∃p∈stN,l=p.map rfQ
instance rfDec:DecidableEq RF:=λx y=>decidable_of_iff (x.neg=y.neg/\x.num=y.num/\x.den=y.den) ⟨λh=>by cases x;cases y;simp_all,λh=>by subst h;exact⟨rfl,rfl,rfl⟩⟩
instance fokDec(x:RF):Decidable (FOk x):=inferInstanceAs (Decidable (∃p∈fsN,x=rfQ p))
instance tokDec(x:RF):Decidable (TOk x):=inferInstanceAs (Decidable (∃p∈tgN,x=rfQ p))
instance stDec(l:List RF):Decidable (JW l):=inferInstanceAs (Decidable (∃p∈stN,l=p.map rfQ))
theorem T8:∀p∈fsN,p.1<9/\p.2<9:=by decide
theorem FOk.ok{x:RF}(h:FOk x):x.Ok:=by
 obtain⟨⟨a,b⟩,hp,rfl⟩:=h;obtain⟨i,l⟩:=T8 _ hp;simp only at i l;refine⟨λy e=>?_,λy e=>?_,?_,show 1<=35184372087808 by decide⟩
 ·cases a with
  |zero=>cases e
  |succ n=>rw[arA.1 e];omega
 rw[arA.1 e];omega
 ·cases a with
  |zero=>exact apR _
  |succ n=>exact(show 1<=35184372087808 by decide)
theorem aiT:∀p∈tgN,p∈fsN:=by decide
theorem TOk.fok{x:RF}(h:TOk x):FOk x:=by
 obtain⟨p,hp,e⟩:=h;exact⟨p,aiT p hp,e⟩
theorem TOk.ok{x:RF}(h:TOk x):x.Ok:=h.fok.ok
theorem Yt:∀p∈stN,Z' p<=2/\∀x∈p,x∈fsN:=by decide
theorem JW.fits{l:List RF}(h:JW l):Z' l<=9223372036854775807:=by
 obtain⟨p,hp,rfl⟩:=h;have:=(Yt p hp).1;rw[apP];omega
theorem JW.all{l:List RF}(h:JW l):∀x∈l,FOk x:=λx e=>by
 obtain⟨p,hp,rfl⟩:=h;obtain⟨y,i,rfl⟩:=aqJ.1 e;exact⟨y,(Yt p hp).2 y i,rfl⟩
theorem adY:∀a:Fin 9,∀b:Fin 8,(a.val<=6\/b.val=7)->(a.val/apS a.val (b.val+1),(b.val+1)/apS a.val (b.val+1))∈fsN:=by decide +kernel
theorem Df{a b:Nat}(e:a<9)(hb:b<9)(h:0<b):rfQ (a,b)=⟨false,aS a,aS b⟩:=by
 unfold rfQ;rw[tI (Om:b≠0) Om];cases a with
 |zero=>rw[jT]
 |succ n=>rw[tI (Nat.succ_ne_zero n) Om]
theorem afO:∀a:Fin 9,(a.val/apS a.val 8,8/apS a.val 8)∈tgN:=by decide +kernel
theorem fok{a b:Nat}(u:a<=8)(w:b<=8)(e:0<b)(x:a<=6\/b=8):FOk ⟨false,aS (a/apS a b),aS (b/apS a b)⟩:=by
 obtain⟨c,rfl⟩:∃c,b=c+1:=⟨b-1,by omega⟩;have k:=adY ⟨a,by omega⟩ ⟨c,by omega⟩ sO_;simp only at k;have l:=asH a (apS a (c+1));have e2:=asH (c+1) (apS a (c+1));have i:0<(c+1)/apS a (c+1):=Nat.div_pos (Nat.le_of_dvd e (Nat.gcd_dvd_right a _)) (Nat.gcd_pos_of_pos_right a e);exact⟨_,k,(Df Om Om i).symm⟩
theorem tok{a:Nat}(l:a<=8):TOk ⟨false,aS (a/apS a 8),aS (8/apS a 8)⟩:=by
 have k:=afO ⟨a,by omega⟩;simp only at k;have i:=asH a (apS a 8);have e2:=asH 8 (apS a 8);have e:0<8/apS a 8:=Nat.div_pos (Nat.le_of_dvd aT (Nat.gcd_dvd_right a _)) (Nat.gcd_pos_of_pos_right a aT);exact⟨_,k,(Df Om Om e).symm⟩
def LS:=bV [] Proofs.Tryz.f190
def rF:=cF LS
def TO:=bV [] Proofs.Tryz.f220
def BH:=cF TO
def TT:=bV [] Proofs.Tryz.f191
def YS:=cF TT
def kz:=bV [] Proofs.Tryz.f152
def DS:=cF kz
def gin:=bV [] Proofs.Tryz.f94
def NN:=cF gin
def xw:=bV [] Proofs.Tryz.f147
def j7:=cF xw
def xx:=bV [] Proofs.Tryz.f186
def j8:=cF xx
def xv:=bV [] Proofs.Tryz.f184
def j6:=cF xv
def j9:=bV [] Proofs.Tryz.f185
def YP:=cF j9
def oC:=bV [1] Proofs.Tryz.f149
def bz:=aA oC 8
def II:aI:=(gW (aA oC 9) 45 4 (aA oC 12) (sq (aA oC 10) (.region (aA oC 11))))
def TJ:=aA oC 13
def IJ:aI:=(gW (aA oC 5) 21 2 TJ (sq (aA oC 6) (sq (aA oC 7) (dF bz 4 II))))
def kb:aI:=(sq (aA oC 0) (sq (aA oC 1) (.seq (dF (aA oC 2) 0 (eN (aA oC 3) 15 0 (aA oC 14) (dF (aA oC 4) 2 IJ))) (sq (aA oC 15) .ret))))
def uG:=bV [1] Proofs.Tryz.f96
def b8:=aA uG 10
def b9:=aA uG 11
def ca:=aA uG 12
def cb:=aA uG 13
def tx:aI:=(sq (aA uG 0) (sq (aA uG 1) (pI (aA uG 2) 43 (aA uG 3) (.seq (dF (aA uG 4) 0 (gW (aA uG 5) 48 0 (aA uG 9) (sq (aA uG 6) (sq (aA uG 7) (.cond (Tm 67) (sq (aA uG 8) .ret) .skip))))) (sq b8 (sq b9 (sq ca (sq cb .ret))))))))
def x5:=bV [] Proofs.Tryz.f98
def kg:=cF x5
def A6:=bV [1] Proofs.Tryz.f95
def TI:=cF A6
def xy:=bV [] Proofs.Tryz.f187
def kc:=cF xy
def Ka:=bV [7] Proofs.Tryz.f150
def tz:=cF Ka
def kd:=bV [1] Proofs.Tryz.f188
def YQ:=cF kd
def xz:=bV [6,7] Proofs.Tryz.f151
def kf:=cF xz
def Kb:=bV [2] Proofs.Tryz.f97
def t6:=cF Kb
def gF:=bV [1,76,94,128,141,183,204] Proofs.Tryz.f53
def qw:=aA gF 5
def NQ:aI:=(gW (aA gF 6) 70 0 (aA gF 10) (sq (aA gF 7) (sq (aA gF 8) (.region (aA gF 9)))))
def cg:=aA gF 11
def NR:aI:=(gW (aA gF 12) 88 2 (aA gF 16) (sq (aA gF 13) (sq (aA gF 14) (.region (aA gF 15)))))
def ch:=aA gF 17
def NS:aI:=(gW (aA gF 18) 122 4 (aA gF 21) (sq (aA gF 19) (.region (aA gF 20))))
def ci:=aA gF 22
def NT:aI:=(gW (aA gF 23) 135 6 (aA gF 27) (sq (aA gF 24) (sq (aA gF 25) (.region (aA gF 26)))))
def cj:=aA gF 28
def NU:aI:=(gW (aA gF 29) 177 8 (aA gF 33) (sq (aA gF 30) (sq (aA gF 31) (.region (aA gF 32)))))
def ck:=aA gF 34
def NV:aI:=(gW (aA gF 35) 198 10 (aA gF 39) (sq (aA gF 36) (sq (aA gF 37) (.region (aA gF 38)))))
def GQ:=aA gF 40
def sH:=aA gF 41
def NW:=aA gF 42
def t7:aI:=(sq (aA gF 0) (pI (aA gF 1) 65 (aA gF 2) (sq (aA gF 3) (sq (aA gF 4) (.seq (dF qw 0 NQ) (.seq (dF cg 2 NR) (.seq (dF ch 4 NS) (.seq (dF ci 6 NT) (.seq (dF cj 8 NU) (.seq (dF ck 10 NV) (pI GQ 243 sH (sq NW .ret))))))))))))
def gO(n:Nat):Bool:=decide (97<=n)&&decide (n<=122)||decide (65<=n)&&decide (n<=90)
def pX(n:Nat):Bool:=decide (48<=n)&&decide (n<=57)
def iK(n:Nat):Bool:=gO n||pX n||decide (n=45)||decide (n=46)
variable{C:Ctx}
theorem K3(n:Nat):rF.wp C (aW LS.res (aL (.bool (gO n)))) (g_ [.int .u8 n]) .nil:=by
 have fin:∀(F:PF)(b:Bool),F 2=some (.bool b)->b=gO n->aW LS.res (aL (.bool (gO n))) .ret F .nil:=by intro F b h e;subst e;refine cR (.inr rfl) (vs:=[.bool (gO n)]) (by simp only[go_sem,LS,h]) rfl
 unfold gO at *
 by_cases a:97<=n;have i:(n:Int)>=97:=Om;by_cases b:n<=122;have u:(n:Int)<=122:=Om;simp only[go_sem,rF,i,u];exact fin _ _ rfl (by simp[a,b]);have u:¬(n:Int)<=122:=Om;by_cases c:65<=n;have l:(n:Int)>=65:=Om;have d:¬(n:Int)<=90:=Om;simp only[go_sem,rF,i,u,l,d];exact fin _ _ rfl (by simp[a,b,c];omega);omega;have i:¬(n:Int)>=97:=Om;by_cases c:65<=n;have l:(n:Int)>=65:=Om;by_cases d:n<=90;have w:(n:Int)<=90:=Om;simp only[go_sem,rF,i,l,w];exact fin _ _ rfl (by simp[a,c,d]);have w:¬(n:Int)<=90:=Om;simp only[go_sem,rF,i,l,w];exact fin _ _ rfl (by simp[a,c,d]);have l:¬(n:Int)>=65:=Om;simp only[go_sem,rF,i,l];exact fin _ _ rfl (by simp[a,c])
theorem Pk(n:Nat):BH.wp C (aW TO.res (aL (.bool (pX n)))) (g_ [.int .u8 n]) .nil:=by
 have fin:∀(F:PF)(b:Bool),F 2=some (.bool b)->b=pX n->aW TO.res (aL (.bool (pX n))) .ret F .nil:=by intro F b h e;subst e;refine cR (.inr rfl) (vs:=[.bool (pX n)]) (by simp only[go_sem,TO,h]) rfl
 unfold pX at *
 by_cases a:48<=n;have i:(n:Int)>=48:=Om;by_cases b:n<=57;have l:(n:Int)<=57:=Om;simp only[go_sem,BH,i,l];exact fin _ _ rfl (by simp[a,b]);have l:¬(n:Int)<=57:=Om;simp only[go_sem,BH,i,l];exact fin _ _ rfl (by simp[a,b]);have i:¬(n:Int)>=48:=Om;simp only[go_sem,BH,i];exact fin _ _ rfl (by simp[a])
theorem Ps(u:∀n:Nat,aJ C 126 [.int .u8 n] .nil (aL (.bool (gO n))))(w:∀n:Nat,aJ C 124 [.int .u8 n] .nil (aL (.bool (pX n))))(n:Nat) :
  YS.wp C (aW TT.res (aL (.bool (iK n)))) (g_ [.int .u8 n]) .nil:=by
 have fin:∀(F:PF)(b:Bool),F 2=some (.bool b)->b=iK n->aW TT.res (aL (.bool (iK n))) .ret F .nil:=by intro F b h e;subst e;refine cR (.inr rfl) (vs:=[.bool (iK n)]) (by simp only[go_sem,TT,h]) rfl
 simp only[go_sem,YS];refine aD (u n) rfl ?_;cases l:gO n with
 |true =>simp only[go_sem];exact fin _ _ rfl (by simp[iK,l])
 |false=>
  simp only[go_sem];refine aD (w n) rfl ?_;cases i:pX n with
  |true =>simp only[go_sem];exact fin _ _ rfl (by simp[iK,i])
  |false =>by_cases c:n=45;simp only[go_sem,cC (Om:(n:Int)=45)];exact fin _ _ rfl (by simp[iK,c]);by_cases d:n=46;simp only[go_sem,bJ (Om:(n:Int)≠45),cC (Om:(n:Int)=46)];exact fin _ _ rfl (by simp[iK,d]);simp only[go_sem,bJ (Om:(n:Int)≠45),bJ (Om:(n:Int)≠46)];exact fin _ _ rfl (by simp[iK,c,d,l,i])
def isName(s:List UInt8):Bool:=match s with
 |[]=>false
 |c::_=>decide (Z' s<=16)&&gO c.toNat&&s.all λc=>iK c.toNat
theorem tW{α:Type}{p:α->Bool}{l:List α}{k:Nat}(e:k<Z' l)(h:(l.take k).all p=true)(hp:p l[k]=true):(l.take (k+1)).all p=true:=by
 rw[arB e,atQ,h];simp[hp]
theorem tX{α:Type}{p:α->Bool}{l:List α}{k:Nat}(e:k<Z' l)(hp:p l[k]=false):l.all p=false:=by
 rw[List.all_eq_false];exact⟨l[k],apW e,by simp[hp]⟩
def Bw(s:List UInt8)(k:Nat):PF:=((n_.set 0 (.str s)).set 3 (.int .i64 k))
theorem U6(B:∀n:Nat,aJ C 126 [.int .u8 n] .nil (aL (.bool (gO n))))(D:∀n:Nat,aJ C 125 [.int .u8 n] .nil (aL (.bool (iK n))))(s:List UInt8) :
  DS.wp C (aW kz.res (aL (.bool (isName s)))) (g_ [.str s]) .nil:=by
 have fin:∀(F:PF)(b:Bool),F 2=some (.bool b)->b=isName s->aW kz.res (aL (.bool (isName s))) .ret F .nil:=by intro F b h e;subst e;refine cR (.inr rfl) (vs:=[.bool (isName s)]) (by simp only[go_sem,kz,h]) rfl
 cases s with
 |nil =>simp only[go_sem,DS];exact fin _ _ rfl rfl
 |cons c t=>
  have J:(c::t)[0]?=some c:=rfl;have w:(c::t==[])=false:=rfl;have u:isName (c::t)=(decide ((c::t).length<=16)&&gO c.toNat&&(c::t).all λc=>iK c.toNat):=rfl;generalize c::t=s at *
  by_cases A:Z' s<=16
  ·have l:¬(Z' s:Int)>16:=Om;rw[aZ A,aqL]at u;simp only[go_sem,DS,w,l,J,aqK];refine aD (B c.toNat) rfl ?_;cases y:gO c.toNat with
   |false =>simp only[go_sem,aqI];exact fin _ _ rfl (by rw[u,y];rfl)
   |true=>
    rw[y,aqL]at u;simp only[go_sem,aqC];refine wp_loop (α:=Nat) (λk=>Bw s k) (λ_=>.nil) (λk=>k<=Z' s/\(s.take k).all (λc=>iK c.toNat)=true) (λk=>Z' s-k) 0 ⟨apR _,rfl⟩ ?_ a_ ?_;unfold Bw;exact Lq;rintro k ⟨K,x⟩;simp only[go_sem,Bw];by_cases hlt:k<Z' s
    ·have i:(k:Int)<(Z' s:Nat):=Om;have E:s[k]?=some s[k]:=apZ hlt;simp only[go_sem,i,E,aqK];refine aD (D (s[k]).toNat) rfl ?_;cases hi:iK (s[k]).toNat with
     |false =>simp only[go_sem,aqI];refine fin _ false rfl ?_;rw[u,tX hlt hi]
     |true =>simp only[go_sem,aqC,wZz k];refine aF (k+1) ⟨hlt,aqM.1 (tW hlt x hi)⟩ Om ?_ a_;exact Lq
    have i:¬(k:Int)<(Z' s:Nat):=Om;simp only[go_sem,i];have:k=Z' s:=Om;subst this;rw[aqR (apU _)]at x;exact fin _ true rfl (by rw[u,x])
  have l:(Z' s:Int)>16:=Om;simp only[go_sem,DS,w,l];exact fin _ _ rfl (by rw[u,bG A];rfl)
abbrev eK(x:Int):Prop:=-9223372036854775808<=x/\x<=9223372036854775807
structure cS where
 name:List UInt8
 start:List RF
 aoH:List (List RF)
 exit:List RF
structure dL where
 name:List UInt8
 aoT:Int
 port:Int
 law:Int
structure cQ where
 name:List UInt8
 level:Int
 parent:Int
 aoX:Int
 aoS:RF
structure eG where
 name:List UInt8
 model:Int
 machine:Int
structure bY where
 name:List UInt8
 k:Int
 m:Int
 apB:Int
 s0:Int
 s1:Int
 s2:Int
 s3:Int
 s4:Int
 aoD:I_
 repair:List RF
 target:RF
 aoN:RF
structure fV where
 name:List UInt8
 aoP:Int
structure aB where
 apH:Int
 aoK:List cS
 aoD:List dL
 aoF:List cQ
 aoC:List eG
 aoG:List bY
 aoE:List fV
abbrev I(x:Int):PV:=.int .i64 x
abbrev Yr(l:List (List RF)):PV:=.sl 1 (l.map λr=>[frs r])
abbrev cS.cells(x:cS):V_:=[.str x.name,frs x.start,Yr x.aoH,frs x.exit]
abbrev dL.cells(x:dL):V_:=[.str x.name,.int .i64 x.aoT,.int .i64 x.port,.int .i64 x.law]
abbrev cQ.cells(x:cQ):V_:=[.str x.name,.int .i64 x.level,.int .i64 x.parent,.int .i64 x.aoX,.bool x.aoS.neg,aY x.aoS.num,aY x.aoS.den]
abbrev eG.cells(x:eG):V_:=[.str x.name,.int .i64 x.model,.int .i64 x.machine]
abbrev bY.cells(x:bY):V_:=[.str x.name,.int .i64 x.k,.int .i64 x.m,.int .i64 x.apB,.int .i64 x.s0,.int .i64 x.s1,.int .i64 x.s2,.int .i64 x.s3,.int .i64 x.s4,ints x.aoD,frs x.repair,
 .bool x.target.neg,aY x.target.num,aY x.target.den,.bool x.aoN.neg,aY x.aoN.num,aY x.aoN.den]
abbrev fV.cells(x:fV):V_:=[.str x.name,.int .i64 x.aoP]
abbrev aB.cells(f:aB):V_:=[.int .i64 f.apH,.sl 4 (f.aoK.map cS.cells),.sl 4 (f.aoD.map dL.cells),.sl 7 (f.aoF.map cQ.cells),.sl 3 (f.aoC.map eG.cells),.sl 17 (f.aoG.map bY.cells),.sl 2 (f.aoE.map fV.cells)]
def bY.spread(p:bY)(level:Nat):Int:=match level with
 |0=>p.s0
 |1=>p.s1
 |2=>p.s2
 |3=>p.s3
 |_=>p.s4
abbrev Fits{α:Type}(l:List α):Prop:=Z' l<=9223372036854775807
structure oU(l:List RF):Prop where
 fits:Fits l
 all:∀x∈l,FOk x
structure cS.Ok(x:cS):Prop where
 start:JW x.start
 exit:oU x.exit
 aoH:Fits x.aoH
 row:∀r∈x.aoH,oU r
structure bY.Ok(x:bY):Prop where
 k:eK x.k
 m:eK x.m
 apB:eK x.apB
 aoD:Fits x.aoD
 each:∀m∈x.aoD,eK m
 repair:oU x.repair
 target:TOk x.target
 aoN:FOk x.aoN
structure aB.Ok(f:aB):Prop where
 aoK:Fits f.aoK
 aoD:Fits f.aoD
 aoF:Fits f.aoF
 aoC:Fits f.aoC
 aoG:Fits f.aoG
 aoE:Fits f.aoE
 law:∀x∈f.aoK,x.Ok
 dom:∀x∈f.aoF,FOk x.aoS/\eK x.level/\eK x.parent
 drive:∀x∈f.aoC,eK x.model/\eK x.machine
 aoP:∀x∈f.aoG,x.Ok
 volume:∀x∈f.aoE,eK x.aoP
def DB(x:RF):FR:=if fT (val x.num) (val x.den)then qP x.neg (val x.num) (val x.den)else .error 1
def dO(x:RF):Bool:=match DB x with
 | .ok (n,a,b)=>!n&&(decide (fC a<=32)&&decide (fC b<=32))
 | .error _=>false
def bR(x:RF):Bool:=decide (val x.num≠0)
def HB(x:RF):Bool:=fT (val x.num) (val x.den)&&decide (CZ x.neg (val x.num) (val x.den) false 1 1<=0)
def within(n lo hi:Int):Bool:=decide (lo<=n)&&decide (n<=hi)
def dB(R:List Bool)(i:Nat)(row:List RF):Nat->List Bool
 |0=>R
 |k+1=>let e:=dB R i row k
  e.set i (e.getD i false||(row.map bR).getD k false&&e.getD k false)
def nL(l:cS)(R:List Bool)(i:Nat):List Bool:=
 dB (R.set i (R.getD i false||(l.exit.map bR).getD i false)) i (l.aoH.getD i []) (l.aoH.getD i []).length
def dT(l:cS)(R:List Bool):Nat->List Bool
 |0=>R
 |i+1=>nL l (dT l R i) i
def dV(l:cS):Nat->List Bool
 |0=>apX l.exit.length false
 |r+1=>dT l (dV l r) l.exit.length
def vI(l:cS):Bool:=(dV l (Z' l.exit+1)).all id
def mQ(l:cS):Bool:=
 within l.start.length 1 4&&decide (Z' l.exit=Z' l.start)&&decide (Z' l.aoH=Z' l.start)&&l.start.all dO&&l.exit.all dO
 && (apQ l.aoH.length).all (λi=>decide ((l.aoH.getD i []).length=Z' l.start)&&(l.aoH.getD i []).all dO&&!((l.aoH.getD i []).map bR).getD i false)
 && (match AA (l.start.map RF.v)with
  | .ok (n,a,b)=>decide (CZ n a b false 1 1=0)
  | .error _=>false)&&vI l
def distinct(l:List (List UInt8)):Bool:=(apQ l.length).all λi=>isName (l.getD i [])&&!(l.take i).contains (l.getD i [])
def NE(f:aB)(i:Nat)(d:cQ):Bool:=
 within d.parent 0 i&&decide ((f.aoF.map cQ.level).getD d.parent.toNat 0=i_.wrap (d.level-1))&&within d.level 1 4&&within d.aoX 1 64&&dO d.aoS
def IF(f:aB)(r:cQ)(t:List cQ):Bool:=
 decide (r.name=[])&&decide (r.level=0)&&decide (r.parent=-1)&&decide (r.aoX=0)&&dO r.aoS&&!bR r.aoS
  && (apQ t.length).all λi=>match t[i]? with
   |some d=>NE f i d
   |none=>false
def sE(f:aB):Bool:=match f.aoF with
 |[]=>false
 |r::t=>IF f r t
def OV(p:bY):Bool:=
 within p.k 1 6&&within p.m 0 4&&decide (p.k+p.m<=8)&&within p.apB p.k (p.k+p.m)&&decide (p.s0=0)&&([p.s0,p.s1,p.s2,p.s3,p.s4].all λn=>within n 0 8)
def IW(p:bY):Bool:=
 decide ((Z' p.repair:Int)=max p.m 1)&&(p.repair.all λx=>dO x&&bR x)&&dO p.target&&HB p.target&&dO p.aoN
def lH(aoD:Nat)(p:bY):Bool:=
 OV p&&decide (Z' p.aoD≠0)&&IW p&&(apQ p.aoD.length).all λj=>within (p.aoD.getD j 0) 0 ((aoD:Int)-1)&&!(p.aoD.take j).contains (p.aoD.getD j 0)
def mR(f:aB)(m:dL):Bool:=within m.aoT 1 16&&within m.port 1 64&&within m.law 0 ((Z' f.aoK:Int)-1)
def kP(f:aB)(d:eG):Bool:=within d.model 0 ((Z' f.aoD:Int)-1)&&within d.machine 0 ((Z' f.aoF:Int)-1)&&decide ((f.aoF.map cQ.level).getD d.machine.toNat 0=4)
def sR(f:aB)(v:fV):Bool:=within v.aoP 0 ((Z' f.aoG:Int)-1)
def rN(f:aB):Bool:=within f.apH 1 4&&decide (Z' f.aoK<=4)&&decide (Z' f.aoD<=4)&&decide (Z' f.aoF<=40)&&decide (Z' f.aoC<=24)&&decide (Z' f.aoG<=4)&&decide (Z' f.aoE<=12)
def cP(f:aB):Bool:=
 rN f&&sE f&&(f.aoK.all mQ&&f.aoD.all (mR f)&&f.aoC.all (kP f)&&f.aoG.all (lH f.aoD.length)&&f.aoE.all (sR f))
 && (distinct (f.aoK.map cS.name)&&distinct (f.aoD.map dL.name)&&distinct ((f.aoF.drop 1).map cQ.name++f.aoC.map eG.name)&&distinct (f.aoG.map bY.name)&&distinct (f.aoE.map fV.name))
theorem bP{t:Nat}{b i:Bool}{F:PF}{H:PH}(h:F t=some (.bool b))(e:b=i):aW [.tmp t] (cY (.bool i)) .ret F H:=by
 subst e;exact bK (.inr rfl) .nil (vs:=[.bool b]) (by rw[nM,rK,h,tK]) a_ ⟨.refl _,rfl⟩
theorem aeC(n lo hi:Int):NN.wp C (aW gin.res (cY (.bool (within n lo hi)))) (g_ [.j n,.j lo,.j hi]) .nil:=by
 by_cases a:lo<=n;by_cases b:n<=hi;simp only[go_sem,NN,gin,show n>=lo from a,b];exact bP Ev (by simp[within,a,b]);simp only[go_sem,NN,gin,show n>=lo from a,b];exact bP Ev (by simp[within,a,b]);have e:¬n>=lo:=a;simp only[go_sem,NN,gin,e];exact bP Ev (by simp[within,a])
theorem OD{neg:Bool}{a b:Nat}{e:Int}(h:qP neg a b=.error e):e=2:=by
 unfold qP at h;split at h;injection h with h;exact h.symm
 cases h
theorem V9{x:RF}{e:Int}(h:DB x=.error e):e≠0:=by
 unfold DB at h;split at h;rw[OD h];decide;injection h with h;subst h;decide
theorem Ua(p:RF->Bool)(fn:Nat)(l:List RF)(w:Fits l)(h:∀x∈l,aJ C fn [.agg x.cells] .nil (aL (.bool (p x)))) :
  j7.wp C (aW xw.res (cY (.bool (l.all p)))) (g_ [frs l,.fn fn []]) .nil:=by
 simp only[go_sem,j7,xw];refine wp_loop (α:=Nat) (λk=>((((n_.set 1 (.fn fn [])).set 7 (frs l)).set 8 (.j (Z' l:Nat))).set 9 (.j k))) (λ_=>.nil) (λk=>k<=Z' l/\(l.take k).all p=true) (λk=>Z' l-k) 0 ⟨apR _,rfl⟩ ?_ a_ ?_;exact lM;rintro k ⟨y,i⟩;simp only[go_sem];by_cases hlt:k<Z' l
 ·have e:(k:Int)<(Z' l:Nat):=Om;have u:(l.map RF.cells)[k]?=some (l[k]).cells:=by simp[hlt]
  simp only[go_sem,e,u];refine aQ λo A=>?_;simp only[go_sem];refine aD (h _ (apW hlt)) Ev ?_;cases hp:p l[k]with
  |false =>simp only[go_sem];exact bP (b:=false) Ev (tX (p:=p) hlt hp).symm
  |true =>simp only[go_sem,wZz k];refine aF (k+1) ⟨hlt,aqM.1 (tW hlt i hp)⟩ Om ?_ a_;exact Lq
 have e:¬(k:Int)<(Z' l:Nat):=Om;simp only[go_sem,e];have:k=Z' l:=Om;subst this;rw[aqR (apU _)]at i;exact bP Ev i.symm
theorem Ub(p:Int->Bool)(fn:Nat)(l:I_)(w:Fits l)(h:∀x∈l,aJ C fn [.j x] .nil (aL (.bool (p x)))) :
  j8.wp C (aW xx.res (cY (.bool (l.all p)))) (g_ [ints l,.fn fn []]) .nil:=by
 simp only[go_sem,j8,xx];refine wp_loop (α:=Nat) (λk=>((((n_.set 1 (.fn fn [])).set 7 (ints l)).set 8 (.j (Z' l:Nat))).set 9 (.j k))) (λ_=>.nil) (λk=>k<=Z' l/\(l.take k).all p=true) (λk=>Z' l-k) 0 ⟨apR _,rfl⟩ ?_ a_ ?_;exact lM;rintro k ⟨y,i⟩;simp only[go_sem];by_cases hlt:k<Z' l
 ·have e:(k:Int)<(Z' l:Nat):=Om;have u:(l.map λn=>[PV.int .i64 n])[k]?=some [.j l[k]]:=by simp[hlt]
  simp only[go_sem,e,u];refine aD (h _ (apW hlt)) Ev ?_;cases hp:p l[k]with
  |false =>simp only[go_sem];exact bP (b:=false) Ev (tX (p:=p) hlt hp).symm
  |true =>simp only[go_sem,wZz k];refine aF (k+1) ⟨hlt,aqM.1 (tW hlt i hp)⟩ Om ?_ a_;exact Lq
 have e:¬(k:Int)<(Z' l:Nat):=Om;simp only[go_sem,e];have:k=Z' l:=Om;subst this;rw[aqR (apU _)]at i;exact bP Ev i.symm
abbrev Ji(l:List Bool):PV:=.sl 1 (l.map λb=>[PV.bool b])
theorem T9(p:Bool->Bool)(fn:Nat)(l:List Bool)(w:Fits l)(h:∀x∈l,aJ C fn [.bool x] .nil (aL (.bool (p x)))) :
  j6.wp C (aW xv.res (cY (.bool (l.all p)))) (g_ [Ji l,.fn fn []]) .nil:=by
 simp only[go_sem,j6,xv];refine wp_loop (α:=Nat) (λk=>((((n_.set 1 (.fn fn [])).set 7 (Ji l)).set 8 (.j (Z' l:Nat))).set 9 (.j k))) (λ_=>.nil) (λk=>k<=Z' l/\(l.take k).all p=true) (λk=>Z' l-k) 0 ⟨apR _,rfl⟩ ?_ a_ ?_;exact lM;rintro k ⟨y,i⟩;simp only[go_sem];by_cases hlt:k<Z' l
 ·have e:(k:Int)<(Z' l:Nat):=Om;have u:(l.map λb=>[PV.bool b])[k]?=some [.bool l[k]]:=by simp[hlt]
  simp only[go_sem,e,u];refine aD (h _ (apW hlt)) Ev ?_;cases hp:p l[k]with
  |false =>simp only[go_sem];exact bP (b:=false) Ev (tX (p:=p) hlt hp).symm
  |true =>simp only[go_sem,wZz k];refine aF (k+1) ⟨hlt,aqM.1 (tW hlt i hp)⟩ Om ?_ a_;exact Lq
 have e:¬(k:Int)<(Z' l:Nat):=Om;simp only[go_sem,e];have:k=Z' l:=Om;subst this;rw[aqR (apU _)]at i;exact bP Ev i.symm
theorem O9(b:Bool):YP.wp C (aW j9.res (cY (.bool b))) (g_ [.bool b]) .nil:=by
 simp only[go_sem,YP,j9];exact bP Ev rfl
theorem Ud(e:∀n lo hi:Int,aJ C 104 [.j n,.j lo,.j hi] .nil (aL (.bool (within n lo hi))))(n:Int):kc.wp C (aW xy.res (cY (.bool (within n 0 8)))) (g_ [.j n]) .nil:=by
 simp only[go_sem,kc,xy];refine aD (e n 0 8) Ev ?_;simp only[go_sem];exact bP Ev rfl
theorem Pb(i:∀x:RF,FOk x->aJ C 105 [.agg x.cells] .nil (aL (.bool (dO x))))(l:∀x:RF,FOk x->aJ C 97 [.agg x.cells] .nil (aL (.bool (bR x))))(x:RF)(e:FOk x) :
  YQ.wp C (aW kd.res (cY (.bool (dO x&&bR x)))) (g_ [.agg x.cells]) .nil:=by
 simp only[go_sem,YQ,kd];refine aD (i x e) Ev ?_;cases u:dO x with
 |false =>simp only[go_sem];exact bP Ev rfl
 |true =>simp only[go_sem];refine aD (l x e) Ev ?_;simp only[go_sem];exact bP Ev rfl
structure Iz(C:Ctx):Prop where
 yR:∀x:RF,FOk x->aJ C 97 [.agg x.cells] .nil (aL (.bool (bR x)))
 lim:∀x:RF,FOk x->aJ C 105 [.agg x.cells] .nil (aL (.bool (dO x)))
 one:∀x:RF,TOk x->aJ C 101 [.agg x.cells] .nil (aL (.bool (HB x)))
 tot:∀l:List RF,JW l->aJ C 117 [frs l] .nil (aL (frV (.ok (false,1,1))))
 frac:aJ C 115 [.int .i64 1,.int .i64 1] .nil (aL (frV (.ok (false,1,1))))
 ord:aJ C 114 [.agg (FV.rf (false,1,1)).cells,.agg (FV.rf (false,1,1)).cells] .nil (aL (.tup [.int .i64 0,.int .i64 0]))
structure yN(C:Ctx):Prop extends Iz C where
 inn:∀n lo hi:Int,aJ C 104 [.int .i64 n,.int .i64 lo,.int .i64 hi] .nil (aL (.bool (within n lo hi)))
 allf:∀(p:RF->Bool)(fn:Nat)(l:List RF),Fits l->(∀x∈l,aJ C fn [.agg x.cells] .nil (aL (.bool (p x))))->aJ C 99 [frs l,.fn fn []] .nil (aL (.bool (l.all p)))
 alli:∀(p:Int->Bool)(fn:Nat)(l:I_),Fits l->(∀x∈l,aJ C fn [.int .i64 x] .nil (aL (.bool (p x))))->aJ C 100 [ints l,.fn fn []] .nil (aL (.bool (l.all p)))
 allb:∀(p:Bool->Bool)(fn:Nat)(l:List Bool),Fits l->(∀x∈l,aJ C fn [.bool x] .nil (aL (.bool (p x))))->aJ C 98 [Ji l,.fn fn []] .nil (aL (.bool (l.all p)))
 ends1:∀b:Bool,aJ C 103 [.bool b] .nil (aL (.bool b))
 num1:∀n:Int,aJ C 107 [.int .i64 n] .nil (aL (.bool (within n 0 8)))
 rate1:∀x:RF,FOk x->aJ C 109 [.agg x.cells] .nil (aL (.bool (dO x&&bR x)))
 name:∀s:List UInt8,aJ C 123 [.str s] .nil (aL (.bool (isName s)))
theorem yN.U5(L:yN C)(l:List RF)(h:oU l):aJ C 99 [frs l,.fn 105 []] .nil (aL (.bool (l.all dO))):=
 L.allf dO 105 l h.fits λx e=>L.lim x (h.all x e)
theorem within_iff{n lo hi:Int}:within n lo hi=true↔lo<=n/\n<=hi:=by simp[within]
theorem Zw(L:yN C)(p:bY)(hp:p.Ok) :
  tz.wp C (aW Ka.res (cY (.bool (OV p)))) (g_ [.j p.k,.j p.m,.j p.apB,.agg [.j p.s0,.j p.s1,.j p.s2,.j p.s3,.j p.s4]]) .nil:=by
 simp only[go_sem,tz,Ka];refine aD (L.inn p.k 1 6) Ev ?_;unfold OV;cases y:within p.k 1 6 with
 |false =>simp only[go_sem,aqI];exact bP Ev (by simp only[aqD])
 |true=>
  obtain⟨E,F⟩:=within_iff.1 y;simp only[go_sem,aqC];refine aD (L.inn p.m 0 4) Ev ?_;cases A:within p.m 0 4 with
  |false =>simp only[go_sem,aqI];exact bP Ev (by simp only[aqD,arE])
  |true=>
   obtain⟨J,K⟩:=within_iff.1 A;have w:i_.wrap (p.k+p.m)=p.k+p.m:=wrap_i64 Om Om;by_cases u:p.k+p.m<=8
   ·have e:¬p.k+p.m>8:=Om;simp only[go_sem,aqC,w,e];refine aD (L.inn p.apB p.k (p.k+p.m)) Ev ?_;cases D:within p.apB p.k (p.k+p.m)with
    |false =>simp only[go_sem,aqI];exact bP Ev (by simp only[aqD,arE])
    |true=>
     have i:(0:Int)<((5:Nat):Int):=by decide
     by_cases h5:p.s0=0;have l:chunks 1 5 [PV.int .i64 p.s0,.j p.s1,.j p.s2,.j p.s3,.j p.s4]=([p.s0,p.s1,p.s2,p.s3,p.s4].map λn=>[PV.int .i64 n]):=rfl;have B:5<=maxLen:=by decide
     simp only[go_sem,aqC,i,bW h5,l,B];refine aD (L.alli (λn=>within n 0 8) 107 [p.s0,p.s1,p.s2,p.s3,p.s4] (show 5<=9223372036854775807 by decide) λx _=>L.num1 x) Ev ?_;simp only[go_sem];exact bP Ev (by rw[aZ u,aZ h5];simp only[aqL]);simp only[go_sem,aqC,i,cX h5];exact bP Ev (by rw[bG h5];simp only[aqD,arE])
   have e:p.k+p.m>8:=Om;simp only[go_sem,aqC,w,e];exact bP Ev (by rw[bG u];simp only[aqD,arE])
theorem max_eq(a b:Int):(if a<b then b else a)=max a b:=by
 rw[Int.max_def];by_cases h:a<b;rw[aE h,aE Om];by_cases e:a<=b;rw[aC h,aE e];omega;rw[aC h,aC e]
theorem Ue(L:yN C)(p:bY)(hp:p.Ok) :
  kf.wp C (aW xz.res (cY (.bool (IW p)))) (g_ [.j p.m,frs p.repair,.agg p.target.cells,.agg p.aoN.cells]) .nil:=by
 simp only[go_sem,kf,xz,max_eq,apP];unfold IW;by_cases e:(Z' p.repair:Int)=max p.m 1
 ·simp only[go_sem,cC e];refine aD (L.allf (λx=>dO x&&bR x) 109 p.repair hp.repair.fits λx i=>L.rate1 x (hp.repair.all x i)) Ev ?_;rw[aZ e,aqL];cases l:p.repair.all λx=>dO x&&bR x with
  |false =>simp only[go_sem];exact bP Ev rfl
  |true=>
   simp only[go_sem];refine aD (L.lim _ hp.target.fok) Ev ?_;cases u:dO p.target with
   |false =>simp only[go_sem];exact bP Ev rfl
   |true=>
    simp only[go_sem];refine aD (L.one _ hp.target) Ev ?_;cases w:HB p.target with
    |false =>simp only[go_sem];exact bP Ev rfl
    |true =>simp only[go_sem];refine aD (L.lim _ hp.aoN) Ev ?_;simp only[go_sem];exact bP Ev rfl
 simp only[go_sem,bJ e];exact bP Ev (by rw[bG e];rfl)
def wA(l:List (List UInt8))(k:List KS):Option PV:=match k with
 |[.str s]=>if l.contains s then some (.bool true)else none
 |_=>none
theorem Re(l:List (List UInt8))(s:List UInt8):(λk=>if k=[KS.str s]then some (PV.bool true)else wA l k)=wA (l++[s]):=by
 funext k
 match k with
 |[]=>rfl
 |[.int a b]=>simp[wA]
 |[.bool a]=>simp[wA]
 |[.str t] =>by_cases h:t=s;subst h;simp[wA];simp[wA,h]
 |a::b::c=>simp[wA]
abbrev texts(l:List (List UInt8)):PV:=.sl 1 (l.map λs=>[PV.str s])
theorem Rc:wA []=(λ_=>none:jY):=by
 funext k
 match k with
 |[]=>rfl
 |[.int a b]=>rfl
 |[.bool a]=>rfl
 |[.str t]=>rfl
 |a::b::c=>cases a<;>rfl
theorem Rf(l:List (List UInt8))(s:List UInt8):jY.upd (wA l) [KS.str s] (.bool true)=wA (l++[s]):=Re l s
theorem Dn(l:List (List UInt8))(s:List UInt8):(wA l [KS.str s]).getD (.bool false)=.bool (l.contains s):=by
 show(if l.contains s then some (PV.bool true)else none).getD (.bool false)=_;cases l.contains s<;>rfl
theorem r9{p:Nat->Bool}{k:Nat}(h:(apQ k).all p=true)(hp:p k=true):(apQ (k+1)).all p=true:=by
 rw[arV,atQ,h];simp[hp]
theorem gP{p:Nat->Bool}{n k:Nat}(e:k<n)(hp:p k=false):(apQ n).all p=false:=by
 rw[List.all_eq_false];exact⟨k,aqN.2 e,by simp[hp]⟩
def wV(p:Nat->Bool)(k:Nat):Prop:=(apQ k).all p=true
theorem wV.zero{p:Nat->Bool}:wV p 0:=rfl
theorem wV.step{p:Nat->Bool}{k:Nat}(h:wV p k)(hp:p k=true):wV p (k+1):=r9 h hp
def Mx(l:List (List UInt8))(o k:Nat):PF:=((((n_.set 3 (.map o)).set 7 (texts l)).set 8 (.int .i64 (Z' l:Nat))).set 9 (.int .i64 k))
theorem Ui(L:yN C)(l:List (List UInt8))(E:Fits l):kg.wp C (aW x5.res (cY (.bool (distinct l)))) (g_ [texts l]) .nil:=by
 simp only[go_sem,kg,x5];refine aQ λo J=>?_;simp only[go_sem];have B:(h_.set o (.map (false,[.str]) (λ_=>none)))=h_.set o (.map (false,[.str]) (wA (l.take 0))):=by rw[asO,Rc]
 unfold distinct;generalize hp:(λi=>isName (l.getD i [])&&!(l.take i).contains (l.getD i []))=p;have x:∀k (h:k<Z' l),p k=(isName l[k]&&!(l.take k).contains l[k]):=by intro k h;rw[<-hp];simp only[apY,apZ h,arT]
 refine wp_loop (α:=Nat) (λk=>Mx l o k) (λk=>h_.set o (.map (false,[.str]) (wA (l.take k)))) (λk=>k<=Z' l/\wV p k) (λk=>Z' l-k) 0 ⟨apR _,.zero⟩ ?_ ?_ ?_;unfold Mx;exact lM;rw[B];exact b_;rintro k ⟨F,A⟩;simp only[go_sem,Mx];by_cases hlt:k<Z' l
 ·have u:(k:Int)<(Z' l:Nat):=Om;have D:(l.map λs=>[PV.str s])[k]?=some [.str l[k]]:=by simp[hlt]
  simp only[go_sem,u,D];refine aD (L.name l[k]) rfl ?_;have e:=x k hlt;cases y:isName l[k]with
  |false =>rw[y,aqD]at e;simp only[go_sem,aqI];exact bP (b:=false) rfl (gP hlt e).symm
  |true=>
   rw[y,aqL]at e;cases w:(l.take k).contains l[k]with
   |true =>rw[w]at e;simp only[go_sem,aqC,Dn,w];exact bP (b:=false) rfl (gP hlt e).symm
   |false =>rw[w]at e;simp only[go_sem,aqC,Dn,w,Rf,wZz k];refine aF (k+1) ⟨hlt,A.step e⟩ Om ?_ ?_;exact Lq;rw[arB hlt];exact c_ a_ Sq
 have u:¬(k:Int)<(Z' l:Nat):=Om;simp only[go_sem,u];have:k=Z' l:=Om;subst this;exact bP (b:=true) rfl (show wV p l.length from A).symm
def marks(n:Nat)(l:I_):List Bool:=(apQ n).map λ(i:Nat)=>l.contains (i:Int)
theorem IQ(n:Nat)(l:I_):(marks n l).length=n:=by simp[marks]
theorem uk(n:Nat):marks n []=apX n false:=by
 refine asJ (by simp[marks]) λi e l=>by simp[marks]
theorem xN{n:Nat}{l:I_}{m:Int}(e:0<=m)(i:m<n):(marks n l)[m.toNat]?=some (l.contains m):=by
 have:m.toNat<n:=Om;simp only[marks,aqE,arU this,aqK];rw[Int.toNat_of_nonneg e]
theorem IR{n:Nat}{l:I_}{m:Int}(u:0<=m)(w:m<n):(marks n l).set m.toNat true=marks n (l++[m]):=by
 refine asJ (by simp[marks]) λi x y=>?_;simp only[marks,arI,auG,List.getElem_set,List.contains_append];by_cases h:m.toNat=i;subst h;rw[aE rfl,Int.toNat_of_nonneg u];simp;have e:((i:Nat):Int)≠m:=Om;rw[aC h];simp[e]
abbrev dE(l:List Bool):P2_:=l.map λb=>[PV.bool b]
theorem kD(l:List Bool)(i:Nat)(b:Bool):(dE l).set i [.bool b]=dE (l.set i b):=by unfold dE;rw[asP]
structure zc(C:Ctx):Prop extends yN C where
 num:∀p:bY,p.Ok->aJ C 106 [.int .i64 p.k,.int .i64 p.m,.int .i64 p.apB,.agg [.int .i64 p.s0,.int .i64 p.s1,.int .i64 p.s2,.int .i64 p.s3,.int .i64 p.s4]] .nil (aL (.bool (OV p)))
 rate:∀p:bY,p.Ok->aJ C 108 [.int .i64 p.m,frs p.repair,.agg p.target.cells,.agg p.aoN.cells] .nil (aL (.bool (IW p)))
 uniq:∀l:List (List UInt8),Fits l->aJ C 110 [texts l] .nil (aL (.bool (distinct l)))
def V0(p:bY)(aoD:Nat)(o k:Nat):PF:=(((((n_.set 1 (.int .i64 aoD)).set 5 (.osl o 1 0 aoD)).set 39 (ints p.aoD)).set 40 (.int .i64 (Z' p.aoD:Nat))).set 41 (.int .i64 k))
theorem Zx(L:zc C)(p:bY)(hp:p.Ok)(aoD:Nat)(S:aoD<=4):t6.wp C (aW Kb.res (cY (.bool (lH aoD p)))) (g_ [.agg p.cells,.j aoD]) .nil:=by
 simp only[go_sem,t6,Kb];refine aD (L.num p hp) rfl ?_;unfold lH;cases w:OV p with
 |false =>simp only[go_sem,aqI];exact bP rfl (by simp only[aqD])
 |true=>
  by_cases u:Z' p.aoD=0;simp only[go_sem,aqC,apP,cC (Om:(Z' p.aoD:Int)=0)];refine bP rfl ?_;have:decide (Z' p.aoD≠0)=false:=by simp[u]
  rw[this];simp only[aqD,arE]
  ·have A:decide (Z' p.aoD≠0)=true:=by simp[u]
   simp only[go_sem,aqC,apP,bJ (Om:(Z' p.aoD:Int)≠0)];refine aD (L.rate p hp) rfl ?_;rw[A];cases O:IW p with
   |false =>simp only[go_sem,aqI];exact bP rfl (by simp only[aqD,arE])
   |true=>
    have B:((aoD:Nat):Int)*((1:Nat):Int)<=140737488355328:=Om;have D:((aoD:Nat):Int)<=9223372036854775807:=Om;simp only[aqL];simp only[go_sem,aqC,B,D];refine aQ λo U=>?_;simp only[go_sem];have K:apX aoD [PV.bool false]=dE (marks aoD (p.aoD.take 0)):=by rw[asO,uk];simp[dE]
    rw[K];generalize hq:(λj=>within (p.aoD.getD j 0) 0 ((aoD:Int)-1)&&!(p.aoD.take j).contains (p.aoD.getD j 0))=q;have E:∀k (h:k<Z' p.aoD),q k=(within p.aoD[k] 0 ((aoD:Int)-1)&&!(p.aoD.take k).contains p.aoD[k]):=by intro k h;rw[<-hq];simp only[apY,apZ h,arT]
    refine wp_loop (α:=Nat) (λk=>V0 p aoD o k) (λk=>h_.set o (.rows 1 (dE (marks aoD (p.aoD.take k))))) (λk=>k<=Z' p.aoD/\wV q k) (λk=>Z' p.aoD-k) 0 ⟨apR _,.zero⟩ ?_ (b_) ?_;unfold V0;exact lM;rintro k ⟨R,F⟩;simp only[go_sem,V0];have J:=hp.aoD;by_cases hlt:k<Z' p.aoD
    ·have i:(k:Int)<(Z' p.aoD:Nat):=Om;have M:(p.aoD.map λn=>[PV.int .i64 n])[k]?=some [.j p.aoD[k]]:=by simp[hlt]
     have N:i_.wrap ((aoD:Int)-1)=(aoD:Int)-1:=wrap_i64 Om Om;simp only[go_sem,i,M,N];refine aD (L.inn p.aoD[k] 0 ((aoD:Int)-1)) rfl ?_;have e:=E k hlt;cases w:within p.aoD[k] 0 ((aoD:Int)-1)with
     |false =>rw[w,aqD]at e;simp only[go_sem,aqI];exact bP (b:=false) rfl (gP hlt e).symm
     |true=>
      rw[w,aqL]at e;obtain⟨x,V⟩:=within_iff.1 w;have y:p.aoD[k]<(aoD:Nat):=Om;have l:(dE (marks aoD (p.aoD.take k)))[p.aoD[k].toNat]?=some [.bool ((p.aoD.take k).contains p.aoD[k])]:=by unfold dE;rw[aqE,xN x y];rfl
      cases u:(p.aoD.take k).contains p.aoD[k]with
      |true =>rw[u]at e l;simp only[go_sem,aqC,x,y,aqA,l];exact bP (b:=false) rfl (gP hlt e).symm
      |false =>rw[u]at e l;simp only[go_sem,aqC,x,y,aqA,l,kD,IR x y,wZz k];refine aF (k+1) ⟨hlt,F.step e⟩ Om ?_ ?_;exact Lq;rw[arB hlt];exact c_ a_ Sq
    have i:¬(k:Int)<(Z' p.aoD:Nat):=Om;simp only[go_sem,i];have:k=Z' p.aoD:=Om;subst this;exact bP (b:=true) rfl (show wV q p.aoD.length from F).symm
def Tq:PV->RF
 | .agg [.bool n,a,b]=>⟨n,sD a,sD b⟩
 |_=>⟨false,[],[]⟩
theorem Jt(x:RF):Tq (.agg x.cells)=x:=by
 show(⟨x.neg,sD (aY x.num),sD (aY x.den)⟩:RF)=x;rw[lS,lS]
def flS:Spec:=λname vs=>match name,vs with
 |104,[.int _ n,.int _ lo,.int _ hi]=>some ([],λ_=>aL (.bool (within n lo hi)))
 |105,[x]=>some ([],λ_=>aL (.bool (dO (Tq x))))
 |97,[x]=>some ([],λ_=>aL (.bool (bR (Tq x))))
 |_,_=>none
theorem Az(n lo hi:Int):flS 104 [.j n,.j lo,.j hi]=some ([],λ_=>aL (.bool (within n lo hi))):=rfl
theorem Zn(x:RF):flS 105 [.agg x.cells]=some ([],λ_=>aL (.bool (dO x))):=by
 show some _=_;rw[Jt]
def J9(f:aB)(t:List cQ)(k:Nat):PF:=((((n_.set 1 (.aU f.cells)).set 45 (.sl 7 (t.map cQ.cells))).set 46 (.int .i64 (Z' t:Nat))).set 47 (.int .i64 k))
theorem Zu(L:yN C)(f:aB)(hf:f.Ok):TI.wp C (aW A6.res (cY (.bool (sE f)))) (g_ [.agg f.cells]) .nil:=by
 obtain⟨apH,aoK,aoD,aoF,aoC,aoG,aoE⟩:=f;cases aoF with
 |nil =>rw[show sE ⟨apH,aoK,aoD,[],aoC,aoG,aoE⟩=false from rfl];simp only[go_sem,TI,A6,arL,asG];have:(((0:Nat):Int)==0)=true:=rfl;simp only[go_sem,this];exact bP rfl rfl
 |cons r t=>
  generalize hF:(⟨apH,aoK,aoD,r::t,aoC,aoG,aoE⟩:aB)=f at *
  have D:f.aoF=r::t:=by rw[<-hF]
  have hP:sE f=IF f r t:=by unfold sE;rw[D]
  rw[hP];unfold IF;have l:Z' f.aoF=Z' t+1:=by rw[D];rfl
  have β:=hf.aoF;have K:(f.aoF.map cQ.cells)[0]?=some r.cells:=by rw[D];rfl
  have γ:(f.aoF.map cQ.cells)[Int.toNat 0]?=some r.cells:=K;have F:=hf.dom;have x:=F r (by rw[D];exact atZ ..);simp only[go_sem,TI,A6,apP,l,bJ (Om:((Z' t+1:Nat):Int)≠0),K];refine aQ λo ho=>?_;by_cases y:r.name=[];rw[aZ y];by_cases B:r.level=0;rw[aZ B];by_cases E:r.parent=-1;rw[aZ E];by_cases M:r.aoX=0
  ·rw[aZ M];simp only[go_sem,vG y,aqC,bW B,bW E,bW M];refine aD (L.lim r.aoS x.1) rfl ?_;cases c5:dO r.aoS with
   |false =>simp only[go_sem,aqI];exact bP rfl (by simp only[arE,aqD])
   |true=>
    simp only[go_sem,aqC];refine aD (L.yR r.aoS x.1) rfl ?_;cases c6:bR r.aoS with
    |true =>simp only[go_sem];exact bP rfl (by simp only[aqC,arE,aqD])
    |false=>
     have V:(0:Int)<=1/\(1:Int)<=((Z' t+1:Nat):Int):=Om;have A:((f.aoF.map cQ.cells).take (Z' t+1)).drop (Int.toNat 1)=t.map cQ.cells:=by rw[aqR (by simp[l]),D];rfl
     have w:((f.aoF.map cQ.cells).take (Z' t+1)).drop 1=t.map cQ.cells:=A;simp only[go_sem,apP,l,V,w,arP];generalize hq:(λi=>match t[i]? with|some d=>NE f i d|none=>false)=q;have S:∀k (h:k<Z' t),q k=NE f k t[k]:=by intro k h;rw[<-hq];simp only[apZ h]
     refine wp_loop (α:=Nat) (λk=>J9 f t k) (λk=>.nil) (λk=>k<=Z' t/\wV q k) (λk=>Z' t-k) 0 ⟨apR _,.zero⟩ ?_ a_ ?_;unfold J9;exact lM;rintro k ⟨hk,Z⟩;simp only[go_sem,J9];by_cases hlt:k<Z' t
     ·have u:(k:Int)<(Z' t:Nat):=Om;have U:(t.map cQ.cells)[k]?=some (t[k]).cells:=by simp[hlt]
      have O:=F t[k] (by rw[D];exact atK _ (apW hlt));have e:=S k hlt;unfold NE at e;simp only[go_sem,u,U];refine aQ λo2 δ=>?_;simp only[go_sem];refine bE .nil flS a_ ?_;simp only[go_sem];refine cM (Az _ 0 k) (L.inn (t[k]).parent 0 k) rfl a_ ?_;cases N:within (t[k]).parent 0 k with
      |false =>simp only[N,aqD]at e;simp only[go_sem,aqI];exact bP (b:=false) rfl (gP hlt e).symm
      |true=>
       obtain⟨i1,i2⟩:=within_iff.1 N;have i3:(t[k]).parent.toNat<Z' f.aoF:=Om;have J:(f.aoF.map cQ.cells)[(t[k]).parent.toNat]?=some (f.aoF[(t[k]).parent.toNat]).cells:=by simp[i3]
       have R:(f.aoF.map cQ.level).getD (t[k]).parent.toNat 0=(f.aoF[(t[k]).parent.toNat]).level:=by simp[i3]
       rw[R,N,aqL]at e;by_cases e2:(f.aoF[(t[k]).parent.toNat]).level=i_.wrap ((t[k]).level-1)
       ·rw[aZ e2,aqL]at e;simp only[go_sem,aqC,i1,J,bW e2];refine cM (Az _ 1 4) (L.inn (t[k]).level 1 4) rfl a_ ?_;cases W:within (t[k]).level 1 4 with
        |false =>simp only[W,aqD]at e;simp only[go_sem,aqI];exact bP (b:=false) rfl (gP hlt e).symm
        |true=>
         rw[W,aqL]at e;simp only[go_sem,aqC];refine cM (Az _ 1 64) (L.inn (t[k]).aoX 1 64) rfl a_ ?_;cases X:within (t[k]).aoX 1 64 with
         |false =>simp only[X,aqD]at e;simp only[go_sem,aqI];exact bP (b:=false) rfl (gP hlt e).symm
         |true=>
          rw[X,aqL]at e;simp only[go_sem,aqC];refine cM (Zn (t[k]).aoS) (L.lim _ O.1) rfl a_ ?_;cases Y:dO (t[k]).aoS with
          |false =>rw[Y]at e;simp only[go_sem,aqI];exact bP (b:=false) rfl (gP hlt e).symm
          |true =>rw[Y]at e;simp only[go_sem,aqC,wZz k];refine aF (k+1) ⟨hlt,Z.step e⟩ Om ?_ a_;exact Lq
       simp only[bG e2,aqD]at e;simp only[go_sem,aqC,i1,J,cX e2];exact bP (b:=false) rfl (gP hlt e).symm
     have u:¬(k:Int)<(Z' t:Nat):=Om;simp only[go_sem,u];have:k=Z' t:=Om;subst this;exact bP (b:=true) rfl (show wV q t.length from Z).symm
  simp only[go_sem,vG y,aqC,bW B,bW E,cX M];exact bP rfl (by rw[bG M];simp only[arE,aqD]);simp only[go_sem,vG y,aqC,bW B,cX E];exact bP rfl (by rw[bG E];simp only[arE,aqD]);simp only[go_sem,vG y,aqC,cX B];exact bP rfl (by rw[bG B];simp only[arE,aqD]);simp only[go_sem,i8 y,aqI];exact bP rfl (by rw[bG y];simp only[arE,aqD])
theorem zT(R:List Bool)(i:Nat)(row:List RF):∀k,(dB R i row k).length=Z' R
 |0=>rfl
 |k+1=>by simp only[dB,arD,zT R i row k]
theorem Da(l:cS)(R:List Bool)(i:Nat):(nL l R i).length=Z' R:=by
 unfold nL;rw[zT,arD]
theorem vX(l:cS)(R:List Bool):∀i,(dT l R i).length=Z' R
 |0=>rfl
 |i+1=>by simp only[dT,Da,vX l R i]
theorem vW(l:cS):∀r,(dV l r).length=Z' l.exit
 |0=>by simp[dV]
 |r+1=>by simp only[dV,vX,vW l r]
theorem qM{R:List Bool}{i:Nat}(h:i<Z' R):(dE R)[i]?=some [.bool (R.getD i false)]:=by
 unfold dE;rw[aqE,apZ h,apY,apZ h];rfl
theorem yA(R:List Bool):(dE R).length=Z' R:=by simp[dE]
def WR(l:cS)(o r:Nat):PF:=(((n_.set 1 (.aU l.cells)).set 3 (.osl o 1 0 l.exit.length)).set 4 (.int .i64 r))
def NF(l:cS)(o r i:Nat):PF:=(((((n_.set 1 (.aU l.cells)).set 3 (.osl o 1 0 l.exit.length)).set 4 (.int .i64 r)).set 19 (.int .i64 (Z' l.exit:Nat))).set 20 (.int .i64 i))
def yZ(l:cS)(o r i:Nat)(row:List RF)(k:Nat):PF:=(((((((((n_.set 1 (.aU l.cells)).set 3 (.osl o 1 0 l.exit.length)).set 4 (.int .i64 r)).set 19 (.int .i64 (Z' l.exit:Nat))).set 20 (.int .i64 i)).set 5 (.int .i64 i)).set 42 (frs row)).set 43 (.int .i64 (Z' row:Nat))).set 44 (.int .i64 k))
def kH(o:Nat)(R:List Bool):PH:=h_.set o (.rows 1 (dE R))
theorem E7(L:yN C)(l:cS)(o r i:Nat)(row:List RF)(J:oU row)(X:Z' row=Z' l.exit)(hi:i<Z' l.exit)(hn:Z' l.exit<=4)(e:List Bool)(Y:Z' e=Z' l.exit)(K:bT)(F:PF)(H:PH)
  (O:(yZ l o r i row 0).le F) (M:(kH o e).le H)
  (V:∀F H,(yZ l o r i row row.length).le F->(kH o (dB e i row row.length)).le H->K .normal F H) :
  aI.wp C (.block 4 (.loop II)) K F H:=by
 simp only[go_sem];refine wp_loop (α:=Nat) (λk=>yZ l o r i row k) (λk=>kH o (dB e i row k)) (λk=>k<=Z' row) (λk=>Z' row-k) 0 (apR _) O M ?_;intro k hk;simp only[go_sem,II,yZ,kH];have S:=zT e i row k;by_cases hlt:k<Z' row
 ·have u:(k:Int)<(Z' row:Nat):=Om;have W:(row.map RF.cells)[k]?=some (row[k]).cells:=by simp[hlt]
  simp only[go_sem,u,W];refine aQ λo7 E=>?_;have N:o≠o7:=by rintro rfl;simp only[aM,if_true]at E;cases E
  have x:(i:Int)<(Z' l.exit:Nat):=Om;have D:(k:Int)<(Z' l.exit:Nat):=Om;have w:=qM (R:=dB e i row k) (i:=i) Om;have y:=qM (R:=dB e i row k) (i:=k) Om;have B:dB e i row (k+1)=(dB e i row k).set i ((dB e i row k).getD i false||bR row[k]&&(dB e i row k).getD k false):=by simp only[dB,apY,aqE,apZ hlt,aqK,arT]
  have fin:∀(b:Bool)(F:PF)(H:PH),b=((dB e i row k).getD i false||bR row[k]&&(dB e i row k).getD k false)->(yZ l o r i row (k+1)).le F->H o=some (.rows 1 ((dE (dB e i row k)).set i [.bool b])) ->
    fK (λk=>yZ l o r i row k) (λk=>kH o (dB e i row k)) (λk=>k<=Z' row) (λk=>Z' row-k) (Z' row-k) (fE 4 K) .normal F H:=by
   intro b F H hb O M;refine aF (k+1) hlt Om O ?_;rw[kD,hb,<-B]at M;exact c_ a_ M
  unfold yZ kH at fin;generalize hb:(dB e i row k).getD i false=b at *
  generalize Z:(dB e i row k).getD k false=c at *
  generalize U:bR row[k]=A at *
  cases b with
  |true =>simp only[go_sem,N,x,aqA,w,wZz k];exact fin true _ _ aX Lq Sq
  |false=>
   simp only[go_sem,N,x,aqA,w];refine aD (L.yR _ (J.all _ (apW hlt))) rfl ?_;rw[U];cases A with
   |false =>simp only[go_sem,x,D,N,aqA,w,y,wZz k];exact fin false _ _ aX Lq Sq
   |true =>simp only[go_sem,x,D,N,aqA,w,y,wZz k];exact fin c _ _ aX Lq Sq
 have u:¬(k:Int)<(Z' row:Nat):=Om;simp only[go_sem,u];have:k=Z' row:=Om;subst this;exact V _ _ (by unfold yZ;exact Lq) (b_)
structure HY(l:cS):Prop where
 n:Z' l.exit<=4
 aoH:Z' l.aoH=Z' l.exit
 row:∀r∈l.aoH,Z' r=Z' l.exit
theorem E8(L:yN C)(l:cS)(U:l.Ok)(he:HY l)(o r:Nat)(R:List Bool)(hR:Z' R=Z' l.exit)(K:bT)(F:PF)(H:PH)
  (x:(NF l o r 0).le F) (N:(kH o R).le H)
  (hK:∀F H,(WR l o r).le F->(kH o (dT l R l.exit.length)).le H->K .normal F H) :
  aI.wp C (.block 2 (.loop IJ)) K F H:=by
 simp only[go_sem];refine wp_loop (α:=Nat) (λi=>NF l o r i) (λi=>kH o (dT l R i)) (λi=>i<=Z' l.exit) (λi=>Z' l.exit-i) 0 (apR _) x N ?_;intro i hi;have V:=vX l R i;have hn:=he.n;by_cases hlt:i<Z' l.exit
 ·have e:(i:Int)<(Z' l.exit:Nat):=Om;have w:i<Z' l.aoH:=by rw[he.aoH];exact hlt
  have y:=qM (R:=dT l R i) (i:=i) Om;have hx:(l.exit.map RF.cells)[i]?=some (l.exit[i]).cells:=by simp[hlt]
  have E:(l.aoH.map λr=>[frs r])[i]?=some [frs l.aoH[i]]:=by simp[w]
  have S:(l.aoH[i]).length=Z' l.exit:=he.row _ (apW w);generalize u:(dT l R i).set i ((dT l R i).getD i false||bR l.exit[i])=J;have D:Z' J=Z' l.exit:=by rw[<-u,arD];omega
  have A:dT l R (i+1)=dB J i l.aoH[i] (l.aoH[i]).length:=by
   simp only[dT,nL];have X:(l.exit.map bR).getD i false=bR l.exit[i]:=by simp[apY,hlt]
   have e2:l.aoH.getD i []=l.aoH[i]:=by simp[apY,w]
   rw[X,e2,u]
  have rest:∀(F:PF)(H:PH),(((((((n_.set 1 (.aU l.cells)).set 3 (.osl o 1 0 l.exit.length)).set 4 (.j r)).set 19 (.j (Z' l.exit:Nat))).set 20 (.j i)).set 5 (.j i)):PF).le F->H o=some (.rows 1 (dE J)) ->
    aI.wp C (.seq (.region bz) (.block 4 (.loop II))) (fE 3 (gH C (aI.wp C (.region TJ)) (fK (λi=>NF l o r i) (λi=>kH o (dT l R i)) (λi=>i<=Z' l.exit) (λi=>Z' l.exit-i) (Z' l.exit-i) (fE 2 K)))) F H:=by
   intro F H x N;have f1:F 1=some (.aU l.cells):=x 1 _ rfl;have f3:F 3=some (.osl o 1 0 l.exit.length):=x 3 _ rfl;have f4:F 4=some (.j r):=x 4 _ rfl;have Y:F 19=some (.j (Z' l.exit:Nat)):=x 19 _ rfl;have Z:F 20=some (.j i):=x 20 _ rfl;have f5:F 5=some (.j i):=x 5 _ rfl;rw[s8];simp only[go_sem,bz,f1,f5,E,apP];have inner:=E7 L l o r i l.aoH[i] (U.row _ (apW w)) S hlt hn J D;simp only[aI.wp,go_sem]at inner;refine inner _ _ _ ?_ (c_ a_ N) ?_;unfold yZ;exact Lq;intro W H' B O;have M:W 20=some (.j i):=B 20 _ (by unfold yZ;simp only[go_sem]);simp only[go_sem,TJ,M,wZz i];refine aF (i+1) hlt Om ?_ (by rw[A];exact O);have g:=λ(q:Nat) v h=>B q v h;unfold NF;unfold yZ at g;refine e_ (e_ (e_ (e_ (e_ d_ ?_) ?_) ?_) ?_) ?_;simp only[go_sem];exact g 1 _ rfl;simp only[go_sem];exact g 3 _ rfl;simp only[go_sem];exact g 4 _ rfl;simp only[go_sem];exact g 19 _ rfl;simp only[go_sem]
  simp only[aI.wp,go_sem]at rest;simp only[go_sem,IJ,NF,kH,e];generalize hb:(dT l R i).getD i false=b at *
  cases b with
  |true =>simp only[go_sem,e,aqA,y];refine rest _ _ Lq ?_;rw[<-u];simp only[go_sem,kD,Bool.true_or]
  |false =>simp only[go_sem,e,aqA,y,hx];refine aD (L.yR _ (U.exit.all _ (apW hlt))) rfl ?_;simp only[go_sem,e,aqA,y];refine rest _ _ Lq ?_;rw[<-u];simp only[go_sem,kD,Bool.false_or]
 have e:¬(i:Int)<(Z' l.exit:Nat):=Om;simp only[go_sem,IJ,NF,kH,e];have:i=Z' l.exit:=Om;subst this;exact hK _ _ (by unfold WR;exact Lq) b_
theorem Uc(L:yN C)(l:cS)(F:l.Ok)(he:HY l):kb.wp C (aW oC.res (cY (.bool (vI l)))) (g_ [.agg l.cells]) .nil:=by
 have J:=he.n;have A:(Z' l.exit:Int)*((1:Nat):Int)<=140737488355328:=Om;have B:(Z' l.exit:Int)<=9223372036854775807:=Om;simp only[go_sem,kb,oC,apP,A,B];refine aQ λo K=>?_;simp only[go_sem];refine wp_loop (α:=Nat) (λr=>WR l o r) (λr=>kH o (dV l r)) (λr=>r<=Z' l.exit+1) (λr=>Z' l.exit+1-r) 0 (apR _) ?_ ?_ ?_;unfold WR;exact Lq;refine c_ a_ ?_;simp only[go_sem,dV];simp[dE];intro r M;have i:=vW l r;simp only[go_sem,WR,kH];by_cases hlt:r<=Z' l.exit;have e:(r:Int)<=(Z' l.exit:Nat):=Om;simp only[go_sem,e];have inner:=E8 L l F he o r (dV l r) i;simp only[aI.wp,go_sem]at inner;refine inner _ _ _ ?_ b_ ?_;unfold NF;exact Lq;intro D H' w y;have g:=λ(q:Nat) v h=>w q v h;unfold WR at g;have g4:D 4=some (.j r):=g 4 _ rfl;simp only[go_sem,g4,wZz r];refine aF (r+1) Om Om ?_ y;refine e_ (e_ (e_ d_ ?_) ?_) ?_;simp only[go_sem];exact g 1 _ rfl;simp only[go_sem];exact g 3 _ rfl;simp only[go_sem];have e:¬(r:Int)<=(Z' l.exit:Nat):=Om;have:r=Z' l.exit+1:=Om;subst this;simp only[go_sem,e];have u:=L.allb id 103 (dV l (Z' l.exit+1)) (Om:(dV l (Z' l.exit+1)).length<=_) λx _=>L.ends1 x;have E:(dE (dV l (Z' l.exit+1))).length=Z' l.exit:=by rw[yA,i]
 refine tM u (rs:=dE (dV l (Z' l.exit+1))) (o:=o) (s:=1) Sq ?_ ?_;simp only[go_sem,AK (show l.exit.length<=(dE (dV l (Z' l.exit+1))).length by omega),aqR (show(dE (dV l (Z' l.exit+1))).length<=l.exit.length by omega)];simp only[go_sem];exact bP rfl rfl
structure ik(C:Ctx):Prop extends zc C where
 ends:∀l:cS,l.Ok->HY l->aJ C 102 [.agg l.cells] .nil (aL (.bool (vI l)))
def xS(l:cS)(i:Nat):Bool:=decide ((l.aoH.getD i []).length=Z' l.start)&&(l.aoH.getD i []).all dO&&!((l.aoH.getD i []).map bR).getD i false
def KF(l:cS):Bool:=match AA (l.start.map RF.v)with
 | .ok (n,a,b)=>decide (CZ n a b false 1 1=0)
 | .error _=>false
theorem Hc(l:cS):mQ l=(within l.start.length 1 4&&decide (Z' l.exit=Z' l.start)&&decide (Z' l.aoH=Z' l.start)&&l.start.all dO&&l.exit.all dO&&(apQ l.aoH.length).all (xS l)&&KF l&&vI l):=rfl
theorem W0{l:List FV}{e:Int}(h:AA l=.error e):e≠0:=by
 have:∀(l:List FV)(b:FV)(e:Int),l.foldlM nU b=.error e->e≠0:=by
  intro l
  induction l with
  |nil=>intro b e h;cases h
  |cons x t w=>
   intro b e h;rw[List.foldlM_cons]at h;cases i:nU b x with
   |error u=>
    rw[i]at h;have:u=e:=by injection h
    subst this;obtain⟨A,a1,b1⟩:=b;obtain⟨B,a2,b2⟩:=x;simp only[nU]at i;split at i;split at i;rw[OD i];decide;split at i;rw[OD i];decide;rw[OD i];decide;injection i with i;subst i;decide
   |ok y=>rw[i]at h;exact w y e h
 exact this l _ e h
theorem abY{l:List FV}{r:FV}(h:AA l=.ok r):r.rf.Ok:=by
 have:∀(l:List FV)(b r:FV),b.rf.Ok->l.foldlM nU b=.ok r->r.rf.Ok:=by
  intro l
  induction l with
  |nil=>intro b r hb h;injection h with h;subst h;exact hb
  |cons x t i=>
   intro b r hb h;rw[List.foldlM_cons]at h;cases e:nU b x with
   |error u=>rw[e]at h;cases h
   |ok y=>rw[e]at h;exact i y r (Gn e) h
 refine this l _ r ⟨cA _,cA _,?_,?_⟩ h;show(aS 0).length<=_;rw[jT];simp;show(aS 1).length<=_;rw[tI aT aT];simp
theorem OF{neg:Bool}{a b:Nat}{r:FV}(hb:b≠0)(h:qP neg a b=.ok r):fT r.2.1 r.2.2=true:=by
 unfold qP at h;split at h;cases h;rename_i u;injection h with h
 subst h;have e:apS a b ∣ b:=Nat.gcd_dvd_right _ _;have i:b/apS a b≠0:=by have:=Nat.div_pos (Nat.le_of_dvd (atB hb) e) (atB λh=>hb (Nat.gcd_eq_zero_iff.1 h).2);omega
 have l:=@tZ (b/apS a b);simp only[fT,apT,dT_];omega
theorem I8{x y r:FV}(h:nU x y=.ok r):fT r.2.1 r.2.2=true:=by
 obtain⟨l,a1,b1⟩:=x;obtain⟨u,a2,b2⟩:=y;simp only[nU]at h;split at h;rename_i i;rw[apT]at i;have e:b1*b2≠0:=Nat.mul_ne_zero (mN.1 i.1).1 (mN.1 i.2).1;split at h;exact OF e h;split at h;exact OF e h;exact OF e h;cases h
theorem M3:fT 0 1=true:=by
 have:fC 1=1:=by rw[GA aT,rV]
 simp[fT,this,rV]
theorem Mj{l:List FV}{r:FV}(h:AA l=.ok r):fT r.2.1 r.2.2=true:=by
 have:∀(l:List FV)(b r:FV),fT b.2.1 b.2.2=true->l.foldlM nU b=.ok r->fT r.2.1 r.2.2=true:=by
  intro l
  induction l with
  |nil=>intro b r hb h;injection h with h;subst h;exact hb
  |cons x t i=>
   intro b r hb h;rw[List.foldlM_cons]at h;cases e:nU b x with
   |error u=>rw[e]at h;cases h
   |ok y=>rw[e]at h;exact i y r (I8 e) h
 exact this l _ r M3 h
def Us(l:cS)(k:Nat):PF:=(((((n_.set 1 (.aU l.cells)).set 3 (.int .i64 (Z' l.start:Nat))).set 45 (Yr l.aoH)).set 46 (.int .i64 (Z' l.aoH:Nat))).set 47 (.int .i64 k))
theorem afM{l:cS}(h:JW l.start):KF l=true:=by
 obtain⟨p,hp,he⟩:=h;unfold KF;rw[he];exact(show ∀p∈stN,(match AA ((p.map rfQ).map RF.v)with
  | .ok (n,a,b)=>decide (CZ n a b false 1 1=0)
  | .error _=>false)=true by decide +kernel) p hp
theorem Pa(L:ik C)(l:cS)(i:l.Ok)(he:HY l)(F:PF)(u:F 1=some (.aU l.cells)) :
  aI.wp C (.seq (.region b8) (.seq (.region b9) (.seq (.region ca) (.seq (.region cb) .ret)))) (aW [.tmp 2] (cY (.bool (KF l&&vI l)))) F .nil:=by
 simp only[go_sem,b8,u];refine aD (L.tot l.start i.start) Ev ?_;simp only[go_sem,frV];refine aQ λo6 w=>?_;simp only[go_sem,b9];refine aD L.frac Ev ?_;simp only[go_sem,frV];refine aQ λo8 e=>?_;have x:o6≠o8:=by rintro rfl;simp only[aM,if_true]at e;cases e
 simp only[go_sem,ca,x];refine aD L.ord Ev ?_;simp only[go_sem,cb,u];refine aD (L.ends l i he) Ev ?_;simp only[go_sem];exact bP Ev (by rw[afM i.start,aqL])
theorem Zv(L:ik C)(l:cS)(A:l.Ok):tx.wp C (aW uG.res (cY (.bool (mQ l)))) (g_ [.agg l.cells]) .nil:=by
 rw[Hc];simp only[go_sem,tx,uG,apP];refine aD (L.inn l.start.length 1 4) Ev ?_;cases R:within l.start.length 1 4 with
 |false =>simp only[go_sem,aqI];exact bP Ev (by simp only[aqD])
 |true=>
  obtain⟨X,Y⟩:=within_iff.1 R;by_cases F:Z' l.exit=Z' l.start;rw[aZ F];by_cases J:Z' l.aoH=Z' l.start
  ·rw[aZ J];simp only[go_sem,aqC,apP,bW (Om:(Z' l.exit:Int)=(Z' l.start:Nat)),bW (Om:(Z' l.aoH:Int)=(Z' l.start:Nat))];refine aD (L.U5 l.start ⟨A.start.fits,A.start.all⟩) Ev ?_;cases U:l.start.all dO with
   |false =>simp only[go_sem,aqI];exact bP Ev (by simp only[aqD])
   |true=>
    simp only[go_sem,aqC];refine aD (L.U5 l.exit A.exit) Ev ?_;cases V:l.exit.all dO with
    |false =>simp only[go_sem,aqI];exact bP Ev (by simp only[aqD])
    |true=>
     simp only[go_sem,aqC,apP];have B:∀k (h:k<Z' l.aoH),xS l k=(decide ((l.aoH[k]).length=Z' l.start)&&(l.aoH[k]).all dO&&!((l.aoH[k]).map bR).getD k false):=by
      intro k h;have:l.aoH.getD k []=l.aoH[k]:=by simp[apY,h]
      rw[xS,this]
     refine wp_loop (α:=Nat) (λk=>Us l k) (λ_=>.nil) (λk=>k<=Z' l.aoH/\wV (xS l) k) (λk=>Z' l.aoH-k) 0 ⟨apR _,.zero⟩ ?_ a_ ?_;unfold Us;exact lM;rintro k ⟨W,O⟩;simp only[go_sem,Us];by_cases hlt:k<Z' l.aoH;have u:(k:Int)<(Z' l.aoH:Nat):=Om;have E:(l.aoH.map λr=>[frs r])[k]?=some [frs l.aoH[k]]:=by simp[hlt]
     have e:=B k hlt;have x:=A.row l.aoH[k] (apW hlt);simp only[go_sem,u,E,apP];by_cases K:(l.aoH[k]).length=Z' l.start
     ·rw[aZ K,aqL]at e;simp only[go_sem,bW (show(((l.aoH[k]).length:Nat):Int)=(Z' l.start:Nat) by omega)];refine aD (L.U5 _ x) Ev ?_;cases M:(l.aoH[k]).all dO with
      |false =>rw[M,aqD]at e;simp only[go_sem,aqI];refine bP (b:=false) Ev ?_;have:(apQ l.aoH.length).all (xS l)=false:=gP hlt e;rw[this];simp only[aqD,arE]
      |true=>
       have y:k<(l.aoH[k]).length:=Om;have S:((l.aoH[k]).map RF.cells)[k]?=some ((l.aoH[k])[k]).cells:=by simp[y]
       have D:((l.aoH[k]).map bR).getD k false=bR (l.aoH[k])[k]:=by simp[apY,y]
       rw[M,aqL,D]at e;simp only[go_sem,aqC,S];refine aD (L.yR _ (x.all _ (apW y))) Ev ?_;cases N:bR (l.aoH[k])[k]with
       |true =>rw[N]at e;simp only[go_sem];refine bP (b:=false) Ev ?_;have:(apQ l.aoH.length).all (xS l)=false:=gP hlt e;rw[this];simp only[aqD,arE]
       |false =>rw[N]at e;simp only[go_sem,wZz k];refine aF (k+1) ⟨hlt,O.step e⟩ Om ?_ a_;exact Lq
     simp only[bG K,aqD]at e;simp only[go_sem,cX (show(((l.aoH[k]).length:Nat):Int)≠(Z' l.start:Nat) by omega)];refine bP (b:=false) Ev ?_;have:(apQ l.aoH.length).all (xS l)=false:=gP hlt e;rw[this];simp only[aqD,arE];have u:¬(k:Int)<(Z' l.aoH:Nat):=Om;have:k=Z' l.aoH:=Om;subst this;have w:(apQ l.aoH.length).all (xS l)=true:=O;have he:HY l:=⟨by omega,by omega,λr E=>by obtain⟨i,hi,rfl⟩:=arF E;have:=aqM.1 w i (aqN.2 hi);rw[B i hi]at this;simp only[apT,dT_]at this;omega⟩
     have tail:=Pa L l A he;simp only[aI.wp,go_sem]at tail;rw[w];simp only[go_sem,u,aqL,arY];exact tail _ Sq
  simp only[go_sem,aqC,apP,bW (Om:(Z' l.exit:Int)=(Z' l.start:Nat)),cX (Om:(Z' l.aoH:Int)≠(Z' l.start:Nat))];exact bP Ev (by rw[bG J];simp only[aqD,arE]);simp only[go_sem,aqC,apP,cX (Om:(Z' l.exit:Int)≠(Z' l.start:Nat))];exact bP Ev (by rw[bG F];simp only[aqD,arE])
structure nN(C:Ctx):Prop extends ik C where
 law:∀l:cS,l.Ok->aJ C 95 [.agg l.cells] .nil (aL (.bool (mQ l)))
 pol:∀(p:bY)(n:Nat),p.Ok->n<=4->aJ C 112 [.agg p.cells,.int .i64 n] .nil (aL (.bool (lH n p)))
 aoM:∀f:aB,f.Ok->aJ C 111 [.agg f.cells] .nil (aL (.bool (sE f)))
abbrev gT(l:List (List UInt8)):P2_:=l.map λs=>[PV.str s]
theorem CQ(l:List (List UInt8)){k:Nat}(h:k<Z' l):gT (l.take k)++[[.str l[k]]]=gT (l.take (k+1)):=by
 unfold gT;rw[arB h,aqP];rfl
theorem yK{l:List (List UInt8)}(h:Z' l<=1000):roomFor (gT l).length 1 16:=by
 unfold roomFor gT;simp only[apP,maxLen];omega
def kU{α:Type}(l:List α)(p:α->Bool)(k:Nat):Bool:=(l.take k).all p
theorem yT{α:Type}(l:List α)(p:α->Bool):kU l p 0=true:=rfl
theorem yS{α:Type}(l:List α)(p:α->Bool){k:Nat}(h:k<Z' l):kU l p (k+1)=(kU l p k&&p l[k]):=by
 unfold kU;rw[arB h,atQ];simp
theorem BS{α:Type}(l:List α)(p:α->Bool):kU l p l.length=l.all p:=by unfold kU;rw[aqO]
def lD(f:aB)(e i l u w:PV)(ok:Bool):PF:=(((((((n_.set 1 (.aU f.cells)).set 3 (e)).set 4 (i)).set 5 (l)).set 6 (u)).set 7 (w)).set 8 (.bool ok))
structure nT(F:PF)(f:aB)(w3 w4 w5 w6 w7:PV)(ok:Bool):Prop where
 a1:F 1=some (.aU f.cells)
 a3:F 3=some w3
 a4:F 4=some w4
 a5:F 5=some w5
 a6:F 6=some w6
 a7:F 7=some w7
 a8:F 8=some (.bool ok)
theorem Ke(L:nN C)(f:aB)(S:f.Ok)(Y:Z' f.aoK<=4)(E J M N:PV)(K:bT)(F:PF)(H:PH)(u:nT F f .aG E J M N true)
  (A:F 67=some (.sl 4 (f.aoK.map cS.cells))) (B:F 68=some (.j (Z' f.aoK:Nat))) (D:F 69=some (.j 0))
  (R:∀v O H',nT O f v E J M N (f.aoK.all mQ)->bA H' 1 v (gT (f.aoK.map cS.name))->K (.exit 0) O H') :
  aI.wp C (.loop NQ) K F H:=by
 refine wp_loop (α:=T3_) (λt=>(((lD f t.2.1 E J M N (kU f.aoK mQ t.1)).set 67 (.sl 4 (f.aoK.map cS.cells))).set 68 (.j (Z' f.aoK:Nat))).set 69 (.j t.1)) (λt=>t.2.2)
  (λt=>t.1<=Z' f.aoK/\bA t.2.2 1 t.2.1 (gT ((f.aoK.map cS.name).take t.1))) (λt=>Z' f.aoK-t.1) (0,.aG,.nil) ⟨apR _,.nil⟩ ?_ a_ ?_
 unfold lD
 (repeat' (first|exact d_|refine e_ ?_ ?_))<;>first|(simp only[go_sem,u.a1,u.a3,u.a4,u.a5,u.a6,u.a7,u.a8,A,B,D,yT]<;>rfl)|rfl
 rintro⟨k,v,X⟩ ⟨U,y⟩;simp only at U y ⊢;simp only[go_sem,NQ,lD];by_cases hlt:k<Z' f.aoK
 ·have i:(k:Int)<(Z' f.aoK:Nat):=Om;have W:(f.aoK.map cS.cells)[k]?=some (f.aoK[k]).cells:=by simp[hlt]
  have x:=CQ (f.aoK.map cS.name) (k:=k) (by simpa using hlt);rw[arI]at x;simp only[go_sem,i,W];refine aQ λo V=>?_;simp only[go_sem];refine rC y V (yK (by simp;omega)) λv' H' l w=>?_;rw[x]at l;have e:=yS f.aoK mQ hlt;cases hb:kU f.aoK mQ k with
  |false =>rw[hb,aqD]at e;simp only[go_sem,w,wZz k];refine aF (k+1,v',H') ⟨hlt,l⟩ sO_ ?_ b_;simp only[e];exact Lq
  |true =>rw[hb,aqL]at e;simp only[go_sem,w];refine aD (L.law _ (S.law _ (apW hlt))) Ev ?_;simp only[go_sem,wZz k];refine aF (k+1,v',H') ⟨hlt,l⟩ sO_ ?_ b_;simp only[e];exact Lq
 have i:¬(k:Int)<(Z' f.aoK:Nat):=Om;have:k=Z' f.aoK:=Om;subst this;rw[aqR aX]at y;rw[BS];simp only[go_sem,i];exact R v _ _ ⟨s_,s_,s_,s_,s_,s_,s_⟩ y
theorem JS{n:Nat}(h:n<=1000):i_.wrap ((n:Int)-1)=(n:Int)-1:=wrap_i64 Om Om
theorem Kf(L:nN C)(f:aB)(hs:Z' f.aoD<=4)(hl:Z' f.aoK<=4)(x:Bool)(D E J M:PV)(K:bT)(F:PF)(H:PH)(u:nT F f D .aG E J M x)
  (R:F 85=some (.sl 4 (f.aoD.map dL.cells))) (S:F 86=some (.j (Z' f.aoD:Nat))) (U:F 87=some (.j 0))
  (W:∀v w H',nT w f D v E J M (x&&f.aoD.all (mR f))->bA H' 1 v (gT (f.aoD.map dL.name))->K (.exit 2) w H') :
  aI.wp C (.loop NR) K F H:=by
 refine wp_loop (α:=T3_) (λt=>(((lD f D t.2.1 E J M (x&&kU f.aoD (mR f) t.1)).set 85 (.sl 4 (f.aoD.map dL.cells))).set 86 (.j (Z' f.aoD:Nat))).set 87 (.j t.1)) (λt=>t.2.2)
  (λt=>t.1<=Z' f.aoD/\bA t.2.2 1 t.2.1 (gT ((f.aoD.map dL.name).take t.1))) (λt=>Z' f.aoD-t.1) (0,.aG,.nil) ⟨apR _,.nil⟩ ?_ a_ ?_
 unfold lD
 (repeat' (first|exact d_|refine e_ ?_ ?_))<;>first|(simp only[go_sem,u.a1,u.a3,u.a4,u.a5,u.a6,u.a7,u.a8,R,S,U,yT,arY]<;>rfl)|rfl
 rintro⟨k,v,H0⟩ ⟨Y,N⟩;simp only at Y N ⊢;simp only[go_sem,NR,lD];by_cases hlt:k<Z' f.aoD
 ·have e:(k:Int)<(Z' f.aoD:Nat):=Om;have hr:(f.aoD.map dL.cells)[k]?=some (f.aoD[k]).cells:=by simp[hlt]
  have B:=CQ (f.aoD.map dL.name) (k:=k) (by simpa using hlt);rw[arI]at B;simp only[go_sem,e,hr];refine aQ λo Z=>?_;simp only[go_sem];refine rC N Z (yK (by simp;omega)) λv' H' y i=>?_;rw[B]at y;have l:=yS f.aoD (mR f) hlt;have fin:∀(c:Bool)(w:PF),c=(x&&kU f.aoD (mR f) (k+1))->((((lD f D v' E J M c).set 85 (.sl 4 (f.aoD.map dL.cells))).set 86 (.j (Z' f.aoD:Nat))).set 87 (.j (k+1:Nat))).le w ->
    fK (λ(t:T3_)=>(((lD f D t.2.1 E J M (x&&kU f.aoD (mR f) t.1)).set 85 (.sl 4 (f.aoD.map dL.cells))).set 86 (.j (Z' f.aoD:Nat))).set 87 (.j t.1)) (λ(t:T3_)=>t.2.2)  (λ(t:T3_)=>t.1<=Z' f.aoD/\bA t.2.2 1 t.2.1 (gT ((f.aoD.map dL.name).take t.1))) (λ(t:T3_)=>Z' f.aoD-t.1) (Z' f.aoD-k) K .normal w H':=by
   intro c w X A;refine aF (α:=T3_) (k+1,v',H') ⟨hlt,y⟩ sO_ ?_ b_;rw[X]at A;exact A
  unfold lD at fin;rw[l,<-atG]at fin;have V:mR f f.aoD[k]=(within (f.aoD[k]).aoT 1 16&&within (f.aoD[k]).port 1 64&&within (f.aoD[k]).law 0 ((Z' f.aoK:Int)-1)):=rfl;cases hb:(x&&kU f.aoD (mR f) k)with
  |false =>rw[hb,aqD]at fin;simp only[go_sem,i,wZz k];refine fin false _ rfl ?_;exact Lq
  |true=>
   rw[hb,aqL]at fin;simp only[go_sem,i];refine aD (L.inn _ 1 16) Ev ?_;cases O:within (f.aoD[k]).aoT 1 16 with
   |false =>simp only[go_sem,wZz k];refine fin false _ (by rw[V,O];simp only[aqD]) ?_;exact Lq
   |true=>
    simp only[go_sem,i];refine aD (L.inn _ 1 64) Ev ?_;cases e2:within (f.aoD[k]).port 1 64 with
    |false =>simp only[go_sem,wZz k];refine fin false _ (by rw[V,O,e2];simp only[aqD,arE]) ?_;exact Lq
    |true =>simp only[go_sem,i,apP,JS (Om:Z' f.aoK<=1000)];refine aD (L.inn _ 0 _) Ev ?_;simp only[go_sem,wZz k];refine fin (within (f.aoD[k]).law 0 ((Z' f.aoK:Int)-1)) _ (by rw[V,O,e2];simp only[aqL]) ?_;exact Lq
 have e:¬(k:Int)<(Z' f.aoD:Nat):=Om;have:k=Z' f.aoD:=Om;subst this;rw[aqR aX]at N;rw[BS];simp only[go_sem,e];exact W v _ _ ⟨s_,s_,s_,s_,s_,s_,s_⟩ N
theorem Kg(L:nN C)(f:aB)(t:List cQ)(X:Z' t<=40)(x:Bool)(D E J M:PV)(K:bT)(F:PF)(H:PH)(i:nT F f D E .aG J M x)
  (y:F 119=some (.sl 7 (t.map cQ.cells))) (A:F 120=some (.j (Z' t:Nat))) (B:F 121=some (.j 0))
  (O:∀v N H',nT N f D E v J M x->bA H' 1 v (gT (t.map cQ.name))->K (.exit 4) N H') :
  aI.wp C (.loop NS) K F H:=by
 refine wp_loop (α:=T3_) (λa=>(((lD f D E a.2.1 J M x).set 119 (.sl 7 (t.map cQ.cells))).set 120 (.j (Z' t:Nat))).set 121 (.j a.1)) (λa=>a.2.2)
  (λa=>a.1<=Z' t/\bA a.2.2 1 a.2.1 (gT ((t.map cQ.name).take a.1))) (λa=>Z' t-a.1) (0,.aG,.nil) ⟨apR _,.nil⟩ ?_ a_ ?_
 unfold lD
 (repeat' (first|exact d_|refine e_ ?_ ?_))<;>first|(simp only[go_sem,i.a1,i.a3,i.a4,i.a5,i.a6,i.a7,i.a8,y,A,B]<;>rfl)|rfl
 rintro⟨k,v,W⟩ ⟨R,w⟩;simp only at R w ⊢;simp only[go_sem,NS,lD];by_cases hlt:k<Z' t;have e:(k:Int)<(Z' t:Nat):=Om;have V:(t.map cQ.cells)[k]?=some (t[k]).cells:=by simp[hlt]
 have u:=CQ (t.map cQ.name) (k:=k) (by simpa using hlt);rw[arI]at u;simp only[go_sem,e,V];refine aQ λo S=>?_;simp only[go_sem];refine rC w S (yK (by simp;omega)) λv' H' l U=>?_;rw[u]at l;simp only[go_sem,wZz k];refine aF (k+1,v',H') ⟨hlt,l⟩ sO_ ?_ b_;exact Lq;have e:¬(k:Int)<(Z' t:Nat):=Om;have:k=Z' t:=Om;subst this;rw[aqR aX]at w;simp only[go_sem,e];exact O v _ _ ⟨s_,s_,s_,s_,s_,s_,s_⟩ w
theorem Kh(L:nN C)(f:aB)(e:List (List UInt8))(hn:Z' e<=40)(hs:Z' f.aoC<=24)(hm:Z' f.aoD<=4)(hd:Z' f.aoF<=40)(A:Bool)(J M v0 N O:PV)(K:bT)(F:PF)(H:PH)(x:nT F f J M v0 N O A)
  (h0:bA H 1 v0 (gT e))
  (V:F 132=some (.sl 3 (f.aoC.map eG.cells))) (W:F 133=some (.j (Z' f.aoC:Nat))) (X:F 134=some (.j 0))
  (hK:∀v y H',nT y f J M v N O (A&&f.aoC.all (kP f))->bA H' 1 v (gT (e++f.aoC.map eG.name))->K (.exit 6) y H') :
  aI.wp C (.loop NT) K F H:=by
 refine wp_loop (α:=T3_) (λt=>(((lD f J M t.2.1 N O (A&&kU f.aoC (kP f) t.1)).set 132 (.sl 3 (f.aoC.map eG.cells))).set 133 (.j (Z' f.aoC:Nat))).set 134 (.j t.1)) (λt=>t.2.2)
  (λt=>t.1<=Z' f.aoC/\bA t.2.2 1 t.2.1 (gT (e++(f.aoC.map eG.name).take t.1))) (λt=>Z' f.aoC-t.1) (0,v0,H) ⟨apR _,by rw[asO,aqY];exact h0⟩ ?_ b_ ?_
 unfold lD
 (repeat' (first|exact d_|refine e_ ?_ ?_))<;>first|(simp only[go_sem,x.a1,x.a3,x.a4,x.a5,x.a6,x.a7,x.a8,V,W,X,yT,arY]<;>rfl)|rfl
 rintro⟨k,v,H0⟩ ⟨hk,U⟩;simp only at hk U ⊢;simp only[go_sem,NT,lD];by_cases hlt:k<Z' f.aoC
 ·have i:(k:Int)<(Z' f.aoC:Nat):=Om;have hr:(f.aoC.map eG.cells)[k]?=some (f.aoC[k]).cells:=by simp[hlt]
  have Z:gT (e++(f.aoC.map eG.name).take k)++[[.str (f.aoC[k]).name]]=gT (e++(f.aoC.map eG.name).take (k+1)):=by rw[arB (by simpa using hlt),<-aqT,arI];unfold gT;simp only[aqP,aqQ,arL]
  simp only[go_sem,i,hr];refine aQ λo ho=>?_;simp only[go_sem];refine rC U ho (yK (by simp;omega)) λv' H' B u=>?_;rw[Z]at B;have w:=yS f.aoC (kP f) hlt;have fin:∀(c:Bool)(y:PF),c=(A&&kU f.aoC (kP f) (k+1))->((((lD f J M v' N O c).set 132 (.sl 3 (f.aoC.map eG.cells))).set 133 (.j (Z' f.aoC:Nat))).set 134 (.j (k+1:Nat))).le y ->
    fK (λ(t:T3_)=>(((lD f J M t.2.1 N O (A&&kU f.aoC (kP f) t.1)).set 132 (.sl 3 (f.aoC.map eG.cells))).set 133 (.j (Z' f.aoC:Nat))).set 134 (.j t.1)) (λ(t:T3_)=>t.2.2)  (λ(t:T3_)=>t.1<=Z' f.aoC/\bA t.2.2 1 t.2.1 (gT (e++(f.aoC.map eG.name).take t.1))) (λ(t:T3_)=>Z' f.aoC-t.1) (Z' f.aoC-k) K .normal y H':=by
   intro c y hc D;refine aF (α:=T3_) (k+1,v',H') ⟨hlt,B⟩ sO_ ?_ b_;rw[hc]at D;exact D
  unfold lD at fin;rw[w,<-atG]at fin;have l:kP f f.aoC[k]=(within (f.aoC[k]).model 0 ((Z' f.aoD:Int)-1)&&within (f.aoC[k]).machine 0 ((Z' f.aoF:Int)-1)&&decide ((f.aoF.map cQ.level).getD (f.aoC[k]).machine.toNat 0=4)):=rfl;cases hb:(A&&kU f.aoC (kP f) k)with
  |false =>rw[hb,aqD]at fin;simp only[go_sem,u,wZz k];refine fin false _ rfl ?_;exact Lq
  |true=>
   rw[hb,aqL]at fin;simp only[go_sem,u,apP,JS (Om:Z' f.aoD<=1000)];refine aD (L.inn _ 0 _) Ev ?_;cases R:within (f.aoC[k]).model 0 ((Z' f.aoD:Int)-1)with
   |false =>simp only[go_sem,wZz k];refine fin false _ (by rw[l,R];simp only[aqD]) ?_;exact Lq
   |true=>
    simp only[go_sem,u,apP,JS (Om:Z' f.aoF<=1000)];refine aD (L.inn _ 0 _) Ev ?_;cases e2:within (f.aoC[k]).machine 0 ((Z' f.aoF:Int)-1)with
    |false =>simp only[go_sem,wZz k];refine fin false _ (by rw[l,R,e2];simp only[aqD,arE]) ?_;exact Lq
    |true=>
     obtain⟨i1,i2⟩:=within_iff.1 e2;have i3:(f.aoC[k]).machine.toNat<Z' f.aoF:=Om;have E:(f.aoF.map cQ.cells)[(f.aoC[k]).machine.toNat]?=some (f.aoF[(f.aoC[k]).machine.toNat]).cells:=by simp[i3]
     have Y:(f.aoF.map cQ.level).getD (f.aoC[k]).machine.toNat 0=(f.aoF[(f.aoC[k]).machine.toNat]).level:=by simp[i3]
     rw[Y]at l;by_cases S:(f.aoF[(f.aoC[k]).machine.toNat]).level=4;simp only[go_sem,u,i1,E,cC S,wZz k];refine fin true _ (by rw[l,R,e2,aZ S];rfl) ?_;exact Lq;simp only[go_sem,u,i1,E,bJ S,wZz k];refine fin false _ (by rw[l,R,e2,bG S];rfl) ?_;exact Lq
 have i:¬(k:Int)<(Z' f.aoC:Nat):=Om;have:k=Z' f.aoC:=Om;subst this;rw[aqR aX]at U;rw[BS];simp only[go_sem,i];exact hK v _ _ ⟨s_,s_,s_,s_,s_,s_,s_⟩ U
theorem Ki(L:nN C)(f:aB)(W:f.Ok)(hs:Z' f.aoG<=4)(Y:Z' f.aoD<=4)(w:Bool)(D E J M:PV)(K:bT)(F:PF)(H:PH)(l:nT F f D E J .aG M w)
  (O:F 174=some (.sl 17 (f.aoG.map bY.cells))) (R:F 175=some (.j (Z' f.aoG:Nat))) (S:F 176=some (.j 0))
  (U:∀v u H',nT u f D E J v M (w&&f.aoG.all (lH f.aoD.length))->bA H' 1 v (gT (f.aoG.map bY.name))->K (.exit 8) u H') :
  aI.wp C (.loop NU) K F H:=by
 refine wp_loop (α:=T3_) (λt=>(((lD f D E J t.2.1 M (w&&kU f.aoG (lH f.aoD.length) t.1)).set 174 (.sl 17 (f.aoG.map bY.cells))).set 175 (.j (Z' f.aoG:Nat))).set 176 (.j t.1)) (λt=>t.2.2)
  (λt=>t.1<=Z' f.aoG/\bA t.2.2 1 t.2.1 (gT ((f.aoG.map bY.name).take t.1))) (λt=>Z' f.aoG-t.1) (0,.aG,.nil) ⟨apR _,.nil⟩ ?_ a_ ?_
 unfold lD
 (repeat' (first|exact d_|refine e_ ?_ ?_))<;>first|(simp only[go_sem,l.a1,l.a3,l.a4,l.a5,l.a6,l.a7,l.a8,O,R,S,yT,arY]<;>rfl)|rfl
 rintro⟨k,v,H0⟩ ⟨X,N⟩;simp only at X N ⊢;simp only[go_sem,NU,lD];by_cases hlt:k<Z' f.aoG
 ·have e:(k:Int)<(Z' f.aoG:Nat):=Om;have hr:(f.aoG.map bY.cells)[k]?=some (f.aoG[k]).cells:=by simp[hlt]
  have B:=CQ (f.aoG.map bY.name) (k:=k) (by simpa using hlt);rw[arI]at B;simp only[go_sem,e,hr];refine aQ λo Z=>?_;simp only[go_sem];refine rC N Z (yK (by simp;omega)) λv' H' x A=>?_;rw[B]at x;have i:=yS f.aoG (lH f.aoD.length) hlt;have fin:∀(c:Bool)(u:PF),c=(w&&kU f.aoG (lH f.aoD.length) (k+1))->((((lD f D E J v' M c).set 174 (.sl 17 (f.aoG.map bY.cells))).set 175 (.j (Z' f.aoG:Nat))).set 176 (.j (k+1:Nat))).le u ->
    fK (λ(t:T3_)=>(((lD f D E J t.2.1 M (w&&kU f.aoG (lH f.aoD.length) t.1)).set 174 (.sl 17 (f.aoG.map bY.cells))).set 175 (.j (Z' f.aoG:Nat))).set 176 (.j t.1)) (λ(t:T3_)=>t.2.2)  (λ(t:T3_)=>t.1<=Z' f.aoG/\bA t.2.2 1 t.2.1 (gT ((f.aoG.map bY.name).take t.1))) (λ(t:T3_)=>Z' f.aoG-t.1) (Z' f.aoG-k) K .normal u H':=by
   intro c u V y;refine aF (α:=T3_) (k+1,v',H') ⟨hlt,x⟩ sO_ ?_ b_;rw[V]at y;exact y
  unfold lD at fin;rw[i,<-atG]at fin;cases hb:(w&&kU f.aoG (lH f.aoD.length) k)with
  |false =>rw[hb,aqD]at fin;simp only[go_sem,A,wZz k];refine fin false _ rfl ?_;exact Lq
  |true =>rw[hb,aqL]at fin;simp only[go_sem,A,apP];refine aD (L.pol _ _ (W.aoP _ (apW hlt)) Y) Ev ?_;simp only[go_sem,wZz k];refine fin _ _ rfl ?_;exact Lq
 have e:¬(k:Int)<(Z' f.aoG:Nat):=Om;have:k=Z' f.aoG:=Om;subst this;rw[aqR aX]at N;rw[BS];simp only[go_sem,e];exact U v _ _ ⟨s_,s_,s_,s_,s_,s_,s_⟩ N
theorem Kj(L:nN C)(f:aB)(hs:Z' f.aoE<=12)(hl:Z' f.aoG<=4)(w:Bool)(D E J M:PV)(K:bT)(F:PF)(H:PH)(l:nT F f D E J M .aG w)
  (O:F 195=some (.sl 2 (f.aoE.map fV.cells))) (R:F 196=some (.j (Z' f.aoE:Nat))) (S:F 197=some (.j 0))
  (U:∀v u H',nT u f D E J M v (w&&f.aoE.all (sR f))->bA H' 1 v (gT (f.aoE.map fV.name))->K (.exit 10) u H') :
  aI.wp C (.loop NV) K F H:=by
 refine wp_loop (α:=T3_) (λt=>(((lD f D E J M t.2.1 (w&&kU f.aoE (sR f) t.1)).set 195 (.sl 2 (f.aoE.map fV.cells))).set 196 (.j (Z' f.aoE:Nat))).set 197 (.j t.1)) (λt=>t.2.2)
  (λt=>t.1<=Z' f.aoE/\bA t.2.2 1 t.2.1 (gT ((f.aoE.map fV.name).take t.1))) (λt=>Z' f.aoE-t.1) (0,.aG,.nil) ⟨apR _,.nil⟩ ?_ a_ ?_
 unfold lD
 (repeat' (first|exact d_|refine e_ ?_ ?_))<;>first|(simp only[go_sem,l.a1,l.a3,l.a4,l.a5,l.a6,l.a7,l.a8,O,R,S,yT,arY]<;>rfl)|rfl
 rintro⟨k,v,H0⟩ ⟨W,N⟩;simp only at W N ⊢;simp only[go_sem,NV,lD];by_cases hlt:k<Z' f.aoE
 ·have e:(k:Int)<(Z' f.aoE:Nat):=Om;have Z:(f.aoE.map fV.cells)[k]?=some (f.aoE[k]).cells:=by simp[hlt]
  have B:=CQ (f.aoE.map fV.name) (k:=k) (by simpa using hlt);rw[arI]at B;simp only[go_sem,e,Z];refine aQ λo Y=>?_;simp only[go_sem];refine rC N Y (yK (by simp;omega)) λv' H' x A=>?_;rw[B]at x;have i:=yS f.aoE (sR f) hlt;have fin:∀(c:Bool)(u:PF),c=(w&&kU f.aoE (sR f) (k+1))->((((lD f D E J M v' c).set 195 (.sl 2 (f.aoE.map fV.cells))).set 196 (.j (Z' f.aoE:Nat))).set 197 (.j (k+1:Nat))).le u ->
    fK (λ(t:T3_)=>(((lD f D E J M t.2.1 (w&&kU f.aoE (sR f) t.1)).set 195 (.sl 2 (f.aoE.map fV.cells))).set 196 (.j (Z' f.aoE:Nat))).set 197 (.j t.1)) (λ(t:T3_)=>t.2.2)  (λ(t:T3_)=>t.1<=Z' f.aoE/\bA t.2.2 1 t.2.1 (gT ((f.aoE.map fV.name).take t.1))) (λ(t:T3_)=>Z' f.aoE-t.1) (Z' f.aoE-k) K .normal u H':=by
   intro c u V y;refine aF (α:=T3_) (k+1,v',H') ⟨hlt,x⟩ sO_ ?_ b_;rw[V]at y;exact y
  unfold lD at fin;rw[i,<-atG]at fin;have X:sR f f.aoE[k]=within (f.aoE[k]).aoP 0 ((Z' f.aoG:Int)-1):=rfl;cases hb:(w&&kU f.aoE (sR f) k)with
  |false =>rw[hb,aqD]at fin;simp only[go_sem,A,wZz k];refine fin false _ rfl ?_;exact Lq
  |true =>rw[hb,aqL,X]at fin;simp only[go_sem,A,apP,JS (Om:Z' f.aoG<=1000)];refine aD (L.inn _ 0 _) Ev ?_;simp only[go_sem,wZz k];refine fin _ _ rfl ?_;exact Lq
 have e:¬(k:Int)<(Z' f.aoE:Nat):=Om;have:k=Z' f.aoE:=Om;subst this;rw[aqR aX]at N;rw[BS];simp only[go_sem,e];exact U v _ _ ⟨s_,s_,s_,s_,s_,s_,s_⟩ N
theorem rO{f:aB}(h:¬(Z' f.aoK<=4/\Z' f.aoD<=4/\Z' f.aoF<=40/\Z' f.aoC<=24/\Z' f.aoG<=4/\Z' f.aoE<=12)):rN f=false:=by
 rw[<-Bool.not_eq_true];intro e;simp only[rN,apT,dT_]at e;omega
theorem F0{f:aB}(h:Z' f.aoK<=4/\Z' f.aoD<=4/\Z' f.aoF<=40/\Z' f.aoC<=24/\Z' f.aoG<=4/\Z' f.aoE<=12):rN f=within f.apH 1 4:=by
 obtain⟨e,i,l,u,h5,w⟩:=h;simp[rN,e,i,l,u,h5,w]
theorem qR{t:Nat}{n m:Int}{F:PF}{H:PH}(h:F t=some (.j n))(e:n=m):aW [.tmp t] (cY (.j m)) .ret F H:=by
 subst e;exact bK (.inr rfl) .nil (vs:=[.j n]) (by rw[nM,rK,h,tK]) a_ ⟨.refl _,rfl⟩
def xW(f:aB):Int:=if cP f then 0 else 1
theorem M2{f:aB}(h:cP f=false):xW f=1:=by rw[xW,h];rfl
theorem AE{F:PF}{H:PH}{name t s:Nat}{v r:PV}{rows:P2_}{d:O_}{K:K_}(h:aJ C name [.sl s rows] .nil (aL r))(y:bA H s v rows)(w:F t=some v)
  (l:∀(e:PF)(x:PH),(∀i u,F i=some u->Pure u->e i=some u)->K (e.put d r) x):jX C name [.tmp t] [] d K F H:=by
 rcases y with⟨rfl,rfl⟩|⟨q,rs,rfl,h1,h2,h3⟩
 refine aD (h.Mc (.inl ⟨rfl,rfl⟩)) (by rw[GH,jv,w,WS]) ?_;exact l F H λi u hi _=>hi;rw[<-h3]at h;refine p5 (k:=Z' rows) h w h1 h2 (l _ _ λi u hi hp=>?_);rw[uE,hi,aqK,hp q s rs]
theorem Seen.pure{s:Nat}{v:PV}{rows:P2_}(h:Seen s v rows):Pure v:=by
 rcases h with⟨_,rfl⟩|rfl
 exact λ_ _ _=>rfl;exact λ_ _ _=>rfl
def bI(b:Bool):Int:=if b then 0 else 1
abbrev XB(f:aB):List (List UInt8):=(f.aoF.drop 1).map cQ.name++f.aoC.map eG.name
def BP(f:aB):Bool:=distinct (f.aoK.map cS.name)&&distinct (f.aoD.map dL.name)&&distinct (XB f)&&distinct (f.aoG.map bY.name)&&distinct (f.aoE.map fV.name)
structure Small(f:aB):Prop where
 aoK:Z' f.aoK<=4
 aoD:Z' f.aoD<=4
 aoF:Z' f.aoF<=40
 aoC:Z' f.aoC<=24
 aoG:Z' f.aoG<=4
 aoE:Z' f.aoE<=12
theorem JC(L:nN C){v:PV}{l:List (List UInt8)}(h:Seen 1 v (gT l))(e:Z' l<=1000):aJ C 110 [v] .nil (aL (.bool (distinct l))):=
 (L.uniq l (Om:Z' l<=9223372036854775807)).Mc h
theorem Uj(L:nN C)(f:aB)(E:Small f)(i l u w x:PV)(ok:Bool)(F:PF)(H:PH)(e:nT F f i l u w x ok)
  (A:Seen 1 i (gT (f.aoK.map cS.name))) (B:Seen 1 l (gT (f.aoD.map dL.name))) (h5:Seen 1 u (gT (XB f))) (D:Seen 1 w (gT (f.aoG.map bY.name))) (h7:bA H 1 x (gT (f.aoE.map fV.name))) :
  aI.wp C (.seq (.seq (.region GQ) (.cond (.tmp 243) (.seq (.region sH) .ret) .skip)) (.seq (.region NW) .ret)) (aW [.tmp 2] (cY (.j (bI (ok&&BP f))))) F H:=by
 obtain⟨s1,s2,s3,s4,Y,Z⟩:=E;have J:(f.aoK.map cS.name).length<=1000:=by simp;omega
 have K:(f.aoD.map dL.name).length<=1000:=by simp;omega
 have M:(XB f).length<=1000:=by simp;omega
 have N:(f.aoG.map bY.name).length<=1000:=by simp;omega
 have O:(f.aoE.map fV.name).length<=9223372036854775807:=by simp;omega
 cases ok with
 |false =>simp only[go_sem,GQ,e.a8,sH];exact qR rfl rfl
 |true=>
  simp only[go_sem,GQ,e.a8,e.a3];refine aD (JC L A J) rfl ?_;unfold BP;cases S:distinct (f.aoK.map cS.name)with
  |false =>simp only[go_sem,sH,aqI];exact qR rfl rfl
  |true=>
   simp only[go_sem,e.a4,aqC];refine aD (JC L B K) rfl ?_;cases U:distinct (f.aoD.map dL.name)with
   |false =>simp only[go_sem,sH,aqI];exact qR rfl rfl
   |true=>
    simp only[go_sem,e.a5,aqC];refine aD (JC L h5 M) rfl ?_;cases V:distinct (XB f)with
    |false =>simp only[go_sem,sH,aqI];exact qR rfl rfl
    |true=>
     simp only[go_sem,e.a6,aqC];refine aD (JC L D N) rfl ?_;cases W:distinct (f.aoG.map bY.name)with
     |false =>simp only[go_sem,sH,aqI];exact qR rfl rfl
     |true=>
      simp only[go_sem,e.a7,aqC];refine AE (L.uniq _ O) h7 rfl λy R hp=>?_;have g:y 239=some (.bool false):=hp 239 _ rfl λ_ _ _=>rfl;cases X:distinct (f.aoE.map fV.name)with
      |false =>simp only[go_sem,sH,aqI,g];exact qR rfl rfl
      |true =>simp only[go_sem,NW,aqC,g];exact qR rfl rfl
abbrev sv(b:Bool):bT:=aW [.tmp 2] (cY (.int .i64 (bI b)))
def yv:aI:=.seq (.seq (.region ck) (.block 10 (.loop NV))) (.seq (.seq (.region GQ) (.cond (.tmp 243) (.seq (.region sH) .ret) .skip)) (.seq (.region NW) .ret))
def yu:aI:=.seq (.seq (.region cj) (.block 8 (.loop NU))) yv
def yr:aI:=.seq (.seq (.region ci) (.block 6 (.loop NT))) yu
def yq:aI:=.seq (.seq (.region ch) (.block 4 (.loop NS))) yr
def yo:aI:=.seq (.seq (.region cg) (.block 2 (.loop NR))) yq
def M1:aI:=.seq (.seq (.region qw) (.block 0 (.loop NQ))) yo
theorem Z7(L:nN C)(f:aB)(x:Small f)(l u w J:PV)(ok:Bool)(F:PF)(H:PH)(i:nT F f l u w J .aG ok)
  (B:Seen 1 l (gT (f.aoK.map cS.name))) (D:Seen 1 u (gT (f.aoD.map dL.name))) (h5:Seen 1 w (gT (XB f))) (O:bA H 1 J (gT (f.aoG.map bY.name))) :
  aI.wp C yv (sv (ok&&f.aoE.all (sR f)&&BP f)) F H:=by
 unfold yv;simp only[go_sem,ck,i.a1,apP];refine wE O λE A M N S hp=>?_;refine Kj L f x.aoE x.aoG ok l u w E _ M N ⟨hp 1 _ (by simp only[go_sem,i.a1]) λ_ _ _=>rfl,hp 3 _ (by simp only[go_sem,i.a3]) B.pure,hp 4 _ (by simp only[go_sem,i.a4]) D.pure,hp 5 _ (by simp only[go_sem,i.a5]) h5.pure,S 6 (by simp only[go_sem,i.a6]),hp 7 _ (by simp only[go_sem,i.a7]) λ_ _ _=>rfl,hp 8 _ (by simp only[go_sem,i.a8]) λ_ _ _=>rfl⟩
  (hp 195 _ rfl λ_ _ _=>rfl) (hp 196 _ rfl λ_ _ _=>rfl) (hp 197 _ rfl λ_ _ _=>rfl) λv K H' y R=>?_
 have e:=Uj L f x l u w E v _ K H' y B D h5 A R;simp only[aI.wp,go_sem]at e;simp only[go_sem];exact e
theorem Z6(L:nN C)(f:aB)(N:f.Ok)(u:Small f)(i l D:PV)(ok:Bool)(F:PF)(H:PH)(e:nT F f i l D .aG .aG ok)
  (y:Seen 1 i (gT (f.aoK.map cS.name))) (A:Seen 1 l (gT (f.aoD.map dL.name))) (h5:bA H 1 D (gT (XB f))) :
  aI.wp C yu (sv (ok&&f.aoG.all (lH f.aoD.length)&&f.aoE.all (sR f)&&BP f)) F H:=by
 unfold yu;simp only[go_sem,cj,e.a1,apP];refine wE h5 λB x J K O hp=>?_;refine Ki L f N u.aoG u.aoD ok i l B .aG _ J K ⟨hp 1 _ (by simp only[go_sem,e.a1]) λ_ _ _=>rfl,hp 3 _ (by simp only[go_sem,e.a3]) y.pure,hp 4 _ (by simp only[go_sem,e.a4]) A.pure,O 5 (by simp only[go_sem,e.a5]),hp 6 _ (by simp only[go_sem,e.a6]) λ_ _ _=>rfl,hp 7 _ (by simp only[go_sem,e.a7]) λ_ _ _=>rfl,hp 8 _ (by simp only[go_sem,e.a8]) λ_ _ _=>rfl⟩
  (hp 174 _ rfl λ_ _ _=>rfl) (hp 175 _ rfl λ_ _ _=>rfl) (hp 176 _ rfl λ_ _ _=>rfl) λv E H' w M=>?_
 simp only[go_sem];exact Z7 L f u i l B v _ E H' w y A x M
theorem Z5(L:nN C)(f:aB)(E:f.Ok)(i:Small f)(l u x:PV)(ok:Bool)(F:PF)(H:PH)(e:nT F f l u x .aG .aG ok)
  (A:Seen 1 l (gT (f.aoK.map cS.name))) (B:Seen 1 u (gT (f.aoD.map dL.name))) (h5:bA H 1 x (gT ((f.aoF.drop 1).map cQ.name))) :
  aI.wp C yr (sv (ok&&f.aoC.all (kP f)&&f.aoG.all (lH f.aoD.length)&&f.aoE.all (sR f)&&BP f)) F H:=by
 unfold yr;simp only[go_sem,ci,e.a1,apP];refine Kh L f ((f.aoF.drop 1).map cQ.name) (by have:=i.aoF;simp;omega) i.aoC i.aoD i.aoF ok l u x .aG .aG _ _ H ⟨by simp only[go_sem,e.a1],by simp only[go_sem,e.a3],by simp only[go_sem,e.a4],by simp only[go_sem,e.a5],by simp only[go_sem,e.a6],by simp only[go_sem,e.a7],by simp only[go_sem,e.a8]⟩ h5
  rfl rfl rfl λv y H' w D=>?_
 simp only[go_sem];exact Z6 L f E i l u v _ y H' w A B D
theorem Z4(L:nN C)(f:aB)(O:f.Ok)(A:Small f)(U:0<Z' f.aoF)(l D:PV)(ok:Bool)(F:PF)(H:PH)(e:nT F f l D .aG .aG .aG ok)
  (y:Seen 1 l (gT (f.aoK.map cS.name))) (M:bA H 1 D (gT (f.aoD.map dL.name))) :
  aI.wp C yq (sv (ok&&f.aoC.all (kP f)&&f.aoG.all (lH f.aoD.length)&&f.aoE.all (sR f)&&BP f)) F H:=by
 unfold yq;have u:(1:Int)<=(Z' f.aoF:Nat):=Om;have R:=A.aoF;have i:((f.aoF.map cQ.cells).take f.aoF.length).drop 1=(f.aoF.drop 1).map cQ.cells:=by rw[aqR aX,List.map_drop]
 simp only[go_sem,ch,e.a1,apP,u,arP,i];refine wE M λB x J K S hp=>?_;refine Kg L f (f.aoF.drop 1) (by simp;omega) ok l B .aG .aG _ J K ⟨hp 1 _ (by simp only[go_sem,e.a1]) λ_ _ _=>rfl,hp 3 _ (by simp only[go_sem,e.a3]) y.pure,S 4 (by simp only[go_sem,e.a4]),hp 5 _ (by simp only[go_sem,e.a5]) λ_ _ _=>rfl,hp 6 _ (by simp only[go_sem,e.a6]) λ_ _ _=>rfl,hp 7 _ (by simp only[go_sem,e.a7]) λ_ _ _=>rfl,hp 8 _ (by simp only[go_sem,e.a8]) λ_ _ _=>rfl⟩
  (hp 119 _ rfl λ_ _ _=>rfl) (hp 120 _ rfl λ_ _ _=>rfl) (hp 121 _ rfl λ_ _ _=>rfl) λv E H' w N=>?_
 simp only[go_sem];exact Z5 L f O A l B v _ E H' w y x N
theorem Z3(L:nN C)(f:aB)(K:f.Ok)(i:Small f)(J:0<Z' f.aoF)(x:PV)(ok:Bool)(F:PF)(H:PH)(e:nT F f x .aG .aG .aG .aG ok)
  (D:bA H 1 x (gT (f.aoK.map cS.name))) :
  aI.wp C yo (sv (ok&&f.aoD.all (mR f)&&f.aoC.all (kP f)&&f.aoG.all (lH f.aoD.length)&&f.aoE.all (sR f)&&BP f)) F H:=by
 unfold yo;simp only[go_sem,cg,e.a1,apP];refine wE D λw u A B M hp=>?_;refine Kf L f i.aoD i.aoK ok w .aG .aG .aG _ A B ⟨hp 1 _ (by simp only[go_sem,e.a1]) λ_ _ _=>rfl,M 3 (by simp only[go_sem,e.a3]),hp 4 _ (by simp only[go_sem,e.a4]) λ_ _ _=>rfl,hp 5 _ (by simp only[go_sem,e.a5]) λ_ _ _=>rfl,hp 6 _ (by simp only[go_sem,e.a6]) λ_ _ _=>rfl,hp 7 _ (by simp only[go_sem,e.a7]) λ_ _ _=>rfl,hp 8 _ (by simp only[go_sem,e.a8]) λ_ _ _=>rfl⟩
  (hp 85 _ rfl λ_ _ _=>rfl) (hp 86 _ rfl λ_ _ _=>rfl) (hp 87 _ rfl λ_ _ _=>rfl) λv y H' l E=>?_
 simp only[go_sem];exact Z4 L f K i J w v _ y H' l u E
theorem Z2(L:nN C)(f:aB)(l:f.Ok)(u:Small f)(y:0<Z' f.aoF)(F:PF)(H:PH)(e:nT F f .aG .aG .aG .aG .aG true) :
  aI.wp C M1 (sv (f.aoK.all mQ&&f.aoD.all (mR f)&&f.aoC.all (kP f)&&f.aoG.all (lH f.aoD.length)&&f.aoE.all (sR f)&&BP f)) F H:=by
 unfold M1;simp only[go_sem,qw,e.a1,apP];refine Ke L f l u.aoK .aG .aG .aG .aG _ _ H ⟨by simp only[go_sem,e.a1],by simp only[go_sem,e.a3],by simp only[go_sem,e.a4],by simp only[go_sem,e.a5],by simp only[go_sem,e.a6],by simp only[go_sem,e.a7],by simp only[go_sem,e.a8]⟩ rfl rfl rfl λv w H' i x=>?_;simp only[go_sem];exact Z3 L f l u y v _ w H' i x
theorem Z1(L:nN C)(f:aB)(E:f.Ok):t7.wp C (aW gF.res (cY (.j (xW f)))) (g_ [.agg f.cells]) .nil:=by
 have he:cP f=(rN f&&sE f&&(f.aoK.all mQ&&f.aoD.all (mR f)&&f.aoC.all (kP f)&&f.aoG.all (lH f.aoD.length)&&f.aoE.all (sR f))&&BP f):=rfl;simp only[go_sem,t7,gF];refine aD (L.inn f.apH 1 4) rfl ?_;have bad:∀(F:PF)(H:PH),cP f=false->F 2=some (.j 1)->aW [.tmp 2] (cY (.j (xW f))) .ret F H:=λF H M N=>qR N (M2 M).symm;cases D:within f.apH 1 4 with
 |false=>
  have:rN f=false:=by simp[rN,D]
  simp only[go_sem,aqI];exact bad _ _ (by rw[he,this];simp only[aqD]) rfl
 |true=>
  by_cases s1:Z' f.aoK<=4;have i:¬(Z' f.aoK:Int)>4:=Om;by_cases s2:Z' f.aoD<=4;have l:¬(Z' f.aoD:Int)>4:=Om;by_cases s3:Z' f.aoF<=40;have u:¬(Z' f.aoF:Int)>40:=Om;by_cases s4:Z' f.aoC<=24;have w:¬(Z' f.aoC:Int)>24:=Om;by_cases J:Z' f.aoG<=4;have x:¬(Z' f.aoG:Int)>4:=Om;by_cases K:Z' f.aoE<=12
  ·have y:¬(Z' f.aoE:Int)>12:=Om;have A:=F0 ⟨s1,s2,s3,s4,J,K⟩;rw[D]at A;simp only[go_sem,aqC,apP,i,l,u,w,x,y];refine aD (L.aoM f E) rfl ?_;cases B:sE f with
   |false =>simp only[go_sem,aqI];exact bad _ _ (by rw[he,B];simp only[arE,aqD]) rfl
   |true=>
    have O:0<Z' f.aoF:=by
     rcases arZ f.aoF.length with h|h
     have:f.aoF=[]:=auF h;rw[sE,this]at B;cases B;exact h
    have S:xW f=bI (f.aoK.all mQ&&f.aoD.all (mR f)&&f.aoC.all (kP f)&&f.aoG.all (lH f.aoD.length)&&f.aoE.all (sR f)&&BP f):=by rw[xW,he,A,B];rfl
    rw[S];simp only[go_sem,aqC];have e:=λF H R=>Z2 L f E ⟨s1,s2,s3,s4,J,K⟩ O F H R;simp only[M1,yo,yq,yr,yu,yv,aI.wp,go_sem]at e;exact e _ _ ⟨s_,s_,s_,s_,s_,s_,s_⟩
  have y:(Z' f.aoE:Int)>12:=Om;simp only[go_sem,aqC,apP,i,l,u,w,x,y];exact bad _ _ (by rw[he,rO Om];simp only[aqD]) rfl;have x:(Z' f.aoG:Int)>4:=Om;simp only[go_sem,aqC,apP,i,l,u,w,x];exact bad _ _ (by rw[he,rO Om];simp only[aqD]) rfl;have w:(Z' f.aoC:Int)>24:=Om;simp only[go_sem,aqC,apP,i,l,u,w];exact bad _ _ (by rw[he,rO Om];simp only[aqD]) rfl;have u:(Z' f.aoF:Int)>40:=Om;simp only[go_sem,aqC,apP,i,l,u];exact bad _ _ (by rw[he,rO Om];simp only[aqD]) rfl;have l:(Z' f.aoD:Int)>4:=Om;simp only[go_sem,aqC,apP,i,l];exact bad _ _ (by rw[he,rO Om];simp only[aqD]) rfl;have i:(Z' f.aoK:Int)>4:=Om;simp only[go_sem,aqC,apP,i];exact bad _ _ (by rw[he,rO Om];simp only[aqD]) rfl
def lvl(f:aB)(i:Nat):Int:=(f.aoF.map cQ.level).getD i 0
def par(f:aB)(i:Nat):Int:=(f.aoF.map cQ.parent).getD i 0
def jB(f:aB)(i:Nat):Nat:=(par f i).toNat
def cD(f:aB)(d:Nat):Nat:=((f.aoC.map eG.machine).getD d 0).toNat
def mdl(f:aB)(d:Nat):Nat:=((f.aoC.map eG.model).getD d 0).toNat
def ext(f:aB)(d:Nat):Int:=(f.aoD.map dL.aoT).getD (mdl f d) 0
def dZ(f:aB)(v:Nat):Nat:=((f.aoE.map fV.aoP).getD v 0).toNat
def lm:bY:=⟨[],0,0,0,0,0,0,0,0,[],[],⟨false,[],[]⟩,⟨false,[],[]⟩⟩
def bF(f:aB)(v:Nat):bY:=f.aoG.getD (dZ f v) lm
def upN(f:aB):Nat->Nat->Nat
 |0,i=>i
 |k+1,i=>jB f (upN f k i)
theorem getD_at{α β:Type}{l:List α}{g:α->β}{i:Nat}{b:β}(h:i<Z' l):(l.map g).getD i b=g l[i]:=by
 simp[apY,h]
structure VF(f:aB):Prop where
 small:Small f
 root:0<Z' f.aoF/\lvl f 0=0/\par f 0=-1
 dom:∀i,0<i->i<Z' f.aoF->0<=par f i/\jB f i<i/\lvl f (jB f i)=lvl f i-1/\1<=lvl f i/\lvl f i<=4
 drive:∀d (h:d<Z' f.aoC),0<=(f.aoC[d]).model/\mdl f d<Z' f.aoD/\0<=(f.aoC[d]).machine/\cD f d<Z' f.aoF/\lvl f (cD f d)=4
 aoP:∀p∈f.aoG,1<=p.k/\p.k<=6/\0<=p.m/\p.m<=4/\p.k+p.m<=8/\p.s0=0/\(∀l,0<=p.spread l/\p.spread l<=8)/\∀m∈p.aoD,0<=m/\m<Z' f.aoD
 volume:∀v (h:v<Z' f.aoE),0<=(f.aoE[v]).aoP/\dZ f v<Z' f.aoG
 model:∀m∈f.aoD,1<=m.aoT/\m.aoT<=16
theorem abC{p:bY}{n:Nat}(h:lH n p=true):∀m∈p.aoD,0<=m/\m<n:=by
 intro m l;simp only[lH,apT]at h;obtain⟨i,hi,rfl⟩:=arF l;have:=aqM.1 h.2 i (aqN.2 hi);rw[apT]at this;have e:=within_iff.1 this.1;simp only[apY,apZ hi,arT]at e;omega
theorem p7{x:Int}(e:1<=x)(i:x<=4):i_.wrap (x-1)=x-1:=wrap_i64 Om Om
theorem VF.of{f:aB}(h:cP f=true):VF f:=by
 simp only[cP,apT]at h;obtain⟨⟨⟨O,u⟩,⟨⟨⟨M,A⟩,y⟩,B⟩,D⟩,-⟩:=h;simp only[rN,apT,dT_]at O;obtain⟨⟨⟨⟨⟨⟨s0,s1⟩,s2⟩,s3⟩,s4⟩,s5⟩,s6⟩:=O;cases e:f.aoF with
 |nil=>rw[sE,e]at u;cases u
 |cons r t=>
  rw[sE,e]at u;simp only[IF,apT,dT_]at u;obtain⟨⟨⟨⟨⟨⟨r1,r2⟩,r3⟩,r4⟩,r5⟩,r6⟩,x⟩:=u;have N:Z' f.aoF=Z' t+1:=by rw[e];rfl
  refine⟨⟨s1,s2,s3,s4,s5,s6⟩,⟨by omega,by rw[lvl,e];exact r2,by rw[par,e];exact r3⟩,?_,?_,?_,?_,?_⟩;intro i h0 hi;obtain⟨k,rfl⟩:∃k,i=k+1:=⟨i-1,by omega⟩;have F:k<Z' t:=Om;have:=aqM.1 x k (aqN.2 F);rw[apZ F]at this;simp only[NE,apT,dT_]at this;obtain⟨⟨⟨⟨J,E⟩,K⟩,d4⟩,d5⟩:=this;obtain⟨p0,p1⟩:=within_iff.1 J;obtain⟨S,U⟩:=within_iff.1 K;have w:par f (k+1)=(t[k]).parent:=by rw[par,e];simp[apY,F]
  have e2:lvl f (k+1)=(t[k]).level:=by rw[lvl,e];simp[apY,F]
  rw[p7 S U]at E;have V:lvl f (t[k]).parent.toNat=(t[k]).level-1:=E;refine⟨by rw[w];exact p0,?_,?_,by rw[e2];exact S,by rw[e2];exact U⟩;rw[jB,w];omega;rw[jB,w,e2];exact V;intro d u;have:=aqM.1 y _ (apW u);simp only[kP,apT,dT_]at this;obtain⟨⟨J,E⟩,K⟩:=this;have a1:=within_iff.1 J;have a2:=within_iff.1 E;have w:mdl f d=(f.aoC[d]).model.toNat:=by rw[mdl,getD_at u]
  have e2:cD f d=(f.aoC[d]).machine.toNat:=by rw[cD,getD_at u]
  refine⟨a1.1,by rw[w];omega,a2.1,by rw[e2];omega,by rw[e2];exact K⟩;intro p hp;have L:=aqM.1 B p hp;have W:=abC L;simp only[lH,OV,apT,dT_,atS,List.all_nil,arY]at L;obtain⟨⟨⟨⟨⟨⟨⟨⟨Y,Z⟩,km⟩,q1⟩,z0⟩,sp⟩,-⟩,-⟩,-⟩:=L;obtain⟨g0,g1,g2,g3,g4⟩:=sp;have b1:=within_iff.1 Y;have b2:=within_iff.1 Z;have b3:=within_iff.1 g0;have b4:=within_iff.1 g1;have b5:=within_iff.1 g2;have b6:=within_iff.1 g3;have b7:=within_iff.1 g4;refine⟨b1.1,b1.2,b2.1,b2.2,km,z0,λl=>?_,W⟩;unfold bY.spread;split<;>omega;intro v R;have:=aqM.1 D _ (apW R);have a1:=within_iff.1 this;have w:dZ f v=(f.aoE[v]).aoP.toNat:=by rw[dZ,getD_at R]
  exact⟨a1.1,by rw[w];omega⟩;intro m X;have:=aqM.1 A m X;simp only[mR,apT]at this;exact within_iff.1 this.1.1
theorem wS{f:aB}(h:VF f){d:Nat}(i:d<Z' f.aoC):∀{k:Nat},k<=4->upN f k (cD f d)<Z' f.aoF/\lvl f (upN f k (cD f d))=4-(k:Int)
 |0,_=>⟨(h.drive d i).2.2.2.1,by rw[upN,(h.drive d i).2.2.2.2];rfl⟩
 |k+1,y=>by
  obtain⟨w,u⟩:=wS h i (k:=k) Om;have l:0<upN f k (cD f d):=by
   rcases arZ (upN f k (cD f d))with e|e
   rw[e,h.root.2.1]at u;omega;exact e
  obtain⟨g1,g2,g3,g4,x⟩:=h.dom _ l w;refine⟨by rw[upN];omega,?_⟩;rw[upN,g3,u];omega
def cL(f:aB)(d:Nat)(level:Int):Nat:=upN f (4-level.toNat) (cD f d)
def kW(f:aB)(v:Nat):Int:=(bF f v).k+(bF f v).m
def nz:=bV [1] Proofs.Tryz.f57
def ZS:=cF nz
def yk:=bV [2] Proofs.Tryz.f153
def nu:=cF yk
def JI:=bV [2] Proofs.Tryz.f27
def QI:=cF JI
def nQ:=bV [2] Proofs.Tryz.f61
def QG:=aA nQ 11
def QH:=aA nQ 12
def ZQ:aI:=(sq (aA nQ 0) (sq (aA nQ 1) (.seq (dF (aA nQ 2) 0 (gW (aA nQ 3) 17 0 QG (sq (aA nQ 4) (dF (aA nQ 5) 2 (gW (aA nQ 6) 23 2 (aA nQ 10) (sq (aA nQ 7) (sq (aA nQ 8) (.cond (Tm 33) (.region (aA nQ 9)) .skip)))))))) (sq QH .ret))))
def np:=bV [2] Proofs.Tryz.f28
def ZO:=cF np
def MH:=bV [3] Proofs.Tryz.f100
def ZR:=cF MH
def n6:=bV [] Proofs.Tryz.f154
def ZT:=cF n6
def fM:=bV [3,75,91,134,167] Proofs.Tryz.f101
def VK:=aA fM 16
def VL:=aA fM 17
def JK:aI:=(eN (aA fM 18) 106 4 (aA fM 20) (.region (aA fM 19)))
def JL:=aA fM 21
def yL:aI:=(gW (aA fM 10) 65 2 JL (sq (aA fM 11) (jQ (aA fM 12) 70 (sq (aA fM 13) (.exit 3)) (jQ (aA fM 14) 86 (.region (aA fM 15)) (sq VK (dF VL 4 JK))))))
def VI:aI:=(gW (aA fM 24) 124 6 (aA fM 28) (sq (aA fM 25) (sq (aA fM 26) (.cond (Tm 129) (.region (aA fM 27)) .skip))))
def VM:=aA fM 33
def VJ:aI:=(gW (aA fM 31) 143 8 (aA fM 36) (sq (aA fM 32) (sq VM (sq (aA fM 34) (.cond (Tm 162) (.region (aA fM 35)) .skip)))))
def n8:aI:=(sq (aA fM 0) (dq (eH fM 0) (sq (aA fM 1) (.seq (dF (aA fM 2) 0 (gW (aA fM 3) 43 0 (aA fM 6) (sq (aA fM 4) (.region (aA fM 5))))) (sq (aA fM 7) (sq (aA fM 8) (dq (eH fM 1) (.seq (dF (aA fM 9) 2 yL) (sq (aA fM 22) (.seq (dF (aA fM 23) 6 VI) (sq (aA fM 29) (.seq (dF (aA fM 30) 8 VJ) (sq (aA fM 37) .ret)))))))))))))
def kK:=bV [3,28,44,74] Proofs.Tryz.f58
def VH:aI:=(gW (aA kK 16) 61 3 (aA kK 20) (sq (aA kK 17) (sq (aA kK 18) (.cond (Tm 70) (.region (aA kK 19)) .skip))))
def n0:aI:=(sq (aA kK 0) (.seq (.block 0 (sq (aA kK 1) (.cond (Tm 14) (sq (aA kK 2) .ret) (sq (aA kK 3) (.cond (Tm 18) (sq (aA kK 4) .ret) .skip))))) (sq (aA kK 5) (.seq (dF (aA kK 6) 1 (gW (aA kK 7) 32 1 (aA kK 13) (sq (aA kK 8) (.seq (sq (aA kK 9) (sq (aA kK 10) (.cond (Tm 41) (sq (aA kK 11) (.exit 2)) .skip))) (.region (aA kK 12)))))) (sq (aA kK 14) (.seq (dF (aA kK 15) 3 VH) (sq (aA kK 21) .ret)))))))
def nv:=bV [3] Proofs.Tryz.f23
def ZP:=cF nv
theorem R6(h:∀f:aB,f.Ok->aJ C 96 [.agg f.cells] .nil (aL (.j (xW f))))(f:aB)(e:f.Ok) :
  ZS.wp C (aW nz.res (cY (.bool (cP f)))) (g_ [.agg f.cells]) .nil:=by
 simp only[go_sem,ZS,nz];refine aD (h f e) Ev ?_;simp only[go_sem];refine bP Ev ?_;unfold xW;cases cP f<;>rfl
theorem kE{f:aB}{d:Nat}(h:d<Z' f.aoC):(f.aoC.map eG.cells)[d]?=some (f.aoC[d]).cells:=by simp[h]
theorem gD{f:aB}{d:Nat}(h:d<Z' f.aoF):(f.aoF.map cQ.cells)[d]?=some (f.aoF[d]).cells:=by simp[h]
theorem oM{f:aB}{d:Nat}(h:d<Z' f.aoE):(f.aoE.map fV.cells)[d]?=some (f.aoE[d]).cells:=by simp[h]
theorem mJ{f:aB}{d:Nat}(h:d<Z' f.aoG):(f.aoG.map bY.cells)[d]?=some (f.aoG[d]).cells:=by simp[h]
theorem uq{f:aB}{d:Nat}(h:d<Z' f.aoD):(f.aoD.map dL.cells)[d]?=some (f.aoD[d]).cells:=by simp[h]
theorem zF{f:aB}{d:Nat}(h:d<Z' f.aoF):(f.aoF[d]).level=lvl f d:=by rw[lvl,getD_at h]
theorem MA{f:aB}{d:Nat}(h:d<Z' f.aoF):(f.aoF[d]).parent=par f d:=by rw[par,getD_at h]
theorem VF.FC{f:aB}(h:VF f){d:Nat}(e:d<Z' f.aoC):(f.aoC[d]).machine=((cD f d:Nat):Int):=by
 have:=(h.drive d e).2.2.1;rw[cD,getD_at e];omega
theorem VF.CH{f:aB}(h:VF f){d:Nat}(e:d<Z' f.aoC):(f.aoC[d]).model=((mdl f d:Nat):Int):=by
 have:=(h.drive d e).1;rw[mdl,getD_at e];omega
theorem VF.zP{f:aB}(h:VF f){v:Nat}(e:v<Z' f.aoE):(f.aoE[v]).aoP=((dZ f v:Nat):Int):=by
 have:=(h.volume v e).1;rw[dZ,getD_at e];omega
theorem VF.MB{f:aB}(h:VF f){i:Nat}(e:0<i)(hi:i<Z' f.aoF):par f i=((jB f i:Nat):Int):=by
 have:=(h.dom i e hi).1;rw[jB];omega
theorem kB{f:aB}(h:VF f){v:Nat}(e:v<Z' f.aoE):∃hp:dZ f v<Z' f.aoG,f.aoG[dZ f v]=bF f v:=by
 have hp:=(h.volume v e).2;exact⟨hp,by simp[bF,apY,hp]⟩
theorem W3(f:aB)(i:VF f)(v:Nat)(h:v<Z' f.aoE) :
  nu.wp C (aW yk.res (cY (.j (kW f v)))) (g_ [.agg f.cells,.j v]) .nil:=by
 obtain⟨hp,he⟩:=kB i h;have e:=i.aoP _ (apW hp);rw[he]at e;have l:i_.wrap ((bF f v).k+(bF f v).m)=(bF f v).k+(bF f v).m:=wrap_i64 Om Om;simp only[go_sem,nu,yk];refine bE .nil cO a_ ?_;simp only[go_sem,oM h,i.zP h,mJ hp,he];refine aQ λo u=>?_;simp only[go_sem,l];refine⟨a_,?_⟩;exact qR (n:=(bF f v).k+(bF f v).m) Ev rfl
structure I5(C:Ctx):Prop where
 valid:∀f:aB,f.Ok->aJ C 161 [.agg f.cells] .nil (aL (.bool (cP f)))
 bu:∀(f:aB)(v:Nat),VF f->v<Z' f.aoE->aJ C 156 [.agg f.cells,.int .i64 v] .nil (aL (.int .i64 (kW f v)))
def pick(n:Nat)(p:Nat->Bool):I_:=((apQ n).filter p).map λ(i:Nat)=>(i:Int)
theorem Ku(l:I_)(x:Int):aN l++[[.j x]]=aN (l++[x]):=by unfold aN;rw[aqP];rfl
theorem cI(l:I_):(aN l).length=Z' l:=by unfold aN;rw[apP]
theorem sd{t:Nat}{H:PH}{v:PV}{l:I_}{F:PF}(h:bA H 1 v (aN l))(e:F t=some v):aW [.tmp t] (cY (ints l)) .ret F H:=oK (.inr rfl) h e
theorem De{t:Nat}{H:PH}{F:PF}(e:F t=some .aG):aW [.tmp t] (cY (ints [])) .ret F H:=oK (rows:=[]) (.inr rfl) .nil e
def toS(f:aB):Spec:=λname vs=>match name,vs with
 |155,[_,.int _ d,.int _ l]=>some ([],λ_=>aL (.int .i64 (cL f d.toNat l:Nat)))
 |156,[_,.int _ v]=>some ([],λ_=>aL (.int .i64 (kW f v.toNat)))
 |_,_=>none
theorem W6(f:aB)(v:Nat):toS f 156 [.agg f.cells,.j v]=some ([],λ_=>aL (.j (kW f v))):=rfl
def rD(A:I_)(k:Nat):I_:=A.take k++apX (Z' A-k) 0
theorem E0(A:I_):rD A 0=apX A.length 0:=by simp[rD]
theorem J0(A:I_):rD A A.length=A:=by simp[rD]
theorem wx(A:I_){k:Nat}(h:k<=Z' A):(rD A k).length=Z' A:=by simp[rD];omega
theorem J1(A:I_){k:Nat}(h:k<Z' A):(rD A k).set k A[k]=rD A (k+1):=by
 unfold rD;rw[asY _ _ (by simp;omega),aqF,asK Om,asA,show A.length-k=(Z' A-(k+1))+1 by omega,List.replicate_succ,asT,
  arB h,aqT]
 rfl
theorem iZ(l:I_)(i:Nat)(x:Int):(aN l).set i [.j x]=aN (l.set i x):=by unfold aN;rw[asP]
theorem qO(n:Nat):apX n [PV.int .i64 0]=aN (apX n 0):=by simp[aN]
theorem qN{l:I_}{i:Nat}(h:i<Z' l):(aN l)[i]?=some [.j l[i]]:=by simp[aN,h]
theorem kp(l:I_):ints l=.sl 1 (aN l):=rfl
def kJ(f:aB)(room:I_)(d:Nat):Int:=if room.length=f.aoC.length then min (max (room.getD d 0) 0) (ext f d)else ext f d
def bM(f:aB)(room:I_):I_:=(apQ f.aoC.length).map (kJ f room)
def qG(f:aB)(room:I_):I_:=if cP f then bM f room else[]
theorem qF(f:aB)(room:I_):(bM f room).length=Z' f.aoC:=by simp[bM]
theorem fw(f:aB)(room:I_){d:Nat}(h:d<(bM f room).length):(bM f room)[d]=kJ f room d:=by simp[bM]
theorem VF.As{f:aB}(h:VF f){d:Nat}(i:d<Z' f.aoC):∃e:mdl f d<Z' f.aoD,(f.aoD[mdl f d]).aoT=ext f d:=by
 have e:=(h.drive d i).2.1;exact⟨e,by rw[ext,getD_at e]⟩
def trF(f:aB)(room:I_)(o k:Nat):PF:=(((((n_.set 1 (ints room)).set 2 (.aU f.cells)).set 5 (.osl o 1 0 f.aoC.length)).set 15 (.int .i64 (Z' f.aoC:Nat))).set 16 (.int .i64 k))
theorem Hk(a b:Int):(if b<a then b else a)=min a b:=by
 rw[Int.min_def];by_cases h:b<a;rw[aE h,aC Om];rw[aC h,aE Om]
theorem R4(valid:∀f:aB,f.Ok->aJ C 161 [.agg f.cells] .nil (aL (.bool (cP f))))(f:aB)(N:f.Ok)(room:I_) :
  QI.wp C (aW JI.res (pH 1 (aN (qG f room)))) (g_ [.agg f.cells,ints room]) .nil:=by
 simp only[go_sem,QI,JI];refine aD (valid f N) Ev ?_;unfold qG;cases S:cP f with
 |false =>simp only[go_sem,aqI];exact MD (.inr rfl) Ev
 |true=>
  have hV:=VF.of S;have M:=hV.small.aoC;have F:(Z' f.aoC:Int)*((8:Nat):Int)<=140737488355328:=Om;have J:(Z' f.aoC:Int)<=9223372036854775807:=Om;simp only[go_sem,aqC,apP,F,J];refine aQ λo X=>?_;simp only[go_sem];have w:=qF f room;have E:=λd h=>fw f room (d:=d) h;generalize V:bM f room=A at *
  refine wp_loop (α:=Nat) (λk=>trF f room o k) (λk=>h_.set o (.rows 1 (aN (rD A k)))) (λk=>k<=Z' f.aoC) (λk=>Z' f.aoC-k) 0 (apR _) ?_ ?_ ?_;unfold trF;exact Lq;refine c_ a_ ?_;simp only[go_sem];rw[E0,w,qO];intro k W;simp only[go_sem,trF];by_cases hlt:k<Z' f.aoC;have e:(k:Int)<(Z' f.aoC:Nat):=Om;obtain⟨R,he⟩:=hV.As hlt;have O:=wx A (k:=k) Om;have x:k<Z' A:=Om;have U:=qN (l:=rD A k) (i:=k) Om;have u:=J1 A x;rw[E k x]at u;simp only[go_sem,e];refine bE .nil cO a_ ?_;simp only[go_sem,kE hlt,hV.CH hlt,uq R,he,e,aqA,U];refine⟨a_,?_⟩
  try simp only[go_sem,apP]
  by_cases c:Z' room=Z' f.aoC;have B:((Z' room:Int)==(Z' f.aoC:Int))=true:=cC Om;have y:k<Z' room:=Om;have K:(room.map λn=>[PV.int .i64 n])[k]?=some [.j room[k]]:=by simp[y]
  simp only[go_sem,B];refine bE .nil cO a_ ?_;have L:(aN ((rD A k).set k (ext f k)))[k]?=some [.j (ext f k)]:=by rw[<-iZ,List.getElem?_set_self (by rw[cI];omega)]
  simp only[go_sem,K,e,aqA,L,max_eq,Hk,List.set_set,iZ];refine⟨a_,?_⟩;simp only[go_sem,wZz k];refine aF (k+1) hlt Om ?_ ?_;exact Lq;refine c_ a_ ?_;rw[<-u,kJ,aE c,apY,apZ y,arT];simp only[go_sem];have B:((Z' room:Int)==(Z' f.aoC:Int))=false:=bJ Om;simp only[go_sem,B,wZz k,iZ];refine aF (k+1) hlt Om ?_ ?_;exact Lq;refine c_ a_ ?_;rw[<-u,kJ,aC c];simp only[go_sem];have e:¬(k:Int)<(Z' f.aoC:Nat):=Om;have:k=Z' f.aoC:=Om;subst this;simp only[go_sem,e];have D:rD A f.aoC.length=A:=by rw[<-w,J0]
  rw[D];exact PN (.inr rfl) (v:=.osl o 1 0 f.aoC.length) (.inr ⟨o,aN A,by rw[cI,w],s_,apU _,aqR (apU _)⟩) Sq
theorem D4(L:I5 C)(f:aB)(e:f.Ok)(room:I_) :
  QI.wp C (aW JI.res (pH 1 (aN (qG f room)))) (g_ [.agg f.cells,ints room]) .nil:=R4 L.valid f e room
def BC(l:I_)(r:PV)(H:PH):Prop:=(l=[]/\r=.aG/\H=h_)\/∃q,r=.osl q 1 0 l.length/\H=h_.set q (.rows 1 (aN l))
theorem BC.Yi{l:I_}{r:PV}{H:PH}(h:BC l r H):pH 1 (aN l) r H:=by
 rcases h with⟨rfl,e,i⟩|⟨q,e,i⟩
 exact .inl ⟨rfl,e,i⟩;exact .inr ⟨q,aN l,by rw[e,cI],i,apU _,aqO⟩
theorem aJ.G5{name:Nat}{args:V_}{H:PH}{l:I_}(h:aJ C name args H (BC l)):aJ C name args H (aL (ints l)):=by
 rw[kp];exact aJ.freeze (h.post λr _ e=>⟨r,.refl _,e.Yi⟩)
theorem aJ.aiJ{name o s:Nat}{rs:P2_}{args:V_}{l:I_}(h:aJ C name (args.map (PV.frz o s rs)) .nil (BC l)) :
  aJ C name args (h_.set o (.rows s rs)) (λr H'=>∃W,BC l r W/\W o=none/\H'=W.set o (.rows s rs)):=by
 refine⟨h.1,λE w vs hN hW S=>?_⟩;have hz:jJ (g_ args) (h_.set o (.rows s rs)) _ _:=.step o (s:=s) (rs:=rs) (by simp only[aM,if_true]) (.refl _ _);obtain⟨E1,k1,k2,k3⟩:=hz.sound hW;rw[qu]at k1 k2;have B:=S.len;have U:fO E1 (args.map (PV.frz o s rs)) vs.toList:=by
  refine fO.of _ _ (by rw[apP];exact B) λi p u hp hu=>?_;have:=k3 (λi=>(vs.toList[i]?).getD undef) (λj q hj=>by have β:=(aqU.1 hj).1;have M:j<Z' vs.toList:=Om;simp only[apZ M,arT];exact S.at_ j q _ hj (apZ M)) i p (by rw[uE,args_at,<-aqE];exact hp)
  simp only[hu,arT]at this;exact this
 refine(h.2 E1 w vs (k2.env.num.trans hN) k1 U).mono λe w' he=>?_;obtain⟨u,pv,E2,H2,rfl,L,hr,J,hM⟩:=he;have A:∀b,b<w.heap.size->w'.heap[b]?=w.heap[b]?:=λb hb=>J.block b hb rfl;have V:=hW.h o _ (bL o _);have hH:∀q x,(h_.set o (.rows s rs)) q=some x->q=o:=λq x hq=>by rw[aM]at hq;by_cases c:q=o;exact c;rw[aC c]at hq;cases hq
 have Z:∀b cs,E.G b=some cs->b≠o/\b<w.heap.size:=λb cs hb=>by obtain⟨g1,ty,fr,g2⟩:=hW.g b cs hb;refine⟨λe=>?_,(atC.1 g2).1⟩;subst e;cases g1 _ (bL b _)
 have D:∀q x,H2 q=some x->w.heap.size<=q:=λq x hq=>by
  rcases J.new q x hq with⟨y,hy⟩|h
  cases hy;exact h
 have N:E.le ⟨E.G,E2.sz,E.num⟩:=⟨λ_ _ h=>h,λb n h=>J.env.s _ _ (k2.env.s _ _ h),rfl⟩;have Y:H2 o=none:=by
  cases e:H2 o with
  |none=>rfl
  |some x=>have:=D o x e;have:=V.1;omega
 have F:∀q x,H2 q=some x->x=.rows 1 (aN l):=λq x hq=>by
  rcases hM with⟨-,-,rfl⟩|⟨q',-,rfl⟩
  cases hq;rw[aM]at hq;by_cases c:q=q';rw[aE c]at hq;injection hq with hq;exact hq.symm
  rw[aC c]at hq;cases hq
 refine⟨u,pv,⟨E.G,E2.sz,E.num⟩,H2.set o (.rows s rs),rfl,⟨λb cs hb=>?_,λq x hq=>?_,L.s⟩,?_,⟨N,J.os,J.tape,J.output,J.size,λb hb _=>A b hb,λq x hq=>?_,λb cs hb=>.inl hb⟩,H2,hM,Y,rfl⟩;obtain⟨g1,ty,fr,g2⟩:=hW.g b cs hb;obtain⟨n1,n2⟩:=Z b cs hb;refine⟨λx hx=>?_,ty,fr,(A b n2).trans g2⟩;rw[aM,aC n1]at hx;have:=D b x hx;omega;rw[aM]at hq;by_cases c:q=o;rw[aE c]at hq;injection hq with hq
 subst hq c;exact⟨Nat.lt_of_lt_of_le V.1 J.size,V.2.mono N (A q V.1)⟩;rw[aC c]at hq;obtain⟨a1,a2⟩:=L.h q x hq;refine⟨a1,?_⟩;have:=F q x hq;subst this;obtain⟨X,ty,b1,b2,b3,b4,b5⟩:=a2;refine⟨X,ty,b1,b2,b3,b4,λi j p hp=>?_⟩;obtain⟨v,d1,d2,d3⟩:=b5 i j p hp;refine⟨v,d1,d2,?_⟩;have:∃n,p=.j n:=by
  unfold at2 aN at hp;rw[aqE]at hp;cases e:l[i]? with
  |none=>rw[e]at hp;cases hp
  |some n=>
   rw[e]at hp
   match j,hp with
   |0,hp=>injection hp with hp;exact⟨n,hp.symm⟩
 obtain⟨n,rfl⟩:=this;cases d3;exact .int _ _;rcases hM with⟨-,rfl,-⟩|⟨q,rfl,-⟩
 cases hr;exact .aG
 ·cases hr with
  |osl hb α R B O hn K=>exact .osl hb α R B O hn K
 rw[aM]at hq;by_cases c:q=o;exact .inl ⟨_,by rw[c];exact bL o _⟩;rw[aC c]at hq;exact .inr (D q x hq)
abbrev lay(l:L2_):PV:=.sl 1 (l.map λr=>[ints r])
def fD(n:Nat)(xs:I_):I_:=(apQ n).map λ(d:Nat)=>((xs.count (d:Int):Nat):Int)
theorem jK(n:Nat)(xs:I_):(fD n xs).length=n:=by simp[fD]
theorem bi(n:Nat):fD n []=apX n 0:=by
 refine asJ (by simp[fD]) λi e l=>by simp[fD]
theorem WQ{n:Nat}(xs:I_){d:Nat}(h:d<n):(fD n xs)[d]'(by rw[jK];exact h)=((xs.count (d:Int):Nat):Int):=by simp[fD]
theorem qq{n:Nat}(xs:I_){d:Nat}(h:d<n):(fD n xs).set d (((xs.count (d:Int):Nat):Int)+1)=fD n (xs++[(d:Int)]):=by
 refine asJ (by simp[fD]) λi l u=>?_;simp only[fD,List.getElem_set,arI,auG,List.count_append];by_cases e:d=i;subst e;simp;have:((d:Nat):Int)≠(i:Int):=Om;rw[aC e];simp[List.count_cons,this]
theorem GG{n:Nat}(xs:I_){x:Int}(h:¬(0<=x/\x<n)):fD n (xs++[x])=fD n xs:=by
 refine asJ (by simp[fD]) λi l e=>?_;simp only[fD,arI,auG,List.count_append];have hi:i<n:=by simpa[fD]using e
 have:x≠(i:Int):=Om;simp[List.count_cons,this]
def dG(f:aB)(l:L2_):I_:=fD f.aoC.length l.flatten
structure iO(l:L2_):Prop where
 rows:Z' l<=16777216
 all:Z' l.flatten<=16777216
theorem yC(l:L2_){i:Nat}(h:i<Z' l):(l.take (i+1)).flatten=(l.take i).flatten++l[i]:=by
 rw[arB h,List.flatten_append];simp only[atY,List.flatten_nil,aqY]
theorem GK(l:L2_)(i:Nat):(l.take i).flatten.length<=Z' l.flatten:=by
 have:l.flatten=(l.take i).flatten++(l.drop i).flatten:=by rw[<-List.flatten_append,asZ]
 rw[this,apV];omega
def Bx(l:L2_)(n o i:Nat):PF:=((((n_.set 5 (.osl o 1 0 n)).set 14 (lay l)).set 15 (.int .i64 (Z' l:Nat))).set 16 (.int .i64 i))
def rg(l:L2_)(n o i:Nat)(row:I_)(k:Nat):PF:=(((((((n_.set 5 (.osl o 1 0 n)).set 14 (lay l)).set 15 (.int .i64 (Z' l:Nat))).set 16 (.int .i64 i)).set 20 (ints row)).set 21 (.int .i64 (Z' row:Nat))).set 22 (.int .i64 k))
theorem R2(f:aB)(hd:Z' f.aoC<=24)(l:L2_)(Y:iO l) :
  ZQ.wp C (aW nQ.res (BC (dG f l))) (g_ [.agg f.cells,lay l]) .nil:=by
 have M:(Z' f.aoC:Int)*((8:Nat):Int)<=140737488355328:=Om;have N:(Z' f.aoC:Int)<=9223372036854775807:=Om;obtain⟨Z,β⟩:=Y;simp only[go_sem,ZQ,nQ,apP,M,N];refine aQ λo ho=>?_;simp only[go_sem];generalize S:Z' f.aoC=n at *
 refine wp_loop (α:=Nat) (λi=>Bx l n o i) (λi=>h_.set o (.rows 1 (aN (fD n (l.take i).flatten)))) (λi=>i<=Z' l) (λi=>Z' l-i) 0 (apR _) ?_ ?_ ?_;unfold Bx;exact lM;refine c_ a_ ?_;simp only[go_sem,asO,List.flatten_nil];rw[bi,qO];intro i hi;simp only[go_sem,Bx];by_cases hlt:i<Z' l;have u:(i:Int)<(Z' l:Nat):=Om;have hr:(l.map λr=>[ints r])[i]?=some [ints l[i]]:=by simp[hlt]
 have J:=yC l hlt;have O:=GK l (i+1);rw[J,apV]at O;generalize U:l[i]=row at *
 simp only[go_sem,u,hr,apP];refine wp_loop (α:=Nat) (λk=>rg l n o i row k) (λk=>h_.set o (.rows 1 (aN (fD n ((l.take i).flatten++row.take k))))) (λk=>k<=Z' row) (λk=>Z' row-k) 0 (apR _) ?_ ?_ ?_;unfold rg;exact lM;rw[asO,aqY];exact b_;intro k hk;simp only[go_sem,rg];by_cases A:k<Z' row;have e:(k:Int)<(Z' row:Nat):=Om;have B:(row.map λn=>[PV.int .i64 n])[k]?=some [.j row[k]]:=by simp[A]
 have D:(l.take i).flatten++row.take (k+1)=((l.take i).flatten++row.take k)++[row[k]]:=by rw[arB A,aqT]
 have fin:∀(F:PF),(rg l n o i row (k+1)).le F->∀H:PH,H o=some (.rows 1 (aN (fD n ((l.take i).flatten++row.take (k+1))))) ->
   fK (λk=>rg l n o i row k) (λk=>h_.set o (.rows 1 (aN (fD n ((l.take i).flatten++row.take k))))) (λk=>k<=Z' row) (λk=>Z' row-k) (Z' row-k)
    (fE 2 (fE 1 (gH C (aI.wp C (.region QG)) (fK (λi=>Bx l n o i) (λi=>h_.set o (.rows 1 (aN (fD n (l.take i).flatten)))) (λi=>i<=Z' l) (λi=>Z' l-i) (Z' l-i) (fE 0 (gH C (aI.wp C (.seq (.region QH) .ret)) (aW [.tmp 4] (cY (ints (dG f l)))))))))) .normal F H:=by
  intro F V H W;exact aF (k+1) A Om V (c_ a_ W)
 unfold rg Bx at fin;generalize hx:row[k]=x at *
 by_cases L:x>=0;by_cases R:x<(n:Nat);obtain⟨d,rfl⟩:∃d:Nat,x=d:=⟨x.toNat,by omega⟩;have y:d<n:=Om;have E:=qN (l:=fD n ((l.take i).flatten++row.take k)) (i:=d) (by rw[jK];exact y);rw[WQ _ y]at E;have X:((l.take i).flatten++row.take k).count (d:Int)<=16777216:=by refine aqX (List.count_le_length ..) ?_;rw[apV,aqF];omega
 have K:=qq ((l.take i).flatten++row.take k) y;rw[<-D]at K;have hw:i_.wrap (((((l.take i).flatten++row.take k).count (d:Int):Nat):Int)+1)=((((l.take i).flatten++row.take k).count (d:Int):Nat):Int)+1:=wrap_i64 Om Om;simp only[go_sem,e,B,L,R,aqA,E,hw,iZ,K,wZz k];exact fin _ Lq _ Sq;have w:=GG (n:=n) ((l.take i).flatten++row.take k) (x:=x) Om;simp only[go_sem,e,B,L,R,wZz k];exact fin _ Lq _ (by rw[D,w];simp only[go_sem]);have w:=GG (n:=n) ((l.take i).flatten++row.take k) (x:=x) Om;simp only[go_sem,e,B,L,wZz k];exact fin _ Lq _ (by rw[D,w];simp only[go_sem]);have e:¬(k:Int)<(Z' row:Nat):=Om;have:k=Z' row:=Om;subst this;simp only[go_sem,e,QG,wZz i,aqO];refine aF (i+1) hlt Om ?_ ?_;exact Lq;refine c_ a_ ?_;rw[J];simp only[go_sem];have u:¬(i:Int)<(Z' l:Nat):=Om;have:i=Z' l:=Om;subst this;simp only[go_sem,u,QH,aqO];exact bK (vs:=[.osl o 1 0 n]) (.inr rfl) _ Sq b_ (.inr ⟨o,by unfold dG;rw[jK,S];rfl,by unfold dG;rw[S]⟩)
structure iy(C:Ctx):Prop extends I5 C where
 room:∀(f:aB)(room:I_),f.Ok->aJ C 152 [.agg f.cells,ints room] .nil (aL (ints (qG f room)))
 loads:∀(f:aB)(l:L2_),Z' f.aoC<=24->iO l->aJ C 157 [.agg f.cells,lay l] .nil (BC (dG f l))
def uJ(f:aB)(l:L2_):I_:=if cP f then dG f l else[]
theorem Rv(L:iy C)(f:aB)(i:f.Ok)(l:L2_)(u:iO l) :
  ZO.wp C (aW np.res (BC (uJ f l))) (g_ [.agg f.cells,lay l]) .nil:=by
 simp only[go_sem,ZO,np];refine aD (L.valid f i) Ev ?_;unfold uJ;cases y:cP f with
 |false =>simp only[go_sem,aqI];exact bK (vs:=[.aG]) (.inr rfl) .nil Sq a_ (.inl ⟨rfl,rfl,rfl⟩)
 |true =>have hV:=VF.of y;simp only[go_sem,aqC];refine .inl ⟨_,.nil,_,Ev,a_,L.loads f l hV.small.aoC u,λr H' e _=>?_⟩;simp only[go_sem];exact bK (vs:=[r]) (.inr rfl) H' Sq (λo x w=>by rw[iN,w]) e
structure jH where
 kind:Int
 vol:Int
 wher:Int
abbrev jH.cells(x:jH):V_:=[.int .i64 x.kind,.int .i64 x.vol,.int .i64 x.wher]
abbrev KT(l:List jH):PV:=.sl 3 (l.map jH.cells)
def gL(p:Int->Bool):I_->Nat->O_
 |[],_=>none
 |x::t,i=>if p x then some i else gL p t (i+1)
def kZ(f:aB)(d:Int):Bool:=decide (d < -1)||decide (d>=(Z' f.aoC:Nat))
def sZ(f:aB)(l:L2_)(v:Nat):Option jH:=
 if((l.getD v []).length:Int)=kW f v then(gL (kZ f) (l.getD v []) 0).map λ(i:Nat)=>⟨1,v,i⟩else some ⟨1,v,((l.getD v []).length:Nat)⟩
def shV:Option jH->PV
 |some x=>.tup [.agg x.cells,.bool true]
 |none=>.tup [.agg [.int .i64 0,.int .i64 0,.int .i64 0],.bool false]
def Xa(f:aB)(o:Nat)(v:Nat)(row:I_)(k:Nat):PF:=((((((n_.set 2 (.int .i64 v)).set 3 (.aU f.cells)).set 6 (.ptr o 3 0 0)).set 29 (ints row)).set 30 (.int .i64 (Z' row:Nat))).set 31 (.int .i64 k))
theorem R5(L:iy C)(f:aB)(hV:VF f)(l:L2_)(O:iO l)(v:Nat)(D:v<Z' l)(E:v<Z' f.aoE) :
  ZR.wp C (aW MH.res (cY (shV (sZ f l v)))) (g_ [.agg f.cells,lay l,.j v]) .nil:=by
 have B:(l.map λr=>[ints r])[v]?=some [ints l[v]]:=by simp[D]
 have N:l.getD v []=l[v]:=by simp[apY,D]
 have R:(l[v]).length<=16777216:=by have J:=GK l (v+1);have:=O.all;rw[yC l D,apV]at J;omega
 unfold sZ;rw[N];simp only[go_sem,ZR];refine aQ λo U=>?_;simp only[go_sem];refine bE .nil (toS f) a_ ?_;generalize l[v]=row at *
 have fin:∀(x:jH)(F:PF)(H:PH),F 6=some (.ptr o 3 0 0)->F 7=some (.bool true)->H o=some (.rows 3 [x.cells])->aW MH.res (cY (shV (some x))) .ret F H:=by intro x F H K h7 M;refine bK (.inr rfl) .nil (vs:=[.agg x.cells,.bool true]) ?_ a_ ⟨.refl _,rfl⟩;simp only[go_sem,MH,K,h7,M]
 simp only[go_sem,B,apP];refine cM (W6 f v) (L.bu f v hV E) rfl a_ ?_;by_cases c:(Z' row:Int)=kW f v;rw[aE c];simp only[go_sem,bW c,B,apP];refine wp_loop (α:=Nat) (λk=>Xa f o v row k) (λk=>h_.set o (.rows 3 [[.j 0,.j 0,.j 0]])) (λk=>k<=Z' row/\gL (kZ f) row 0=gL (kZ f) (row.drop k) k) (λk=>Z' row-k) 0 ⟨apR _,rfl⟩ ?_ b_ ?_;unfold Xa;exact lM;rintro k ⟨S,hb⟩;simp only[go_sem,Xa];by_cases hlt:k<Z' row;have e:(k:Int)<(Z' row:Nat):=Om;have u:(row.map λn=>[PV.int .i64 n])[k]?=some [.j row[k]]:=by simp[hlt]
 have A:gL (kZ f) (row.drop k) k=if kZ f row[k]then some k else gL (kZ f) (row.drop (k+1)) (k+1):=by rw[asI hlt,gL]
 rw[A]at hb;by_cases w:row[k] < -1;have i:kZ f row[k]=true:=by simp[kZ,w]
 rw[i]at hb;simp only[go_sem,e,u,w];rw[hb];exact fin ⟨1,v,k⟩ _ _ rfl rfl Sq;by_cases y:row[k]>=(Z' f.aoC:Nat);have i:kZ f row[k]=true:=by simp[kZ,y]
 rw[i]at hb;simp only[go_sem,e,u,w,apP,y];rw[hb];exact fin ⟨1,v,k⟩ _ _ rfl rfl Sq;have i:kZ f row[k]=false:=by simp[kZ];omega
 rw[i]at hb;simp only[go_sem,e,u,w,apP,y,wZz k];refine aF (k+1) ⟨hlt,hb⟩ Om ?_ b_;exact Lq;have e:¬(k:Int)<(Z' row:Nat):=Om;have:k=Z' row:=Om;subst this;rw[List.drop_length,gL]at hb;simp only[go_sem,e];rw[hb];refine bK (.inr rfl) .nil (vs:=[.agg [.j 0,.j 0,.j 0],.bool false]) ?_ a_ ⟨.refl _,rfl⟩;simp only[go_sem,MH];rw[aC c];simp only[go_sem,cX c,B,apP];exact fin ⟨1,v,(Z' row:Nat)⟩ _ _ rfl rfl Sq
structure Nw(C:Ctx):Prop extends iy C where
 shape:∀(f:aB)(l:L2_) (v:Nat),VF f->iO l->v<Z' l->v<Z' f.aoE->aJ C 160 [.agg f.cells,lay l,.int .i64 v] .nil (aL (shV (sZ f l v)))
section
variable {C:Ctx} {F:PF} {H:PH}
theorem AD{name:Nat}{vs cs:V_}{r:PV}{i:PH}{args:List aP}{d:O_}{K:K_}(h:aJ C name (vs++cs) i (λr' H'=>r'=r/\H'=i))(l:aP.evs F args=some vs)(e:i.le H)
  (u:K (F.put d r) H):jX C name args cs d K F H:=by
 refine .inl ⟨vs++cs,i,_,by rw[l];rfl,e,h,?_⟩;rintro r' H' ⟨rfl,rfl⟩ -;rw[PH.over_self _ e];exact u
theorem bA.ne{s s':Nat}{v:PV}{rows:P2_}{o:Nat}{y:P2_}(h:bA H s v rows)(w:H o=some (.rows s' y))(x:s≠s'):∀l,v≠.osl o s 0 l:=by
 intro l e;rcases h with⟨_,i⟩|⟨q,rs,h1,i,_⟩
 rw[i]at e;cases e;rw[h1]at e;injection e with u
 subst u;rw[w]at i;injection i with i
 injection i with i
 exact x i.symm
theorem bA.set{s s':Nat}{v:PV}{rows:P2_}{o:Nat}{y:P2_}{x:aR}(h:bA H s v rows)(u:H o=some (.rows s' y))(w:s≠s'):bA (H.set o x) s v rows:=by
 have l:=h.ne u w;rcases h with⟨e,i⟩|⟨q,rs,e,i,h3,h4⟩
 exact .inl ⟨e,i⟩;refine .inr ⟨q,rs,e,?_,h3,h4⟩;have:q≠o:=by rintro rfl;exact l _ e
 simp only[aM,aC this,i]
def Dis(s:Nat)(v u:PV):Prop:=∀q l e i,v=.osl q s 0 l->u=.osl e s 0 i->q≠e
theorem Dis.nil{s:Nat}:Dis s .aG .aG:=λ_ _ _ _ h=>by cases h
theorem Dis.symm{s:Nat}{v u:PV}(h:Dis s v u):Dis s u v:=λq l x w e i=>(h x w q l i e).symm
theorem pV{s b:Nat}{v u y:PV}{rows rows' src:P2_}{K:R_}(h:bA H s v rows)(L:bA H s u rows')(N:Dis s v u)(V:dH H s y=some src)(U:roomFor rows.length src.length b)
  (O:∀v' H',bA H' s v' (rows++src)->bA H' s u rows'->Dis s v' u->(∀o s' z,s≠s'->H o=some (.rows s' z)->H' o=some (.rows s' z))->K v' H'):kM H s b v y K:=by
 have A:∀{H':PH}{t:PV}{r:P2_},bA H s t r->(∀o x,H o=some x->(∀l,t=.osl o s 0 l->False)\/H' o=some x)->bA H' s t r:=by
  intro H' t r Y hp;rcases Y with⟨a,b⟩|⟨q,rs,a,b,c,d⟩
  exact .inl ⟨a,b⟩;refine .inr ⟨q,rs,a,?_,c,d⟩;rcases hp q _ b with e|e
  exact(e _ a).elim;exact e
 have w:∀{o:Nat}{x:aR},H o=none->H o=some x->False:=λa b=>by rw[a]at b;cases b
 have M:∀{o:Nat}{l:Nat},u=.osl o s 0 l->∃x,H o=some x:=by
  intro o l e;rcases L with⟨a,b⟩|⟨q,rs,a,b,c,d⟩
  rw[b]at e;cases e;rw[a]at e;injection e with e;subst e;exact⟨_,b⟩
 rcases h with⟨rfl,rfl⟩|⟨q,rs,rfl,h1,h2,h3⟩
 refine⟨src,V,U,λe=>?_,λe o J=>?_⟩;subst e;exact O _ _ (.inl ⟨rfl,rfl⟩) L N λo s' z _ i=>i;refine O _ _ (.inr ⟨o,src,rfl,by simp only[aM,if_true],apU _,by simp⟩) (A L λo' x D=>.inr ?_) ?_ λo' s' z _ i=>?_;have:o'≠o:=by rintro rfl;exact w J D
 simp only[aM,aC this,D];intro q l X W B e2;injection B with B
 subst B;rintro rfl;obtain⟨x,D⟩:=M e2;exact w J D;have:o'≠o:=by rintro rfl;exact w J i
 simp only[aM,aC this,i];have E:(rows++src).length=Z' rows+Z' src:=apV;refine⟨src,V,rfl,rfl,U,rs,h1,h2,?_,λo J=>?_⟩;rw[h3];refine O _ _ (.inr ⟨q,rows++src,by rw[E],by simp only[aM,if_true],apU _,aqO⟩) (A L λo' x D=>?_) ?_ λo' s' z S i=>?_;by_cases e:o'=q;exact .inl λl R=>N q _ o' l rfl R e.symm;exact .inr (by simp only[aM,aC e,D]);intro Z l X W B e2;injection B with B
 subst B;exact N _ _ _ _ rfl e2;have:o'≠q:=by
  rintro rfl;rw[h1]at i;injection i with i
  injection i with i
  exact S i
 simp only[aM,aC this,i];rw[h3];refine O _ _ (.inr ⟨o,rows++src,by rw[E],by simp only[aM,if_true],apU _,aqO⟩) (A L λo' x D=>?_) ?_ λo' s' z S i=>?_;by_cases e:o'=q;exact .inl λl R=>N q _ o' l rfl R e.symm;have e2:o'≠o:=by rintro rfl;exact w J D
 exact .inr (by simp only[aM,aC e,aC e2,D]);intro Z l X W B e2;injection B with B
 subst B;rintro rfl;obtain⟨x,D⟩:=M e2;exact w J D;have B:o'≠q:=by
  rintro rfl;rw[h1]at i;injection i with i
  injection i with i
  exact S i
 have e2:o'≠o:=by rintro rfl;exact w J i
 simp only[aM,aC B,aC e2,i]
end
abbrev dP(l:List jH):P2_:=l.map jH.cells
def cB(kind v:Int)(n:Nat)(p:Nat->Bool):List jH:=((apQ n).filter p).map λ(i:Nat)=>⟨kind,v,i⟩
theorem jO(kind v:Int)(n:Nat)(p:Nat->Bool):cB kind v (n+1) p=if p n then cB kind v n p++[⟨kind,v,n⟩]else cB kind v n p:=by
 unfold cB;rw[arV,List.filter_append,aqP];by_cases h:p n;rw[aE h];simp[h];rw[aC h];simp[h]
theorem eZ(kind v:Int)(n:Nat)(p:Nat->Bool):(cB kind v n p).length<=n:=by
 unfold cB;rw[apP];exact aqX (auH _ _) aX
theorem iM(l:List jH):(dP l).length=Z' l:=by simp[dP]
theorem lN(l:List jH)(x:jH):dP l++[x.cells]=dP (l++[x]):=by simp[dP]
def Cs(o5:Nat)(v:Nat):PH:=h_.set o5 (.rows 1 [[.int .i64 v]])
theorem R7(o5 v:Nat)(k w:Int):ZT.wp C (aW n6.res (λr H'=>r=.agg [.j k,.j v,.j w]/\H'=Cs o5 v)) (g_ [.j k,.j w,.ptr o5 1 0 0]) (Cs o5 v):=by
 simp only[go_sem,ZT,Cs];refine aQ λo i=>?_;have e:o5≠o:=by rintro rfl;simp only[aM,if_true]at i;cases i
 simp only[go_sem,e];refine bK (.inr rfl) (h_.set o5 (.rows 1 [[.j v]])) (vs:=[.agg [.j k,.j v,.j w]]) ?_ (c_ a_ ?_) ⟨rfl,rfl⟩;simp only[go_sem,n6];simp only[go_sem,e]
def jR(f:aB)(i:Nat)(d:Int):Bool:=decide (0<=d)&&decide (cL f d.toNat (lvl f i)=i)
def fN(f:aB)(xs:I_)(i:Nat):Int:=if i=0 then 0 else((xs.countP (jR f i):Nat):Int)
def eT(f:aB)(xs:I_):I_:=(apQ f.aoF.length).map (fN f xs)
def pC(f:aB)(xs:I_)(d:Nat)(k:Nat):I_:=(apQ f.aoF.length).map λi=>if 4-(k:Int)<lvl f i then fN f (xs++[(d:Int)]) i else fN f xs i
theorem Ts(f:aB)(xs:I_)(d k:Nat):(pC f xs d k).length=Z' f.aoF:=by simp[pC]
theorem BZ(f:aB)(xs:I_):(eT f xs).length=Z' f.aoF:=by simp[eT]
theorem VF.kQ{f:aB}(h:VF f){i:Nat}(hi:i<Z' f.aoF):0<=lvl f i/\lvl f i<=4/\(lvl f i=0↔i=0):=by
 rcases arZ i with e|e
 subst e;rw[h.root.2.1];simp;have:=h.dom i e hi;omega
theorem tj{f:aB}(h:VF f)(xs:I_)(d:Nat):pC f xs d 0=eT f xs:=by
 refine asJ (by simp[pC,eT]) λi l e=>?_;simp only[pC,eT,arI,auG];have hi:i<Z' f.aoF:=by simpa[eT]using e
 have:=h.kQ hi;rw[aC Om]
theorem ti{f:aB}(h:VF f)(xs:I_)(d:Nat):pC f xs d 4=eT f (xs++[(d:Int)]):=by
 refine asJ (by simp[pC,eT]) λi u l=>?_;simp only[pC,eT,arI,auG];have hi:i<Z' f.aoF:=by simpa[eT]using l
 have:=h.kQ hi;by_cases e:i=0;subst e;rw[aC Om];simp[fN];rw[aE Om]
theorem ID(f:aB)(xs:I_)(d:Nat){i:Nat}(hi:i≠0):fN f (xs++[(d:Int)]) i=fN f xs i+if cL f d (lvl f i)=i then 1 else 0:=by
 unfold fN;rw[aC hi,aC hi,atW];by_cases h:cL f d (lvl f i)=i;rw[aE h];simp[jR,h];rw[aC h];simp[jR,h]
theorem G2{f:aB}(h:VF f)(xs:I_){d:Nat}(A:d<Z' f.aoC){k:Nat}(E:k<4) :
  (pC f xs d k)[upN f k (cD f d)]?=some (fN f xs (upN f k (cD f d))) /\
  (pC f xs d k).set (upN f k (cD f d)) (fN f xs (upN f k (cD f d))+1)=pC f xs d (k+1):=by
 obtain⟨B,x⟩:=wS h A (k:=k) Om;constructor;simp only[pC,aqE,arU B,aqK];rw[aC Om];refine asJ (by simp[pC]) λi D y=>?_;have hi:i<Z' f.aoF:=by simpa[pC]using y
 simp only[pC,List.getElem_set,arI,auG];have J:=h.kQ hi;by_cases e:upN f k (cD f d)=i;rw[aE e];subst e;rw[aE Om];have l:upN f k (cD f d)≠0:=by intro e;rw[e,h.root.2.1]at x;omega
 rw[ID f xs d l,cL,x];have:4-(4-(k:Int)).toNat=k:=Om;rw[this,aE rfl];rw[aC e];by_cases c:4-(k:Int)<lvl f i;rw[aE c,aE Om];rw[aC c];by_cases u:4-((k+1:Nat):Int)<lvl f i;rw[aE u];have w:lvl f i=4-(k:Int):=Om;have l:i≠0:=by intro e;subst e;rw[h.root.2.1]at w;omega
 rw[ID f xs d l,cL,w];have:4-(4-(k:Int)).toNat=k:=Om;rw[this,aC e];simp;rw[aC u]
theorem G1(f:aB)(xs:I_)(i:Nat):0<=fN f xs i/\fN f xs i<=Z' xs:=by
 unfold fN;have:=List.countP_le_length (p:=jR f i) (l:=xs);split<;>omega
structure LA(C:Ctx):Prop extends Nw C where
 bad:∀(o5 v:Nat)(k w:Int),aJ C 159 [.int .i64 k,.int .i64 w,.ptr o5 1 0 0] (Cs o5 v) (λr H'=>r=.agg [.int .i64 k,.int .i64 v,.int .i64 w]/\H'=Cs o5 v)
structure Obs where
 o5:Nat
 o7:Nat
 o8:Nat
 oD:Nat
 oB:Nat
structure Obs.Ne(o:Obs):Prop where
 a1:o.o5≠o.oD
 a2:o.o5≠o.oB
 a3:o.o7≠o.oD
 a4:o.o7≠o.oB
 a5:o.o8≠o.oD
 a6:o.o8≠o.oB
 a7:o.oD≠o.oB
structure nA(H:PH)(o:Obs)(v:Nat)(p:bY)(A:List Bool)(D B:I_):Prop where
 h5:H o.o5=some (.rows 1 [[.int .i64 v]])
 h7:H o.o7=some (.rows 17 [p.cells])
 h8:H o.o8=some (.rows 1 (dE A))
 hD:H o.oD=some (.rows 1 (aN D))
 hB:H o.oB=some (.rows 1 (aN B))
theorem nA.keep{H H':PH}{o:Obs}{v:Nat}{p:bY}{A:List Bool}{D B:I_}(h:nA H o v p A D B)(e:∀q s' z,3≠s'->H q=some (.rows s' z)->H' q=some (.rows s' z)):nA H' o v p A D B:=
 ⟨e _ _ _ aT h.h5,e _ _ _ aT h.h7,e _ _ _ aT h.h8,e _ _ _ aT h.hD,e _ _ _ aT h.hB⟩
theorem nA.amR{H:PH}{o:Obs}{v:Nat}{p:bY}{A:List Bool}{D B:I_}(h:nA H o v p A D B)(e:o.Ne)(B':I_):nA (H.set o.oB (.rows 1 (aN B'))) o v p A D B':=
 ⟨by simp only[aM,aC e.a2,h.h5],by simp only[aM,aC e.a4,h.h7],by simp only[aM,aC e.a6,h.h8],by simp only[aM,aC e.a7,h.hD],by simp only[aM,if_true]⟩
theorem nA.amS{H:PH}{o:Obs}{v:Nat}{p:bY}{A:List Bool}{D B:I_}(h:nA H o v p A D B)(e:o.Ne)(i:I_):nA (H.set o.oD (.rows 1 (aN i))) o v p A i B:=
 ⟨by simp only[aM,aC e.a1,h.h5],by simp only[aM,aC e.a3,h.h7],by simp only[aM,aC e.a5,h.h8],by simp only[aM,if_true],by simp only[aM,aC (Ne.symm e.a7),h.hB]⟩
def oL(f:aB)(o:Obs)(e i:PV)(row:I_)(k:Nat):PF:=
 ((((((((((((n_.set 3 (.aU f.cells)).set 5 (.ptr o.o5 1 0 0)).set 7 (.ptr o.o7 17 0 0)).set 8 (.osl o.o8 1 0 f.aoD.length)).set 11 (.fn 159 [.ptr o.o5 1 0 0])).set 12 (e)).set 13 (i)).set 14 (.osl o.oD 1 0 f.aoC.length)).set 15 (.osl o.oB 1 0 f.aoF.length)).set 62 (ints row)).set 63 (.int .i64 (Z' row:Nat))).set 64 (.int .i64 k))
def Ly(f:aB)(o:Obs)(e i:PV)(row:I_)(k:Nat)(at_:Nat):PF:=
 (((((((((((((n_.set 3 (.aU f.cells)).set 5 (.ptr o.o5 1 0 0)).set 7 (.ptr o.o7 17 0 0)).set 8 (.osl o.o8 1 0 f.aoD.length)).set 11 (.fn 159 [.ptr o.o5 1 0 0])).set 12 (e)).set 13 (i)).set 14 (.osl o.oD 1 0 f.aoC.length)).set 15 (.osl o.oB 1 0 f.aoF.length)).set 62 (ints row)).set 63 (.int .i64 (Z' row:Nat))).set 64 (.int .i64 k)).set 18 (.int .i64 at_))
theorem afC(f:aB)(hV:VF f)(o:Obs)(hn:o.Ne)(v:Nat)(p:bY)(A:List Bool)(D:I_)(i l:PV)(u w:P2_)(row:I_)(k:Nat)(xs:I_)(β:Z' xs<=16777216)(d:Nat)(U:d<Z' f.aoC)(K:bT)(F:PF)(H:PH)
  (W:(Ly f o i l row k (cD f d)).le F) (X:nA H o v p A D (eT f xs)) (J:bA H 3 i u) (L:bA H 3 l w)
  (Y:∀S H',(oL f o i l row k).le S->nA H' o v p A D (eT f (xs++[(d:Int)]))->bA H' 3 i u->bA H' 3 l w->K .normal S H') :
  aI.wp C (.block 4 (.loop JK)) K F H:=by
 simp only[go_sem];refine wp_loop (α:=Nat × PH) (λt=>Ly f o i l row k (upN f t.1 (cD f d))) (λt=>t.2) (λt=>t.1<=4/\nA t.2 o v p A D (pC f xs d t.1)/\bA t.2 3 i u/\bA t.2 3 l w) (λt=>4-t.1) (0,H) ⟨apR _,by rw[tj hV];exact X,J,L⟩ (by rw[upN];exact W) b_ ?_;rintro⟨j,H0⟩ ⟨V,B,x,y⟩;simp only at V B x y ⊢;obtain⟨E,u2⟩:=wS hV U (k:=j) V;simp only[go_sem,JK,Ly];by_cases hlt:j<4;have R:0<upN f j (cD f d):=by
  rcases arZ (upN f j (cD f d))with e|e
  rw[e,hV.root.2.1]at u2;omega;exact e
 have N:((upN f j (cD f d):Nat):Int)>0:=Om;obtain⟨b1,b2⟩:=G2 hV xs U hlt;have M:(aN (pC f xs d j))[upN f j (cD f d)]?=some [.j (fN f xs (upN f j (cD f d)))]:=by unfold aN;rw[aqE,b1];rfl
 have Z:=G1 f xs (upN f j (cD f d));have hw:i_.wrap (fN f xs (upN f j (cD f d))+1)=fN f xs (upN f j (cD f d))+1:=wrap_i64 Om Om;have O:((upN f j (cD f d):Nat):Int)<(Z' f.aoF:Nat):=Om;simp only[go_sem,N,O,aqA,B.hB,M,hw,iZ,b2,gD E,MA E,hV.MB R E];refine aF (j+1,_) ⟨hlt,B.amR hn _,x.set B.hB aT,y.set B.hB aT⟩ sO_ ?_ b_
 (repeat' (first|exact d_|refine e_ ?_ ?_))<;>first|(simp only[go_sem,upN]<;>rfl)|rfl
 have:j=4:=Om;subst this;have h0:upN f 4 (cD f d)=0:=by have:=hV.kQ E;omega
 have N:¬((upN f 4 (cD f d):Nat):Int)>0:=Om;simp only[go_sem,N];rw[ti hV]at B;refine Y _ _ ?_ B x y;unfold oL;exact Lq
structure BD(f:aB)(row:I_):Prop where
 len:Z' row<=16777216
 at_:∀x∈row,-1<=x/\x<(Z' f.aoC:Nat)
def home(row:I_)(i:Nat):Bool:=decide (row.getD i 0<0)
def dS(f:aB)(p:bY)(row:I_)(i:Nat):Bool:=decide (0<=row.getD i 0)&&!p.aoD.contains ((mdl f (row.getD i 0).toNat:Nat):Int)
theorem Oi(f:aB)(xs:I_){x:Int}(h:x<0):eT f (xs++[x])=eT f xs:=by
 refine asJ (by simp[eT]) λi e l=>?_;simp only[eT,arI,auG,fN,atW];have:jR f i x=false:=by simp[jR];omega
 simp[this]
theorem Wg(L:LA C)(f:aB)(hV:VF f)(o:Obs)(hn:o.Ne)(v:Nat)(p:bY)(hp:∀m∈p.aoD,0<=m/\m<Z' f.aoD)(row:I_)(hr:BD f row)(K:bT)(F:PF)(H:PH)
  (V:(oL f o .aG .aG row 0).le F) (hH:nA H o v p (marks f.aoD.length p.aoD) (fD f.aoC.length []) (eT f []))
  (hK:∀y D F' H',(oL f o y D row row.length).le F'->nA H' o v p (marks f.aoD.length p.aoD) (fD f.aoC.length row) (eT f row)->bA H' 3 y (dP (cB 2 v row.length (home row)))->bA H' 3 D (dP (cB 4 v row.length (dS f p row)))->Dis 3 y D->K (.exit 2) F' H') :
  aI.wp C (.loop yL) K F H:=by
 obtain⟨σ,ξ⟩:=hr;refine wp_loop (α:=Nat × PV × PV × PH) (λt=>oL f o t.2.1 t.2.2.1 row t.1) (λt=>t.2.2.2)
  (λt=>t.1<=Z' row/\nA t.2.2.2 o v p (marks f.aoD.length p.aoD) (fD f.aoC.length (row.take t.1)) (eT f (row.take t.1))/\bA t.2.2.2 3 t.2.1 (dP (cB 2 v t.1 (home row)))/\bA t.2.2.2 3 t.2.2.1 (dP (cB 4 v t.1 (dS f p row)))/\Dis 3 t.2.1 t.2.2.1)
  (λt=>Z' row-t.1) (0,.aG,.aG,H) ⟨apR _,by rw[asO];exact hH,.nil,.nil,.nil⟩ V b_ ?_
 rintro⟨k,y,D,H0⟩ ⟨hk,J,M,N,hd⟩;simp only at hk J M N hd ⊢;by_cases hlt:k<Z' row;have A:(k:Int)<(Z' row:Nat):=Om;have X:(row.map λn=>[PV.int .i64 n])[k]?=some [.j row[k]]:=by simp[hlt]
 have hg:row.getD k 0=row[k]:=by simp[apY,hlt]
 have ζ:row.take (k+1)=row.take k++[row[k]]:=arB hlt;have hx:=ξ row[k] (apW hlt);have e2:=jO 2 v k (home row);have Y:=jO 4 v k (dS f p row);have hh:home row k=decide (row[k]<0):=by rw[home,hg]
 have Z:dS f p row k=(decide (0<=row[k])&&!p.aoD.contains ((mdl f (row[k]).toNat:Nat):Int)):=by rw[dS,hg]
 have l2:=eZ 2 v k (home row);have l4:=eZ 4 v k (dS f p row);have fin:∀B e (F:PF) (E:PH),(oL f o B e row (k+1)).le F->nA E o v p (marks f.aoD.length p.aoD) (fD f.aoC.length (row.take (k+1))) (eT f (row.take (k+1)))->bA E 3 B (dP (cB 2 v (k+1) (home row)))->bA E 3 e (dP (cB 4 v (k+1) (dS f p row)))->Dis 3 B e ->
   fK (λ(t:Nat × PV × PV × PH)=>oL f o t.2.1 t.2.2.1 row t.1) (λt=>t.2.2.2)
    (λt=>t.1<=Z' row/\nA t.2.2.2 o v p (marks f.aoD.length p.aoD) (fD f.aoC.length (row.take t.1)) (eT f (row.take t.1))/\bA t.2.2.2 3 t.2.1 (dP (cB 2 v t.1 (home row)))/\bA t.2.2.2 3 t.2.2.1 (dP (cB 4 v t.1 (dS f p row)))/\Dis 3 t.2.1 t.2.2.1)
    (λt=>Z' row-t.1) (Z' row-k) K .normal F E:=
  λB e F E V J h1 h2 h3=>aF (α:=Nat × PV × PV × PH) (k+1,B,e,E) ⟨hlt,J,h1,h2,h3⟩ sO_ V b_
 generalize τ:row[k]=x at *
 by_cases c:x<0;have o1:=GG (n:=Z' f.aoC) (row.take k) (x:=x) Om;have o2:=Oi f (row.take k) c;rw[ζ,o1,o2]at fin;rw[aE (by rw[hh];simp[c])]at e2;rw[aC (by rw[Z];simp;omega)]at Y;rw[e2,Y]at fin;simp only[go_sem,yL,oL,A,X,c];refine AD (vs:=[.j 2,.j k]) (L.bad o.o5 v 2 k) Sq (c_ a_ J.h5) ?_;have O:(1:Nat)*3<=16777216:=by decide
 simp only[go_sem,O];refine pV (src:=[(⟨2,v,k⟩:jH).cells]) M N hd Sq (by unfold roomFor;rw[iM];simp only[aqH,maxLen];omega) λv' H' g1 g2 g3 g4=>?_;rw[lN]at g1;unfold oL at fin;simp only[go_sem,JL,wZz k];exact fin v' D _ H' Lq (J.keep g4) g1 g2 g3
 ·obtain⟨d,rfl⟩:∃d:Nat,x=d:=⟨x.toNat,by omega⟩;have w:d<Z' f.aoC:=Om;have ε:(d:Int)<(Z' f.aoC:Nat):=Om;obtain⟨w1,w2,w3,w4,w5⟩:=hV.drive d w;have c0:(0:Int)<=(d:Int):=Om;rw[aC (by rw[hh];simp)]at e2;rw[aZ c0,aqL,arP]at Z;have ρ:(row.take k).count (d:Int)<=16777216:=aqX (List.count_le_length ..) (by rw[aqF];omega);have hw:i_.wrap ((((row.take k).count (d:Int):Nat):Int)+1)=(((row.take k).count (d:Int):Nat):Int)+1:=wrap_i64 Om Om;have U:=qN (l:=fD f.aoC.length (row.take k)) (i:=d) (by rw[jK];exact w);rw[WQ _ w]at U;have δ:=qq (row.take k) w;have ο:(row.take k).length<=16777216:=by rw[aqF];omega
  rw[e2,ζ]at fin;have tail:∀e (F:PF) (E:PH),(oL f o y e row k).le F->F 17=some (.j d)->nA E o v p (marks f.aoD.length p.aoD) (fD f.aoC.length (row.take k)) (eT f (row.take k))->bA E 3 y (dP (cB 2 v k (home row)))->bA E 3 e (dP (cB 4 v (k+1) (dS f p row)))->Dis 3 y e ->
    aI.wp C (.seq (.region VK) (.seq (.region VL) (.block 4 (.loop JK)))) (fE 3 (gH C (aI.wp C (.region JL)) (fK (λ(t:Nat × PV × PV × PH)=>oL f o t.2.1 t.2.2.1 row t.1) (λt=>t.2.2.2)
    (λt=>t.1<=Z' row/\nA t.2.2.2 o v p (marks f.aoD.length p.aoD) (fD f.aoC.length (row.take t.1)) (eT f (row.take t.1))/\bA t.2.2.2 3 t.2.1 (dP (cB 2 v t.1 (home row)))/\bA t.2.2.2 3 t.2.2.1 (dP (cB 4 v t.1 (dS f p row)))/\Dis 3 t.2.1 t.2.2.1)
    (λt=>Z' row-t.1) (Z' row-k) K))) F E:=by
   intro e F E V η R ι κ gd;have f3:F 3=some (.aU f.cells):=V 3 _ (by unfold oL;simp only[go_sem]);have f14:F 14=some (.osl o.oD 1 0 f.aoC.length):=V 14 _ (by unfold oL;simp only[go_sem]);simp only[go_sem,VK,f14,η,ε,aqA,R.hD,U,hw,iZ,δ,VL,f3,kE w,hV.FC w];have up:=afC (C:=C) f hV o hn v p (marks f.aoD.length p.aoD) (fD f.aoC.length (row.take k++[(d:Int)])) y e (dP (cB 2 v k (home row))) (dP (cB 4 v (k+1) (dS f p row))) row k (row.take k) ο d w;simp only[aI.wp,go_sem]at up;refine up _ _ _ ?_ (R.amS hn _) (ι.set R.hD aT) (κ.set R.hD aT) ?_;have g:=λ(q:Nat) u h=>V q u h;unfold oL at g;unfold Ly;refine e_ (e_ (e_ (e_ (e_ (e_ (e_ (e_ (e_ (e_ (e_ (e_ (e_ d_ ?_) ?_) ?_) ?_) ?_) ?_) ?_) ?_) ?_) ?_) ?_) ?_) ?_;simp only[go_sem];exact g 3 _ Sq;simp only[go_sem];exact g 5 _ Sq;simp only[go_sem];exact g 7 _ Sq;simp only[go_sem];exact g 8 _ Sq;simp only[go_sem];exact g 11 _ Sq;simp only[go_sem];exact g 12 _ Sq;simp only[go_sem];exact g 13 _ Sq;simp only[go_sem];exact g 14 _ Sq;simp only[go_sem];exact g 15 _ Sq;simp only[go_sem];exact g 62 _ Sq;simp only[go_sem];exact g 63 _ Sq;simp only[go_sem];exact g 64 _ Sq;simp only[go_sem];intro F' H' μ ν β γ;have g:=λ(q:Nat) u h=>μ q u h;unfold oL at g;have θ:F' 64=some (.j k):=g 64 _ Sq;simp only[go_sem,JL,θ,wZz k];refine fin y e _ H' ?_ ν β γ gd;unfold oL;refine e_ (e_ (e_ (e_ (e_ (e_ (e_ (e_ (e_ (e_ (e_ (e_ d_ ?_) ?_) ?_) ?_) ?_) ?_) ?_) ?_) ?_) ?_) ?_) ?_;simp only[go_sem];exact g 3 _ Sq;simp only[go_sem];exact g 5 _ Sq;simp only[go_sem];exact g 7 _ Sq;simp only[go_sem];exact g 8 _ Sq;simp only[go_sem];exact g 11 _ Sq;simp only[go_sem];exact g 12 _ Sq;simp only[go_sem];exact g 13 _ Sq;simp only[go_sem];exact g 14 _ Sq;simp only[go_sem];exact g 15 _ Sq;simp only[go_sem];exact g 62 _ Sq;simp only[go_sem];exact g 63 _ Sq;simp only[go_sem]
  simp only[aI.wp,go_sem]at tail;have W:((mdl f d:Nat):Int)<(Z' f.aoD:Nat):=Om;have S:(dE (marks f.aoD.length p.aoD))[mdl f d]?=some [.bool (p.aoD.contains ((mdl f d:Nat):Int))]:=by have:=xN (n:=Z' f.aoD) (l:=p.aoD) (m:=((mdl f d:Nat):Int)) Om W;rw[arP]at this;unfold dE;rw[aqE,this];rfl
  cases hb:p.aoD.contains ((mdl f d:Nat):Int)with
  |true =>rw[hb]at S Z;rw[aC (by rw[Z];simp)]at Y;rw[Y]at tail;simp only[go_sem,yL,oL,A,X,c,kE w,hV.CH w,W,aqA,J.h8,S,aqC];exact tail D _ H0 (by unfold oL;exact Lq) Sq J M N hd
  |false=>
   rw[hb]at S Z;rw[aE (by rw[Z];simp)]at Y;rw[Y]at tail;simp only[go_sem,yL,oL,A,X,c,kE w,hV.CH w,W,aqA,J.h8,S,aqI];refine AD (vs:=[.j 4,.j k]) (L.bad o.o5 v 4 k) Sq (c_ a_ J.h5) ?_;have O:(1:Nat)*3<=16777216:=by decide
   simp only[go_sem,O];refine pV (src:=[(⟨4,v,k⟩:jH).cells]) N M hd.symm Sq (by unfold roomFor;rw[iM];simp only[aqH,maxLen];omega) λv' H' g1 g2 g3 g4=>?_;rw[lN]at g1;exact tail v' _ H' (by unfold oL;exact Lq) Sq (J.keep g4) g2 g1 g3.symm
 have A:¬(k:Int)<(Z' row:Nat):=Om;have:k=Z' row:=Om;subst this;rw[aqO]at J;simp only[go_sem,yL,oL,A];exact hK y D _ _ (by unfold oL;exact Lq) J M N hd
def lJ(f:aB)(row:I_)(d:Nat):Bool:=decide ((fD f.aoC.length row).getD d 0>1)
def dR(f:aB)(p:bY)(i:Nat):Int:=p.spread (lvl f i).toNat
def mW(f:aB)(p:bY)(row:I_)(i:Nat):Bool:=decide (dR f p i>0)&&decide ((eT f row).getD i 0>dR f p i)
def tC(f:aB)(p:bY)(v:Nat)(row:I_):List jH:=
 cB 2 v row.length (home row)++cB 3 v f.aoC.length (lJ f row)++cB 4 v row.length (dS f p row)++cB 5 v f.aoF.length (mW f p row)
def PP(f:aB)(o:Obs)(e i:PV)(k:Nat):PF:=
 ((((((((((n_.set 3 (.aU f.cells)).set 5 (.ptr o.o5 1 0 0)).set 7 (.ptr o.o7 17 0 0)).set 11 (.fn 159 [.ptr o.o5 1 0 0])).set 13 (e)).set 15 (.osl o.oB 1 0 f.aoF.length)).set 19 (i)).set 121 (.osl o.oD 1 0 f.aoC.length)).set 122 (.int .i64 (Z' f.aoC:Nat))).set 123 (.int .i64 k))
def yh(f:aB)(o:Obs)(e:PV)(k:Nat):PF:=
 ((((((((n_.set 3 (.aU f.cells)).set 5 (.ptr o.o5 1 0 0)).set 7 (.ptr o.o7 17 0 0)).set 11 (.fn 159 [.ptr o.o5 1 0 0])).set 19 (e)).set 140 (.osl o.oB 1 0 f.aoF.length)).set 141 (.int .i64 (Z' f.aoF:Nat))).set 142 (.int .i64 k))
theorem Q4(L:LA C)(f:aB)(hV:VF f)(o:Obs)(v:Nat)(p:bY)(A:List Bool)(B:I_)(row:I_)(O:List jH)(β:Z' O<=16777216)(e y:PV)(D:P2_)(K:bT)(F:PF)(H:PH)
  (hF:(PP f o e y 0).le F) (hH:nA H o v p A (fD f.aoC.length row) B) (S:bA H 3 y (dP O)) (R:bA H 3 e D) (hd:Dis 3 y e)
  (hK:∀v' W H',(PP f o e v' f.aoC.length).le W->nA H' o v p A (fD f.aoC.length row) B->bA H' 3 v' (dP (O++cB 3 v f.aoC.length (lJ f row)))->bA H' 3 e D->Dis 3 v' e->K (.exit 6) W H') :
  aI.wp C (.loop VI) K F H:=by
 have hs:=hV.small.aoC;refine wp_loop (α:=T3_) (λt=>PP f o e t.2.1 t.1) (λt=>t.2.2) (λt=>t.1<=Z' f.aoC/\nA t.2.2 o v p A (fD f.aoC.length row) B/\bA t.2.2 3 t.2.1 (dP (O++cB 3 v t.1 (lJ f row)))/\bA t.2.2 3 e D/\Dis 3 t.2.1 e) (λt=>Z' f.aoC-t.1) (0,y,H)
  ⟨apR _,hH,by rw[show cB 3 v 0 (lJ f row)=[]from rfl,aqY];exact S,R,hd⟩ hF b_ ?_
 rintro⟨k,v',Z⟩ ⟨hk,E,u,x,N⟩;simp only at hk E u x N ⊢;simp only[go_sem,VI,PP];by_cases hlt:k<Z' f.aoC;have w:(k:Int)<(Z' f.aoC:Nat):=Om;have U:=qN (l:=fD f.aoC.length row) (i:=k) (by rw[jK];exact hlt);have V:(fD f.aoC.length row).getD k 0=(fD f.aoC.length row)[k]'(by rw[jK];exact hlt):=by rw[apY,apZ (by rw[jK];exact hlt)];rfl
 have M:=jO 3 v k (lJ f row);have X:lJ f row k=decide ((fD f.aoC.length row)[k]'(by rw[jK];exact hlt)>1):=by rw[lJ,V]
 have γ:=eZ 3 v k (lJ f row);simp only[go_sem,w,aqA,E.hD,U];by_cases c:(fD f.aoC.length row)[k]'(by rw[jK];exact hlt)>1;rw[aE (by rw[X];simp[c])]at M;simp only[go_sem,c];refine AD (vs:=[.j 3,.j k]) (L.bad o.o5 v 3 k) Sq (c_ a_ E.h5) ?_;have J:(1:Nat)*3<=16777216:=by decide
 simp only[go_sem,J];refine pV (src:=[(⟨3,v,k⟩:jH).cells]) u x N Sq (by unfold roomFor;rw[iM,apV];simp only[aqH,maxLen];omega) λv' H' Y k2 k3 k4=>?_;rw[lN,aqT,<-M]at Y;simp only[go_sem,wZz k];refine aF (k+1,v',H') ⟨hlt,E.keep k4,Y,k2,k3⟩ sO_ ?_ b_;exact Lq;rw[aC (by rw[X];simp;omega)]at M;rw[<-M]at u;simp only[go_sem,c,wZz k];refine aF (k+1,v',Z) ⟨hlt,E,u,x,N⟩ sO_ ?_ b_;exact Lq;have w:¬(k:Int)<(Z' f.aoC:Nat):=Om;have:k=Z' f.aoC:=Om;subst this;simp only[go_sem,w];exact hK v' _ _ (by unfold PP;exact Lq) E u x N
theorem Lz(f:aB)(hV:VF f)(o:Obs)(v:Nat)(p:bY)(A:List Bool)(D B:I_)(i:Nat)(hi:i<Z' f.aoF)(K:K_)(F:PF)(H:PH)
  (y:nA H o v p A D B) (x:F 3=some (.aU f.cells)) (f7:F 7=some (.ptr o.o7 17 0 0)) (l:F 22=some (.j i))
  (w:∀e:PF,e 24=some (.j (dR f p i))->(∀j,j<147->j≠24->e j=F j)->K e H):wpOps C VM K F H:=by
 obtain⟨L,Y,-⟩:=hV.kQ hi;have h5:((lvl f i)<((5:Nat):Int)):=Om;unfold dR at w;simp only[go_sem,VM,x,f7,l,gD hi,zF hi,L,h5,Nat.mul_one];have E:lvl f i=0\/lvl f i=1\/lvl f i=2\/lvl f i=3\/lvl f i=4:=Om;have fin:∀(e:PF),e 24=some (.j (p.spread (lvl f i).toNat))->(∀j,j<147->j≠24->e j=F j)->K e H:=w;have low:∀(j:Nat),j<147->j≠147/\j≠148/\j≠149/\j≠150/\j≠151/\j≠152/\j≠153/\j≠154/\j≠155:=Om;rcases E with h|h|h|h|h
 all_goals
  rw[h]at fin ⊢;simp only[go_sem,y.h7];refine fin _ (by simp only[go_sem];rfl) λj J u=>?_;obtain⟨M,N,O,R,S,U,V,W,X⟩:=low j J;simp only[go_sem,u,M,N,O,R,S,U,V,W,X]
theorem Q3(L:LA C)(f:aB)(hV:VF f)(o:Obs)(v:Nat)(p:bY)(A:List Bool)(D:I_)(row:I_)(Y:List jH)(ε:Z' Y<=100000000)(R:PV)(K:bT)(F:PF)(H:PH)
  (hF:(yh f o R 0).le F) (hH:nA H o v p A D (eT f row)) (β:bA H 3 R (dP Y))
  (hK:∀v' F' H',F' 19=some v'->bA H' 3 v' (dP (Y++cB 5 v f.aoF.length (mW f p row)))->K (.exit 8) F' H') :
  aI.wp C (.loop VJ) K F H:=by
 have hs:=hV.small.aoF;refine wp_loop (α:=T3_) (λt=>yh f o t.2.1 t.1) (λt=>t.2.2) (λt=>t.1<=Z' f.aoF/\nA t.2.2 o v p A D (eT f row)/\bA t.2.2 3 t.2.1 (dP (Y++cB 5 v t.1 (mW f p row)))) (λt=>Z' f.aoF-t.1) (0,R,H)
  ⟨apR _,hH,by rw[show cB 5 v 0 (mW f p row)=[]from rfl,aqY];exact β⟩ hF b_ ?_
 rintro⟨k,v',H0⟩ ⟨hk,O,e⟩;simp only at hk O e ⊢;simp only[go_sem,VJ,yh];by_cases hlt:k<Z' f.aoF;have B:(k:Int)<(Z' f.aoF:Nat):=Om;have γ:=qN (l:=eT f row) (i:=k) (by rw[BZ];exact hlt);have δ:(eT f row).getD k 0=(eT f row)[k]'(by rw[BZ];exact hlt):=by rw[apY,apZ (by rw[BZ];exact hlt)];rfl
 have S:=jO 5 v k (mW f p row);have ζ:=eZ 5 v k (mW f p row);have ht:mW f p row k=(decide (dR f p k>0)&&decide ((eT f row)[k]'(by rw[BZ];exact hlt)>dR f p k)):=by rw[mW,δ]
 generalize(eT f row)[k]'(by rw[BZ];exact hlt)=cnt at *
 simp only[go_sem,B,aqA,O.hB,γ];refine Lz f hV o v p A D (eT f row) k hlt _ _ _ O Sq Sq Sq λF' N U=>?_;have g:=λ(q:Nat)(h1:q<147)(h2:q≠24)=>U q h1 h2;have Z:=g 3 aT aT;have q5:=g 5 aT aT;have q7:=g 7 aT aT;have E:=g 11 aT aT;have J:=g 19 aT aT;have w:=g 140 aT aT;have x:=g 141 aT aT;have y:=g 142 aT aT;have W:=g 22 aT aT;have M:=g 23 aT aT;simp only[go_sem,Nat.reduceEqDiff,reduceIte]at Z q5 q7 E J w x y W M;by_cases X:dR f p k>0;by_cases c2:cnt>dR f p k;rw[aE (by rw[ht];simp[X,c2])]at S;simp only[go_sem,N,M,X,c2,J,E,W];refine AD (vs:=[.j 5,.j k]) (L.bad o.o5 v 5 k) Sq (c_ a_ O.h5) ?_;have V:(1:Nat)*3<=16777216:=by decide
 simp only[go_sem,V];refine pV (rows':=[]) (u:=.aG) (src:=[(⟨5,v,k⟩:jH).cells]) e .nil (λ_ _ _ _ _ h=>by cases h) Sq (by unfold roomFor;rw[iM,apV];simp only[aqH,maxLen];omega) λv' H' k1 k2 k3 k4=>?_;rw[lN,aqT,<-S]at k1;simp only[go_sem,y,wZz k];refine aF (k+1,v',H') ⟨hlt,O.keep k4,k1⟩ sO_ ?_ b_;exact lE6 Z q5 q7 E w x;rw[aC (by rw[ht];simp;omega)]at S;rw[<-S]at e;simp only[go_sem,N,M,X,c2,y,wZz k];refine aF (k+1,v',H0) ⟨hlt,O,e⟩ sO_ ?_ b_;exact lE7 Z q5 q7 E J w x;rw[aC (by rw[ht];simp;omega)]at S;rw[<-S]at e;simp only[go_sem,N,M,X,y,wZz k];refine aF (k+1,v',H0) ⟨hlt,O,e⟩ sO_ ?_ b_;exact lE7 Z q5 q7 E J w x;have B:¬(k:Int)<(Z' f.aoF:Nat):=Om;have:k=Z' f.aoF:=Om;subst this;simp only[go_sem,B];exact hK v' _ _ Sq e
theorem GD(n:Nat):apX n [PV.bool false]=dE (marks n []):=by rw[uk];simp[dE]
theorem Ng(n:Nat):apX n [PV.int .i64 0]=aN (fD n []):=by rw[bi,qO]
theorem wt(f:aB):apX f.aoF.length [PV.int .i64 0]=aN (eT f []):=by
 have:eT f []=apX f.aoF.length 0:=by refine asJ (by simp[eT]) λi e l=>?_;simp[eT,fN]
 rw[this,qO]
def Lx(f:aB)(l:L2_)(o5 o7 o8:Nat)(ms:I_)(k:Nat):PF:=
 ((((((((n_.set 1 (lay l)).set 3 (.aU f.cells)).set 5 (.ptr o5 1 0 0)).set 7 (.ptr o7 17 0 0)).set 8 (.osl o8 1 0 f.aoD.length)).set 40 (ints ms)).set 41 (.int .i64 (Z' ms:Nat))).set 42 (.int .i64 k))
theorem Xc(L:LA C)(f:aB)(hV:VF f)(S:∀p∈f.aoG,Fits p.aoD)(l:L2_)(v:Nat)(hv:v<Z' l)(E:v<Z' f.aoE)(hr:BD f l[v]) :
  n8.wp C (aW fM.res (cY (KT (tC f (bF f v) v l[v])))) (g_ [.agg f.cells,lay l,.j v]) .nil:=by
 obtain⟨hp,he⟩:=kB hV E;have B:=hV.aoP _ (apW hp);have υ:=S _ (apW hp);rw[he]at B υ;generalize Ψ:bF f v=p at *
 have U:=B.2.2.2.2.2.2.2;have V:(l.map λr=>[ints r])[v]?=some [ints l[v]]:=by simp[hv]
 generalize l[v]=row at *
 have D:=hV.small;have ο:(Z' f.aoD:Int)*((1:Nat):Int)<=140737488355328:=by have:=D.aoD;omega
 have ρ:(Z' f.aoD:Int)<=9223372036854775807:=by have:=D.aoD;omega
 have M:(Z' f.aoC:Int)*((8:Nat):Int)<=140737488355328:=by have:=D.aoC;omega
 have N:(Z' f.aoC:Int)<=9223372036854775807:=by have:=D.aoC;omega
 have O:(Z' f.aoF:Int)*((8:Nat):Int)<=140737488355328:=by have:=D.aoF;omega
 have R:(Z' f.aoF:Int)<=9223372036854775807:=by have:=D.aoF;omega
 simp only[go_sem,n8];refine aQ λo5 h5=>?_;simp only[go_sem];refine bE (h_.set o5 (.rows 1 [[.j v]])) cO (c_ a_ Sq) ?_;simp only[go_sem,oM E,hV.zP E,mJ hp,he];refine aQ λo7 h7=>?_;have e:o5≠o7:=by rintro rfl;simp only[aM,if_true]at h7;cases h7
 simp only[go_sem,e];refine⟨c_ a_ (by simp only[go_sem,e]),?_⟩;simp only[go_sem,apP,ο,ρ];refine aQ λo8 h8=>?_;have i:o5≠o8:=by rintro rfl;simp only[aM,e,if_true,if_false]at h8;cases h8
 have w:o7≠o8:=by rintro rfl;simp only[aM,if_true]at h8;cases h8
 simp only[go_sem,w,apP];rw[GD];refine wp_loop (α:=Nat) (λk=>Lx f l o5 o7 o8 p.aoD k) (λk=>((h_.set o5 (.rows 1 [[.j v]])).set o7 (.rows 17 [p.cells])).set o8 (.rows 1 (dE (marks f.aoD.length (p.aoD.take k))))) (λk=>k<=Z' p.aoD) (λk=>Z' p.aoD-k) 0 (apR _) ?_ ?_ ?_;unfold Lx;exact lM;refine c_ (c_ (c_ a_ ?_) ?_) ?_;simp only[go_sem,e,i];simp only[go_sem,w];simp only[go_sem,asO];intro k hk;simp only[go_sem,Lx];by_cases hlt:k<Z' p.aoD;have x:(k:Int)<(Z' p.aoD:Nat):=Om;have τ:(p.aoD.map λn=>[PV.int .i64 n])[k]?=some [.j p.aoD[k]]:=by simp[hlt]
 obtain⟨m1,m2⟩:=U _ (apW hlt);have Φ:(p.aoD[k]).toNat<(dE (marks f.aoD.length (p.aoD.take k))).length:=by rw[yA,IQ];omega
 have σ:(dE (marks f.aoD.length (p.aoD.take k)))[(p.aoD[k]).toNat]?=some [.bool ((p.aoD.take k).contains p.aoD[k])]:=by unfold dE;rw[aqE,xN m1 m2];rfl
 simp only[go_sem,x,τ,m1,m2,aqA,σ,kD,IR m1 m2,wZz k];refine aF (k+1) hlt Om ?_ ?_;exact Lq;rw[arB hlt];refine c_ (c_ (c_ a_ ?_) ?_) ?_;simp only[go_sem,e,i];simp only[go_sem,w];simp only[go_sem];have x:¬(k:Int)<(Z' p.aoD:Nat):=Om;have:k=Z' p.aoD:=Om;subst this;simp only[go_sem,x,aqO];refine bE .nil cO a_ ?_;simp only[go_sem,apP,M,N,O,R];refine aQ λoD hD=>?_;have y:o5≠oD:=by rintro rfl;simp only[aM,e,i,if_true,if_false]at hD;cases hD
 have J:o7≠oD:=by rintro rfl;simp only[aM,w,if_true,if_false]at hD;cases hD
 have K:o8≠oD:=by rintro rfl;simp only[aM,if_true]at hD;cases hD
 simp only[go_sem,apP,M,N,O,R];refine aQ λoB hB=>?_;have F:o5≠oB:=by rintro rfl;simp only[aM,e,i,y,if_true,if_false]at hB;cases hB
 have W:o7≠oB:=by rintro rfl;simp only[aM,w,J,if_true,if_false]at hB;cases hB
 have X:o8≠oB:=by rintro rfl;simp only[aM,K,if_true,if_false]at hB;cases hB
 have Y:oD≠oB:=by rintro rfl;simp only[aM,if_true]at hB;cases hB
 rw[Ng,wt];simp only[go_sem,e,i,y,F,V,apP];have φ:(⟨o5,o7,o8,oD,oB⟩:Obs).Ne:=⟨y,F,J,W,K,X,Y⟩;refine Wg L f hV ⟨o5,o7,o8,oD,oB⟩ φ v p U row hr _ _ _ ?_ ⟨?_,?_,?_,?_,?_⟩ ?_;unfold oL;exact Lq;simp only[go_sem,e,i,y,F];simp only[go_sem,w,J,W];simp only[go_sem,K,X];simp only[go_sem,Y];simp only[go_sem];intro Θ Λ F1 H1 θ ν δ ε gd;have g:=λ(q:Nat) u h=>θ q u h;unfold oL at g;have q3:=g 3 _ rfl;have q5:=g 5 _ rfl;have q7:=g 7 _ rfl;have ψ:=g 11 _ rfl;have ω:=g 12 _ rfl;have Z:=g 13 _ rfl;have Γ:=g 14 _ rfl;have β:=g 15 _ rfl;simp only[go_sem,ω,Γ];have l2:=eZ 2 v row.length (home row);have l3:=eZ 3 v f.aoC.length (lJ f row);have l4:=eZ 4 v row.length (dS f p row);have Ω:=hr.len;have Ξ:=D.aoC;refine Q4 L f hV ⟨o5,o7,o8,oD,oB⟩ v p _ _ row (cB 2 v row.length (home row)) Om Λ Θ _ _ _ H1 ?_ ν δ ε gd ?_;unfold PP;exact Lq;intro a' F2 H2 ι ξ ζ A η;have g:=λ(q:Nat) u h=>ι q u h;unfold PP at g;have q3:=g 3 _ rfl;have q5:=g 5 _ rfl;have q7:=g 7 _ rfl;have ψ:=g 11 _ rfl;have Z:=g 13 _ rfl;have β:=g 15 _ rfl;have Δ:=g 19 _ rfl;simp only[go_sem,Δ,Z];refine pV ζ A η A.view (by unfold roomFor;rw[iM,iM,apV];simp only[maxLen];omega) λγ H3 k1 k2 k3 k4=>?_;simp only[go_sem,β];have χ:dP (cB 2 v row.length (home row)++cB 3 v f.aoC.length (lJ f row))++dP (cB 4 v row.length (dS f p row))=dP (cB 2 v row.length (home row)++cB 3 v f.aoC.length (lJ f row)++cB 4 v row.length (dS f p row)):=by simp only[dP,aqP]
 rw[χ]at k1;refine Q3 L f hV ⟨o5,o7,o8,oD,oB⟩ v p _ _ row _ (by simp only[apV];omega) γ _ _ H3 ?_ (ξ.keep k4) k1 ?_;unfold yh;exact Lq;intro b' F4 H4 κ μ;simp only[go_sem,κ];exact oK (.inr rfl) μ rfl
structure zo(C:Ctx):Prop extends LA C where
 row:∀(f:aB)(l:L2_) (v:Nat),VF f->(∀p∈f.aoG,Fits p.aoD)->(h:v<Z' l)->v<Z' f.aoE->BD f l[v]->aJ C 158 [.agg f.cells,lay l,.int .i64 v] .nil (aL (KT (tC f (bF f v) v l[v])))
def uM(f:aB)(l:L2_)(v:Nat):List jH:=match sZ f l v with
 |some x=>[x]
 |none=>tC f (bF f v) v (l.getD v [])
def qU(f:aB)(l:L2_)(n:Nat):List jH:=(apQ n).flatMap (uM f l)
def over(f:aB)(l:L2_)(room:I_)(d:Nat):Bool:=decide ((dG f l).getD d 0>(bM f room).getD d 0)
def Yu(f:aB)(l:L2_)(room:I_):List jH:=qU f l l.length++cB 6 (-1) f.aoC.length (over f l room)
def sQ(f:aB)(l:L2_)(room:I_):List jH:=
 if cP f then(if l.length=f.aoE.length then Yu f l room else[⟨1,-1,(Z' l:Nat)⟩])else[]
theorem wX{p:Int->Bool}:∀{l:I_}{i:Nat},gL p l i=none->∀x∈l,p x=false
 |[],_,_,x,hx=>absurd hx (aqS)
 |y::t,i,h,x,hx=>by
  rw[gL]at h;split at h;cases h;rename_i e;rcases aqG.1 hx with rfl|hx
  simpa using e;exact wX h x hx
theorem vt{f:aB}{l:L2_}(w:iO l){v:Nat}(e:v<Z' l)(h:sZ f l v=none):BD f l[v]:=by
 have u:l.getD v []=l[v]:=by simp[apY,e]
 unfold sZ at h;rw[u]at h;split at h;rw[Option.map_eq_none_iff]at h;refine⟨?_,λx y=>?_⟩;have i:=GK l (v+1);have:=w.all;rw[yC l e,apV]at i;omega;have:=wX h x y;simp[kZ]at this;omega;cases h
theorem M5(f:aB)(p:bY)(v:Nat)(row:I_):(tC f p v row).length<=2*Z' row+Z' f.aoC+Z' f.aoF:=by
 unfold tC;have e:=eZ 2 v row.length (home row);have i:=eZ 3 v f.aoC.length (lJ f row);have l:=eZ 4 v row.length (dS f p row);have u:=eZ 5 v f.aoF.length (mW f p row);simp only[apV];omega
theorem dx{f:aB}(e:Small f){l:L2_}(w:iO l){v:Nat}(i:v<Z' l):(uM f l v).length<=100000000:=by
 unfold uM;split;simp;rename_i h;have u:l.getD v []=l[v]:=by simp[apY,i]
 have:=M5 f (bF f v) v (l.getD v []);have x:=(vt w i h).len;have:=e.aoC;have:=e.aoF;rw[u]at *
 omega
theorem NK(f:aB)(l:L2_)(n:Nat):qU f l (n+1)=qU f l n++uM f l n:=by
 unfold qU;rw[arV,atX];simp
theorem CB{f:aB}(i:Small f){l:L2_}(e:iO l):∀{n:Nat},n<=Z' l->(qU f l n).length<=n*100000000
 |0,_=>by simp[qU]
 |n+1,h=>by rw[NK,apV];have:=CB i e (n:=n) Om;have:=dx i e (v:=n) Om;omega
def viF(f:aB)(l:L2_)(room:I_)(e:PV)(k:Nat):PF:=((((((n_.set 1 (lay l)).set 2 (ints room)).set 3 (.aU f.cells)).set 7 (e)).set 30 (.int .i64 (Z' l:Nat))).set 31 (.int .i64 k))
def viG(f:aB)(l:L2_)(room:I_)(e:PV)(k:Nat):PF:=(((((n_.set 7 (e)).set 11 (ints (bM f room))).set 58 (ints (dG f l))).set 59 (.int .i64 (Z' f.aoC:Nat))).set 60 (.int .i64 k))
theorem Sj(f:aB)(hV:VF f)(l:L2_)(room:I_)(B:List jH)(U:Z' B<=2000000000)(D:PV)(K:bT)(F:PF)(H:PH)
  (N:(viG f l room D 0).le F) (R:bA H 3 D (dP B))
  (O:∀v' E H',E 7=some v'->bA H' 3 v' (dP (B++cB 6 (-1) f.aoC.length (over f l room)))->K (.exit 3) E H'):aI.wp C (.loop VH) K F H:=by
 have V:=hV.small.aoC;refine wp_loop (α:=T3_) (λt=>viG f l room t.2.1 t.1) (λt=>t.2.2) (λt=>t.1<=Z' f.aoC/\bA t.2.2 3 t.2.1 (dP (B++cB 6 (-1) t.1 (over f l room)))) (λt=>Z' f.aoC-t.1) (0,D,H)
  ⟨apR _,by rw[show cB 6 (-1) 0 (over f l room)=[]from rfl,aqY];exact R⟩ N b_ ?_
 rintro⟨k,v',M⟩ ⟨S,i⟩;simp only at S i ⊢;simp only[go_sem,VH,viG];by_cases hlt:k<Z' f.aoC;have e:(k:Int)<(Z' f.aoC:Nat):=Om;have w:k<(dG f l).length:=by rw[dG,jK];exact hlt
 have x:k<(bM f room).length:=by rw[qF];exact hlt
 have a1:((dG f l).map λn=>[PV.int .i64 n])[k]?=some [.j (dG f l)[k]]:=by simp[w]
 have a2:((bM f room).map λn=>[PV.int .i64 n])[k]?=some [.j (bM f room)[k]]:=by simp[x]
 have J:over f l room k=decide ((dG f l)[k]>(bM f room)[k]):=by simp only[over,apY,apZ w,apZ x,arT]
 have A:=jO 6 (-1) k (over f l room);have Z:=eZ 6 (-1) k (over f l room);simp only[go_sem,e,a1,a2];by_cases c:(dG f l)[k]>(bM f room)[k];rw[aE (by rw[J];simp[c])]at A;have y:(1:Nat)*3<=16777216:=by decide
 simp only[go_sem,c,y];refine pV (rows':=[]) (u:=.aG) (src:=[(⟨6,-1,k⟩:jH).cells]) i .nil (λ_ _ _ _ _ h=>by cases h) Sq (by unfold roomFor;rw[iM,apV];simp only[aqH,maxLen];omega) λv' H' L W X Y=>?_;rw[lN,aqT,<-A]at L;simp only[go_sem,wZz k];refine aF (k+1,v',H') ⟨hlt,L⟩ sO_ ?_ b_;exact Lq;rw[aC (by rw[J];simp;omega)]at A;rw[<-A]at i;simp only[go_sem,c,wZz k];refine aF (k+1,v',M) ⟨hlt,i⟩ sO_ ?_ b_;exact Lq;have e:¬(k:Int)<(Z' f.aoC:Nat):=Om;have:k=Z' f.aoC:=Om;subst this;simp only[go_sem,e];exact O v' _ _ Sq i
theorem Xb(L:zo C)(f:aB)(S:f.Ok)(l:L2_)(D:iO l)(room:I_) :
  n0.wp C (aW kK.res (cY (KT (sQ f l room)))) (g_ [.agg f.cells,lay l,ints room]) .nil:=by
 simp only[go_sem,n0,kK];refine aD (L.valid f S) Ev ?_;unfold sQ;have β:=D.rows;have F:∀p∈f.aoG,Fits p.aoD:=λp hp=>(S.aoP p hp).aoD;cases Y:cP f with
 |false =>simp only[go_sem,aqI];exact oK (rows:=[]) (.inr rfl) .nil Ev
 |true=>
  have hV:=VF.of Y;by_cases c:Z' l=Z' f.aoE;have O:((Z' l:Int) != (Z' f.aoE:Int))=false:=bW Om;rw[aE c];have Z:=hV.small.aoE;simp only[go_sem,aqC,apP,O];refine wp_loop (α:=T3_) (λt=>viF f l room t.2.1 t.1) (λt=>t.2.2) (λt=>t.1<=Z' l/\bA t.2.2 3 t.2.1 (dP (qU f l t.1))) (λt=>Z' l-t.1) (0,.aG,.nil) ⟨apR _,.nil⟩ ?_ a_ ?_;unfold viF;exact lM;rintro⟨k,v7,H0⟩ ⟨hk,N⟩;simp only at hk N ⊢;simp only[go_sem,viF];by_cases hlt:k<Z' l
  ·have i:(k:Int)<(Z' l:Nat):=Om;have U:=CB hV.small D (n:=k) Om;have e:=NK f l k;simp only[go_sem,i];refine aD (L.shape f l k hV D hlt Om) Ev ?_;cases E:sZ f l k with
   |some x=>
    have w:uM f l k=[x]:=by rw[uM,E]
    rw[w]at e;simp only[go_sem,shV];refine aQ λo W=>?_;have B:(1:Nat)*3<=16777216:=by decide
    simp only[go_sem,B];refine pV (rows':=[]) (u:=.aG) (src:=[x.cells]) (N.fresh W _).1 .nil (λ_ _ _ _ _ h=>by cases h) Sq (by unfold roomFor;rw[iM];simp only[aqH,maxLen];omega) λv' H' M k2 k3 k4=>?_;rw[lN,<-e]at M;simp only[go_sem,wZz k];refine aF (k+1,v',H') ⟨hlt,M⟩ sO_ ?_ b_;exact Lq
   |none=>
    have hg:l.getD k []=l[k]:=by simp[apY,hlt]
    have w:uM f l k=tC f (bF f k) k l[k]:=by rw[uM,E,hg]
    have K:=vt D hlt E;have J:=dx hV.small D hlt;rw[w]at e J;simp only[go_sem,shV];refine aQ λo W=>?_;simp only[go_sem];refine aD (L.row f l k hV F hlt Om K) Ev ?_;simp only[go_sem];refine pV (rows':=[]) (u:=.aG) (src:=dP (tC f (bF f k) k l[k])) (N.fresh W _).1 .nil (λ_ _ _ _ _ h=>by cases h) Sq (by unfold roomFor;rw[iM,iM];simp only[maxLen];omega) λv' H' M k2 k3 k4=>?_;have X:dP (qU f l k)++dP (tC f (bF f k) k l[k])=dP (qU f l (k+1)):=by rw[e];simp only[dP,aqP]
    rw[X]at M;simp only[go_sem,wZz k];refine aF (k+1,v',H') ⟨hlt,M⟩ sO_ ?_ b_;exact Lq
  have i:¬(k:Int)<(Z' l:Nat):=Om;have:k=Z' l:=Om;subst this;have U:=CB hV.small D (n:=Z' l) (apU _);have y:=L.room f room S;rw[qG,Y]at y;have A:=(L.loads f l hV.small.aoC D).G5;simp only[go_sem,i];refine aD y Ev ?_;simp only[go_sem];refine aD A Ev ?_;have V:(dG f l).length=Z' f.aoC:=by rw[dG,jK]
  simp only[go_sem,apP,V];refine Sj f hV l room (qU f l l.length) Om v7 _ _ H0 ?_ N ?_;unfold viG;exact Lq;intro v' F' H' h7 R;simp only[go_sem,h7];exact oK (.inr rfl) R Sq;have O:((Z' l:Int) != (Z' f.aoE:Int))=true:=cX Om;have B:(1:Nat)*3<=16777216:=by decide
  rw[aC c];simp only[go_sem,aqC,apP,O,B];exact bK (.inr rfl) .nil Ev a_ ⟨.refl _,rfl⟩
structure Yb(C:Ctx):Prop extends zo C where
 viol:∀(f:aB)(l:L2_) (room:I_),f.Ok->iO l->aJ C 154 [.agg f.cells,lay l,ints room] .nil (aL (KT (sQ f l room)))
def dQ(f:aB)(l:L2_)(room:I_):Bool:=cP f&&decide ((sQ f l room).length=0)
theorem Rx(L:Yb C)(f:aB)(e:f.Ok)(l:L2_)(i:iO l)(room:I_) :
  ZP.wp C (aW nv.res (cY (.bool (dQ f l room)))) (g_ [.agg f.cells,lay l,ints room]) .nil:=by
 simp only[go_sem,ZP,nv];refine aD (L.valid f e) Ev ?_;unfold dQ;cases u:cP f with
 |false =>simp only[go_sem];exact bP Ev rfl
 |true =>simp only[go_sem];refine aD (L.viol f l room e i) Ev ?_;by_cases c:(sQ f l room).length=0;simp only[go_sem,apP,cC (show(((sQ f l room).length:Nat):Int)=0 by omega)];exact bP Ev (by simp[c]);simp only[go_sem,apP,bJ (show(((sQ f l room).length:Nat):Int)≠0 by omega)];exact bP Ev (by rw[bG c])
def di:=bV [] Proofs.Tryz.f11
def rp:=aA di 3
def uo:aI:=(sq (aA di 0) (jQ (aA di 1) 5 (.region (aA di 2)) (sq rp .ret)))
def EB:=bV [] Proofs.Tryz.f12
def dj:=aA EB 1
def OS:aI:=(sq (aA EB 0) (.seq (dq (eH EB 0) (.cond (Tm 18) (sq dj .ret) .skip)) (sq (aA EB 2) (dq (eH EB 1) .ret))))
def x9:=bV [] Proofs.Tryz.f73
def lj:=cF x9
def lC:=bV [45,63,90,95] Proofs.Tryz.f34
def ri:=aA lC 6
def rj:=aA lC 7
def rk:=aA lC 8
def XA:=aA lC 9
def cz:=aA lC 10
def c7:=aA lC 11
def c8:=aA lC 12
def c9:=aA lC 13
def da:=aA lC 14
def OR:=aA lC 15
def db:=aA lC 16
def dd:=aA lC 17
def de:=aA lC 21
def df:=aA lC 22
def dg:=aA lC 23
def OQ:aI:=(eN (aA lC 18) 68 2 dg (sq (aA lC 19) (jQ (aA lC 20) 85 (.region de) (.region df))))
def dh:=aA lC 24
def um:aI:=(sq (aA lC 0) (sq (aA lC 1) (sq (aA lC 2) (sq (aA lC 3) (.seq (dF (aA lC 4) 0 (eN (aA lC 5) 22 0 (aA lC 25) (sq ri (jQ rj 29 (.region rk) (sq XA (sq cz (sq c7 (sq c8 (jQ c9 58 (.region da) (sq OR (sq db (.seq (dF dd 2 OQ) (.region dh))))))))))))) (sq (aA lC 26) .ret))))))
def Lc:=bV [16] Proofs.Tryz.f38
def ut:=cF Lc
def ya:=bV [] Proofs.Tryz.f35
def lk:=cF ya
def mI:=bV [60,81,113] Proofs.Tryz.f37
def TX:=eH mI 3
def TY:=aA mI 11
def CI:aI:=(eN (aA mI 5) 28 0 (aA mI 12) (jQ (aA mI 6) 32 (jQ (aA mI 7) 39 (dq (eH mI 0) (.draw (eH mI 1))) (.exit 1)) (jQ (aA mI 8) 78 .ret (dq (eH mI 2) (jQ (aA mI 9) 98 (.region (aA mI 10)) (dq TX (.region TY)))))))
def OP:aI:=(sq (aA mI 0) (sq (aA mI 1) (jQ (aA mI 2) 25 (.region (aA mI 3)) (dF (aA mI 4) 0 CI))))
def eC:=bV [40,67,148,154,176] Proofs.Tryz.f13
def TW:aI:=(eN (aA eC 4) 29 0 (aA eC 8) (sq (aA eC 5) (sq (aA eC 6) (.region (aA eC 7)))))
def OG:aI:=(eN (aA eC 11) 48 2 (aA eC 12) (dq (eH eC 0) (.draw (eH eC 1))))
def OJ:=aA eC 18
def DW:=eH eC 2
def DX:=eH eC 3
def DY:=aA eC 19
def DZ:=aA eC 20
def OK:=aA eC 21
def DU:aI:=(eN (aA eC 22) 119 6 (aA eC 25) (sq (aA eC 23) (.cond (Tm 124) (.region (aA eC 24)) .skip)))
def OL:=aA eC 26
def OM:=aA eC 27
def ON:=aA eC 28
def OO:=aA eC 29
def EA:=aA eC 30
def OH:aI:=(eN (aA eC 17) 82 4 (aA eC 31) (sq OJ (.seq (dq DW (.draw DX)) (sq DY (sq DZ (.seq (dF OK 6 DU) (sq OL (sq OM (jQ ON 143 (.region OO) (.region EA))))))))))
def OI:aI:=(eN (aA eC 34) 163 8 (aA eC 35) (dq (eH eC 4) (.draw (eH eC 5))))
def YX:aI:=(sq (aA eC 0) (sq (aA eC 1) (sq (aA eC 2) (.seq (dF (aA eC 3) 0 TW) (sq (aA eC 9) (.seq (dF (aA eC 10) 2 OG) (sq (aA eC 13) (sq (aA eC 14) (sq (aA eC 15) (.seq (dF (aA eC 16) 4 OH) (sq (aA eC 32) (.seq (dF (aA eC 33) 8 OI) (sq (aA eC 36) .ret)))))))))))))
def lg:=bV [] Proofs.Tryz.f19
def YU:=cF lg
def yc:=bV [3,21] Proofs.Tryz.f14
def ll:=cF yc
def yi:=bV [2] Proofs.Tryz.f47
def mr:=cF yi
def JQ:=bV [] Proofs.Tryz.f110
def gz:=aA JQ 4
def oq:aI:=(sq (aA JQ 0) (sq (aA JQ 1) (.seq (.block 0 (.loop (.seq (sq (aA JQ 2) (.cond (Tm 15) .skip (.exit 0))) (.block 1 (.region (aA JQ 3)))))) (sq gz .ret))))
def yn:=bV [8] Proofs.Tryz.f76
def og:=cF yn
def oe:=bV [] Proofs.Tryz.f165
def ZU:=cF oe
def Mq:=bV [] Proofs.Tryz.f162
def wa:=cF Mq
def eE:=bV [76] Proofs.Tryz.f166
def QJ:=aA eE 4
def QK:=aA eE 5
def QL:=aA eE 6
def KG:aI:=(eN (aA eE 7) 36 0 (aA eE 11) (sq (aA eE 8) (sq (aA eE 9) (.region (aA eE 10)))))
def KI:=aA eE 12
def KJ:=aA eE 15
def KK:=aA eE 16
def KL:=aA eE 17
def KM:=aA eE 18
def BM:aI:=(.seq (dq (eH eE 1) (.cond (Tm 146) .skip (.exit 4))) (.block 5 (.region (aA eE 23))))
def KN:=aA eE 24
def KO:=aA eE 25
def BN:aI:=(eN (aA eE 26) 166 6 (aA eE 30) (sq (aA eE 27) (sq (aA eE 28) (.cond (Tm 177) (.region (aA eE 29)) .skip))))
def KP:=aA eE 31
def KQ:=aA eE 32
def BO:aI:=(eN (aA eE 19) 105 2 KQ (dq (eH eE 0) (sq (aA eE 20) (jQ (aA eE 21) 131 (.region (aA eE 22)) (.seq (.block 4 (.loop BM)) (sq KN (.seq (dF KO 6 BN) (.region KP))))))))
def KR:=aA eE 33
def VN:aI:=(sq (aA eE 0) (pI (aA eE 1) 23 (aA eE 2) (jQ (aA eE 3) 28 (sq QJ (sq QK (.seq (dF QL 0 KG) (sq KI .ret)))) (sq (aA eE 13) (sq (aA eE 14) (sq KJ (sq KK (sq KL (.seq (dF KM 2 BO) (sq KR .ret))))))))))
def udiv:=bV [] Proofs.Tryz.f120
def wb:=cF udiv
def Mu:=bV [] Proofs.Tryz.f119
def wc:=cF Mu
def pS:=bV [16] Proofs.Tryz.f75
def QV:=aA pS 6
def QW:=aA pS 7
def EO:=aA pS 8
def WA:aI:=(sq (aA pS 0) (sq (aA pS 1) (pI (aA pS 2) 15 (aA pS 3) (.seq (sq (aA pS 4) (sq (aA pS 5) (.cond (Tm 32) (sq QV (.region QW)) .skip))) (sq EO .ret)))))
def y7:=bV [] Proofs.Tryz.f77
def po:=cF y7
def pd:=bV [] Proofs.Tryz.f39
def pe:=cF pd
def M4:=bV [] Proofs.Tryz.f36
def wi:=cF M4
def utF(xs:N_)(n:Nat):PF:=((n_.set 0 (aY xs)).set 3 (.int .i64 n))
theorem Xq(xs:N_)(N:Lim xs)(O:Z' xs<=35184372087808):oq.wp C (aW JQ.res (pH 1 (bC (aS (val xs))))) (g_ [aY xs]) .nil:=by
 simp only[go_sem,oq,JQ,apP];refine wp_loop (α:=Nat) (λn=>utF xs n) (λ_=>.nil) (λn=>n<=Z' xs/\∀j x,n<=j->xs[j]?=some x->x=0) (λn=>n) xs.length ⟨apU _,λj x A i=>?_⟩ ?_ a_ ?_
 ·rw[arC A]at i;cases i
 ·unfold utF;exact Lq
 rintro n ⟨L,E⟩;have done:(0<n->∀h:n-1<Z' xs,xs[n-1]≠0)->∀F:PF,(utF xs n).le F->aI.wp C (.seq (.region gz) .ret) (aW [.tmp 2] (pH 1 (bC (aS (val xs))))) F .nil:=by
  intro h F y;have f0:F 0=some (aY xs):=y 0 _ (by unfold utF;simp only[go_sem]);have J:F 3=some (.j n):=y 3 _ (by unfold utF;simp only[go_sem]);have B:xs.take n=aS (val xs):=nt N L E λx u i=>by
   rw[apZ Om]at i;injection i with i
   subst i;exact h u Om
  have K:((n:Nat):Int)<=(Z' xs:Nat):=Om;simp only[go_sem,gz,f0,J,apP,K,or_true,asN];refine fS (rows:=[]) (src:=bC (aS (val xs))) .nil ?_ ?_ λv H' M _=>?_
  ·simp only[go_sem];rw[<-B,<-List.map_take]
  ·unfold roomFor;rw[eJ,<-B,aqF];simp only[asG,maxLen];omega
  ·exact PN (.inr rfl) (by simpa using M) rfl
 simp only[aI.wp,go_sem]at done;simp only[go_sem,utF];by_cases u:0<n
 ·have l:((n:Nat):Int)>0:=Om;have hlt:n-1<Z' xs:=Om;have w:=gM xs hlt;have D:i_.wrap ((n:Int)-1)=((n-1:Nat):Int):=Ss Om u;simp only[go_sem,l,D,w];by_cases c:xs[n-1]=0
  ·simp only[go_sem,cC (Om:((xs[n-1]:Nat):Int)=0),D];refine aF (n-1) ⟨by omega,λj x A i=>?_⟩ Om ?_ a_
   ·by_cases e:j=n-1
    ·subst e;rw[apZ hlt]at i;injection i with i
     omega
    ·exact E j x Om i
   ·exact Lq
  ·simp only[go_sem,bJ (Om:((xs[n-1]:Nat):Int)≠0)];exact done (λ_ _=>c) _ (by unfold utF;exact Lq)
 ·have l:¬((n:Nat):Int)>0:=Om;simp only[go_sem,l];exact done (λh=>absurd h u) _ (by unfold utF;exact Lq)
structure vD(C:Ctx):Prop where
 trimM:∀xs,Lim xs->Z' xs<=35184372087808->aJ C 38 [aY xs] .nil (pH 1 (bC (aS (val xs))))
theorem vD.trim(L:vD C)(xs:N_)(i:Lim xs)(e:Z' xs<=35184372087808):aJ C 38 [aY xs] .nil (aL (aY (aS (val xs)))):=(L.trimM xs i e).freeze
theorem Xi(L:vD C)(v:Nat)(D:v<18446744073709551616):og.wp C (aW yn.res (cY (aY (aS v)))) (g_ [.int .u64 v]) .nil:=by
 have y:IntKind.u32.wrap ((v:Nat):Int)=((v%4294967296:Nat):Int):=iG v;have l:v/4294967296<4294967296:=Om;have A:IntKind.u32.wrap ((v/4294967296:Nat):Int)=((v/4294967296:Nat):Int):=by rw[iG,asU l]
 have B:Lim [v%4294967296,v/4294967296]:=by
  intro x w;simp only[aqG,List.mem_nil_iff,or_false]at w;rcases w with rfl|rfl
  exact Nat.mod_lt _ aT;exact l
 have e:val [v%4294967296,v/4294967296]=v:=by simp only[val,Nat.mul_zero,arG];exact Nat.mod_add_div v 4294967296
 have i:shift .shr .u64 (v:Int) 32=some (.int .u64 ((v/4294967296:Nat):Int)):=yj;have hb:(2:Nat)*1<=16777216:=by decide
 simp only[go_sem,og,yn,y,i,A,hb];have u:=L.trim [v%4294967296,v/4294967296] B aX;rw[e]at u;refine aD u rfl ?_;simp only[go_sem];exact bK (.inr rfl) .nil rfl a_ ⟨.refl _,rfl⟩
theorem Sa(L:vD C)(xs:N_)(i:Lim xs)(e:Z' xs<=35184372087808):ZU.wp C (aW oe.res (cY (.bool (decide (nl (val xs)>512))))) (g_ [aY xs]) .nil:=by
 simp only[go_sem,ZU,oe];refine aD (L.trim xs i e) rfl ?_;simp only[go_sem,apP,cE];refine bP rfl ?_;rw[decide_eq_decide];omega
end Go.PM
