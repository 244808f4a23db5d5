/-Lemmas for the law. No condition.-/
import Derived.Test.YtfeiflgckfjohaaGreatDoorIM1
import Derived.Shelf.Strconv.Itoa3
import Derived.Shelf.Sort.Plain
import Derived.Test.YtfeiflgckfjohaaGreatDoorProg
import Derived.ProofKit
import Derived.OpenShut
set_option linter.unusedSimpArgs false
set_option linter.unusedVariables false
open Nat renaming reduceEqDiff->γ,reduceAdd->δ,reduceSub->ε,reduceMul->ζ,reduceLT->η,reduceLeDiff->θ,reduceBEq->τ
open Int renaming reduceLT->ι,reduceLE->κ,reduceEq->μ,reduceToNat->ν,reduceAdd->ξ,reduceNeg->ο,reduceBEq->ρ,reduceBNe->σ
open List renaming reduceReplicate->υ
open List renaming length_map->asO,range->asP,getElem_mem->asS,replicate->asT,getD_eq_getElem?_getD->asW,length_append->asX,getElem?_eq_getElem->asZ,getElem?_map->atC,length_singleton->atD,length_take->atF,mem_cons->atG,all_eq_true->atI,map_append->atK,take_length->atL,mem_map->atM,take_of_length_le->atP,mem_range->atQ,not_mem_nil->atS,map_cons->atU,append_assoc->atV,take_succ_eq_append_getElem->atW,getElem?_eq_some_iff->atX,length_cons->atZ,append_nil->auA,mem_singleton->auB,mem_append->auC,length_set->auD,getElem_of_mem->auG,map_nil->auH,getElem_map->auN,getElem?_append_right->auS,getElem?_range->auT,length_drop->auU,mem_of_getElem?->auZ,take_zero->avA,length_nil->avD,Sublist->avE,drop_eq_getElem_cons->avF,drop_zero->avG,range_succ->avH,ext_getElem->avL,getElem?_append_left->avM,Perm->avN,map_congr_left->avO,map_set->avP,set_append_right->avQ,set_cons_zero->avR,map_map->avT,nodup_append->avU,getElem?_set->avY,cons_append->awD,all_append->awG,filter_append->awH,length_filter_le->awJ,take_append_drop->awK,getElem?_drop->awM,mem_cons_of_mem->awN,nil_append->awO,all_cons->awS,mem_of_mem_take->awU,flatten_cons->awZ,mem_cons_self->axA,mem_or_eq_of_mem_set->axB,eq_nil_of_length_eq_zero->axE
open Nat renaming zero_le->asQ,gcd->asR,le_refl->asU,zero_add->atA,le_trans->atT,lt_or_ge->atY,add_zero->auI,mul_add->auJ,sub_self->auK,add_mul->auM,mul_le_mul_right->auO,mul_assoc->auP,beq->auR,eq_zero_or_pos->avB,mul_comm->avC,div_le_self->avI,min_eq_left->avJ,succ_mul->avS,mod_eq_of_lt->avV,add_assoc->avZ,pos_of_ne_zero->awA,pow_succ->awL,mul_le_mul_left->awP,mul_le_mul->awV,div_lt_iff_lt_mul->axC
open Bool renaming and_eq_true->asV,not_true->asY,false_and->atE,not_false->atH,true_and->atJ,and_false->auF,and_true->avK,and_self->avW,and_assoc->awF
open Option renaming map_eq_some_iff->atB,map_some->atO,getD_some->auV,some->auY,bind_some->awQ,bind_eq_some_iff->awX
open Int renaming toNat_natCast->auL
open Array renaming getElem?_eq_some_iff->awB,length_toList->awC
open List renaming length->Z'
set_option maxRecDepth 100000
set_option maxHeartbeats 800000
open Go.IntKind renaming i64->i_,u64->u_
open Go.PM.PF renaming nil->n_,args->g_
open Go.PM.PH renaming nil->h_
noncomputable section
namespace Go.Proofs
open Go.Shelf
def Tryz.He:Go.Shelf.Ren:=⟨λ|171=>75|243=>118|246=>171|283=>215|284=>216|285=>217|286=>218|129=>200|317=>239|318=>240|319=>241|320=>242|337=>250|338=>251|n=>n,λ|3=>3|9=>9|2=>2|4=>4|171=>249|0=>0|53=>149|37=>22|5=>5|173=>251|212=>262|51=>193|20=>20|213=>263|46=>198|232=>271|233=>272|n=>n,λ|17=>0|18=>1|19=>2|n=>n⟩
theorem tQ_{α:Type}{x:Option α}{a b:α}(h:x=some a)(k:a=b:=by kernel_rfl):x=some b:=h.trans (congrArg some k)
theorem Tryz.acP:Go.Proofs.Lays.n171 Tryz.prog Tryz.He:={
 mixed:=by kernel_rfl
 f129:=tQ_ Tryz.func200
 f171:=tQ_ Tryz.func75
 f243:=tQ_ Tryz.func118
 f246:=tQ_ Tryz.func171
 f283:=tQ_ Tryz.func215
 f284:=tQ_ Tryz.func216
 f285:=tQ_ Tryz.func217
 f286:=tQ_ Tryz.func218
 f317:=tQ_ Tryz.func239
 f318:=tQ_ Tryz.func240
 f319:=tQ_ Tryz.func241
 f320:=tQ_ Tryz.func242
 f337:=tQ_ Tryz.func250
 f338:=tQ_ Tryz.func251
 t0:=Tryz.underlying0
 a0:=Tryz.isAgg0
 z0:=Tryz.sizeOf0
 v0:=Tryz.zeroValue0
 t2:=Tryz.underlying2
 a2:=Tryz.isAgg2
 z2:=Tryz.sizeOf2
 v2:=Tryz.zeroValue2
 t3:=Tryz.underlying3
 a3:=Tryz.isAgg3
 z3:=Tryz.sizeOf3
 v3:=Tryz.zeroValue3
 t4:=Tryz.underlying4
 a4:=Tryz.isAgg4
 z4:=Tryz.sizeOf4
 v4:=Tryz.zeroValue4
 t5:=Tryz.underlying5
 a5:=Tryz.isAgg5
 z5:=Tryz.sizeOf5
 v5:=Tryz.zeroValue5
 t9:=Tryz.underlying9
 a9:=Tryz.isAgg9
 z9:=Tryz.sizeOf9
 v9:=Tryz.zeroValue9
 t20:=Tryz.underlying20
 a20:=Tryz.isAgg20
 z20:=Tryz.sizeOf20
 v20:=Tryz.zeroValue20
 t37:=Tryz.underlying22
 a37:=Tryz.isAgg22
 z37:=Tryz.sizeOf22
 v37:=Tryz.zeroValue22
 t46:=Tryz.underlying198
 a46:=Tryz.isAgg198
 z46:=Tryz.sizeOf198
 v46:=Tryz.zeroValue198
 t51:=Tryz.underlying193
 a51:=Tryz.isAgg193
 z51:=Tryz.sizeOf193
 v51:=Tryz.zeroValue193
 t53:=Tryz.underlying149
 a53:=Tryz.isAgg149
 z53:=Tryz.sizeOf149
 v53:=Tryz.zeroValue149
 t171:=Tryz.underlying249
 a171:=Tryz.isAgg249
 z171:=Tryz.sizeOf249
 v171:=Tryz.zeroValue249
 t173:=Tryz.underlying251
 a173:=Tryz.isAgg251
 z173:=Tryz.sizeOf251
 v173:=Tryz.zeroValue251
 t212:=Tryz.underlying262
 a212:=Tryz.isAgg262
 z212:=Tryz.sizeOf262
 v212:=Tryz.zeroValue262
 t213:=Tryz.underlying263
 a213:=Tryz.isAgg263
 z213:=Tryz.sizeOf263
 t232:=Tryz.underlying271
 a232:=Tryz.isAgg271
 z232:=Tryz.sizeOf271
 v232:=Tryz.zeroValue271
 t233:=Tryz.underlying272
 a233:=Tryz.isAgg272
 z233:=Tryz.sizeOf272
 v233:=Tryz.zeroValue272
 g17:=by kernel_rfl
 g18:=by kernel_rfl
 g19:=by kernel_rfl }
def Tryz.Di:Go.Shelf.Ren:=⟨λ|191=>61|189=>96|125=>143|257=>142|128=>199|129=>200|294=>190|295=>191|296=>192|297=>193|298=>194|299=>195|216=>196|300=>197|301=>198|328=>230|329=>231|330=>232|331=>233|332=>234|215=>235|343=>245|n=>n,λ|28=>33|0=>0|3=>3|46=>198|51=>193|53=>149|4=>4|183=>238|182=>237|131=>124|5=>5|9=>9|218=>254|222=>258|228=>264|229=>246|n=>n,λ|n=>n⟩
theorem Tryz.Ws:Go.Proofs.Lays.n191 Tryz.prog Tryz.Di:={
 mixed:=by kernel_rfl
 f125:=tQ_ Tryz.func143
 f128:=tQ_ Tryz.func199
 f129:=tQ_ Tryz.func200
 f189:=tQ_ Tryz.func96
 f191:=tQ_ Tryz.func61
 f215:=tQ_ Tryz.func235
 f216:=tQ_ Tryz.func196
 f257:=tQ_ Tryz.func142
 f294:=tQ_ Tryz.func190
 f295:=tQ_ Tryz.func191
 f296:=tQ_ Tryz.func192
 f297:=tQ_ Tryz.func193
 f298:=tQ_ Tryz.func194
 f299:=tQ_ Tryz.func195
 f300:=tQ_ Tryz.func197
 f301:=tQ_ Tryz.func198
 f328:=tQ_ Tryz.func230
 f329:=tQ_ Tryz.func231
 f330:=tQ_ Tryz.func232
 f331:=tQ_ Tryz.func233
 f332:=tQ_ Tryz.func234
 f343:=tQ_ Tryz.func245
 t0:=Tryz.underlying0
 a0:=Tryz.isAgg0
 z0:=Tryz.sizeOf0
 v0:=Tryz.zeroValue0
 t3:=Tryz.underlying3
 a3:=Tryz.isAgg3
 z3:=Tryz.sizeOf3
 v3:=Tryz.zeroValue3
 t4:=Tryz.underlying4
 a4:=Tryz.isAgg4
 z4:=Tryz.sizeOf4
 v4:=Tryz.zeroValue4
 t5:=Tryz.underlying5
 a5:=Tryz.isAgg5
 z5:=Tryz.sizeOf5
 v5:=Tryz.zeroValue5
 t9:=Tryz.underlying9
 a9:=Tryz.isAgg9
 z9:=Tryz.sizeOf9
 v9:=Tryz.zeroValue9
 t28:=Tryz.underlying33
 a28:=Tryz.isAgg33
 z28:=Tryz.sizeOf33
 v28:=Tryz.zeroValue33
 t46:=Tryz.underlying198
 a46:=Tryz.isAgg198
 z46:=Tryz.sizeOf198
 v46:=Tryz.zeroValue198
 t51:=Tryz.underlying193
 a51:=Tryz.isAgg193
 z51:=Tryz.sizeOf193
 v51:=Tryz.zeroValue193
 t53:=Tryz.underlying149
 a53:=Tryz.isAgg149
 z53:=Tryz.sizeOf149
 v53:=Tryz.zeroValue149
 t131:=Tryz.underlying124
 a131:=Tryz.isAgg124
 z131:=Tryz.sizeOf124
 v131:=Tryz.zeroValue124
 t182:=Tryz.underlying237
 a182:=Tryz.isAgg237
 z182:=Tryz.sizeOf237
 v182:=Tryz.zeroValue237
 t183:=Tryz.underlying238
 a183:=Tryz.isAgg238
 z183:=Tryz.sizeOf238
 v183:=Tryz.zeroValue238
 t218:=Tryz.underlying254
 a218:=Tryz.isAgg254
 z218:=Tryz.sizeOf254
 v218:=Tryz.zeroValue254
 t222:=Tryz.underlying258
 a222:=Tryz.isAgg258
 z222:=Tryz.sizeOf258
 v222:=Tryz.zeroValue258
 t228:=Tryz.underlying264
 a228:=Tryz.isAgg264
 z228:=Tryz.sizeOf264
 v228:=Tryz.zeroValue264
 t229:=Tryz.underlying246
 a229:=Tryz.isAgg246
 z229:=Tryz.sizeOf246
 v229:=Tryz.zeroValue246 }
end Go.Proofs
namespace Go.PM
open Go
inductive Co:PV->PV->Prop
 |refl (v:PV):Co v v
 |junk (v:PV):Co v .junk
 |nil (s:Nat):Co .aG (.sl s [])
 |osl0 (o s off s':Nat):Co (.osl o s off 0) (.sl s' [])
 |agg {cs ds:V_} (hl:Z' ds=Z' cs) (h:∀(j:Nat) p q,cs[j]?=some p->ds[j]?=some q->Co p q):Co (.agg cs) (.agg ds)
 |tup {cs ds:V_} (hl:Z' ds=Z' cs) (h:∀(j:Nat) p q,cs[j]?=some p->ds[j]?=some q->Co p q):Co (.tup cs) (.tup ds)
 |aU {cs ds:V_} (hl:Z' ds=Z' cs) (h:∀(j:Nat) p q,cs[j]?=some p->ds[j]?=some q->Co p q):Co (.aU cs) (.aU ds)
 |sl {s:Nat} {rs ts:P2_} (hl:Z' ts=Z' rs) (hr:∀(i:Nat) r t,rs[i]?=some r->ts[i]?=some t->Z' t=Z' r)
   (h:∀(i j:Nat) p q,at2 rs i j=some p->at2 ts i j=some q->Co p q):Co (.sl s rs) (.sl s ts)
structure CoL(ps qs:V_):Prop where
 len:Z' qs=Z' ps
 at_:∀(j:Nat) p q,ps[j]?=some p->qs[j]?=some q->Co p q
theorem CoL.refl(ps:V_):CoL ps ps:=⟨rfl,λj p q h k=>by rw[h]at k;cases k;exact .refl p⟩
theorem Co.sound{E:Env}{p q:PV}(h:Co p q):∀{v:Value},bG E p v->bG E q v:=by
 induction h with
 |refl=>intro v r;exact r
 |junk=>intro v _;exact .junk v
 |nil s =>intro v r;cases r;exact .sl (λ_ _=>.bool false) aZ aR aZ aZ (λ_ _=>rfl) (by simp[at2])
 |osl0 o s off s'=>
  intro v r;cases r with
  |osl hb J V U x hn O=>exact .sl (λ_ _=>.bool false) aZ x aZ aZ (λ_ _=>rfl) (by simp[at2])
 |agg w h B=>
  intro v r;cases r with
  |agg vs A D y=>
  refine .agg vs (A.trans w.symm) D λj q u hq R=>?_;have l:=(atX.1 hq).1;have hp:=asZ (show j<_ by rw[w]at l;exact l);exact B j _ q hp hq (y j _ u hp R)
 |tup w h B=>
  intro v r;cases r with
  |tup vs A y=>
  refine .tup vs (A.trans w.symm) λj q u hq R=>?_;have l:=(atX.1 hq).1;have hp:=asZ (show j<_ by rw[w]at l;exact l);exact B j _ q hp hq (y j _ u hp R)
 |aU w h B=>
  intro v r;cases r with
  |aU u J M D y=>
  refine .aU u J (λj q hq=>?_) D λj q hq=>?_;have l:=(atX.1 hq).1;exact M j _ (asZ (show j<_ by rw[w]at l;exact l));have l:=(atX.1 hq).1;have hp:=asZ (show j<_ by rw[w]at l;exact l);exact B j _ q hp hq (y j _ hp)
 |@sl s rs ts w F h B=>
  intro v r;have K:∀(i j:Nat) q,at2 ts i j=some q->∃p,at2 rs i j=some p:=by intro i j q hq;unfold at2 at hq ⊢;rw[awX]at hq;obtain⟨t,L,hq⟩:=hq;have hi:=(atX.1 L).1;have y:=asZ (Om:i<Z' rs);have:=F i _ t y L;have l:=(atX.1 hq).1;rw[y];exact⟨(rs[i])[j]'Om,by simp⟩
  cases r with
  |sl u S x Y X D y=>
  rw[<-w];refine .sl u Om x (λt L=>?_) (λN=>?_) D λi j q hq=>?_;obtain⟨i,hi,rfl⟩:=auG L;have:=F i rs[i] ts[i] aZ aZ;rw[this];exact Y _ aZ;obtain⟨W,e,Z,M⟩:=X (by rintro rfl;exact N (axE (by simpa using w)));refine⟨W,e,Z,λi j q hq=>?_⟩;obtain⟨p,hp⟩:=K i j q hq;exact M i j p hp;obtain⟨p,hp⟩:=K i j q hq;exact B i j p q hp hq (y i j p hp)
theorem CoL.sound{E:Env}:∀{ps e:V_}{vs:List Value},CoL ps e->fV E ps vs->fV E e vs
 |[],e,vs,h,r=>by cases r;have:e=[]:=axE h.len;subst this;exact .nil
 |p::ps,e,vs,h,r=>by
  cases r with
  |cons r1 r2=>
  cases e with
  |nil=>have:=h.len;simp at this
  |cons q e =>refine .cons ((h.at_ 0 p q rfl rfl).sound r1) (CoL.sound ⟨by simpa using h.len,λj x y a b=>h.at_ (j+1) x y (by simpa using a) (by simpa using b)⟩ r2)
variable{C:Ctx}
theorem aH.args{name:Nat}{args e:V_}{H:PH}{R:R_}(h:aH C name e H R)(u:CoL args e):aH C name args H R:=
 ⟨h.1,λE w vs l hW i=>h.2 E w vs l hW (u.sound i)⟩
theorem aH.post{name:Nat}{args:V_}{H:PH}{R A:R_}(h:aH C name args H R)(J:∀r H',R r H'->∃r',Co r r'/\A r' H'):aH C name args H A:=
 ⟨h.1,λE w vs F hW x=>(h.2 E w vs F hW x).mono λe L he=>by obtain⟨v,pv,B,H',rfl,i,K,D,hp⟩:=he;obtain⟨y,l,u⟩:=J pv H' hp;exact⟨v,y,B,H',rfl,i,l.sound K,D,u⟩⟩
attribute [go_sem] List.getElem?_cons_succ List.getElem?_cons_zero and_self and_true true_and or_true true_or or_false false_or asY atH atO awQ if_true if_false atZ avD List.drop_succ_cons avG List.take_succ_cons avA atU auH auY.injEq PV.bool.injEq PV.int.injEq aX PV.bin
@[go_sem] theorem ajV(k:IntKind)(a b:Int):pG .add k a b=some (.int k (k.wrap (a+b))):=(rfl)
@[go_sem] theorem akF(k:IntKind)(a b:Int):pG .sub k a b=some (.int k (k.wrap (a-b))):=(rfl)
@[go_sem] theorem akB(k:IntKind)(a b:Int):pG .mul k a b=some (.int k (k.wrap (a*b))):=(rfl)
@[go_sem] theorem akD(k:IntKind)(a b:Int):pG .quo k a b=if b=0 then none else some (.int k (k.wrap (a.tdiv b))):=(rfl)
@[go_sem] theorem akE(k:IntKind)(a b:Int):pG .rem k a b=if b=0 then none else some (.int k (a.tmod b)):=(rfl)
@[go_sem] theorem ajW(k:IntKind)(a b:Int):pG .eql k a b=some (.bool (a==b)):=(rfl)
@[go_sem] theorem akC(k:IntKind)(a b:Int):pG .neq k a b=some (.bool (a != b)):=(rfl)
@[go_sem] theorem akA(k:IntKind)(a b:Int):pG .lss k a b=some (.bool (decide (a<b))):=(rfl)
@[go_sem] theorem ajZ(k:IntKind)(a b:Int):pG .leq k a b=some (.bool (decide (a<=b))):=(rfl)
@[go_sem] theorem ajY(k:IntKind)(a b:Int):pG .gtr k a b=some (.bool (decide (a>b))):=(rfl)
@[go_sem] theorem ajX(k:IntKind)(a b:Int):pG .geq k a b=some (.bool (decide (a>=b))):=(rfl)
section
variable {C:Ctx} {K:bP} {F:PF} {H:PH}
@[go_sem] theorem aqF:aJ.wp C .skip K F H=K .normal F H:=(rfl)
@[go_sem] theorem amB(ops:List bU):aJ.wp C (.region ops) K F H=wpOps C ops (K .normal) F H:=(rfl)
@[go_sem] theorem uq(a b:aJ):aJ.wp C (.seq a b) K F H=a.wp C (gL C (b.wp C) K) F H:=(rfl)
@[go_sem] theorem anK(id:Nat)(c:aJ):aJ.wp C (.block id c) K F H=c.wp C (fL id K) F H:=(rfl)
@[go_sem] theorem aqE(id:Nat):aJ.wp C (.exit id) K F H=K (.exit id) F H:=(rfl)
@[go_sem] theorem aqT:aJ.wp C .ret K F H=K .ret F H:=(rfl)
def k6(C:Ctx)(v:Option PV)(a b:aJ)(K:bP)(F:PF)(H:PH):Prop:=
 match v with
 |some (.bool t)=>if t then a.wp C K F H else b.wp C K F H
 |_=>False
@[go_sem] theorem Zs(c:aP)(a b:aJ):aJ.wp C (.cond c a b) K F H=k6 C (c.ev F) a b K F H:=(rfl)
@[go_sem] theorem akK(a b:aJ):k6 C (some (.bool true)) a b K F H=a.wp C K F H:=(rfl)
@[go_sem] theorem aiT(a b:aJ):k6 C (some (.bool false)) a b K F H=b.wp C K F H:=(rfl)
@[go_sem] theorem ajB(w:bP->K_):gL C w K .normal F H=w K F H:=(rfl)
@[go_sem] theorem ahY(w:bP->K_):gL C w K .normal=w K:=(rfl)
@[go_sem] theorem amX(w:bP->K_)(id:Nat):gL C w K (.exit id)=K (.exit id):=(rfl)
@[go_sem] theorem apN(w:bP->K_):gL C w K .ret=K .ret:=(rfl)
@[go_sem] theorem afP(id:Nat):fL id K .normal=K .normal:=(rfl)
@[go_sem] theorem akI(id:Nat):fL id K .ret=K .ret:=(rfl)
@[go_sem] theorem KM(id e:Nat):fL id K (.exit e) F H=if e=id then K .normal F H else K (.exit e) F H:=(rfl)
@[go_sem] theorem alZ(K:K_):wpOps C [] K F H=K F H:=(rfl)
@[go_sem] theorem amA(d:O_)(op:POp)(rest:List bU)(K:K_):wpOps C (⟨d,op,none⟩::rest) K F H=wpOp C op d (wpOps C rest K) F H:=(rfl)
def DA(C:Ctx)(v:Option PV)(e:Bool)(op:POp)(d:O_)(rest:List bU)(K:K_)(F:PF)(H:PH):Prop:=
 match v with
 |some (.bool b)=>if b=e then wpOp C op d (wpOps C rest K) F H else wpOps C rest K (F.put d (.tup [])) H
 |some (.tup [])=>wpOps C rest K (F.put d (.tup [])) H
 |_=>False
@[go_sem] theorem Io(d:O_)(op:POp)(t:Nat)(e:Bool)(rest:List bU)(K:K_) :
  wpOps C (⟨d,op,some (t,e)⟩::rest) K F H=DA C (F t) e op d rest K F H:=(rfl)
@[go_sem] theorem amT(op:POp)(d:O_)(rest:List bU)(K:K_):DA C (some (.bool true)) true op d rest K F H=wpOp C op d (wpOps C rest K) F H:=(rfl)
@[go_sem] theorem amQ(op:POp)(d:O_)(rest:List bU)(K:K_):DA C (some (.bool false)) false op d rest K F H=wpOp C op d (wpOps C rest K) F H:=(rfl)
@[go_sem] theorem amS(op:POp)(d:O_)(rest:List bU)(K:K_):DA C (some (.bool true)) false op d rest K F H=wpOps C rest K (F.put d (.tup [])) H:=(rfl)
@[go_sem] theorem amR(op:POp)(d:O_)(rest:List bU)(K:K_):DA C (some (.bool false)) true op d rest K F H=wpOps C rest K (F.put d (.tup [])) H:=(rfl)
@[go_sem] theorem aiY(e:Bool)(op:POp)(d:O_)(rest:List bU)(K:K_):DA C (some (.tup [])) e op d rest K F H=wpOps C rest K (F.put d (.tup [])) H:=(rfl)
@[go_sem] theorem apA(d:Nat)(v:PV):F.put (some d) v=F.set d v:=(rfl)
@[go_sem] theorem aoZ(v:PV):F.put none v=F:=(rfl)
@[go_sem] theorem mL(i j:Nat)(v:PV):(F.set i v) j=if j=i then some v else F j:=(rfl)
@[go_sem] theorem args_at(vs:V_)(i:Nat):g_ vs i=vs[i]?:=(rfl)
@[go_sem] theorem aqW(i:Nat):n_ i=none:=(rfl)
@[go_sem] theorem lm(t:Nat):(aP.tmp t).ev F=F t:=(rfl)
@[go_sem] theorem aoF(v:PV):(aP.const v).ev F=some v:=(rfl)
@[go_sem] theorem aO(i j:Nat)(x:aS):(H.set i x) j=if j=i then some x else H j:=(rfl)
@[go_sem] theorem MQ(i:Nat):h_ i=none:=(rfl)
@[go_sem] theorem YJ:aP.evs F []=some []:=(rfl)
@[go_sem] theorem HG(x:aP)(xs:List aP):aP.evs F (x::xs)=(match x.ev F,aP.evs F xs with|some v,some vs=>some (v::vs)|_,_=>none):=(rfl)
theorem yS{i j:Nat}{x:aS}:(H.set i x) j=none↔j≠i/\H j=none:=by
 rw[aO];split<;>simp_all
@[go_sem] theorem ajC(v:PV)(d:O_)(K:K_):xH (some v) d K F H=K (F.put d v) H:=by
 simp[xH]
theorem aQ{e:Nat->PV}{x:aS}{d:O_}{K:K_}(h:∀o,H o=none->K (F.put d (e o)) (H.set o x)):oU (some (e,x)) d K F H:=⟨e,x,rfl,h⟩
abbrev Wq(C:Ctx)(o:POp):Prop:=∀(d:O_)(K:K_)(F:PF)(H:PH),wpOp C o d K F H=xH (aX o F H) d K F H
theorem wqr{o:POp}(h:Wq C o:=by intro _ _ _ _;rfl):Wq C o:=h
@[go_sem] theorem aqR(x:aP):Wq C (.mv x):=wqr
@[go_sem] theorem anJ(x:aP):Wq C (.same x):=wqr
@[go_sem] theorem anI(c a b:aP):Wq C (.pick c a b):=wqr
@[go_sem] theorem apZ(o:BinOp)(x y:aP):Wq C (.bin o x y):=wqr
@[go_sem] theorem aqB(n:Bool)(x y:aP):Wq C (.eqb n x y):=wqr
@[go_sem] theorem aqC(n:Bool)(e:List Sc)(x y:aP):Wq C (.eqs n e x y):=wqr
@[go_sem] theorem aqS(o:UnOp)(x:aP):Wq C (.un o x):=wqr
@[go_sem] theorem anB(k:IntKind)(x:aP):Wq C (.conv k x):=wqr
@[go_sem] theorem alS(z:V_)(ps:List (Nat × Nat × aP)):Wq C (.build z ps):=wqr
@[go_sem] theorem anG(n:O_)(p:aP):Wq C (.load n p):=wqr
@[go_sem] theorem ajN(x:aP):Wq C (.arP x):=wqr
@[go_sem] theorem ajG(off:Nat)(x:aP):Wq C (.asF off x):=wqr
@[go_sem] theorem alU(off:Nat)(n:O_)(x:aP):Wq C (.field off n x):=wqr
@[go_sem] theorem anD(s:Nat)(x i:aP):Wq C (.arT s x i):=wqr
@[go_sem] theorem anC(n s:Nat)(x i:aP):Wq C (.idxA n s x i):=wqr
@[go_sem] theorem anE(n s:Nat)(g:Bool)(x i:aP):Wq C (.idxV n s g x i):=wqr
@[go_sem] theorem ajH(x i:aP):Wq C (.asD x i):=wqr
@[go_sem] theorem alX(s:Nat)(x:aP)(lo hi mx:Option aP):Wq C (.slice s x lo hi mx):=wqr
@[go_sem] theorem ajO(n s:Nat)(x:aP)(lo hi mx:Option aP):Wq C (.sliceA n s x lo hi mx):=wqr
@[go_sem] theorem afS(x:aP)(lo hi:Option aP):Wq C (.arZ x lo hi):=wqr
@[go_sem] theorem amU:PV.sX .aG=some (.int .i64 0):=(rfl)
@[go_sem] theorem aqP(s:Nat)(rows:P2_):PV.sX (.sl s rows)=some (.int .i64 rows.length):=(rfl)
@[go_sem] theorem aoN(o s off n:Nat):PV.sX (.osl o s off n)=some (.int .i64 n):=(rfl)
@[go_sem] theorem aqD(x:aP):Wq C (.len x):=wqr
@[go_sem] theorem ajJ(x:aP):Wq C (.asC x):=wqr
@[go_sem] theorem anF(x:aP):Wq C (.lenM x):=wqr
@[go_sem] theorem alV(n:Bool)(x:aP):Wq C (.isNil n x):=wqr
@[go_sem] theorem ajA:PV.tN .aG=some true:=(rfl)
@[go_sem] theorem alC(o s off len:Nat):PV.tN (.osl o s off len)=some false:=(rfl)
@[go_sem] theorem aiZ(s:Nat)(r:V_)(rs:P2_):PV.tN (.sl s (r::rs))=some false:=(rfl)
@[go_sem] theorem ajF(x:aP):Wq C (.asN x):=wqr
@[go_sem] theorem aiP(x:aP)(i:Nat):Wq C (.extract x i):=wqr
@[go_sem] theorem ajM(m:Bool)(x y:aP):Wq C (.arX m x y):=wqr
@[go_sem] theorem anH(n:Nat)(cs:List aP):Wq C (.mkfn n cs):=wqr
@[go_sem] theorem ajK(sh:MSh)(z:PV)(x k:aP)(ok:Bool):Wq C (.lookup sh z x k ok):=wqr
@[go_sem] theorem afE(x:aP):Wq C (.arQ x):=wqr
@[go_sem] theorem amZ(x:aP):Wq C (.box true x):=wqr
@[go_sem] theorem aiO(s l:Nat)(z:V_)(ps:List (Nat × aP)):Wq C (.arH true s l z ps):=wqr
@[go_sem] theorem alR(cs:V_)(d:O_)(K:K_):wpOp C (.alloc cs) d K F H=oU (cQ (.alloc cs) F) d K F H:=(rfl)
@[go_sem] theorem aiQ(s b:Nat)(z:V_)(l c:aP)(d:O_)(K:K_):wpOp C (.arK s b z l c) d K F H=oU (cQ (.arK s b z l c) F) d K F H:=(rfl)
@[go_sem] theorem alW(sh:MSh)(d:O_)(K:K_):wpOp C (.asJ sh) d K F H=oU (cQ (.asJ sh) F) d K F H:=(rfl)
@[go_sem] theorem aqA(x:aP)(d:O_)(K:K_):wpOp C (.box false x) d K F H=oU (cQ (.box false x) F) d K F H:=(rfl)
@[go_sem] theorem ajE(s l:Nat)(z:V_)(ps:List (Nat × aP))(d:O_)(K:K_):wpOp C (.arH false s l z ps) d K F H=oU (cQ (.arH false s l z ps) F) d K F H:=(rfl)
@[go_sem] theorem alY(n:Nat)(p x:aP)(d:O_)(K:K_):wpOp C (.store n p x) d K F H=cK (.store n p x) F H (λr H'=>K (F.put d r) H'):=(rfl)
@[go_sem] theorem ajD(s b:Nat)(x y:aP)(d:O_)(K:K_):wpOp C (.append s b x y) d K F H=cK (.append s b x y) F H (λr H'=>K (F.put d r) H'):=(rfl)
@[go_sem] theorem ajL(sh:MSh)(x k v:aP)(d:O_)(K:K_):wpOp C (.arU sh x k v) d K F H=cK (.arU sh x k v) F H (λr H'=>K (F.put d r) H'):=(rfl)
@[go_sem] theorem ajI(sh:MSh)(x k v:aP)(d:O_)(K:K_):wpOp C (.insert sh x k v) d K F H=cK (.insert sh x k v) F H (λr H'=>K (F.put d r) H'):=(rfl)
@[go_sem] theorem anA(n:Nat)(e:List aP)(d:O_)(K:K_):wpOp C (.call n e) d K F H=jX C n e [] d K F H:=(rfl)
@[go_sem] theorem alT(x:aP)(e:List aP)(d:O_)(K:K_):wpOp C (.asE x e) d K F H=wS C (x.ev F) e d K F H:=(rfl)
@[go_sem] theorem alQ(n:Nat)(cs:V_)(e:List aP)(d:O_)(K:K_):wS C (some (.fn n cs)) e d K F H=jX C n e cs d K F H:=(rfl)
theorem PF.nil_le:n_.le F:=λ_ _ h=>(by cases h)
abbrev c_:=@PF.nil_le
theorem PF.aL{i:Nat}{v:PV}{G:PF}(w:F.le G)(x:G i=some v):(F.set i v).le G:=by
 intro j u l;rw[mL]at l;split at l;rename_i e;subst e;cases l;exact x;exact w _ _ l
abbrev e_:=@PF.aL
theorem PF.le_refl:F.le F:=λ_ _ h=>h
theorem PH.nil_le:h_.le H:=λ_ _ h=>(by cases h)
abbrev a_:=@PH.nil_le
theorem PH.aL{i:Nat}{x:aS}{G:PH}(w:H.le G)(y:G i=some x):(H.set i x).le G:=by
 intro j u l;rw[aO]at l;split at l;rename_i e;subst e;cases l;exact y;exact w _ _ l
abbrev d_:=@PH.aL
theorem PH.le_refl:H.le H:=λ_ _ h=>h
abbrev b_:=@PH.le_refl
theorem wp_loop{c:aJ}{α:Type}(e:α->PF)(Hs:α->PH)(i:α->Prop)(m:α->Nat)(l:α)(u:i l)(w:(e l).le F)(x:(Hs l).le H)
  (hb:∀a,i a->c.wp C (fK e Hs i m (m a) K) (e a) (Hs a)):aJ.wp C (.loop c) K F H:=
 ⟨α,e,Hs,i,m,l,F,H,.refl F H,u,w,x,hb⟩
theorem aE{α:Type}{e:α->PF}{Hs:α->PH}{i:α->Prop}{m:α->Nat}{n:Nat}(a:α)(l:i a)(x:m a<n)(u:(e a).le F)(w:(Hs a).le H):fK e Hs i m n K .normal F H:=
 ⟨a,F,H,.refl F H,l,x,u,w⟩
@[go_sem] theorem alE{α:Type}{e:α->PF}{Hs:α->PH}{i:α->Prop}{m:α->Nat}{n:Nat}(id:Nat):fK e Hs i m n K (.exit id)=K (.exit id):=(rfl)
@[go_sem] theorem amV{α:Type}{e:α->PF}{Hs:α->PH}{i:α->Prop}{m:α->Nat}{n:Nat}:fK e Hs i m n K .ret=K .ret:=(rfl)
def aK(v:PV)(r:PV)(H:PH):Prop:=r=v/\H=h_
theorem PH.yG:H.over .nil .nil=H:=PH.ext λo=>rfl
theorem In{name:Nat}{vs cs:V_}{v:PV}{args:List aP}{d:O_}{K:K_}(h:aH C name (vs++cs) .nil (aK v))(e:aP.evs F args=some vs)
  (i:K (F.put d v) H):jX C name args cs d K F H:=by
 refine .inl ⟨vs++cs,.nil,_,by rw[e];rfl,a_,h,?_⟩;rintro r H' ⟨rfl,rfl⟩ _;rw[PH.yG];exact i
theorem aD{name:Nat}{vs:V_}{v:PV}{args:List aP}{d:O_}{K:K_}(h:aH C name vs .nil (aK v))(e:aP.evs F args=some vs)
  (i:K (F.put d v) H):jX C name args [] d K F H:=In (cs:=[]) (by rw[auA];exact h) e i
theorem cZ{res:List dX}{vs:V_}{v:PV}{e:lI}(he:e=.normal\/e=.ret)(h:dX.evs F H res=some vs)(x:bN vs=v):aV res (aK v) e F H:=by
 have i:∃vs,dX.evs F H res=some vs/\∃l w H2,jM (n_.set 0 (bN vs)) H l w/\H2.le w/\∃u,l 0=some u/\aK v u H2:=
  ⟨vs,h,_,H,.nil,.refl _ _,a_,v,by rw[mL,aF rfl,x],rfl,rfl⟩
 rcases he with rfl|rfl<;>exact i
theorem eD{F:PF}{H:PH}{res:List dX}{vs:V_}{v:PV}(e:bN vs=v)(h:dX.evs F H res=some vs:=by rfl):aV res (aK v) .ret F H:=cZ (.inr rfl) h e
@[go_sem] theorem uE:dX.evs F H []=some []:=(rfl)
@[go_sem] theorem nT(x:dX)(xs:List dX):dX.evs F H (x::xs)=(match x.ev F H,dX.evs F H xs with|some v,some vs=>some (v::vs)|_,_=>none):=(rfl)
@[go_sem] theorem sB(t:Nat):dX.ev F H (.tmp t)=F t:=(rfl)
@[go_sem] theorem apC(t:Nat):dX.ev F H (.cell t none)=(match F t with|some p=>(match loadCells H p 1 with|some [v]=>some v|_=>none)|none=>none):=(rfl)
@[go_sem] theorem amW(t k:Nat):dX.ev F H (.cell t (some k))=(match F t with|some p=>(loadCells H p k).map .agg|none=>none):=(rfl)
end
section
variable {C:Ctx} {K:bP} {F:PF} {H Hs:PH} {S:Spec}
theorem bE{ops:List (bU × Bool)}(Hs:PH)(S:Spec)(e:Hs.le H)(h:wpD C Hs S ops (K .normal) F H):aJ.wp C (.draw ops) K F H:=⟨Hs,S,e,h⟩
def cR:Spec:=λ_ _=>none
def dOp(C:Ctx)(Hs:PH)(S:Spec)(st:Bool)(op:POp)(d:O_)(K:K_)(F:PF)(H:PH):Prop:=(op.kind F).run C Hs S st (λv H'=>K (F.put d v) H') H
@[go_sem] theorem apX(K:K_):wpD C Hs S [] K F H=K F H:=(rfl)
@[go_sem] theorem apY(d:O_)(op:POp)(st:Bool)(rest:List (bU × Bool))(K:K_):wpD C Hs S ((⟨d,op,none⟩,st)::rest) K F H=dOp C Hs S st op d (wpD C Hs S rest K) F H:=(rfl)
def HL(C:Ctx)(Hs:PH)(S:Spec)(v:Option PV)(e st:Bool)(op:POp)(d:O_)(rest:List (bU × Bool))(K:K_)(F:PF)(H:PH):Prop:=
 match v with
 |some (.bool b)=>if b=e then dOp C Hs S st op d (wpD C Hs S rest K) F H else wpD C Hs S rest K (F.put d (.tup [])) H
 |some (.tup [])=>wpD C Hs S rest K (F.put d (.tup [])) H
 |_=>False
@[go_sem] theorem amY(d:O_)(op:POp)(t:Nat)(e st:Bool)(rest:List (bU × Bool))(K:K_) :
  wpD C Hs S ((⟨d,op,some (t,e)⟩,st)::rest) K F H=HL C Hs S (F t) e st op d rest K F H:=by
 have i:wpD C Hs S ((⟨d,op,some (t,e)⟩,st)::rest) K F H=((⟨d,op,some (t,e)⟩:bU).kind F).run C Hs S st (λv H'=>wpD C Hs S rest K (F.put d v) H') H:=(rfl);rw[i];unfold bU.kind HL;simp only;cases F t with
 |none=>rfl
 |some v=>
  cases v
  case bool b=>
   simp only;by_cases hb:b=e
   ·rw[aF hb,aF hb];rfl
   ·rw[aC hb,aC hb];simp[Kind.run]
  case tup vs=>cases vs<;>simp[Kind.run]
  all_goals rfl
@[go_sem] theorem amP(op:POp)(st:Bool)(d:O_)(rest:List (bU × Bool))(K:K_):HL C Hs S (some (.bool true)) true st op d rest K F H=dOp C Hs S st op d (wpD C Hs S rest K) F H:=(rfl)
@[go_sem] theorem amM(op:POp)(st:Bool)(d:O_)(rest:List (bU × Bool))(K:K_):HL C Hs S (some (.bool false)) false st op d rest K F H=dOp C Hs S st op d (wpD C Hs S rest K) F H:=(rfl)
@[go_sem] theorem amO(op:POp)(st:Bool)(d:O_)(rest:List (bU × Bool))(K:K_):HL C Hs S (some (.bool true)) false st op d rest K F H=wpD C Hs S rest K (F.put d (.tup [])) H:=(rfl)
@[go_sem] theorem amN(op:POp)(st:Bool)(d:O_)(rest:List (bU × Bool))(K:K_):HL C Hs S (some (.bool false)) true st op d rest K F H=wpD C Hs S rest K (F.put d (.tup [])) H:=(rfl)
@[go_sem] theorem aiX(e:Bool)(op:POp)(st:Bool)(d:O_)(rest:List (bU × Bool))(K:K_):HL C Hs S (some (.tup [])) e st op d rest K F H=wpD C Hs S rest K (F.put d (.tup [])) H:=(rfl)
abbrev Dq(C:Ctx)(Hs:PH)(S:Spec)(o:POp):Prop:=∀(st:Bool)(d:O_)(K:K_)(F:PF)(H:PH),dOp C Hs S st o d K F H=xH (aX o F (if st then Hs else H)) d K F H
theorem dqr{Hs:PH}{S:Spec}{o:POp}(h:Dq C Hs S o:=by intro _ _ _ _ _;rfl):Dq C Hs S o:=h
@[go_sem] theorem aqU(x:aP):Dq C Hs S (.mv x):=dqr
@[go_sem] theorem aoD(x:aP):Dq C Hs S (.same x):=dqr
@[go_sem] theorem aoC(c a b:aP):Dq C Hs S (.pick c a b):=dqr
@[go_sem] theorem aqH(o:BinOp)(x y:aP):Dq C Hs S (.bin o x y):=dqr
@[go_sem] theorem aqJ(n:Bool)(x y:aP):Dq C Hs S (.eqb n x y):=dqr
@[go_sem] theorem aqK(n:Bool)(e:List Sc)(x y:aP):Dq C Hs S (.eqs n e x y):=dqr
@[go_sem] theorem aqV(o:UnOp)(x:aP):Dq C Hs S (.un o x):=dqr
@[go_sem] theorem anV(k:IntKind)(x:aP):Dq C Hs S (.conv k x):=dqr
@[go_sem] theorem amD(z:V_)(ps:List (Nat × Nat × aP)):Dq C Hs S (.build z ps):=dqr
@[go_sem] theorem aoA(n:O_)(p:aP):Dq C Hs S (.load n p):=dqr
@[go_sem] theorem akU(x:aP):Dq C Hs S (.arP x):=dqr
@[go_sem] theorem akO(off:Nat)(x:aP):Dq C Hs S (.asF off x):=dqr
@[go_sem] theorem amE(off:Nat)(n:O_)(x:aP):Dq C Hs S (.field off n x):=dqr
@[go_sem] theorem anX(s:Nat)(x i:aP):Dq C Hs S (.arT s x i):=dqr
@[go_sem] theorem anW(n s:Nat)(x i:aP):Dq C Hs S (.idxA n s x i):=dqr
@[go_sem] theorem anY(n s:Nat)(g:Bool)(x i:aP):Dq C Hs S (.idxV n s g x i):=dqr
@[go_sem] theorem akP(x i:aP):Dq C Hs S (.asD x i):=dqr
@[go_sem] theorem amH(s:Nat)(x:aP)(lo hi mx:Option aP):Dq C Hs S (.slice s x lo hi mx):=dqr
@[go_sem] theorem agK(x:aP)(lo hi:Option aP):Dq C Hs S (.arZ x lo hi):=dqr
@[go_sem] theorem aqL(x:aP):Dq C Hs S (.len x):=dqr
@[go_sem] theorem akQ(x:aP):Dq C Hs S (.asC x):=dqr
@[go_sem] theorem anZ(x:aP):Dq C Hs S (.lenM x):=dqr
@[go_sem] theorem amF(n:Bool)(x:aP):Dq C Hs S (.isNil n x):=dqr
@[go_sem] theorem akN(x:aP):Dq C Hs S (.asN x):=dqr
@[go_sem] theorem aiV(x:aP)(i:Nat):Dq C Hs S (.extract x i):=dqr
@[go_sem] theorem akT(m:Bool)(x y:aP):Dq C Hs S (.arX m x y):=dqr
@[go_sem] theorem aoB(n:Nat)(cs:List aP):Dq C Hs S (.mkfn n cs):=dqr
@[go_sem] theorem akR(sh:MSh)(z:PV)(x k:aP)(ok:Bool):Dq C Hs S (.lookup sh z x k ok):=dqr
@[go_sem] theorem afR(x:aP):Dq C Hs S (.arQ x):=dqr
@[go_sem] theorem anU(x:aP):Dq C Hs S (.box true x):=dqr
@[go_sem] theorem aiU(s l:Nat)(z:V_)(ps:List (Nat × aP)):Dq C Hs S (.arH true s l z ps):=dqr
@[go_sem] theorem amC(cs:V_)(st:Bool)(d:O_)(K:K_):dOp C Hs S st (.alloc cs) d K F H=oU (cQ (.alloc cs) F) d K F H:=(rfl)
@[go_sem] theorem aiW(s b:Nat)(z:V_)(l c:aP)(st:Bool)(d:O_)(K:K_):dOp C Hs S st (.arK s b z l c) d K F H=oU (cQ (.arK s b z l c) F) d K F H:=(rfl)
@[go_sem] theorem amG(sh:MSh)(st:Bool)(d:O_)(K:K_):dOp C Hs S st (.asJ sh) d K F H=oU (cQ (.asJ sh) F) d K F H:=(rfl)
@[go_sem] theorem aqI(x:aP)(st:Bool)(d:O_)(K:K_):dOp C Hs S st (.box false x) d K F H=oU (cQ (.box false x) F) d K F H:=(rfl)
@[go_sem] theorem akM(s l:Nat)(z:V_)(ps:List (Nat × aP))(st:Bool)(d:O_)(K:K_):dOp C Hs S st (.arH false s l z ps) d K F H=oU (cQ (.arH false s l z ps) F) d K F H:=(rfl)
@[go_sem] theorem amI(n:Nat)(p x:aP)(st:Bool)(d:O_)(K:K_):dOp C Hs S st (.store n p x) d K F H=cK (.store n p x) F H (λr H'=>Hs.le H'/\K (F.put d r) H'):=(rfl)
@[go_sem] theorem akL(s b:Nat)(x y:aP)(st:Bool)(d:O_)(K:K_):dOp C Hs S st (.append s b x y) d K F H=cK (.append s b x y) F H (λr H'=>Hs.le H'/\K (F.put d r) H'):=(rfl)
@[go_sem] theorem akS(sh:MSh)(x k v:aP)(st:Bool)(d:O_)(K:K_):dOp C Hs S st (.arU sh x k v) d K F H=cK (.arU sh x k v) F H (λr H'=>Hs.le H'/\K (F.put d r) H'):=(rfl)
theorem Eh:H.only []=h_:=PH.ext λo=>by simp[PH.only,h_]
theorem cJ{name:Nat}{vs:V_}{v:PV}{args:List aP}{st:Bool}{d:O_}{K:K_}(i:S name vs=some ([],λ_=>aK v))(h:aH C name vs .nil (aK v))(l:aP.evs F args=some vs)
  (e:Hs.le H) (u:K (F.put d v) H):dOp C Hs S st (.call name args) d K F H:=by
 refine⟨vs,[],λ_=>aK v,l,i,λo w=>by simp at w,by rw[Eh];exact h,λG=>⟨v,.nil,⟨rfl,rfl⟩,λo x y=>by simp[h_]at y⟩,?_⟩;rintro r H' ⟨rfl,rfl⟩ -;rw[Eh,PH.yG];exact⟨e,u⟩
end
theorem wrap_i64{n:Int}(i:-9223372036854775808<=n)(l:n<=9223372036854775807):i_.wrap n=n:=by
 have e:i_.wrap n=if decide (n%18446744073709551616>=9223372036854775808)=true then n%18446744073709551616-18446744073709551616 else n%18446744073709551616:=by simp[IntKind.wrap,IntKind.bits,IntKind.signed]
 rw[e];split;rename_i h;simp only[dT_]at h;omega;rename_i h;simp only[dT_]at h;omega
theorem jt{k:Nat}(h:k<=9223372036854775807):i_.wrap (k:Int)=k:=wrap_i64 Om Om
theorem fI{k:Nat}(h:k<9223372036854775807):i_.wrap ((k:Int)+1)=((k+1:Nat):Int):=by
 rw[wrap_i64 Om Om];omega
theorem wZz(k:Nat)(h:k<9223372036854775807:=by omega):i_.wrap ((k:Int)+1)=((k+1:Nat):Int):=fI h
theorem wrap_u64{n:Int}(i:0<=n)(l:n<18446744073709551616):u_.wrap n=n:=by
 have e:u_.wrap n=n%18446744073709551616:=by simp[IntKind.wrap,IntKind.bits,IntKind.signed]
 rw[e];omega
abbrev ints(xs:I_):PV:=.sl 1 (xs.map λn=>[.int .i64 n])
open Go Go.RowKit
inductive CT where
 |int (k:IntKind)
 |bool
 |str
 |sl (es:List CT)
 deriving Inhabited
def xD(P:Program)(rec:TypeId->Option (List CT)):Nat->List Field->Option (List CT)
 |_,[]=>some []
 |k,f::e=>match rec f.type with
  |some cts=>if f.offset=k/\P.cellsOf f.type=cts.length then(xD P rec (k+Z' cts) e).map (cts++·)else none
  |none=>none
def jQ(P:Program):Nat->TypeId->Option (List CT)
 |0,_=>none
 |n+1,t=>match P.underlying t with
  |some .bool=>some [.bool]
  |some (.int k)=>some [.int k]
  |some .string=>some [.str]
  |some (.slice e)=>match jQ P n e with
   |some cts=>if P.cellsOf e=Z' cts/\0<cts.length then some [.sl cts]else none
   |none=>none
  |some (.struct i)=>match xD P (jQ P n) 0 i.toList with
   |some cts=>if P.cellsOf t=cts.length then some cts else none
   |none=>none
  |some (.array k e)=>match jQ P n e with
   |some cts=>if P.cellsOf e=Z' cts/\P.cellsOf t=k*cts.length then some (asT k cts).flatten else none
   |none=>none
  |_=>none
inductive PV.Ty:CT->PV->Prop
 |int {k:IntKind} {n:Int} (h:(Lit.int k n).wf=true):PV.Ty (.int k) (.int k n)
 |bool (b:Bool):PV.Ty .bool (.bool b)
 |str {s:List UInt8} (h:Z' s<=maxLen):PV.Ty .str (.str s)
 |sl {es:List CT} {rows:P2_} (hr:∀r∈rows,Z' r=Z' es) (hl:Z' rows<=maxLen) (h:∀(i j:Nat) pv ct,at2 rows i j=some pv->es[j]?=some ct->PV.Ty ct pv):PV.Ty (.sl es) (.sl es.length rows)
def Env.of(W:World)(num:Nat->FuncId):Env:=⟨λb=>match W.heap[b]? with|some (.cells cs _ _)=>some cs|_=>none,λ_=>none,num⟩
theorem bZ.start(W:World)(num:Nat->FuncId):bZ (Env.of W num) h_ W:=by
 refine⟨λb cs hb=>⟨λx e=>(by cases e),?_⟩,λo x e=>(by cases e),λo n h=>(by cases h)⟩;simp only[Env.of]at hb;split at hb;rename_i c ty fr h;cases hb;exact⟨ty,fr,h⟩;cases hb
structure Reads(E:Env)(cts:List CT)(pvs:V_)(cs:List Value):Prop where
 lp:Z' pvs=Z' cts
 lc:Z' cs=Z' cts
 rep:∀(j:Nat) pv c,pvs[j]?=some pv->cs[j]?=some c->bG E pv c/\c.oneCell'=true
 ty:∀(j:Nat) pv ct,pvs[j]?=some pv->cts[j]?=some ct->PV.Ty ct pv
theorem Reads.one{E:Env}{ct:CT}{pv:PV}{c:Value}(h:bG E pv c)(e:c.oneCell'=true)(i:PV.Ty ct pv):Reads E [ct] [pv] [c]:=by
 refine⟨rfl,rfl,λj p u a b=>?_,λj p u a b=>?_⟩
 ·cases j with
  |zero=>simp at a b;subst a;subst b;exact⟨h,e⟩
  |succ j=>simp at a
 ·cases j with
  |zero=>simp at a b;subst a;subst b;exact i
  |succ j=>simp at a
theorem Reads.append{E:Env}{e l:List CT}{i y:V_}{w x:List Value}(h:Reads E e i w)(k:Reads E l y x):Reads E (e++l) (i++y) (w++x):=by
 refine⟨by simp[h.lp,k.lp],by simp[h.lc,k.lc],λj p u a b=>?_,λj p u a b=>?_⟩;rcases atY j i.length with hj|hj
 rw[avM hj]at a;rw[avM (by rw[h.lc,<-h.lp];exact hj)]at b;exact h.rep j p u a b;rw[auS hj]at a;rw[auS (by rw[h.lc,<-h.lp];exact hj)]at b;rw[show j-Z' w=j-i.length by rw[h.lc,h.lp]]at b;exact k.rep _ p u a b;rcases atY j i.length with hj|hj
 rw[avM hj]at a;rw[avM (by rw[<-h.lp];exact hj)]at b;exact h.ty j p u a b;rw[auS hj]at a;rw[auS (by rw[<-h.lp];exact hj)]at b;rw[show j-Z' e=j-i.length by rw[h.lp]]at b;exact k.ty _ p u a b
theorem ko{W:World}{num:Nat->FuncId}{a:Addr}{v:Value}(h:W.cell? a=some v):a.spot=none/\(Env.of W num).cell a.block a.off=some v:=by
 unfold World.cell? at h;split at h;rename_i c ty fr hb;split at h;cases h;rename_i e;refine⟨by simpa using e,?_⟩;simp only[Env.cell,Env.of,hb];exact h;cases h
inductive PV.Len (N:Nat):PV->Prop
 |flat {pv:PV} (h1:∀n rows,pv≠.sl n rows) (h2:∀vs,pv≠.agg vs):PV.Len N pv
 |sl {n:Nat} {rows:P2_} (h:Z' rows<=N) (hr:∀r∈rows,∀v∈r,PV.Len N v):PV.Len N (.sl n rows)
 |agg {vs:V_} (h:∀v∈vs,PV.Len N v):PV.Len N (.agg vs)
theorem PV.Len.int{N:Nat}(k:IntKind)(n:Int):PV.Len N (.int k n):=.flat (λ_ _ h=>by cases h) λ_ h=>by cases h
theorem PV.Len.bool{N:Nat}(b:Bool):PV.Len N (.bool b):=.flat (λ_ _ h=>by cases h) λ_ h=>by cases h
theorem PV.Len.str{N:Nat}(s:List UInt8):PV.Len N (.str s):=.flat (λ_ _ h=>by cases h) λ_ h=>by cases h
theorem PV.Len.rows{N n:Nat}{rows:P2_}(h:PV.Len N (.sl n rows)):Z' rows<=N/\∀r∈rows,∀v∈r,PV.Len N v:=by
 cases h with
 |flat e _=>exact absurd rfl (e n rows)
 |sl e i=>exact⟨e,i⟩
theorem PV.Len.parts{N:Nat}{vs:V_}(h:PV.Len N (.agg vs)):∀v∈vs,PV.Len N v:=by
 cases h with
 |flat _ e=>exact absurd rfl (e vs)
 |agg h=>exact h
structure cy{H:Type}(P:Program)(N:Nat)(S:TypeId->DataW H->Prop):Prop where
 sl:∀t e elems spare,P.underlying t=some (.slice e)->S t (.slice elems spare)->Z' elems<=N/\∀d∈elems,S e d
 st:∀t fs parts,P.underlying t=some (.struct fs)->S t (.agg parts)->∀(i:Nat) g d,fs[i]?=some g->parts[i]?=some d->S g.type d
 ar:∀t n e parts,P.underlying t=some (.array n e)->S t (.agg parts)->∀d∈parts,S e d
theorem YA{H:Type}{P:Program}{A:(TypeId->DataW H->Prop)->Prop}{pv:PV}(h:∀{N},PV.Len N pv):∀N S,cy P N S->A S->∀v∈[pv],PV.Len N v:=λN S _ _ v e=>by
 obtain rfl:=auB.1 e;exact h
theorem ln{P:Program}{E:Env}{rec:TypeId->Option (List CT)}{H:Type}{f:TypeId->List Value->Option (DataW H × List MemPlace)}
  (F:∀t cs x cts,f t cs=some x->rec t=some cts->∃e,Reads E cts e cs/\∀N S,cy P N S->S t x.1->∀v∈e,PV.Len N v) (cs:List Value) :
  ∀(l:List Field)(k:Nat)(cts:List CT),(∀g∈l,∃x,f g.type ((cs.drop g.offset).take (P.cellsOf g.type))=some x)->xD P rec k l=some cts ->
   ∃e,Reads E cts e ((cs.drop k).take cts.length)/\∀N S,cy P N S->(∀g∈l,∀x,f g.type ((cs.drop g.offset).take (P.cellsOf g.type))=some x->S g.type x.1)->∀v∈e,PV.Len N v
 |[],k,cts,_,h=>by simp[xD]at h;subst h;exact⟨[],⟨rfl,by simp,λj p c a=>by simp at a,λj p c a=>by simp at a⟩,λ_ _ _ _ v hv=>by cases hv⟩
 |g::l,k,cts,B,h=>by
  simp only[xD]at h;split at h;rename_i J L;split at h;rename_i A;simp only[atB]at h;obtain⟨K,M,rfl⟩:=h;obtain⟨x,D⟩:=B g aZ;obtain⟨U,r1,O⟩:=F _ _ _ _ D L;rw[A.1,A.2]at r1;obtain⟨V,r2,R⟩:=ln F cs l (k+Z' J) K (λu i=>B u (by simp[i])) M;refine⟨U++V,?_,λN S w y v hv=>?_⟩;have:=r1.append r2;rw[asX,List.take_add,List.drop_drop];exact this;rcases auC.1 hv with hv|hv
  exact O N S w (y g aZ x D) v hv;exact R N S w (λu i=>y u (by simp[i])) v hv;cases h;cases h
theorem u7{E:Env}{cts:List CT}{R:V_->Prop}(l:R [])(u:∀a b,R a->R b->R (a++b))(cs:List Value) :
  ∀n:Nat,(∀i,i<n->∃e,Reads E cts e ((cs.drop (i*Z' cts)).take cts.length)/\R e)->∃e,Reads E (asT n cts).flatten e (cs.take (n*Z' cts))/\R e
 |0,_=>⟨[],⟨rfl,by simp,λj p c a=>by simp at a,λj p c a=>by simp at a⟩,l⟩
 |n+1,h=>by obtain⟨w,r1,y⟩:=u7 l u cs n λi hi=>h i Om;obtain⟨x,r2,A⟩:=h n Om;refine⟨w++x,?_,u _ _ y A⟩;rw[List.replicate_succ',List.flatten_append,List.flatten_singleton,avS,List.take_add];exact r1.append r2
theorem Y1{H:Type}{enc:TypeId × Value->H}{P:Program}{W:World}{base:Nat}{sp:Nat->Bool}{α:Bool}(num:Nat->FuncId) :
  ∀(fuel m:Nat)(t:TypeId)(cs:List Value)(x:DataW H × List MemPlace)(cts:List CT),DataW.trod enc P W base sp α fuel t cs=some x->jQ P m t=some cts->∃l,Reads (Env.of W num) cts l cs/\∀N S,cy P N S->S t x.1->∀v∈l,PV.Len N v:=by
 intro fuel
 induction fuel with
 |zero=>intro m t cs x cts h;simp[DataW.trod]at h
 |succ fuel ih=>
  intro m t cs x cts h A;cases m with
  |zero=>simp[jQ]at A
  |succ m=>
   simp only[jQ]at A;split at A;rename_i L;cases A;obtain⟨b,rfl,-⟩:=DataW.trod_bool L h;exact⟨[.bool b],.one (.bool b) rfl (.bool b),YA (.bool b)⟩;rename_i k L;cases A;obtain⟨n,rfl,-,hw⟩:=DataW.trod_int L h;exact⟨[.int k n],.one (.int k n) rfl (.int hw),YA (.int k n)⟩;rename_i L;cases A;obtain⟨s,rfl,-,hs⟩:=DataW.trod_string L h;exact⟨[.str s.data.toList],.one (.str s) rfl (.str (by rw[awC];exact hs)),YA (.str _)⟩;rename_i e L;split at A;rename_i u he;split at A;rename_i B;cases A;rcases DataW.trod_slice L h with⟨rfl,-⟩|⟨a,len,cap,elems,rest,n,hn,rfl,V,-,β,hcap,hel,helem,-⟩
   refine⟨[.sl u.length []],.one ?_ rfl (.sl aZ aZ (by simp[at2])),YA (.sl (asQ _) (λr O=>by cases O))⟩;exact .sl (λ_ _=>.bool false) aZ aR aZ aZ (λ_ _=>rfl) (by simp[at2]);cases hn;have each:∀i,i<len->∃l X,(Reads (Env.of W num) u l X/\∀N S,cy P N S->(∀d∈elems.map (·.1),S e d)->∀v∈l,PV.Len N v)/\W.cells? base (a.add (i*Z' u)) u.length=some X:=by intro i hi;have Z:=helem i hi;rw[asZ Om,awX]at Z;obtain⟨X,h2,h3⟩:=Z;obtain⟨l,r,rl⟩:=ih m e X _ u h3 he;rw[B.1]at h2;exact⟨l,X,⟨r,λN S F J=>rl N S F (J _ (atM.2 ⟨_,asS _,rfl⟩))⟩,h2⟩
   have γ:∀i,∃l,∃X,i<len->(Reads (Env.of W num) u l X/\∀N S,cy P N S->(∀d∈elems.map (·.1),S e d)->∀v∈l,PV.Len N v)/\W.cells? base (a.add (i*Z' u)) u.length=some X:=by intro i;by_cases hi:i<len;obtain⟨l,X,Z⟩:=each i hi;exact⟨l,X,λ_=>Z⟩;exact⟨[],[],λh=>(hi h).elim⟩
   obtain⟨pf,ν⟩:=Classical.axiomOfChoice γ;obtain⟨uf,K⟩:=Classical.axiomOfChoice ν;have δ:∀i j pv,at2 ((asP len).map pf) i j=some pv->i<len/\(pf i)[j]?=some pv:=by
    intro i j pv hp;unfold at2 at hp;rw[atC,awX]at hp;obtain⟨r,O,hp⟩:=hp;rw[atB]at O;obtain⟨i',M,rfl⟩:=O;have hi:i<len:=by simpa using(atX.1 M).1
    have:i'=i:=by simp[hi]at M;exact M.symm
    subst this;exact⟨hi,hp⟩
   have hu2:∀i j pv,at2 ((asP len).map pf) i j=some pv->∃v,(uf i)[j]?=some v/\j<Z' u/\bG (Env.of W num) pv v/\v.oneCell'=true:=by
    intro i j pv hp;obtain⟨hi,U⟩:=δ i j pv hp;obtain⟨⟨r,-⟩,-⟩:=K i hi;have hj:j<Z' u:=by rw[<-r.lp];exact(atX.1 U).1
    have D:(uf i)[j]?=some ((uf i)[j]'(by rw[r.lc];exact hj)):=asZ _;exact⟨_,D,hj,(r.rep j pv _ U D).1,(r.rep j pv _ U D).2⟩
   have Y:((asP len).map pf).length=len:=by simp
   refine⟨[.sl u.length ((asP len).map pf)],.one ?_ rfl (.sl (λr O=>?_) (by rw[Y];omega) λi j pv ct hp ι=>?_),λN S F J v D=>?_⟩;have ζ:=bG.sl (E:=Env.of W num) (size:=Z' u) (rows:=(asP len).map pf) (a:=some a) (cap:=cap)
    (λi j=>match at2 ((asP len).map pf) i j with|some _=>((uf i)[j]?).getD (.bool false)|none=>.bool false) (by rw[Y];exact β) hcap
    (λr O=>by simp only[atM,atQ]at O;obtain⟨i,hi,rfl⟩:=O;exact(K i hi).1.1.lp)
    (λμ=>by
     have κ:0<len:=by
      rcases avB len with h|h
      subst h;exact(μ rfl).elim;exact h
     have ε:a.spot=none:=by obtain⟨⟨r,-⟩,A⟩:=K 0 κ;have h3:=(World.cells?_some A).2.2 0 B.2;rw[Nat.zero_mul,Addr.add_zero',Addr.add_zero',asZ (by rw[r.lc];exact B.2)]at h3;exact(ko (num:=num) h3).1
     refine⟨a,rfl,ε,λi j pv hp=>?_⟩;obtain⟨hi,-⟩:=δ i j pv hp;obtain⟨v,D,hj,-⟩:=hu2 i j pv hp;have h3:=(World.cells?_some (K i hi).2).2.2 j hj;rw[sO ε,add_plain,add_plain,D]at h3;have h4:=(ko (num:=num) h3).2;simp only[hp,D,auV];exact h4)
    (λi j=>by split;rename_i pv hp;obtain⟨v,D,-,-,Z⟩:=hu2 i j pv hp;simp[D,Z];rfl)
    (λi j pv hp=>by obtain⟨v,D,-,Z,-⟩:=hu2 i j pv hp;simp only[hp,D,auV];exact Z)
   rw[Y]at ζ;exact ζ;simp only[atM,atQ]at O;obtain⟨i,hi,rfl⟩:=O;exact(K i hi).1.1.lp;obtain⟨hi,U⟩:=δ i j pv hp;exact(K i hi).1.1.ty j pv ct U ι;rw[V]at J;obtain⟨m1,m2⟩:=F.sl t e _ _ L J;obtain rfl:=auB.1 D;refine .sl (by rw[Y];simpa[hel]using m1) λr O w hw=>?_;simp only[atM,atQ]at O;obtain⟨i,hi,rfl⟩:=O;exact(K i hi).1.2 N S F m2 w hw;cases A;cases A;rename_i fs L;split at A;rename_i ο η;split at A;rename_i β;cases A;obtain⟨xs,n,hn,V,θ,ξ,hx⟩:=DataW.trod_struct L h;cases hn;have:=ln (f:=DataW.trod enc P W base sp α fuel) (λt cs x cts a b=>ih m t cs x cts a b) cs fs.toList 0 cts (λg hg=>by obtain⟨i,hi,rfl⟩:=auG hg;have:=hx i fs.toList[i] (by simp at hi;simp[hi]);rw[this];exact⟨_,asZ (by simp at hi;omega)⟩) η
   rw[avG,atP Om]at this;obtain⟨l,r,rl⟩:=this;refine⟨l,r,λN S F J=>rl N S F λg hg y hy=>?_⟩;rw[V]at J;obtain⟨i,hi,rfl⟩:=auG hg;have M:i<fs.size:=by simpa using hi
   have:=hx i fs.toList[i] (by simp[M]);rw[hy,asZ Om]at this;refine F.st t fs _ L J i fs.toList[i] y.1 (by simp[M]) ?_;rw[atC,asZ Om,<-this];rfl;cases A;cases A;rename_i k e L;split at A;rename_i u he;split at A;rename_i B;cases A;obtain⟨xs,n,hn,V,θ,ξ,hx⟩:=DataW.trod_array L h;cases hn;obtain⟨l,r,hq⟩:=u7 (E:=Env.of W num) (cts:=u) (R:=λl=>∀N S,cy P N S->(∀d:DataW H,d∈xs.map (λy:DataW H × List MemPlace=>y.1)->S e d)->∀v∈l,PV.Len N v) (λ_ _ _ _ v D=>by cases D)
    (λa b ha hb N S F J v D=>(auC.1 D).elim (ha N S F J v) (hb N S F J v)) cs k λi hi=>by have h2:=hx i hi;rw[asZ Om,B.1]at h2;obtain⟨l,r,rl⟩:=ih m e _ _ u h2 he;exact⟨l,r,λN S F J=>rl N S F (J _ (atM.2 ⟨_,asS _,rfl⟩))⟩
   rw[atP Om]at r;exact⟨l,r,λN S F J=>hq N S F (F.ar t k e _ L (by rw[V]at J;exact J))⟩;cases A;cases A;cases A
theorem qh{H:Type}{enc:TypeId × Value->H}{P:Program}{W:World}{base:Nat}{u:Nat->Bool}{e:Bool}(num:Nat->FuncId)
  (fuel m:Nat) (t:TypeId) (cs:List Value) (x:DataW H × List MemPlace) (cts:List CT) (h:DataW.trod enc P W base u e fuel t cs=some x) (l:jQ P m t=some cts):∃i,Reads (Env.of W num) cts i cs:=
 (Y1 num fuel m t cs x cts h l).imp λ_ r=>r.1
open Go Go.RowKit Go.ChangeShapes Go.WideShapes
theorem Ext.below{E i:Env}{H':PH}{w e:World}(h:Ext E h_ w i H' e):Below w.heap.size w e:=
 ⟨h.os,h.tape,h.output,h.size,λk l=>h.block k l rfl⟩
theorem Below.trodAll{H:Type}{enc:TypeId × Value->H}{P:Program}(w:laidOutB P=true){W i:World}(hb:Below W.heap.size W i) :
  ∀{ts:List TypeId}{vs:List Value}{ds:List (DataW H)}{ps:List MemPlace},(∀t∈ts,P.readableRec t=true/\t<P.types.size)->DataW.TrodAll enc P W 0 (λ_=>true) true ts vs ds ps ->
   DataW.TrodAll enc P i 0 (λb=>decide (b<W.heap.size)) true ts vs ds ps
 |[],[],[],ps,_,h=>h
 |[],_::_,_,_,_,h=>h.elim
 |[],[],_::_,_,_,h=>h.elim
 |_::_,[],_,_,_,h=>h.elim
 |_::_,_::_,[],_,_,h=>h.elim
 |t::ts,v::vs,d::ds,ps,e,h=>by obtain⟨p,q,l,y,rfl⟩:=h;have hlt:∀x∈p,x.block<W.heap.size:=λx B=>DataW.TrodAll.lt (ts:=[t]) (vs:=[v]) (ds:=[d]) ⟨p,[],l,rfl,(auA p).symm⟩ x B;exact⟨p,q,Below.trod w (e t aZ).1 (e t aZ).2 l hb hlt,Below.trodAll w hb (λu A=>e u (by simp[A])) y,rfl⟩
theorem So{H:Type}{enc:TypeId × Value->H}{P:Program}{f:Func}{s:ChangeSpec}{e apart fresh:Bool}{W B:World}{args:Array Value}{ds l:List (DataW H)}{i:List MemPlace}{bt:TypeId}
  (F:laidOutB P=true) (hW:DataW.Whole enc P f.params.toList s.vars apart W args.toList ds l i) (hb:Below W.heap.size W B) (x:∀t∈f.params.toList,P.readableRec t=true/\t<P.types.size)
  (w:f.resultTypes=#[bt]) (u:P.underlying bt=some .bool) (y:s.vars=[]) (K:(s.fn H (ds++l)).results=[.lit (.bool true)]) (E:(s.fn H (ds++l)).args=ds) (A:(s.fn H (ds++l)).vars=[]) :
  s.post enc P f apart fresh e false W args (.bool true) B:=by
 obtain⟨p,q,D,hV,rfl,L,J⟩:=hW;rw[y]at hV;obtain⟨rfl,rfl⟩:=trodVars_none hV;refine⟨ds,[],p++[],[],p,[],⟨p,[],D,by rw[y];exact hV,rfl,L,J⟩,?_,?_,?_,hb.frame _,λh=>by cases h⟩;rw[K,w];refine⟨[],[],⟨1,?_⟩,rfl,rfl⟩;simp[DataW.trod,u,Value.cells,Value.resultList];rw[E];exact Below.trodAll F hb x D;rw[y,A];exact rfl
theorem Re{name:Nat}{W:World}{args:Array Value}{l:V_}(h:aH C name l h_ (aK (.bool true)))(x:fV (Env.of W C.num) l args.toList) :
  Calls C.P (C.num name) args W λe u=>e=.returned (.bool true)/\Below W.heap.size W u:=
 (h.2 (Env.of W C.num) W args rfl (bZ.start W C.num) x).mono λe u he=>by obtain⟨v,pv,y,H',rfl,-,i,w,rfl,-⟩:=he;cases i;exact⟨rfl,w.below⟩
theorem Ld{H:Type}{enc:TypeId × Value->H}{P:Program}{W:World}{r:Reach}{base:Nat}{F:Nat->Bool}{l:Bool}(num:Nat->FuncId){t:TypeId}{v:Value}{d:DataW H}{ps:List MemPlace}{A:Array Field}{n:Nat}{cts:List CT}
  (x:P.underlying t=some (.struct A)) (w:Value.okWide P W r base t v) (D:DataW.Trod enc P W 0 F l t v d ps) (B:jQ P n t=some cts) :
  ∃e,bG (Env.of W num) (.agg e) v/\Z' e=Z' cts/\∀(j:Nat) pv ct,e[j]?=some pv->cts[j]?=some ct->PV.Ty ct pv:=by
 obtain⟨cs,rfl,-⟩:=okWide_struct x w;obtain⟨fuel,h⟩:=D;obtain⟨e,i⟩:=qh num fuel n t _ _ cts h B;have E:cs.size=Z' e:=by have:=i.lc;rw[i.lp,<-this];simp[Value.cells]
 refine⟨e,.agg cs E (λu x=>?_) (λj pv u a b=>(i.rep j pv u a (by simpa[Value.cells]using b)).1),i.lp,i.ty⟩;obtain⟨j,y,rfl⟩:=auG x;simp only[awC]at y;exact(i.rep j _ _ (asZ Om) (by simp[Value.cells,y])).2
theorem BC{H:Type}{enc:TypeId × Value->H}{P:Program}{W:World}{A:Nat->Bool}{e:Bool}(num:Nat->FuncId){t:TypeId}{v:Value}{d:DataW H}{ps:List MemPlace}{n:Nat}{ct:CT}
  (y:v.cells=#[v]) (w:DataW.Trod enc P W 0 A e t v d ps) (u:jQ P n t=some [ct]):∃pv,bG (Env.of W num) pv v/\PV.Ty ct pv:=by
 obtain⟨fuel,h⟩:=w;obtain⟨l,i⟩:=qh num fuel n t _ _ [ct] h u;rw[y]at i;have x:=i.lp;cases l with
 |nil=>simp at x
 |cons pv rest=>exact⟨pv,(i.rep 0 pv v rfl rfl).1,i.ty 0 pv ct rfl rfl⟩
def InK(k:IntKind)(n:Int):Prop:=k.min<=n/\n<=k.max
def Mz(k:IntKind)(xs:I_):PV:=.sl 1 (xs.map λn=>[.int k n])
theorem Ty.Jj{k:IntKind}{pv:PV}(h:PV.Ty (.int k) pv):∃n,pv=.int k n/\InK k n:=by
 cases h with
 |int h=>simp only[Lit.wf,asV,dT_]at h;exact⟨_,rfl,h⟩
theorem Ty.aeJ{ct:CT}{pv:PV}(h:PV.Ty (.sl [ct]) pv):∃vs:V_,pv=.sl 1 (vs.map λv=>[v])/\Z' vs<=maxLen/\∀v∈vs,PV.Ty ct v:=by
 cases h with
 |@sl D rows B A h=>
 have l:∀r∈rows,r=[r.headD .junk]:=λr u=>by
  have:=B r u
  match r,this with
  |[x],_=>rfl
 have e:rows=(rows.map λr=>r.headD .junk).map λv=>[v]:=by rw[avT];apply avL aZ;intro n y E;simp only[auN,Function.comp];exact l _ (asS y)
 refine⟨rows.map λr=>r.headD .junk,by rw[<-e];rfl,by simpa using A,λv w=>?_⟩;rw[atM]at w;obtain⟨r,u,rfl⟩:=w;obtain⟨i,hi,rfl⟩:=auG u;refine h i 0 _ ct ?_ rfl;have:=l rows[i] u;unfold at2;rw[asZ hi,awQ,this];rfl
theorem Ty.Wl{k:IntKind}{pv:PV}(h:PV.Ty (.sl [.int k]) pv):∃xs:I_,pv=Mz k xs/\Z' xs<=maxLen/\∀x∈xs,InK k x:=by
 obtain⟨vs,rfl,A,l⟩:=Ty.aeJ h;have e:vs=(vs.map λv=>match v with | .int _ n=>n|_=>0).map λn=>PV.int k n:=by rw[avT];apply avL aZ;intro n w B;simp only[auN,Function.comp];obtain⟨m,i,-⟩:=Ty.Jj (l _ (asS w));rw[i]
 refine⟨vs.map λv=>match v with | .int _ n=>n|_=>0,?_,by simpa using A,λx u=>?_⟩
 ·unfold Mz
  conv=>lhs;rw[e]
  rw[avT];rfl
 ·rw[atM]at u;obtain⟨v,i,rfl⟩:=u;obtain⟨m,rfl,y⟩:=Ty.Jj (l v i);exact y
end Go.PM
namespace Go.Proofs.YtfeiflgckfjohaaGreatDoor
open Go Go.PM
def Jt:N_:=[0,0,0,382,376,4,310,5,365,381,213,363,29,1,7,83,308,304,307,309,231,151,368,369,370,153,152,371,372,220,84,86,85,217,221,379,380,95,28,364,366,367,3,30,48,8,6,51,68,306,305,78,300,303,301,97,207,208,211,162,155,374,206,158,218,216,219,88,214,334,289,331,329,373,2,196,59,36,60,77,74,71,69,57,55,75,73,70,105,112,96,113,111,212,161,159,181,204,230,82,91,81,343,344,345,346,116,347,337,287,299,288,285,336,115,338,232,339,164,39,35,34,63,72,76,56,54,52,53,62,67,50,106,98,100,118,103,107,109,124,157,160,193,172,202,89,90,352,353,354,355,356,121,120,357,286,283,284,293,297,298,349,119,130,122,123,233,209,279,350,114,163,42,40,66,65,47,61,33,117,129,133,99,104,101,108,110,102,127,126,185,184,182,183,194,190,10,191,192,173,174,359,360,361,132,131,136,292,295,296,139,134,280,128,135,171,170,166,167,32,46,45,43,41,64,31,58,38,37,125,195,188,0,186,187,11,138,137,142,169,165,168,175,44,49,189,141,144,143,140,176,177]
def ahI : N_ -> Nat -> Nat -> Nat
 | [], _, _ => 0
 | x :: l, n, k => if auR x n then k else ahI l n (k+1)
def num(n:Nat):FuncId:=ahI Jt (n+1) 0
def nameOf (f : FuncId) : O_ := match Jt.getD f 0 with
 | 0 => none
 | n+1 => some n
noncomputable def T(ro:N_):Tbl:={ P:=Tryz.prog,num:=num,name:=nameOf,ro:=ro }
end Go.Proofs.YtfeiflgckfjohaaGreatDoor
namespace Go.PM
open Go
abbrev Rg:=List bU
abbrev Rd:=List (bU×Bool)
def aJ.rs : aJ->List Rg
 | .region r=>[r] | .seq a b=>a.rs++b.rs | .cond _ a b=>a.rs++b.rs | .block _ a=>a.rs | .loop a=>a.rs | _=>[]
def aJ.ds : aJ->List Rd
 | .draw r=>[r] | .seq a b=>a.ds++b.ds | .cond _ a b=>a.ds++b.ds | .block _ a=>a.ds | .loop a=>a.ds | _=>[]
theorem GN (n:Nat) (h:n<2^8):UInt8.ofBitVec (BitVec.ofFin ⟨n,h⟩)=UInt8.ofNat n:=by
 apply UInt8.toNat_inj.1;have e:n<256:=h;simp [UInt8.toNat_ofNat'];omega
def aJ.ls : aJ->List aJ
 | .seq a b=>a.ls++b.ls | .cond _ a b=>a.ls++b.ls | .block _ a=>a.ls | .loop a=>a::a.ls | _=>[]
def bT(ro:N_)(f:Func)(x:{p:kJ//(Go.Proofs.YtfeiflgckfjohaaGreatDoor.T ro).func f=some p}:=by refine⟨?_,?_⟩;rotate_left;conv=>lhs;reduce):kJ:=x.1
def aA(q:kJ)(k:Nat)(x:{l:Rg//(q.body.rs).getD k []=l}:=by refine⟨?_,?_⟩;rotate_left;conv=>lhs;reduce;try simp only[GN,UInt8.reduceOfNat,Int.reduceOfNat,Int.reduceNegSucc]):Rg:=x.1
def dZ(q:kJ)(k:Nat)(x:{l:Rd//(q.body.ds).getD k []=l}:=by refine⟨?_,?_⟩;rotate_left;conv=>lhs;reduce;try simp only[GN,UInt8.reduceOfNat,Int.reduceOfNat,Int.reduceNegSucc]):Rd:=x.1
def alF(q:kJ)(k:Nat)(x:{c:aJ//(q.body.ls).getD k .skip=c}:=by refine⟨?_,?_⟩;rotate_left;conv=>lhs;reduce;try simp only[GN,UInt8.reduceOfNat,Int.reduceOfNat,Int.reduceNegSucc]):aJ:=x.1
def cG(q:kJ)(x:{c:aJ//q.body=c}:=by refine⟨?_,?_⟩;rotate_left;conv=>lhs;reduce;try simp only[GN,UInt8.reduceOfNat,Int.reduceOfNat,Int.reduceNegSucc]):aJ:=x.1
@[go_sem ↓] theorem aqM(ro:N_)(f:Func)(p:kJ)(h:(Go.Proofs.YtfeiflgckfjohaaGreatDoor.T ro).func f=some p):bT ro f ⟨p,h⟩=p:=(rfl)
@[go_sem ↓] theorem aoV(q:kJ)(k:Nat)(l:aJ)(h:(q.body.ls).getD k .skip=l):alF q k ⟨l,h⟩=l:=(rfl)
@[go_sem ↓] theorem anQ(q:kJ)(l:aJ)(h:q.body=l):cG q ⟨l,h⟩=l:=(rfl)
@[go_sem ↓] theorem apE(q:kJ)(k:Nat)(l:Rg)(h:(q.body.rs).getD k []=l):aA q k ⟨l,h⟩=l:=(rfl)
@[go_sem ↓] theorem aoE(q:kJ)(k:Nat)(l:Rd)(h:(q.body.ds).getD k []=l):dZ q k ⟨l,h⟩=l:=(rfl)
def gB(d:Nat)(o:BinOp)(x y g:Nat)(b:Bool):bU:=⟨some d,.bin o (.tmp x) (.tmp y),some (g,b)⟩
def sq(r:Rg)(c:aJ):aJ:=.seq (.region r) c
def dq(r:Rd)(c:aJ):aJ:=.seq (.draw r) c
def Tm(n:Nat):aP:=.tmp n
@[go_sem] theorem aqZ(d:Nat)(o:BinOp)(x y g:Nat)(b:Bool):gB d o x y g b=⟨some d,.bin o (.tmp x) (.tmp y),some (g,b)⟩:=(rfl)
@[go_sem] theorem arA(r:Rg)(c:aJ):sq r c=.seq (.region r) c:=(rfl)
@[go_sem] theorem aqY(r:Rd)(c:aJ):dq r c=.seq (.draw r) c:=(rfl)
@[go_sem] theorem aqX(n:Nat):Tm n=.tmp n:=(rfl)
def iE(r:Rg)(t k:Nat)(s:Rg)(b:aJ):aJ:=sq r (.seq (.cond (Tm t) .skip (.exit k)) (.seq (.block (k+1) b) (.region s)))
@[go_sem] theorem aoT(r:Rg)(t k:Nat)(s:Rg)(b:aJ):iE r t k s b=sq r (.seq (.cond (Tm t) .skip (.exit k)) (.seq (.block (k+1) b) (.region s))):=(rfl)
def dH(r:Rg)(t k:Nat)(s:Rg)(b:aJ):aJ:=.seq (sq r (.cond (Tm t) .skip (.exit k))) (.seq (.block (k+1) b) (.region s))
@[go_sem] theorem aoU(r:Rg)(t k:Nat)(s:Rg)(b:aJ):dH r t k s b=.seq (sq r (.cond (Tm t) .skip (.exit k))) (.seq (.block (k+1) b) (.region s)):=(rfl)
def kK(r:Rg)(n:Nat)(y:Rg)(b:aJ):aJ:=.seq (sq r (.cond (Tm n) (sq y .ret) .skip)) b
@[go_sem] theorem anT(r:Rg)(n:Nat)(y:Rg)(b:aJ):kK r n y b=.seq (sq r (.cond (Tm n) (sq y .ret) .skip)) b:=(rfl)
def jJ(r:Rg)(n:Nat)(a b:aJ):aJ:=.seq (sq r (.cond (Tm n) a .skip)) b
@[go_sem] theorem anS(r:Rg)(n:Nat)(a b:aJ):jJ r n a b=.seq (sq r (.cond (Tm n) a .skip)) b:=(rfl)
def cS(r:Rg)(k:Nat)(l:aJ):aJ:=sq r (.block k (.loop l))
@[go_sem] theorem aqG(r:Rg)(k:Nat)(l:aJ):cS r k l=sq r (.block k (.loop l)):=(rfl)
end Go.PM
namespace Go.PM
open Go
def zq:=bT [] Proofs.Tryz.f37
def lj:=cG zq
open Go Go.RowKit Go.ChangeShapes Go.WideShapes
inductive AT where
 |one (ct:CT)
 |struct (cts:List CT)
 deriving Inhabited
def Lc(P:Program)(n:Nat)(t:TypeId):Option AT:=
 match P.underlying t with
 |some .bool=>some (.one .bool)
 |some (.int k)=>some (.one (.int k))
 |some .string=>some (.one .str)
 |some (.slice _)=>match jQ P n t with
  |some [ct]=>some (.one ct)
  |_=>none
 |some (.struct _)=>(jQ P n t).map .struct
 |_=>none
def MD(P:Program)(n:Nat):List TypeId->Option (List AT)
 |[]=>some []
 |t::ts=>match Lc P n t,MD P n ts with
  |some a,some e=>some (a::e)
  |_,_=>none
inductive AT.Ty:AT->PV->Prop
 |one {ct:CT} {pv:PV} (h:PV.Ty ct pv):AT.Ty (.one ct) pv
 |struct {cts:List CT} {pvs:V_} (hl:Z' pvs=Z' cts) (h:∀(j:Nat) pv ct,pvs[j]?=some pv->cts[j]?=some ct->PV.Ty ct pv):AT.Ty (.struct cts) (.agg pvs)
def AT.TyL:List AT->V_->Prop
 |[],[]=>True
 |a::e,p::ps=>AT.Ty a p/\AT.TyL e ps
 |_,_=>False
section
variable {H:Type} {enc:TypeId × Value->H} {P:Program} {W:World} {sp:Nat->Bool} {held:Bool}
theorem agE{r:Reach}{base:Nat}(num:Nat->FuncId){t:TypeId}{v:Value}{d:DataW H}{ps:List MemPlace}{n:Nat}{a:AT}
  (i:Value.okWide P W r base t v) (A:DataW.Trod enc P W 0 sp held t v d ps) (u:Lc P n t=some a):∃pv,bG (Env.of W num) pv v/\AT.Ty a pv:=by
 unfold Lc at u;cases n with
 |zero =>split at u;rename_i l;cases u;obtain⟨b,rfl⟩:=okWide_bool l i;obtain⟨pv,w,y⟩:=BC (n:=1) (ct:=.bool) num (by simp[Value.cells]) A (by simp[jQ,l]);exact⟨pv,w,.one y⟩;rename_i k l;cases u;obtain⟨b,rfl⟩:=okWide_int l i;obtain⟨pv,w,y⟩:=BC (n:=1) (ct:=.int k) num (by simp[Value.cells]) A (by simp[jQ,l]);exact⟨pv,w,.one y⟩;rename_i l;cases u;obtain⟨b,rfl⟩:=okWide_string l i;obtain⟨pv,w,y⟩:=BC (n:=1) (ct:=.str) num (by simp[Value.cells]) A (by simp[jQ,l]);exact⟨pv,w,.one y⟩;simp[jQ]at u;simp[jQ]at u;cases u
 |succ n =>split at u;rename_i l;cases u;obtain⟨b,rfl⟩:=okWide_bool l i;obtain⟨pv,w,y⟩:=BC (n:=n+1) (ct:=.bool) num (by simp[Value.cells]) A (by simp[jQ,l]);exact⟨pv,w,.one y⟩;rename_i k l;cases u;obtain⟨b,rfl⟩:=okWide_int l i;obtain⟨pv,w,y⟩:=BC (n:=n+1) (ct:=.int k) num (by simp[Value.cells]) A (by simp[jQ,l]);exact⟨pv,w,.one y⟩;rename_i l;cases u;obtain⟨b,rfl⟩:=okWide_string l i;obtain⟨pv,w,y⟩:=BC (n:=n+1) (ct:=.str) num (by simp[Value.cells]) A (by simp[jQ,l]);exact⟨pv,w,.one y⟩;rename_i e l;split at u;rename_i ct B;cases u;obtain⟨x,len,cap,rfl⟩:=okWide_slice l i;obtain⟨pv,w,y⟩:=BC num (by simp[Value.cells]) A B;exact⟨pv,w,.one y⟩;cases u;rename_i F l;rw[atB]at u;obtain⟨cts,B,rfl⟩:=u;obtain⟨E,w,y,D⟩:=Ld num l i A B;exact⟨_,w,.struct y D⟩;cases u
theorem I0{r:Reach}{base:Nat}(num:Nat->FuncId){n:Nat}:∀{ts:List TypeId}{vs:List Value}{ds:List (DataW H)}{ps:List MemPlace}{i:List AT},DataW.TrodAll enc P W 0 sp held ts vs ds ps ->
  (∀(j:Nat) t v,ts[j]?=some t->vs[j]?=some v->Value.okWide P W r base t v)->MD P n ts=some i->∃e,fV (Env.of W num) e vs/\AT.TyL i e
 |[],[],_,_,i,_,_,h=>by simp[MD]at h;subst h;exact⟨[],.nil,trivial⟩
 |[],_::_,_,_,_,h,_,_=>h.elim
 |_::_,[],[],_,_,h,_,_=>h.elim
 |_::_,[],_::_,_,_,h,_,_=>h.elim
 |_::_,_::_,[],_,_,h,_,_=>h.elim
 |t::ts,v::vs,d::ds,ps,i,h,u,l=>by obtain⟨p,q,y,A,rfl⟩:=h;simp only[MD]at l;split at l;rename_i a w x e2;cases l;obtain⟨pv,r1,B⟩:=agE num (u 0 t v rfl rfl) y x;obtain⟨e,r2,D⟩:=I0 num A (λj t v a b=>u (j+1) t v (by simpa using a) (by simpa using b)) e2;exact⟨pv::e,.cons r1 r2,B,D⟩;cases l
theorem TrodAll.length:∀{ts:List TypeId}{vs:List Value}{ds:List (DataW H)}{ps:List MemPlace},DataW.TrodAll enc P W 0 sp held ts vs ds ps->Z' ds=Z' ts
 |[],[],[],_,_=>rfl
 |[],[],_::_,_,h=>h.elim
 |[],_::_,_,_,h=>h.elim
 |_::_,[],[],_,h=>h.elim
 |_::_,[],_::_,_,h=>h.elim
 |_::_,_::_,[],_,h=>h.elim
 |t::ts,v::vs,d::ds,ps,h=>by obtain⟨p,q,i,e,rfl⟩:=h;simp[TrodAll.length e]
end
theorem B0{H:Type}{enc:TypeId × Value->H}{P:Program}{f:FuncId}{fn:Func}{s:ChangeSpec}{apart fresh i:Bool}{bt:TypeId}{num:Nat->FuncId}{name n:Nat}{ats:List AT}
  (R:laidOutB P=true) (J:fn.params.toList.all (λt=>P.readableRec t&&decide (t<P.types.size))=true) (E:fn.resultTypes=#[bt]) (D:P.underlying bt=some .bool) (M:s.vars=[])
  (U:∀ds:List (DataW H),Z' ds=Z' fn.params.toList->(s.fn H ds).results=[.lit (.bool true)]/\(s.fn H ds).args=ds/\(s.fn H ds).vars=[])
  (x:num name=f) (O:MD P n fn.params.toList=some ats) (h:∀u,AT.TyL ats u->aH ⟨P,num⟩ name u h_ (aK (.bool true)))
  {W:World} {base:Nat} {args:Array Value} {ds N:List (DataW H)} {l:List MemPlace}
  (A:∀(j:Nat) t v,fn.params[j]?=some t->args[j]?=some v->Value.okWide P W .any base t v) (hW:DataW.Whole enc P fn.params.toList s.vars apart W args.toList ds N l) :
  Calls P f args W λe K=>∃v,e=.returned v/\s.post enc P fn apart fresh i false W args v K:=by
 have y:∀t∈fn.params.toList,P.readableRec t=true/\t<P.types.size:=λt F=>by have:=atI.1 J t F;simpa using this
 have B:=hW;obtain⟨p,q,L,hV,rfl,X,V⟩:=hW;rw[M]at hV;obtain⟨rfl,rfl⟩:=trodVars_none hV;obtain⟨u,S,F⟩:=I0 num L (λj t v a b=>A j t v (by simpa using a) (by simpa using b)) O;have w:=TrodAll.length L;subst x;obtain⟨r1,r2,r3⟩:=U (ds++[]) (by simpa using w);refine(Re (C:=⟨P,num⟩) (h u F) S).mono λe K he=>?_;obtain⟨rfl,hb⟩:=he;exact⟨_,rfl,So R B hb y E D M r1 (by rw[r2];simp) r3⟩
open Go
attribute [go_sem] qN iB setCells PV.cells PV.one cK storeAt cQ loadCells dG bnd PV.slice PV.intOf PV.eqs PV.eq1 PV.un keyOf KS.of KS.ofs KS.sh awS List.all_nil avR List.set_cons_succ atJ avK atE auF atI avW
attribute [go_sem] Bool.bne_false Bool.bne_true Int.le_refl Int.lt_irrefl decide_true decide_false exists_eq_left exists_eq_left' asO List.length_replicate auL Int.natCast_nonneg Option.isSome_some Option.isSome_none auV Option.getD_none dT_ decide_eq_false_iff_not atA auI asU Nat.sub_zero
def aM(xs:I_):P2_:=xs.map λn=>[.int .i64 n]
theorem bH{a b:Int}(h:a≠b):(a==b)=false:=by simp[h]
theorem bR{a b:Int}(h:a=b):(a==b)=true:=by simp[h]
theorem cY{a b:Int}(h:a≠b):(a != b)=true:=by simp[h]
theorem cB{a b:Int}(h:a=b):(a != b)=false:=by simp[h]
section
variable {H:PH}
@[go_sem] theorem PH.set_set(o:Nat)(x y:aS):(H.set o x).set o y=H.set o y:=PH.ext λq=>by
 simp only[aO];split<;>rfl
@[go_sem] theorem bK(o:Nat)(x:aS):(H.set o x) o=some x:=by simp only[aO,if_true]
end
section
variable {C:Ctx} {K:bP} {F:PF} {H:PH}
theorem PH.vK(o:Nat)(x:aS):H.over .nil (h_.set o x)=H.set o x:=PH.ext λq=>by
 rw[iM];simp only[aO,MQ];split<;>simp_all
theorem PH.HY(o:Nat)(x y:aS):H.over (h_.set o x) (h_.set o y)=H.set o y:=PH.ext λq=>by
 rw[iM];simp only[aO,MQ];split<;>simp_all
theorem iL{name:Nat}{vs:V_}{e:PH}{R:R_}{args:List aP}{d:O_}{K:K_}(h:aH C name vs e R)(l:aP.evs F args=some vs)(i:e.le H)
  (u:∀r H',R r H'->rG H e H'->K (F.put d r) (H.over e H')):jX C name args [] d K F H:=
 .inl ⟨vs,e,R,by rw[l];simp,i,h,u⟩
theorem bM{res:List dX}{R:R_}{vs:V_}{e:lI}(he:e=.normal\/e=.ret)(i:PH)(h:dX.evs F H res=some vs)(l:i.le H)(A:R (bN vs) i):aV res R e F H:=by
 have w:∃vs,dX.evs F H res=some vs/\∃x y H2,jM (n_.set 0 (bN vs)) H x y/\H2.le y/\∃u,x 0=some u/\R u H2:=
  ⟨vs,h,_,H,i,.refl _ _,l,bN vs,by rw[mL,aF rfl],A⟩
 rcases he with rfl|rfl<;>exact w
theorem BS{t o s k:Nat}{rs:P2_}{R:R_}{e:lI}(he:e=.normal\/e=.ret)(h:F t=some (.osl o s 0 k))(y:H o=some (.rows s rs))(A:k<=Z' rs)(x:R (.sl s (rs.take k)) .nil) :
  aV [.tmp t] R e F H:=by
 have i:∃vs,dX.evs F H [.tmp t]=some vs/\∃l w H2,jM (n_.set 0 (bN vs)) H l w/\H2.le w/\∃u,l 0=some u/\R u H2:=by refine⟨[.osl o s 0 k],by rw[nT,sB,h,uE],_,_,.nil,.step o y (.refl _ _),a_,.sl s (rs.take k),?_,x⟩;have:0+k<=Z' rs:=Om;simp only[PF.frz,mL,if_true,bN,atO,PV.frz,PV.mM,PV.cO,true_and,aF this,avG]
 rcases he with rfl|rfl<;>exact i
def cN(v:PV)(r:PV)(H:PH):Prop:=Co r v/\H=h_
theorem aH.Od{name:Nat}{args:V_}{H:PH}{v:PV}(h:aH C name args H (cN v)):aH C name args H (aK v):=
 h.post λr H' ⟨e,i⟩=>⟨v,e,rfl,i⟩
theorem aK.Od{v r:PV}{H:PH}(h:aK v r H):cN v r H:=by
 obtain⟨rfl,rfl⟩:=h;exact⟨.refl _,rfl⟩
theorem pP{s b:Nat}{y:PV}{src:P2_}{K:R_}(u:dG H s y=some src)(l:roomFor 0 src.length b)(e:src=[]->K .aG H)
  (i:src≠[]->∀o,H o=none->K (.osl o s 0 src.length) (H.set o (.rows s src))):kP H s b .aG y K:=⟨src,u,l,e,i⟩
theorem Gs{o s b len:Nat}{rs:P2_}{y:PV}{src:P2_}{K:R_}(x:dG H s y=some src)(w:roomFor len src.length b)(u:H o=some (.rows s rs))(l:len<=Z' rs)
  (e:K (.osl o s 0 (len+Z' src)) (H.set o (.rows s (rs.take len++src))))
  (i:∀o',H o'=none->K (.osl o' s 0 (len+Z' src)) (H.set o' (.rows s (rs.take len++src)))):kP H s b (.osl o s 0 len) y K:=
 ⟨src,x,rfl,rfl,w,rs,u,l,e,i⟩
end
def bC(H:PH)(s:Nat)(v:PV)(rows:P2_):Prop:=
 (rows=[]/\v=.aG)\/∃q rs,v=.osl q s 0 rows.length/\H q=some (.rows s rs)/\Z' rows<=Z' rs/\rs.take rows.length=rows
def Seen(s:Nat)(v:PV)(rows:P2_):Prop:=(rows=[]/\v=.aG)\/v=.sl s rows
section
variable {C:Ctx} {K:bP} {F:PF} {H:PH} {s b:Nat} {v y:PV} {rows src:P2_}
theorem bC.nil:bC H s .aG []:=.inl ⟨rfl,rfl⟩
theorem bC.view(h:bC H s v rows):dG H s v=some rows:=by
 rcases h with⟨rfl,rfl⟩|⟨q,rs,rfl,h1,h2,h3⟩
 rfl;have:0+Z' rows<=Z' rs:=Om;simp only[dG,if_true,h1,true_and,aF this,avG,h3]
theorem Seen.view(h:Seen s v rows):dG H s v=some rows:=by
 rcases h with⟨rfl,rfl⟩|rfl
 rfl;simp[dG]
theorem bC.ext{H':PH}(h:bC H s v rows)(e:∀o x,H o=some x->H' o=some x):bC H' s v rows:=by
 rcases h with h|⟨q,rs,h0,h1,h2,h3⟩
 exact .inl h;exact .inr ⟨q,rs,h0,e q _ h1,h2,h3⟩
theorem fB{K:R_}(h:bC H s v rows)(E:dG H s y=some src)(D:roomFor rows.length src.length b)
  (B:∀v' H',bC H' s v' (rows++src)->(∀o x,H o=some x->(∀l,v≠.osl o s 0 l)->H' o=some x)->K v' H'):kP H s b v y K:=by
 rcases h with⟨rfl,rfl⟩|⟨q,rs,rfl,h1,h2,h3⟩
 refine⟨src,E,D,λe=>?_,λe o A=>?_⟩;subst e;exact B _ _ (.inl ⟨rfl,rfl⟩) λo x A _=>A;refine B _ _ (.inr ⟨o,src,rfl,by simp only[aO,if_true],asU _,by simp⟩) λo' x i _=>?_;have:o'≠o:=by rintro rfl;rw[A]at i;cases i
 simp only[aO,aC this,i];have u:(rows++src).length=Z' rows+Z' src:=asX;refine⟨src,E,rfl,rfl,D,rs,h1,h2,?_,λo A=>?_⟩;rw[h3];refine B _ _ (.inr ⟨q,rows++src,by rw[u],by simp only[aO,if_true],asU _,atL⟩) λo' x i w=>?_;have:o'≠q:=by rintro rfl;exact w _ rfl
 simp only[aO,aC this,i];rw[h3];refine B _ _ (.inr ⟨o,rows++src,by rw[u],by simp only[aO,if_true],asU _,atL⟩) λo' x i w=>?_;have J:o'≠o:=by rintro rfl;rw[A]at i;cases i
 simp only[aO,aC J,i]
def Pure(u:PV):Prop:=∀q s rs,PV.frz q s rs u=u
theorem bC.frz(h:bC H s v rows):∃l,Seen s l rows/\∀F:PF,∃e w,jM F H e w/\(∀t,F t=some v->e t=some l)/\∀i u,F i=some u->Pure u->e i=some u:=by
 rcases h with⟨rfl,rfl⟩|⟨q,rs,rfl,h1,h2,h3⟩
 exact⟨.aG,.inl ⟨rfl,rfl⟩,λF=>⟨F,H,.refl _ _,λt h=>h,λi u h _=>h⟩⟩;refine⟨.sl s rows,.inr rfl,λF=>⟨_,_,.step q h1 (.refl _ _),λt x=>?_,λi u hi hp=>?_⟩⟩;have:0+Z' rows<=Z' rs:=Om;simp only[PF.frz,x,atO,PV.frz,PV.mM,PV.cO,if_true,true_and,aF this,avG,h3];simp only[PF.frz,hi,atO];rw[hp]
theorem lO{t:Nat}{e:lI}(he:e=.normal\/e=.ret)(h:bC H s v rows)(i:F t=some v):aV [.tmp t] (cN (.sl s rows)) e F H:=by
 rcases h with⟨rfl,rfl⟩|⟨q,rs,rfl,h1,h2,h3⟩
 exact bM (vs:=[.aG]) he .nil (by rw[nT,sB,i,uE]) a_ ⟨.nil s,rfl⟩;exact BS he i h1 h2 ⟨by rw[h3];exact .refl _,rfl⟩
end
end Go.PM
namespace Go.PM
open Go
section
variable {C:Ctx} {F:PF} {H:PH}
@[go_sem] theorem uZ(o s:Nat)(rs:P2_)(i:Nat):(F.frz o s rs) i=(F i).map (PV.frz o s rs):=(rfl)
theorem ry{name t o s k:Nat}{rs:P2_}{v:PV}{d:O_}{K:K_}(h:aH C name [.sl s (rs.take k)] .nil (aK v))(l:F t=some (.osl o s 0 k))(i:H o=some (.rows s rs))(u:k<=Z' rs)
  (e:K ((F.frz o s rs).put d v) (H.frz o s rs)):jX C name [.tmp t] [] d K F H:=by
 refine .inr ⟨_,_,.step o i (.refl _ _),[.sl s (rs.take k)],.nil,aK v,?_,a_,h,?_⟩;have:0+k<=Z' rs:=Om;simp only[HG,YJ,lm,uZ,l,atO,PV.frz,PV.mM,PV.cO,if_true,true_and,aF this,avG,auA];rintro r H' ⟨rfl,rfl⟩ -;rw[PH.yG];exact e
end
section
variable {C:Ctx} {K:bP} {F:PF} {H Hs:PH} {S:Spec}
theorem PH.over_self(i:PH)(h:i.le H):H.over i i=H:=PH.ext λq=>by
 rw[iM];cases e:i q with
 |none=>rfl
 |some x=>exact(h q x e).symm
theorem gt{o:Nat}{x:aS}(h:H o=some x):H.only [o]=h_.set o x:=PH.ext λq=>by
 rw[yW,aO];by_cases e:q=o;subst e;simp[h];simp[e,MQ]
theorem Vm{name o:Nat}{x:aS}{vs:V_}{v:PV}{R:PH->R_}{args:List aP}{st:Bool}{d:O_}{K:K_}(D:S name vs=some ([o],R))(B:H o=some x)
  (h:aH C name vs (h_.set o x) (λr H'=>r=v/\H'=h_.set o x)) (i:R (h_.set o x) v (h_.set o x)) (u:∀r H',R (h_.set o x) r H'->r=v/\H'=h_.set o x) (E:aP.evs F args=some vs) (w:Hs.le H) (J:K (F.put d v) H) :
  dOp C Hs S st (.call name args) d K F H:=by
 have e:=gt B;refine⟨vs,[o],_,E,D,λq hq=>?_,?_,λG=>⟨v,_,by rw[e];exact i,λq y L A=>?_⟩,λr H' l _=>?_⟩;simp at hq;subst hq;exact⟨x,B⟩;rw[e];exact h.post λr H' l=>⟨r,.refl _,by rw[l.1,l.2];exact i⟩;rw[e]at A;rw[L]at A;cases A;rw[e]at l;obtain⟨rfl,rfl⟩:=u r H' l;rw[e,PH.over_self _ (by rw[<-e];exact YT H [o])];exact⟨w,J⟩
theorem Ip{c:aJ}{α:Type}(e:α->PF)(Hs:α->PH)(i:α->Prop)(m:α->Nat)(l:α)(o:Nat){s:Nat}{rs:P2_}(y:H o=some (.rows s rs))(u:i l)(w:(e l).le (F.frz o s rs))(x:(Hs l).le (H.frz o s rs))
  (hb:∀a,i a->c.wp C (fK e Hs i m (m a) K) (e a) (Hs a)):aJ.wp C (.loop c) K F H:=
 ⟨α,e,Hs,i,m,l,_,_,.step o y (.refl _ _),u,w,x,hb⟩
@[go_sem] theorem BH(o s:Nat)(rs:P2_)(q:Nat):(H.frz o s rs) q=if q=o then none else(H q).map (aS.frz o s rs):=(rfl)
end
@[go_sem] theorem akG(a b:List UInt8):MG .eql a b=some (.bool (a==b)):=(rfl)
@[go_sem] theorem akH(a b:List UInt8):MG .neq a b=some (.bool !(a==b)):=(rfl)
@[go_sem] theorem Lh(a b:List UInt8):MG .add a b=if((Z' a+Z' b:Nat):Int)>9223372036854775807 then none else some (.str (a++b)):=(rfl)
@[go_sem] theorem afQ:(([]:List UInt8)==[])=true:=(rfl)
@[go_sem] theorem aaZ(c:UInt8)(t:List UInt8):((c::t)==[])=false:=(rfl)
theorem wA{a b:List UInt8}(h:a=b):(a==b)=true:=by simp[h]
theorem kj{a b:List UInt8}(h:a≠b):(a==b)=false:=by simp[h]
section
variable {C:Ctx} {F:PF} {H:PH}
theorem uG{name o s:Nat}{rs:P2_}{vs:V_}{v:PV}{args:List aP}{d:O_}{K:K_}(h:aH C name vs .nil (aK v))(l:H o=some (.rows s rs))
  (i:aP.evs (F.frz o s rs) args=some vs) (e:K ((F.frz o s rs).put d v) (H.frz o s rs)):jX C name args [] d K F H:=by
 refine .inr ⟨_,_,.step o l (.refl _ _),vs,.nil,aK v,?_,a_,h,?_⟩;rw[i];simp;rintro r H' ⟨rfl,rfl⟩ -;rw[PH.yG];exact e
theorem jM.trans{e i l:PF}{u H2 w:PH}(h:jM e u i H2)(k:jM i H2 l w):jM e u l w:=by
 induction h with
 |refl=>exact k
 |step o x h y=>exact .step o x (y k)
theorem wT{c:aJ}{K:bP}{s:Nat}{v:PV}{rows:P2_}(M:bC H s v rows)
  (h:∀l,Seen s l rows->∀e w,(∀t,F t=some v->e t=some l)->(∀i u,F i=some u->Pure u->e i=some u)->aJ.wp C (.loop c) K e w):aJ.wp C (.loop c) K F H:=by
 obtain⟨l,N,L⟩:=M.frz;obtain⟨e,w,O,E,J⟩:=L F;obtain⟨α,A,Hs,B,m,D,y,H2,x,rest⟩:=h l N e w E J;exact⟨α,A,Hs,B,m,D,y,H2,O.trans x,rest⟩
theorem aH.Ob{name s:Nat}{v:PV}{rows:P2_}{e:PH}{R:R_}(h:aH C name [.sl s rows] e R)(i:Seen s v rows):aH C name [v] e R:=by
 rcases i with⟨rfl,rfl⟩|rfl
 ·refine h.args ⟨rfl,λj p q hp hq=>?_⟩;cases j with
  |zero=>simp at hp hq;subst hp;subst hq;exact .nil s
  |succ j=>simp at hp
 exact h
theorem bC.fresh{s:Nat}{v:PV}{rows:P2_}{o:Nat}(h:bC H s v rows)(u:H o=none)(x:aS):bC (H.set o x) s v rows/\∀l,v≠.osl o s 0 l:=by
 refine⟨h.ext λq y hq=>?_,λl e=>?_⟩;have:q≠o:=by rintro rfl;rw[u]at hq;cases hq
 simp only[aO,aC this,hq];rcases h with⟨_,i⟩|⟨q,rs,h1,i,_⟩
 rw[i]at e;cases e;rw[h1]at e;injection e with w
 subst w;rw[u]at i;cases i
theorem rS{s b:Nat}{v:PV}{rows:P2_}{r:V_}{o:Nat}{x:aS}{K:R_}(h:bC H s v rows)(w:H o=none)(y:roomFor rows.length 1 b)
  (u:∀v' H',bC H' s v' (rows++[r])->H' o=some x->K v' H'):kP (H.set o x) s b v (.sl s [r]) K:=by
 obtain⟨e,i⟩:=h.fresh w x;refine fB (src:=[r]) e (by simp[dG]) y λv' H' l hp=>u v' H' l (hp o x (by simp only[aO,if_true]) i)
theorem BG{o s k:Nat}{rs:P2_}(e:k<=Z' rs):PV.frz o s rs (.osl o s 0 k)=.sl s (rs.take k):=by
 have:0+k<=Z' rs:=Om;simp only[PV.frz,PV.mM,PV.cO,if_true,true_and,aF this,avG]
end
section
variable (o s:Nat) (rs:P2_)
@[go_sem] theorem aoG(k:IntKind)(n:Int):PV.frz o s rs (.int k n)=.int k n:=(rfl)
@[go_sem] theorem amJ(b:Bool):PV.frz o s rs (.bool b)=.bool b:=(rfl)
@[go_sem] theorem aoK(l:List UInt8):PV.frz o s rs (.str l)=.str l:=(rfl)
@[go_sem] theorem amK:PV.frz o s rs .aG=.aG:=(rfl)
@[go_sem] theorem aqO(n:Nat)(r:P2_):PV.frz o s rs (.sl n r)=.sl n r:=(rfl)
@[go_sem] theorem amL(c:V_):PV.frz o s rs (.aU c)=.aU c:=(rfl)
@[go_sem] theorem aoJ(q z i c:Nat):PV.frz o s rs (.ptr q z i c)=.ptr q z i c:=(rfl)
@[go_sem] theorem aqN(n:Nat)(c:V_):PV.frz o s rs (.fn n c)=.fn n c:=(rfl)
@[go_sem] theorem aoH(q:Nat):PV.frz o s rs (.map q)=.map q:=(rfl)
@[go_sem] theorem aoI(q z off len:Nat):PV.frz o s rs (.osl q z off len)=if q=o then(if z=s/\off+len<=rs.length then .sl s ((rs.drop off).take len)else .junk)else .osl q z off len:=(rfl)
end
def pQ(s:Nat)(rows:P2_)(r:PV)(H:PH):Prop:=
 (rows=[]/\r=.aG/\H=h_)\/∃q rs,r=.osl q s 0 rows.length/\H=h_.set q (.rows s rs)/\Z' rows<=Z' rs/\rs.take rows.length=rows
theorem s9(q s:Nat)(rs:P2_):(h_.set q (.rows s rs)).frz q s rs=h_:=PH.ext λo=>by
 rw[BH];by_cases e:o=q;rw[aF e];rfl;rw[aC e,aO,aC e];rfl
section
variable {C:Ctx} {K:bP} {F:PF} {H:PH} {s:Nat} {v:PV} {rows:P2_}
theorem pQ.over{r:PV}{H':PH}(h:pQ s rows r H')(u:rG H .nil H'):bC (H.over .nil H') s r rows/\∀o x,H o=some x->(H.over .nil H') o=some x:=by
 rcases h with⟨e,l,rfl⟩|⟨q,rs,e,rfl,h3,h4⟩
 rw[PH.yG];exact⟨.inl ⟨e,l⟩,λo x h=>h⟩;rw[PH.vK];have hq:H q=none:=u q (.rows s rs) (by simp only[aO,if_true]) rfl;refine⟨.inr ⟨q,rs,e,by simp only[aO,if_true],h3,h4⟩,λo x i=>?_⟩;have:o≠q:=by rintro rfl;rw[hq]at i;cases i
 simp only[aO,aC this,i]
theorem QT{t:Nat}{e:lI}(he:e=.normal\/e=.ret)(h:bC H s v rows)(i:F t=some v):aV [.tmp t] (pQ s rows) e F H:=by
 rcases h with⟨rfl,rfl⟩|⟨q,rs,rfl,h1,h2,h3⟩
 exact bM (vs:=[.aG]) he .nil (by rw[nT,sB,i,uE]) a_ (.inl ⟨rfl,rfl,rfl⟩);exact bM (vs:=[.osl q s 0 rows.length]) he (h_.set q (.rows s rs)) (by rw[nT,sB,i,uE]) (d_ a_ h1) (.inr ⟨q,rs,rfl,rfl,h2,h3⟩)
theorem NB{t:Nat}{e:lI}(he:e=.normal\/e=.ret)(i:F t=some .aG):aV [.tmp t] (pQ s []) e F H:=QT he .nil i
theorem S0{t:Nat}{e:lI}{r:PV}{H':PH}(he:e=.normal\/e=.ret)(h:pQ s rows r H')(l:F t=some r):aV [.tmp t] (pQ s rows) e F (H.over .nil H'):=by
 refine bM (vs:=[r]) he H' (by rw[nT,sB,l,uE]) (λo x i=>?_) h;rw[iM,i]
theorem aH.freeze{name:Nat}{args:V_}(h:aH C name args H (pQ s rows)):aH C name args H (aK (.sl s rows)):=
 ⟨h.1,λE w vs N hW y=>(h.2 E w vs N hW y).mono λe S he=>by
  obtain⟨u,pv,L,H',rfl,l,B,A,hp⟩:=he;rcases hp with⟨rfl,rfl,rfl⟩|⟨q,rs,rfl,rfl,h3,h4⟩
  exact⟨u,_,L,_,rfl,l,(Co.nil s).sound B,A,rfl,rfl⟩;have O:jM (n_.set 0 (.osl q s 0 rows.length)) (h_.set q (.rows s rs)) _ _:=.step q (s:=s) (rs:=rs) (by simp only[aO,if_true]) (.refl _ _);obtain⟨M,D,J,R⟩:=O.sound l;have x:=R (λ_=>u) (λi p hi=>by rw[mL]at hi;split at hi;cases hi;exact B;cases hi) 0 (.sl s rows) (by rw[uZ,mL,aF rfl,atO,BG h3,h4])
  rw[s9]at D J;exact⟨u,_,M,_,rfl,D,x,A.trans J,rfl,rfl⟩⟩
theorem fV.of:∀{E:Env}(ps:V_)(vs:List Value),Z' vs=Z' ps->(∀(i:Nat) p v,ps[i]?=some p->vs[i]?=some v->bG E p v)->fV E ps vs
 |_,[],[],_,_=>.nil
 |_,[],_::_,h,_=>by simp at h
 |_,_::_,[],h,_=>by simp at h
 |_,p::ps,v::vs,h,k=>.cons (k 0 p v rfl rfl) (fV.of ps vs (by simpa using h) λi q u a b=>k (i+1) q u (by simpa using a) (by simpa using b))
theorem bZ.same{E:Env}{w y:World}(hW:bZ E H w)(D:w.heap.size<=y.heap.size)(hb:∀b,b<w.heap.size->H b=none->y.heap[b]?=w.heap[b]?)(B:∀o x,H o=some x->y.heap[o]?=w.heap[o]?):bZ E H y:=by
 have l:∀b,b<w.heap.size->y.heap[b]?=w.heap[b]?:=λb hlt=>by
  cases e:H b with
  |none=>exact hb b hlt e
  |some x=>exact B b x e
 refine⟨λb cs h=>?_,λo x h=>?_,λo n h=>?_⟩;obtain⟨i,ty,fr,u⟩:=hW.g b cs h;exact⟨i,ty,fr,(l b (awB.1 u).1).trans u⟩;obtain⟨i,u⟩:=hW.h o x h;exact⟨Nat.lt_of_lt_of_le i D,u.mono (.refl E) (l o i)⟩;obtain⟨A,ty,fr,i,u⟩:=hW.s o n h;exact⟨A,ty,fr,(l o (awB.1 i).1).trans i,u⟩
inductive Plain:PV->Prop
 |int (k:IntKind) (n:Int):Plain (.int k n)
 |bool (b:Bool):Plain (.bool b)
 |str (l:List UInt8):Plain (.str l)
 |two (k k':IntKind) (n n':Int):Plain (.tup [.int k n,.int k' n'])
theorem Plain.rep{v:PV}(h:Plain v){E e:Env}{u:Value}(r:bG E v u):bG e v u:=by
 cases h<;>cases r;exact .int _ _;exact .bool _;exact .str _
 ·rename_i vs i l;refine .tup vs i λj pv v a b=>?_;have h:=l j pv v a b
  match j,a with
  |0,a=>cases a;cases h;exact .int _ _
  |1,a=>cases a;cases h;exact .int _ _
theorem aH.Wu{name o:Nat}{rs:P2_}{args:V_}(X:Plain v)(h:aH C name (args.map (PV.frz o s rs)) .nil (aK v)) :
  aH C name args (h_.set o (.rows s rs)) (λr H'=>r=v/\H'=h_.set o (.rows s rs)):=by
 refine⟨h.1,λE w vs R hW D=>?_⟩;have Y:jM (g_ args) (h_.set o (.rows s rs)) _ _:=.step o (s:=s) (rs:=rs) (by simp only[aO,if_true]) (.refl _ _);obtain⟨L,N,O,Z⟩:=Y.sound hW;rw[s9]at N O;have B:=D.len;have J:fV L (args.map (PV.frz o s rs)) vs.toList:=by
  refine fV.of _ _ (by rw[asO];exact B) λi p u hp W=>?_;have:=Z (λi=>(vs.toList[i]?).getD undef) (λj q M=>by have U:=(atX.1 M).1;have A:j<Z' vs.toList:=Om;simp only[asZ A,auV];exact D.at_ j q _ M (asZ A)) i p (by rw[uZ,args_at,<-atC];exact hp)
  simp only[W,auV]at this;exact this
 refine(h.2 L w vs (O.env.num.trans R) N J).mono λe w' he=>?_;obtain⟨u,pv,E2,H2,rfl,S,V,y,rfl,rfl⟩:=he;have l:∀b,b<w.heap.size->w'.heap[b]?=w.heap[b]?:=λb hb=>y.block b hb rfl;refine⟨u,pv,E,_,rfl,hW.same y.size (λb hb _=>l b hb) (λq x hq=>l q (hW.h q x hq).1),X.rep V,⟨.refl E,y.os,y.tape,y.output,y.size,λb hb _=>l b hb,λq x hq=>.inl ⟨x,hq⟩,λb cs hb=>.inl hb⟩,rfl,rfl⟩
theorem Im{name o:Nat}{rs:P2_}{args:List aP}{vs:V_}{d:O_}{K:K_}(u:Plain v)(h:aH C name (vs.map (PV.frz o s rs)) .nil (aK v))(e:H o=some (.rows s rs))(i:aP.evs F args=some vs)
  (l:K (F.put d v) H):jX C name args [] d K F H:=by
 refine iL (h.Wu u) i (d_ a_ e) ?_;rintro r H' ⟨rfl,rfl⟩ -;rw[PH.over_self _ (d_ a_ e)];exact l
theorem Vl{Hs:PH}{S:Spec}{name o:Nat}{rs:P2_}{vs:V_}{R:PH->R_}{args:List aP}{st:Bool}{d:O_}{K:K_}(u:S name vs=some ([o],R))(A:Plain v)(y:H o=some (.rows s rs))
  (h:aH C name (vs.map (PV.frz o s rs)) .nil (aK v)) (e:R (h_.set o (.rows s rs)) v (h_.set o (.rows s rs))) (i:∀r H',R (h_.set o (.rows s rs)) r H'->r=v/\H'=h_.set o (.rows s rs)) (w:aP.evs F args=some vs) (l:Hs.le H) (x:K (F.put d v) H) :
  dOp C Hs S st (.call name args) d K F H:=Vm u y (h.Wu A) e i w l x
theorem zg{name t:Nat}{R:R_}{d:O_}{K:K_}(h:aH C name [.sl s rows] .nil R)(y:bC H s v rows)(x:F t=some v)
  (w:∀(e:PF)(l:PH),(∀i u,F i=some u->Pure u->e i=some u)->∀r H',R r H'->rG l .nil H'->K (e.put d r) (l.over .nil H')):jX C name [.tmp t] [] d K F H:=by
 rcases y with⟨rfl,rfl⟩|⟨q,rs,rfl,h1,h2,h3⟩
 exact .inl ⟨[.aG],.nil,R,by rw[HG,lm,x,YJ];rfl,a_,h.Ob (.inl ⟨rfl,rfl⟩),w F H λi u hi _=>hi⟩;refine .inr ⟨_,_,.step q h1 (.refl _ _),[.sl s rows],.nil,R,?_,a_,h,w _ _ λi u hi hp=>?_⟩;simp only[HG,YJ,lm,uZ,x,atO,BG h2,h3,auA];rw[uZ,hi,atO,hp q s rs]
end
def PV.oid:PV->O_
 | .osl q _ _ _=>some q
 |_=>none
abbrev LI:=PV × Nat × P2_
abbrev BX:=Nat × aS
def gI(B:List BX):N_:=B.map (·.1)
def fR(L:List LI):N_:=L.filterMap λx=>x.1.oid
structure aN(H:PH)(B:List BX)(L:List LI):Prop where
 box:∀b∈B,H b.1=some b.2
 lst:∀x∈L,bC H x.2.1 x.1 x.2.2
 nd:(gI B++fR L).Nodup
section
variable {C:Ctx} {H:PH} {B:List BX} {L:List LI} {K:R_}
theorem bC.id{s q:Nat}{v:PV}{rows:P2_}(h:bC H s v rows)(hq:v.oid=some q):∃rs,H q=some (.rows s rs)/\v=.osl q s 0 rows.length/\Z' rows<=Z' rs/\rs.take rows.length=rows:=by
 rcases h with⟨_,rfl⟩|⟨p,rs,rfl,h1,h2,h3⟩
 cases hq;cases hq;exact⟨rs,h1,rfl,h2,h3⟩
theorem bC.same{s:Nat}{v:PV}{rows:P2_}{H':PH}(h:bC H s v rows)(e:∀q,v.oid=some q->H' q=H q):bC H' s v rows:=by
 rcases h with h|⟨p,rs,rfl,h1,h2,h3⟩
 exact .inl h;exact .inr ⟨p,rs,rfl,by rw[e p rfl];exact h1,h2,h3⟩
theorem pO{x:LI}{q:Nat}(h:x∈L)(hq:x.1.oid=some q):q∈fR L:=List.mem_filterMap.2 ⟨x,h,hq⟩
theorem BL{b:BX}(h:b∈B):b.1∈gI B:=atM.2 ⟨b,h,rfl⟩
theorem aN.nil:aN H [] []:=⟨by simp,by simp,by simp[gI,fR]⟩
theorem aN.at(h:aN H B L)(i:Nat){o:Nat}{x:aS}(hi:B[i]?=some (o,x)):H o=some x:=h.box _ (auZ hi)
theorem aN.own(h:aN H B L)(i:Nat){s:Nat}{v:PV}{rows:P2_}(hi:L[i]?=some (v,s,rows)):bC H s v rows:=h.lst _ (auZ hi)
theorem aN.ndB(h:aN H B L):(gI B).Nodup:=(avU.1 h.nd).1
theorem aN.ndL(h:aN H B L):(fR L).Nodup:=(avU.1 h.nd).2.1
theorem aN.ndX(h:aN H B L){o q:Nat}(e:o∈gI B)(hq:q∈fR L):o≠q:=(avU.1 h.nd).2.2 o e q hq
theorem aN.ne(h:aN H B L)(i j:Nat){o p:Nat}{x y:aS}(hi:B[i]?=some (o,x))(F:B[j]?=some (p,y))(l:i≠j):o≠p:=by
 intro e;have D:(gI B)[i]?=some o:=by unfold gI;rw[atC,hi];rfl
 have E:(gI B)[j]?=some p:=by unfold gI;rw[atC,F];rfl
 obtain⟨w,u⟩:=atX.1 D;obtain⟨A,e2⟩:=atX.1 E;have hp:=List.pairwise_iff_getElem.1 h.ndB;rcases Nat.lt_or_gt_of_ne l with g|g
 exact hp i j w A g (by rw[u,e2,e]);exact hp j i A w g (by rw[u,e2,e])
theorem aN.neL(h:aN H B L)(i j:Nat){o q:Nat}{x:aS}{y:LI}(hi:B[i]?=some (o,x))(e:L[j]?=some y)(hq:y.1.oid=some q):o≠q:=
 h.ndX (BL (auZ hi)) (pO (auZ e) hq)
theorem aN.fresh(h:aN H B L){o:Nat}(i:H o=none):o ∉ gI B/\o ∉ fR L:=by
 refine⟨λl=>?_,λl=>?_⟩;obtain⟨b,hb,rfl⟩:=atM.1 l;rw[h.box b hb]at i;cases i;obtain⟨x,w,e⟩:=List.mem_filterMap.1 l;obtain⟨rs,u,_⟩:=(h.lst x w).id e;rw[u]at i;cases i
theorem aN.keep(h:aN H B L){H':PH}(e:∀q,q∈gI B\/q∈fR L->H' q=H q):aN H' B L:=
 ⟨λb hb=>by rw[e _ (.inl (BL hb))];exact h.box b hb,λx i=>(h.lst x i).same λq hq=>e q (.inr (pO i hq)),h.nd⟩
theorem Wh{i:Nat}{o:Nat}{x y:aS}(hi:B[i]?=some (o,x)):gI (B.set i (o,y))=gI B:=by
 unfold gI;rw[avP];refine List.ext_getElem? λj=>?_;rw[avY];split;rename_i e;subst e;rw[atC,hi];have:=(atX.1 hi).1;simp[this];rfl
theorem aN.set(h:aN H B L)(i:Nat){o:Nat}{x:aS}(hi:B[i]?=some (o,x))(y:aS):aN (H.set o y) (B.set i (o,y)) L:=by
 have w:o∈gI B:=BL (auZ hi);refine⟨λb hb=>?_,λz A=>(h.lst z A).same λq hq=>?_,by rw[Wh hi];exact h.nd⟩;obtain⟨j,l⟩:=List.mem_iff_getElem?.1 hb;rw[avY]at l;split at l;split at l;cases l;simp only[aO,if_true];cases l;rename_i u;have:b.1≠o:=λe=>h.ne i j hi (show B[j]?=some (b.1,b.2)from l) u e.symm;rw[aO,aC this];exact h.box b (auZ l);have:q≠o:=λe=>h.ndX w (pO A hq) e.symm;rw[aO,aC this]
theorem aN.new(h:aN H B L){o:Nat}(l:H o=none)(y:aS):aN (H.set o y) (B++[(o,y)]) L:=by
 obtain⟨f1,f2⟩:=h.fresh l;refine⟨λb hb=>?_,λz i=>(h.lst z i).same λq hq=>?_,?_⟩;rw[auC,auB]at hb;rcases hb with hb|rfl
 have:b.1≠o:=λe=>f1 (e ▸ BL hb);rw[aO,aC this];exact h.box b hb;simp only[aO,if_true];have:q≠o:=λe=>f2 (e ▸ pO i hq);rw[aO,aC this];have:=h.nd;simp only[gI,atK,atU,auH]at *
 rw[atV,avU]at *
 obtain⟨a,b,c⟩:=this;refine⟨a,?_,λp hp q hq=>?_⟩;rw[List.singleton_append,List.nodup_cons];exact⟨f2,b⟩;rw[List.singleton_append,atG]at hq;rcases hq with rfl|hq
 intro e;subst e;exact f1 hp;exact c p hp q hq
theorem oV(L1 L2:List LI):fR (L1++L2)=fR L1++fR L2:=List.filterMap_append ..
theorem aN.lE(h:aN H B L)(s:Nat):aN H B (L++[(.aG,s,[])]):=by
 refine⟨h.box,λz e=>?_,?_⟩;rw[auC,auB]at e;rcases e with e|rfl
 exact h.lst z e;exact .nil;rw[oV,show fR [((.aG:PV),s,([]:P2_))]=[]from rfl,auA];exact h.nd
theorem aN.Eb(h:aN H B L){o s:Nat}{rows:P2_}(l:H o=none):aN (H.set o (.rows s rows)) B (L++[(.osl o s 0 rows.length,s,rows)]):=by
 obtain⟨f1,f2⟩:=h.fresh l;have i:=h.keep (H':=H.set o (.rows s rows)) λq hq=>by
  have:q≠o:=by rintro rfl;exact hq.elim f1 f2
  rw[aO,aC this]
 refine⟨i.box,λz e=>?_,?_⟩;rw[auC,auB]at e;rcases e with e|rfl
 exact i.lst z e;exact .inr ⟨o,rows,rfl,by simp only[aO,if_true],asU _,atL⟩;rw[oV,show fR [((.osl o s 0 rows.length:PV),s,rows)]=[o]from rfl,<-atV,avU];refine⟨h.nd,by simp,λp hp q hq=>?_⟩;rw[auB]at hq;subst hq;rintro rfl;rcases auC.1 hp with hp|hp
 exact f1 hp;exact f2 hp
theorem C6{i:Nat}{v v':PV}{s s':Nat}{rows rows':P2_}(hi:L[i]?=some (v,s,rows)):∃L1 L2,L=L1++(v,s,rows)::L2/\L.set i (v',s',rows')=L1++(v',s',rows')::L2:=by
 obtain⟨e,he⟩:=atX.1 hi;refine⟨L.take i,L.drop (i+1),?_,?_⟩;rw[<-he,<-avF e,awK];rw[List.set_eq_take_append_cons_drop,aF e]
theorem aN.JX(h:aN H B L)(i:Nat){s:Nat}{v:PV}{rows:P2_}(hi:L[i]?=some (v,s,rows)){s':Nat}{v':PV}{rows':P2_}{H':PH}(M:bC H' s' v' rows')
  (E:∀q,v'.oid=some q->v.oid=some q\/H q=none) (J:∀q,q∈gI B\/q∈fR L->(∀p,v.oid=some p->q≠p)->H' q=H q):aN H' B (L.set i (v',s',rows')):=by
 obtain⟨L1,L2,F,e2⟩:=C6 (v':=v') (s':=s') (rows':=rows') hi;rw[e2];subst F;have l:=h.nd;have A:fR (L1++(v,s,rows)::L2)=fR L1++(v.oid.toList++fR L2):=by rw[oV];congr 1;unfold fR;rw[List.filterMap_cons];cases e:v.oid<;>simp
 have D:fR (L1++(v',s',rows')::L2)=fR L1++(v'.oid.toList++fR L2):=by rw[oV];congr 1;unfold fR;rw[List.filterMap_cons];cases e:v'.oid<;>simp
 rw[A]at l;have x:∀q,q∈gI B\/q∈fR L1\/q∈fR L2->∀p,v.oid=some p->q≠p:=by
  intro q hq p hp e;subst e;rw[hp]at l;simp only[Option.toList_some]at l;rw[avU]at l;obtain⟨a,b,c⟩:=l;rw[avU]at b;obtain⟨b1,b2,y⟩:=b;rw[List.singleton_append,List.nodup_cons]at b2;rcases hq with hq|hq|hq
  exact c q hq q aZ rfl;exact y q hq q aZ rfl;exact b2.1 hq
 have u:∀q,q∈gI B\/q∈fR L1\/q∈fR L2->H' q=H q:=by
  intro q hq;refine J q ?_ (x q hq);rw[A];simp only[auC];rcases hq with hq|hq|hq
  exact .inl hq;exact .inr (.inl hq);exact .inr (.inr (.inr hq))
 refine⟨λb hb=>by rw[u _ (.inl (BL hb))];exact h.box b hb,λz hz=>?_,?_⟩;rw[auC,atG]at hz;rcases hz with hz|rfl|hz
 exact(h.lst z (by simp[hz])).same λq hq=>u q (.inr (.inl (pO hz hq)));exact M;exact(h.lst z (by simp[hz])).same λq hq=>u q (.inr (.inr (pO hz hq)))
 ·rw[D];cases e:v'.oid with
  |none =>simp only[Option.toList_none,awO];refine List.Nodup.sublist ?_ l;exact avE.append (avE.refl _) (avE.append (avE.refl _) (List.sublist_append_right _ _))
  |some q=>
   rcases E q e with N|hn
   rw[N]at l;exact l;obtain⟨f1,f2⟩:=h.fresh hn;rw[A]at f2;simp only[auC,not_or]at f2;have w:(gI B++(fR L1++fR L2)).Nodup:=List.Nodup.sublist (avE.append (avE.refl _) (avE.append (avE.refl _) (List.sublist_append_right _ _))) l;simp only[Option.toList_some];rw[avU]at w ⊢;obtain⟨a,b,c⟩:=w;rw[avU]at b;obtain⟨b1,b2,y⟩:=b;refine⟨a,?_,?_⟩;rw[avU];refine⟨b1,by rw[List.singleton_append,List.nodup_cons];exact⟨f2.2.2,b2⟩,λp hp r hr=>?_⟩;rw[List.singleton_append,atG]at hr;rcases hr with rfl|hr
   rintro rfl;exact f2.1 hp;exact y p hp r hr;intro p hp r hr;rw[auC,List.singleton_append,atG]at hr;rcases hr with hr|rfl|hr
   exact c p hp r (by simp[hr]);rintro rfl;exact f1 hp;exact c p hp r (by simp[hr])
theorem aN.append(h:aN H B L)(i:Nat){s b:Nat}{v y:PV}{rows src:P2_}(hi:L[i]?=some (v,s,rows))(D:dG H s y=some src)(A:roomFor rows.length src.length b)
  (w:∀v' H',aN H' B (L.set i (v',s,rows++src))->(src≠[]->∃q,v'=.osl q s 0 (rows++src).length)->K v' H'):kP H s b v y K:=by
 rcases h.own i hi with⟨rfl,rfl⟩|⟨q,rs,rfl,h1,h2,h3⟩
 refine⟨src,D,A,λe=>?_,λe o u=>?_⟩;subst e;refine w _ _ ?_ λh=>absurd rfl h;exact h.JX i hi (.inl ⟨rfl,rfl⟩) (λq hq=>by cases hq) λq _ _=>rfl;refine w _ _ (h.JX i hi (.inr ⟨o,src,rfl,by simp only[aO,if_true],asU _,atL⟩) (λq hq=>by cases hq;exact .inr u) λq hq _=>?_) λ_=>⟨o,rfl⟩;obtain⟨f1,f2⟩:=h.fresh u;have:q≠o:=by rintro rfl;exact hq.elim f1 f2
 rw[aO,aC this];have l:(rows++src).length=Z' rows+Z' src:=asX;refine⟨src,D,rfl,rfl,A,rs,h1,h2,?_,λo u=>?_⟩;rw[h3];refine w _ _ (h.JX i hi (.inr ⟨q,rows++src,by rw[l],by simp only[aO,if_true],asU _,atL⟩) (λp hp=>by cases hp;exact .inl rfl) λp _ hp=>?_) λ_=>⟨q,by rw[l]⟩;rw[aO,aC (hp q rfl)];rw[h3];refine w _ _ (h.JX i hi (.inr ⟨o,rows++src,by rw[l],by simp only[aO,if_true],asU _,atL⟩) (λp hp=>by cases hp;exact .inr u) λp x hp=>?_) λ_=>⟨o,by rw[l]⟩;obtain⟨f1,f2⟩:=h.fresh u;have E:p≠o:=by rintro rfl;exact x.elim f1 f2
 rw[aO,aC E]
theorem aN.sub(h:aN H B L){B':List BX}{L':List LI}(hB:B'.Sublist B)(e:L'.Sublist L):aN H B' L':=
 ⟨λb hb=>h.box b (hB.subset hb),λx i=>h.lst x (e.subset i),List.Nodup.sublist (avE.append (hB.map _) (e.filterMap _)) h.nd⟩
theorem aN.wC(h:aN H B L)(i:Nat):aN H (B.eraseIdx i) L:=h.sub (List.eraseIdx_sublist ..) (avE.refl _)
theorem aN.Lx(h:aN H B L)(i:Nat):aN H B (L.eraseIdx i):=h.sub (avE.refl _) (List.eraseIdx_sublist ..)
end
section
variable {C:Ctx} {F:PF} {H:PH} {B:List BX} {L:List LI}
theorem aN.NF(h:aN H B L){q:Nat}(hq:q∈gI B\/q∈fR L):∃x,H q=some x:=by
 rcases hq with hq|hq
 obtain⟨b,hb,rfl⟩:=atM.1 hq;exact⟨_,h.box b hb⟩;obtain⟨x,l,e⟩:=List.mem_filterMap.1 hq;obtain⟨rs,i,_⟩:=(h.lst x l).id e;exact⟨_,i⟩
theorem aN.perm(h:aN H B L){B':List BX}{L':List LI}(hB:B.Perm B')(e:L.Perm L'):aN H B' L':=
 ⟨λb hb=>h.box b (hB.mem_iff.2 hb),λx i=>h.lst x (e.mem_iff.2 i),(avN.nodup_iff ((hB.map _).append (e.filterMap _))).1 h.nd⟩
theorem aN.only(h:aN H B L){B1:List BX}{L1:List LI}(hB:B1.Sublist B)(e:L1.Sublist L):aN (H.only (gI B1++fR L1)) B1 L1:=by
 refine(h.sub hB e).keep λq hq=>?_;rw[yW];rw[aF (auC.2 hq)]
theorem ahH{a b c d:N_}(i:(a++c).Nodup)(l:(b++d).Nodup)(u:∀q,q∈a\/q∈c->q∈b\/q∈d->False):((a++b)++(c++d)).Nodup:=by
 have e:avN ((a++b)++(c++d)) ((a++c)++(b++d)):=by rw[atV,atV];exact avN.append_left a (by rw[<-atV,<-atV];exact avN.append_right d List.perm_append_comm)
 rw[e.nodup_iff,avU];refine⟨i,l,λp hp q hq=>?_⟩;rintro rfl;exact u p (auC.1 hp) (auC.1 hq)
theorem aN.frame{H':PH}{B1 B2 B':List BX}{L1 L2 L':List LI}(h:aN H (B1++B2) (L1++L2))(w:aN H' B' L')(J:rG H (H.only (gI B1++fR L1)) H'):aN (H.over (H.only (gI B1++fR L1)) H') (B'++B2) (L'++L2):=by
 have D:aN H B2 L2:=h.sub (List.sublist_append_right ..) (List.sublist_append_right ..);have l:∀q,q∈gI B2\/q∈fR L2->¬(q∈gI B1++fR L1):=by
  intro q hq N;have i:=h.nd;rw[show gI (B1++B2)=gI B1++gI B2 from atK,oV]at i;have e:avN ((gI B1++gI B2)++(fR L1++fR L2)) ((gI B1++fR L1)++(gI B2++fR L2)):=by rw[atV,atV];exact avN.append_left _ (by rw[<-atV,<-atV];exact avN.append_right _ List.perm_append_comm)
  rw[e.nodup_iff,avU]at i;exact i.2.2 q N q (auC.2 hq) rfl
 have new:∀q,q∈gI B'\/q∈fR L'->(H.over (H.only (gI B1++fR L1)) H') q=H' q:=by intro q hq;obtain⟨x,hx⟩:=w.NF hq;rw[iM,hx]
 have E:∀q,q∈gI B2\/q∈fR L2->(H.over (H.only (gI B1++fR L1)) H') q=H q:=by
  intro q hq;obtain⟨x,hx⟩:=D.NF hq;have A:(H.only (gI B1++fR L1)) q=none:=by rw[yW,aC (l q hq)]
  rw[iM];cases e:H' q with
  |none=>simp only[A]
  |some y =>have:=J q y e A;rw[hx]at this;cases this
 have K:=w.keep new;have M:=D.keep E;refine⟨λb hb=>?_,λx hx=>?_,?_⟩;rcases auC.1 hb with hb|hb
 exact K.box b hb;exact M.box b hb;rcases auC.1 hx with hx|hx
 exact K.lst x hx;exact M.lst x hx;rw[show gI (B'++B2)=gI B'++gI B2 from atK,oV];refine ahH w.nd D.nd λq hq u=>?_;obtain⟨x,hx⟩:=w.NF hq;obtain⟨y,O⟩:=D.NF u;have A:(H.only (gI B1++fR L1)) q=none:=by rw[yW,aC (l q u)]
 have:=J q x hx A;rw[O]at this;cases this
theorem LX{name:Nat}{vs:V_}{args:List aP}{d:O_}{K:K_}{B1 B2:List BX}{L1 L2:List LI}{Q:PV->List BX->List LI->Prop}(h:aN H (B1++B2) (L1++L2))
  (w:∀i,aN i B1 L1->aH C name vs i (λr H'=>∃B' L',Q r B' L'/\aN H' B' L')) (u:aP.evs F args=some vs)
  (x:∀r B' L' H',Q r B' L'->aN H' (B'++B2) (L'++L2)->K (F.put d r) H'):jX C name args [] d K F H:=by
 refine iL (w (H.only (gI B1++fR L1)) (h.only (List.sublist_append_left ..) (List.sublist_append_left ..))) u (YT H _) ?_;rintro r H' ⟨B',L',hq,l⟩ e;exact x r B' L' _ hq (h.frame l e)
theorem aN.MF{B:List BX}{o:Nat}{x:aS}(h:aN H (B++[(o,x)]) L):H o=some x:=h.box (o,x) aZ
theorem aN.YY{B:List BX}{o:Nat}{x:aS}(h:aN H (B++[(o,x)]) L)(y:aS):aN (H.set o y) (B++[(o,y)]) L:=by
 have:=h.set B.length (o:=o) (x:=x) aZ y
 rwa[avQ _ _ (asU _),auK]at this
theorem aN.dropLast{B:List BX}{b:BX}(h:aN H (B++[b]) L):aN H B L:=h.sub (List.sublist_append_left ..) (avE.refl _)
theorem aN.aeI{B:List BX}{o:Nat}{x:aS}(h:aN H ((o,x)::B) L)(y:aS):aN (H.set o y) ((o,y)::B) L:=h.set 0 rfl y
theorem aN.agG{B:List BX}{o:Nat}{x:aS}(h:aN H ((o,x)::B) L):H o=some x:=h.at 0 rfl
theorem pB{name o:Nat}{x y:aS}{r:PV}{vs:V_}{args:List aP}{d:O_}{K:K_}(h:aH C name vs (h_.set o x) (λr' H'=>r'=r/\H'=h_.set o y))(l:H o=some x)(e:aP.evs F args=some vs)
  (i:K (F.put d r) (H.set o y)):jX C name args [] d K F H:=by
 refine iL h e (d_ a_ l) ?_;rintro r' H' ⟨rfl,rfl⟩ -;rw[PH.HY];exact i
theorem Ca{Hs:PH}{S:Spec}{name o:Nat}{x y:aS}{r:PV}{vs:V_}{R:PH->R_}{args:List aP}{st:Bool}{d:O_}{K:K_}(M:S name vs=some ([o],R))(J:H o=some x)
  (h:aH C name vs (h_.set o x) (λr' H'=>r'=r/\H'=h_.set o y)) (i:R (h_.set o x) r (h_.set o y)) (w:∀r' H',R (h_.set o x) r' H'->r'=r/\H'=h_.set o y) (N:aP.evs F args=some vs)
  (A:Hs.le (H.set o y)) (O:K (F.put d r) (H.set o y)):dOp C Hs S st (.call name args) d K F H:=by
 have e:=gt J;refine⟨vs,[o],_,N,M,λq hq=>?_,?_,λG=>⟨r,_,by rw[e];exact i,λq z E u=>?_⟩,λr' H' l _=>?_⟩;simp at hq;subst hq;exact⟨x,J⟩;rw[e];exact h.post λr' H' l=>⟨r',.refl _,by rw[l.1,l.2];exact i⟩;rw[e]at u;rw[aO]at E u;split at u;cases u;rename_i D;rw[aC D]at E;cases E;rw[e]at l;obtain⟨rfl,rfl⟩:=w r' H' l;rw[e,PH.HY];exact⟨A,O⟩
theorem Yv{s:Nat}{q z:Nat}{rs:P2_}{v:PV}{rows:P2_}(h:bC H s v rows)(l:v.oid≠some q):bC (H.frz q z rs) s v (rows.map λr=>r.map (PV.cO q z rs)):=by
 rcases h with⟨rfl,rfl⟩|⟨p,rs',rfl,h1,h2,h3⟩
 exact .inl ⟨rfl,rfl⟩;have i:¬p=q:=λe=>l (by rw[e];rfl);refine .inr ⟨p,rs'.map λr=>r.map (PV.cO q z rs),by rw[asO],?_,by simpa using h2,?_⟩;rw[BH,aC i,h1];rfl;rw[asO,<-List.map_take,h3]
theorem aN.frz(h:aN H B L)(i:Nat){q s k:Nat}{rows:P2_}(hi:L[i]?=some (.osl q s 0 k,s,rows)):∃rs,H q=some (.rows s rs)/\PV.cO q s rs (.osl q s 0 k)=.sl s rows/\PV.frz q s rs (.osl q s 0 k)=.sl s rows/\(∀j x,j≠i->L[j]?=some x->PV.cO q s rs x.1=x.1) /\
  aN (H.frz q s rs) (B.map λb=>(b.1,b.2.frz q s rs)) ((L.eraseIdx i).map λx=>(x.1,x.2.1,x.2.2.map λr=>r.map (PV.cO q s rs))):=by
 obtain⟨rs,U,V,W,X⟩:=(h.own i hi).id rfl;injection V with _ _ _ hk
 subst hk;have e:PV.frz q s rs (.osl q s 0 rows.length)=.sl s rows:=by rw[BG W,X]
 refine⟨rs,U,e,e,?_⟩;refine⟨λj x J R=>?_,?_⟩;have u:x.1.oid≠some q:=by
  intro u;obtain⟨K,he⟩:=atX.1 hi;obtain⟨α,Y⟩:=atX.1 R;have w:x∈L.eraseIdx i:=List.mem_eraseIdx_iff_getElem?.2 ⟨j,J,R⟩;have l:=h.ndL;have N:L=L.take i++(L[i]::L.drop (i+1)):=by rw[<-avF K,awK]
  rw[List.eraseIdx_eq_take_drop_succ]at w;rw[N,oV]at l;have E:fR (L[i]::L.drop (i+1))=q::fR (L.drop (i+1)):=by rw[he];rfl
  rw[E,avU]at l;obtain⟨a,b,c⟩:=l;rcases auC.1 w with hx|hx
  exact c q (pO hx u) q aZ rfl;exact(List.nodup_cons.1 b).1 (pO hx u)
 cases hx:x.1<;>try rfl
 rename_i p z off len;have:¬p=q:=λe=>u (by rw[hx,e];rfl);simp only[PV.cO,aC this];obtain⟨L1,L2,e1,e2⟩:=C6 (v':=.aG) (s':=s) (rows':=rows) hi;have Z:i=Z' L1\/True:=.inr trivial;have y:(L.eraseIdx i).Sublist L:=List.eraseIdx_sublist ..;have M:∀x∈L.eraseIdx i,x.1.oid≠some q:=by
  intro x hx u;obtain⟨K,he⟩:=atX.1 hi;have l:=h.ndL;have N:L=L.take i++(L[i]::L.drop (i+1)):=by rw[<-avF K,awK]
  rw[List.eraseIdx_eq_take_drop_succ]at hx;rw[N,oV]at l;have E:fR (L[i]::L.drop (i+1))=q::fR (L.drop (i+1)):=by rw[he];rfl
  rw[E,avU]at l;obtain⟨a,b,c⟩:=l;rcases auC.1 hx with hx|hx
  exact c q (pO hx u) q aZ rfl;exact(List.nodup_cons.1 b).1 (pO hx u)
 refine⟨λb hb=>?_,λx hx=>?_,?_⟩;obtain⟨O,A,rfl⟩:=atM.1 hb;have:¬O.1=q:=h.ndX (BL A) (pO (auZ hi) rfl);simp only;rw[BH,aC this,h.box O A];rfl;obtain⟨S,D,rfl⟩:=atM.1 hx;exact Yv (h.lst S (y.subset D)) (M S D);have i1:gI (B.map λb=>(b.1,b.2.frz q s rs))=gI B:=by unfold gI;rw[avT];rfl
 have i2:fR ((L.eraseIdx i).map λx=>(x.1,x.2.1,x.2.2.map λr=>r.map (PV.cO q s rs)))=fR (L.eraseIdx i):=by unfold fR;rw[List.filterMap_map];rfl
 rw[i1,i2];exact List.Nodup.sublist (avE.append (avE.refl _) (y.filterMap _)) h.nd
def Flat(rows:P2_):Prop:=∀q s rs,rows.map (λr=>r.map (PV.cO q s rs))=rows
theorem Flat.nil:Flat []:=λ_ _ _=>rfl
theorem Flat.of{rows:P2_}(h:∀r∈rows,∀c∈r,∀q s rs,PV.cO q s rs c=c):Flat rows:=λq s rs=>by
 conv=>rhs;rw[<-List.map_id rows]
 refine avO λr i=>?_
 conv=>rhs;rw[id,<-List.map_id r]
 exact avO λc e=>h r i c e q s rs
theorem Flat.map{α:Type}{f:α->V_}(l:List α)(h:∀x,∀c∈f x,∀q s rs,PV.cO q s rs c=c):Flat (l.map f):=Flat.of λr e=>by
 obtain⟨x,_,rfl⟩:=atM.1 e;exact h x
theorem Flat.append{r1 r2:P2_}(e:Flat r1)(i:Flat r2):Flat (r1++r2):=λq s rs=>by rw[atK,e,i]
theorem aN.flat{φ:PV->P2_}(h:aN H B L):aN H B L:=h
def vQ(v:PV)(H:PH)(R:R_):Prop:=∃e i H2,jM (n_.set 0 v) H e i/\H2.le i/\∃u,e 0=some u/\R u H2
theorem vQ.done{v:PV}{H2:PH}{R:R_}(i:R v H2)(e:H2.le H):vQ v H R:=⟨_,_,H2,.refl _ _,e,v,by rw[mL,aF rfl],i⟩
theorem vQ.step{v:PV}{q s:Nat}{rs:P2_}{R:R_}(hq:H q=some (.rows s rs))(h:vQ (PV.frz q s rs v) (H.frz q s rs) R):vQ v H R:=by
 obtain⟨l,u,H2,w,x,y⟩:=h;have e:(n_.set 0 v).frz q s rs=n_.set 0 (PV.frz q s rs v):=by funext i;rw[uZ,mL,mL];split<;>rfl
 exact⟨l,u,H2,.step q hq (by rw[e];exact w),x,y⟩
theorem pE{res:List dX}{R:R_}{vs:V_}{e:lI}(he:e=.normal\/e=.ret)(h:dX.evs F H res=some vs)(x:vQ (bN vs) H R):aV res R e F H:=by
 have i:∃vs,dX.evs F H res=some vs/\∃l w H2,jM (n_.set 0 (bN vs)) H l w/\H2.le w/\∃u,l 0=some u/\R u H2:=⟨vs,h,x⟩;rcases he with rfl|rfl<;>exact i
theorem l6{u:PV}(h:u.oid=none)(q s:Nat)(rs:P2_):PV.cO q s rs u=u:=by
 cases u<;>first|rfl|(simp[PV.oid]at h)
theorem Seen.co{s:Nat}{v:PV}{rows:P2_}(h:Seen s v rows):Co v (.sl s rows):=by
 rcases h with⟨rfl,rfl⟩|rfl
 exact .nil s;exact .refl _
theorem aN.giveUp:∀(L:List LI){H:PH}{B:List BX},aN H B L->(∀x∈L,Flat x.2.2)->(∀b∈B,∀q s rs,aS.frz q s rs b.2=b.2) ->
  ∃(φ:PV->PV)(l:PH),(∀x∈L,Seen x.2.1 (φ x.1) x.2.2)/\(∀u,u.oid=none->φ u=u)/\aN l B []/\∀cs R,vQ (.agg (cs.map φ)) l R->vQ (.agg cs) H R
 |[],H,B,h,_,_=>⟨id,H,by simp,λ_ _=>rfl,h,λcs R E=>by rwa[List.map_id]at E⟩
 |(w,s,rows)::L,H,B,h,D,hB=>by
  have i:∀q z rs,(L.map λx=>(x.1,x.2.1,x.2.2.map λr=>r.map (PV.cO q z rs)))=L:=λq z rs=>by
   conv=>rhs;rw[<-List.map_id L]
   refine avO λx hx=>?_;rw[D x (by simp[hx]) q z rs];rfl
  rcases h.own 0 rfl with⟨A,U⟩|⟨q,rs,A,_⟩
  ·obtain⟨φ,l,J,y,K,M⟩:=aN.giveUp L (h.Lx 0) (λx hx=>D x (by simp[hx])) hB;refine⟨φ,l,λx hx=>?_,y,K,M⟩;rw[atG]at hx;rcases hx with rfl|hx
   ·exact .inl ⟨A,by simp only;rw[U];exact y _ rfl⟩
   ·exact J x hx
  ·subst A;obtain⟨rs,W,X,z3,Y,O⟩:=h.frz 0 rfl;have Z:aN (H.frz q s rs) B L:=by
    have S:(B.map λb=>(b.1,b.2.frz q s rs))=B:=by
     conv=>rhs;rw[<-List.map_id B]
     refine avO λb hb=>?_;rw[hB b hb q s rs];rfl
    rw[S]at O;have:=O;simp only[List.eraseIdx_cons_zero]at this
    rwa[i q s rs]at this
   obtain⟨φ,l,J,y,K,M⟩:=aN.giveUp L Z (λx hx=>D x (by simp[hx])) hB;refine⟨λu=>φ (PV.cO q s rs u),l,λx hx=>?_,λu N=>?_,K,λcs R E=>?_⟩
   ·rw[atG]at hx;rcases hx with rfl|hx
    ·simp only;rw[X];exact .inr (y _ rfl)
    ·obtain⟨j,V⟩:=List.mem_iff_getElem?.1 hx;have:=Y (j+1) x Om (by simpa using V);simp only;rw[this];exact J x hx
   ·simp only;rw[l6 N,y u N]
   ·refine .step W ?_;have e:PV.frz q s rs (.agg cs)=.agg (cs.map (PV.cO q s rs)):=rfl;rw[e];refine M _ R ?_;rw[avT];exact E
theorem yU{K:bP}{α:Type}{e:α->PF}{Hs:α->PH}{i:α->Prop}{m:α->Nat}{n q s:Nat}{rs:P2_}(a:α)(hq:H q=some (.rows s rs))(l:i a)(x:m a<n)(u:(e a).le (F.frz q s rs))(w:(Hs a).le (H.frz q s rs)):fK e Hs i m n K .normal F H:=
 ⟨a,_,_,.step q hq (.refl _ _),l,x,u,w⟩
end
end Go.PM
namespace Go.Na
def val:N_->Nat
 |[]=>0
 |x::xs=>x+4294967296*val xs
def Lim(xs:N_):Prop:=∀x∈xs,x<4294967296
def aT(n:Nat):N_:=if h:n=0 then[]else(n%4294967296)::aT (n/4294967296)
termination_by n
decreasing_by exact Nat.div_lt_self (awA h) aR
def nl(n:Nat):Nat:=(aT n).length
theorem jT:aT 0=[]:=by rw[aT];simp
theorem yT{n:Nat}(h:n≠0):aT n=(n%4294967296)::aT (n/4294967296):=by rw[aT];simp[h]
theorem uC{n:Nat}(h:n≠0)(hb:n<4294967296):aT n=[n]:=by
 rw[yT h,avV hb,Nat.div_eq_of_lt hb,jT]
theorem cC(n:Nat):val (aT n)=n:=by
 induction n using Nat.strongRecOn with
 |_ n e =>by_cases h:n=0;subst h;rw[jT];rfl;rw[yT h,val,e _ (Nat.div_lt_self (awA h) aR)];exact Nat.mod_add_div n 4294967296
theorem cE(n:Nat):Lim (aT n):=by
 induction n using Nat.strongRecOn with
 |_ n e=>
  by_cases h:n=0;subst h;rw[jT];intro x hx;cases hx;rw[yT h];intro x hx;rw[atG]at hx;rcases hx with rfl|hx
  exact Nat.mod_lt _ aR;exact e _ (Nat.div_lt_self (awA h) aR) x hx
theorem tu:nl 0=0:=by rw[nl,jT];rfl
theorem R4{n:Nat}(h:n≠0):nl n=nl (n/4294967296)+1:=by rw[nl,yT h];rfl
theorem oN(n k:Nat):nl n<=k↔n<4294967296^k:=by
 induction k generalizing n with
 |zero =>by_cases h:n=0;subst h;simp[tu];rw[R4 h];simp;omega
 |succ k e =>by_cases h:n=0;subst h;simp[tu,Nat.pow_pos];rw[R4 h,Nat.succ_le_succ_iff,e,awL,axC aR]
theorem qT{n:Nat}:nl n=0↔n=0:=by
 have:=oN n 0;simp at this;exact this
theorem jW(xs ys:N_):val (xs++ys)=val xs+4294967296^xs.length*val ys:=by
 induction xs with
 |nil=>simp[val]
 |cons x xs e =>simp only[awD,val,atZ,e,awL];rw[auJ,avZ,<-auP,avC 4294967296 (4294967296^xs.length)]
theorem oE{xs:N_}(h:Lim xs):val xs<4294967296^xs.length:=by
 induction xs with
 |nil=>simp[val]
 |cons x xs l =>have u:=h x aZ;have e:=l λy i=>h y (by simp[i]);simp only[val,atZ,awL];have:4294967296*(val xs+1)<=4294967296*4294967296^xs.length:=awP _ e;rw[auJ,Nat.mul_one]at this;rw[avC (4294967296^xs.length)];omega
theorem Lim.app{xs ys:N_}(h:Lim xs)(k:Lim ys):Lim (xs++ys):=λx e=>by
 rw[auC]at e;exact e.elim (h x) (k x)
theorem Lim.take{xs:N_}(h:Lim xs)(n:Nat):Lim (xs.take n):=λx e=>h x (awU e)
theorem Lim.drop{xs:N_}(h:Lim xs)(n:Nat):Lim (xs.drop n):=λx e=>h x (List.mem_of_mem_drop e)
theorem Lim.set{xs:N_}(h:Lim xs)(i:Nat){v:Nat}(e:v<4294967296):Lim (xs.set i v):=λx l=>by
 rcases axB l with h1|h1
 exact h x h1;subst h1;exact e
theorem UX(n:Nat):Lim (asT n 0):=λx e=>by
 rw[List.mem_replicate]at e;rw[e.2];decide
theorem KG(n:Nat):val (asT n 0)=0:=by
 induction n with
 |zero=>rfl
 |succ n e=>simp[List.replicate_succ,val,e]
theorem Rm{xs:N_}(h:Lim xs)(A:∀x,xs.getLast?=some x->x≠0):aT (val xs)=xs:=by
 induction xs with
 |nil=>simp[val,jT]
 |cons x xs J=>
  have u:=h x aZ;have w:Lim xs:=λy E=>h y (by simp[E]);cases xs with
  |nil =>have:=A x aZ;simp only[val,Nat.mul_zero,auI];exact uC this u
  |cons y ys=>
   have i:=J w λz F=>A z (by rw[List.getLast?_cons_cons];exact F);have D:val (y::ys)≠0:=λe=>by rw[e,jT]at i;cases i
   have l:x+4294967296*val (y::ys)≠0:=by have:0<4294967296*val (y::ys):=Nat.mul_pos aR (awA D);omega
   show aT (x+4294967296*val (y::ys))=_;rw[yT l];have B:(x+4294967296*val (y::ys))%4294967296=x:=by rw[Nat.add_mul_mod_self_left,avV u]
   have e2:(x+4294967296*val (y::ys))/4294967296=val (y::ys):=by rw[Nat.add_mul_div_left _ _ aR,Nat.div_eq_of_lt u,atA]
   rw[B,e2,i]
theorem Gl{xs:N_}{n:Nat}(h:∀j x,n<=j->xs[j]?=some x->x=0):val (xs.take n)=val xs:=by
 have e:xs.drop n=asT (xs.drop n).length 0:=by apply avL aZ;intro i l u;rw[List.getElem_replicate,List.getElem_drop];exact h (n+i) _ Om (asZ _)
 conv=>rhs;rw[<-awK n xs,jW,e,KG]
 simp
theorem qd{xs:N_}(w:Lim xs){n:Nat}(u:n<=Z' xs)(h:∀j x,n<=j->xs[j]?=some x->x=0)(l:∀x,0<n->xs[n-1]?=some x->x≠0):xs.take n=aT (val xs):=by
 rw[<-Gl h,Rm (w.take n)];intro x i;rw[List.getLast?_eq_getElem?,atF,avJ u]at i;rcases avB n with e|e
 subst e;simp at i;rw[List.getElem?_take_of_lt Om]at i;exact l x e i
theorem DG{xs:N_}(h:Lim xs):nl (val xs)<=Z' xs:=(oN _ _).2 (oE h)
theorem zf {xs : N_} (h : Lim xs) : xs.take (nl (val xs)) = aT (val xs) := by
  have hl := DG h;have e : val (xs.take (nl (val xs)) ++ xs.drop (nl (val xs))) = val xs := by rw [awK]
  rw [jW, atF, avJ hl] at e;have h1 := oE (h.take (nl (val xs)));rw [atF, avJ hl] at h1;have h2 := (oN (val xs) (nl (val xs))).1 (asU _);have hd : val (xs.drop (nl (val xs))) = 0 := by
    rcases avB (val (xs.drop (nl (val xs)))) with h | h
    · exact h
    · have := awP (4294967296 ^ nl (val xs)) h
      omega
  have hz : ∀ j x, nl (val xs) <= j -> xs[j]? = some x -> x = 0 := by
    have zero : ∀ ys : N_, val ys = 0 -> ∀ y ∈ ys, y = 0 := by
      intro ys
      induction ys with
      | nil => intro _ y hy; cases hy
      | cons z zs ih =>
        intro hv y hy;simp only [val] at hv;rw [atG] at hy;rcases hy with rfl | hy
        · omega
        · exact ih (by have : 4294967296 * val zs = 0 := Om
                       rcases Nat.mul_eq_zero.1 this with h | h
                       · cases h
                       · exact h) y hy
    intro j x hj hx;refine zero _ hd x ?_;rw [List.mem_iff_getElem?];exact ⟨j - nl (val xs), by rw [awM, Nat.add_sub_cancel' hj]; exact hx⟩
  refine qd h hl hz fun x hpos hx e => ?_;subst e;have hz2 : ∀ j x, nl (val xs) - 1 <= j -> xs[j]? = some x -> x = 0 := fun j y hj hy => by
    rcases atY j (nl (val xs)) with h3 | h3
    · have : j = nl (val xs) - 1 := Om
      subst this; rw [hx] at hy; cases hy; rfl
    · exact hz j y h3 hy
  have h3 := Gl hz2;have h4 := oE (h.take (nl (val xs) - 1));rw [h3, atF, avJ Om] at h4;have := (oN (val xs) (nl (val xs) - 1)).2 h4;omega
theorem aiI{xs:N_}(h:Lim xs){n:Nat}(w:nl (val xs)=n+1):∃x,xs[n]?=some x/\x≠0:=by
 have y:=DG h;refine⟨xs[n]'Om,asZ _,λe=>?_⟩;have u:=zf h;have i:=cC (val xs);rw[<-u,w,atW Om,e,jW]at i;simp only[val,Nat.mul_zero,auI]at i;have l:=oE (h.take n);rw[i,atF,avJ Om]at l;have:=(oN (val xs) n).2 l;omega
theorem JT(xs:N_){k:Nat}(h:k<Z' xs):val xs=val (xs.take k)+4294967296^k*(xs[k]+4294967296*val (xs.drop (k+1))):=by
 conv=>lhs;rw[<-awK k xs,jW,atF,avJ Om,avF h]
 rfl
theorem Qc{xs ys:N_}(x:Lim xs){k:Nat}(e:k<Z' xs)(i:k<Z' ys)(w:xs.drop (k+1)=ys.drop (k+1))(h:xs[k]<ys[k]):val xs<val ys:=by
 rw[JT xs e,JT ys i,w];have l:=oE (x.take k);rw[atF,avJ Om]at l;have u:4294967296^k*(xs[k]+4294967296*val (ys.drop (k+1))+1)<=4294967296^k*(ys[k]+4294967296*val (ys.drop (k+1))):=awP _ Om;rw[auJ _ _ 1,Nat.mul_one]at u;omega
def jA(a b:Nat):Int:=if a<b then -1 else if b<a then 1 else 0
theorem Qr{xs ys:N_}{k:Nat}(e:k<Z' xs)(i:k<Z' ys)(l:xs.drop (k+1)=ys.drop (k+1))(h:xs[k]=ys[k]):xs.drop k=ys.drop k:=by
 rw[avF e,avF i,l,h]
theorem qE{a b:Nat}(h:a<=b):nl a<=nl b:=(oN a _).2 (Nat.lt_of_le_of_lt h ((oN b _).1 (asU _)))
def fM(n:Nat):Nat:=if h:n=0 then 0 else fM (n/2)+1
termination_by n
decreasing_by exact Nat.div_lt_self (awA h) aR
theorem sK:fM 0=0:=by rw[fM];simp
theorem HA{n:Nat}(h:n≠0):fM n=fM (n/2)+1:=by rw[fM];simp[h]
theorem tZ(n k:Nat):fM n<=k↔n<2^k:=by
 induction k generalizing n with
 |zero =>by_cases h:n=0;subst h;simp[sK];rw[HA h];simp;omega
 |succ k e =>by_cases h:n=0;subst h;simp[sK,Nat.pow_pos];rw[HA h,Nat.succ_le_succ_iff,e,awL,axC aR]
theorem uV{n:Nat}:fM n=0↔n=0:=by
 have:=tZ n 0;simp at this;exact this
theorem U5{hi lo k:Nat}(u:lo<2^k)(i:hi≠0):fM (lo+2^k*hi)=k+fM hi:=by
 apply Nat.le_antisymm;rw[tZ,Nat.pow_add];have e:=(tZ hi _).1 (asU _);have:2^k*(hi+1)<=2^k*2^fM hi:=awP _ e;rw[auJ,Nat.mul_one]at this;omega;obtain⟨b,hb⟩:∃b,fM hi=b+1:=⟨fM hi-1,by have:=mt uV.1 i;omega⟩;rw[hb];rcases atY (fM (lo+2^k*hi)) (k+(b+1))with h|h
 have e:=(tZ (lo+2^k*hi) (k+b)).1 Om;rw[Nat.pow_add]at e;have l:¬hi<2^b:=λh=>by have:=(tZ hi b).2 h;omega
 have:2^k*2^b<=2^k*hi:=awP _ Om;omega;exact h
theorem qC(n k:Nat):fM n<=32*k↔nl n<=k:=by
 rw[tZ,oN,Nat.pow_mul]
end Go.Na
namespace Go.PM
theorem Lq{F e:PF}(h:F.le e:=by(repeat' (first|exact c_|refine e_ ?_ ?_))<;>first|(simp only[go_sem]<;>rfl)|rfl|assumption):F.le e:=h
end Go.PM
namespace Go.PM
theorem lE1{F e:PF}{i:Prop}(l:i)(k:i->F.le e:=by intro u;(repeat' (first|exact c_|refine e_ ?_ ?_))<;>first|(simp only[go_sem,u]<;>rfl)|rfl):F.le e:=k l
theorem lE2{F e:PF}{i l:Prop}(u:i)(hb:l)(k:i->l->F.le e:=by intro w x;(repeat' (first|exact c_|refine e_ ?_ ?_))<;>first|(simp only[go_sem,w,x]<;>rfl)|rfl):F.le e:=k u hb
theorem lE3{F e:PF}{i l pc:Prop}(u:i)(hb:l)(w:pc)(k:i->l->pc->F.le e:=by intro x y A;(repeat' (first|exact c_|refine e_ ?_ ?_))<;>first|(simp only[go_sem,x,y,A]<;>rfl)|rfl):F.le e:=k u hb w
theorem lE4{F e:PF}{i l pc u:Prop}(w:i)(hb:l)(x:pc)(y:u)(k:i->l->pc->u->F.le e:=by intro A B D E;(repeat' (first|exact c_|refine e_ ?_ ?_))<;>first|(simp only[go_sem,A,B,D,E]<;>rfl)|rfl):F.le e:=k w hb x y
theorem lE5{F e:PF}{i l pc u w:Prop}(x:i)(hb:l)(y:pc)(A:u)(he:w)(k:i->l->pc->u->w->F.le e:=by intro B D E J K;(repeat' (first|exact c_|refine e_ ?_ ?_))<;>first|(simp only[go_sem,B,D,E,J,K]<;>rfl)|rfl):F.le e:=k x hb y A he
theorem lE6{F e:PF}{i l pc u w pf:Prop}(x:i)(hb:l)(y:pc)(A:u)(he:w)(B:pf)(k:i->l->pc->u->w->pf->F.le e:=by intro D E J K L M;(repeat' (first|exact c_|refine e_ ?_ ?_))<;>first|(simp only[go_sem,D,E,J,K,L,M]<;>rfl)|rfl):F.le e:=k x hb y A he B
theorem lE7{F e:PF}{i l pc u w pf x:Prop}(y:i)(hb:l)(A:pc)(B:u)(he:w)(D:pf)(E:x)(k:i->l->pc->u->w->pf->x->F.le e:=by intro J K L M N O R;(repeat' (first|exact c_|refine e_ ?_ ?_))<;>first|(simp only[go_sem,J,K,L,M,N,O,R]<;>rfl)|rfl):F.le e:=k y hb A B he D E
theorem lM{F e:PF}(h:F.le e:=by(repeat' (first|exact c_|refine e_ ?_ ?_))<;>first|(simp only[go_sem,asO]<;>rfl)|rfl):F.le e:=h
end Go.PM
namespace Go.PM
open Go Go.Na
abbrev bJ(xs:N_):P2_:=xs.map λ(n:Nat)=>[PV.int .u32 (n:Int)]
abbrev bB(xs:N_):PV:=.sl 1 (xs.map λ(n:Nat)=>[PV.int .u32 (n:Int)])
theorem eP(xs:N_):(bJ xs).length=Z' xs:=by simp
theorem gU(xs:N_){i:Nat}(h:i<Z' xs):(bJ xs)[i]?=some [.int .u32 (xs[i]:Nat)]:=by simp[h]
theorem iP(n:Nat):IntKind.u32.wrap (n:Int)=((n%4294967296:Nat):Int):=by
 have e:IntKind.u32.wrap (n:Int)=(n:Int)%4294967296:=by simp[IntKind.wrap,IntKind.bits,IntKind.signed]
 rw[e];rfl
theorem Un{k:Nat}(h:k<=9223372036854775807)(e:0<k):i_.wrap ((k:Int)-1)=((k-1:Nat):Int):=by
 rw[wrap_i64 Om Om];omega
def szL(n:Nat):N_:=if nl n>512 then[]else aT n
def szE(n:Nat):Int:=if nl n>512 then 2 else 0
def szV(n:Nat):PV:=.tup [bB (szL n),.int .i64 (szE n)]
end Go.PM
theorem Sq{p:Prop}(h:p:=by simp only[go_sem]):p:=h
theorem Ev{p:Prop}(h:p:=by simp only[go_sem]<;>rfl):p:=h
namespace Go.PM
open Go Go.Na
def sT:PV->N_
 | .sl _ rows=>rows.map λr=>match r with|[.int _ n]=>n.toNat|_=>0
 |_=>[]
theorem mA(xs:N_):sT (bB xs)=xs:=by
 simp[sT,avT,Function.comp_def]
theorem vG(L:N_)(i v:Nat):(bJ L).set i [.int .u32 (v:Int)]=bJ (L.set i v):=by
 unfold bJ;rw[avP]
theorem IP(P:N_)(v:Nat):val (P++[v])=val P+4294967296^P.length*v:=by
 rw[jW];simp[val]
theorem gX(xs:N_){i:Nat}(h:i<Z' xs):val (xs.take (i+1))=val (xs.take i)+4294967296^i*xs[i]:=by
 rw[atW h,IP,atF,avJ Om]
theorem Aq{v:Nat}:shift .shr .u64 (v:Int) 32=some (.int .u64 ((v/4294967296:Nat):Int)):=by
 unfold shift;rw[aC aR];simp only;have:min (Int.toNat 32) IntKind.u64.bits=32:=by decide
 rw[this,show(2:Int)^32=4294967296 by decide,Int.fdiv_eq_ediv_of_nonneg _ aR];rfl
theorem sJ{a b:Nat}(h:a+b<18446744073709551616):u_.wrap ((a:Int)+(b:Int))=((a+b:Nat):Int):=by
 rw[wrap_u64 Om Om];omega
theorem eF{a:Nat}(h:a<18446744073709551616):u_.wrap (a:Int)=(a:Int):=wrap_u64 Om Om
def opV(big:Bool)(n:Nat):PV:=if big then .tup [bB [],.int .i64 2]else szV n
def nO(a b:Nat):Bool:=decide (nl a>512)||decide (nl b>512)
theorem nC{res:List dX}{F:PF}{H:PH}{e:Int}(h:dX.evs F H res=some [.aG,.j e]):aV res (cN (.tup [bB [],.j e])) .ret F H:=by
 refine bM (.inr rfl) .nil h a_ ⟨?_,rfl⟩;refine .tup rfl λj p q hp hq=>?_
 match j with
 |0=>simp at hp hq;subst hp;subst hq;exact .nil 1
 |1=>simp at hp hq;subst hp;subst hq;exact .refl _
 |j+2=>simp at hp
theorem cH(n:Nat):(aT n).length=nl n:=rfl
theorem LY(n:Int):u_.wrap n=n%18446744073709551616:=by simp[IntKind.wrap,IntKind.bits,IntKind.signed]
def Oh(a b:Nat):PV:=if nO a b then .tup [bB [],.int .i64 2]else if a<b then .tup [bB [],.int .i64 4]else szV (a-b)
end Go.PM
namespace Go.Na
def pW:Nat->Nat->N_
 |0,_=>[]
 |k+1,n=>(n%4294967296)::pW k (n/4294967296)
theorem df:∀k n,(pW k n).length=k
 |0,_=>rfl
 |k+1,n=>by simp[pW,df k]
theorem dg:∀k n,Lim (pW k n)
 |0,_=>λx hx=>by cases hx
 |k+1,n=>λx hx=>by
  simp only[pW,atG]at hx;rcases hx with rfl|hx
  exact Nat.mod_lt _ aR;exact dg k _ x hx
theorem Gk:∀k n,val (pW k n)=n%4294967296^k
 |0,n=>by simp[pW,val,Nat.mod_one]
 |k+1,n=>by simp only[pW,val,Gk k];rw[awL,avC (4294967296^k) 4294967296,Nat.mod_mul]
theorem cj{k n:Nat}(h:n<4294967296^k):val (pW k n)=n:=by rw[Gk,avV h]
end Go.Na
namespace Go.PM
open Go Go.Na
theorem akJ{a b:Nat}(e:a<18446744073709551616)(hb:b<18446744073709551616):(BitVec.ofInt 64 (a:Int) ||| BitVec.ofInt 64 (b:Int)).toNat=a ||| b:=by
 rw[BitVec.ofInt_natCast,BitVec.ofInt_natCast,BitVec.toNat_or,BitVec.toNat_ofNat,BitVec.toNat_ofNat,avV (by simpa using e),avV (by simpa using hb)]
theorem Se{c x s:Nat}(e:c<2^s)(h:c+2^s*x<18446744073709551616):c ||| (2^s*x)=c+2^s*x:=by
 rw[Nat.or_comm,<-Nat.two_pow_add_eq_or_of_lt e,Nat.add_comm]
theorem orI{a b n:Nat}(e:a<18446744073709551616)(hb:b<18446744073709551616)(h:a ||| b=n)(i:n<18446744073709551616):pG .or .u64 (a:Int) (b:Int)=some (.int .u64 (n:Int)):=by
 show some (PV.int .u64 (u_.wrap (((BitVec.ofInt 64 (a:Int) ||| BitVec.ofInt 64 (b:Int)).toNat:Nat):Int)))=_;rw[akJ e hb,h,eF i]
theorem Oe{x s:Nat}(e:s<=64)(h:x*2^s<18446744073709551616):shift .shl .u64 (x:Int) (s:Int)=some (.int .u64 ((2^s*x:Nat):Int)):=by
 unfold shift;rw[aC Om];simp only;have:min (Int.toNat (s:Int)) IntKind.u64.bits=s:=by rw[show IntKind.u64.bits=64 from rfl];omega
 rw[this,show(x:Int)*2^s=((x*2^s:Nat):Int) by simp,eF h,avC]
end Go.PM
namespace Go.Na
theorem ul{L:N_}{i:Nat}(h:i<Z' L)(v:Nat):val (L.set i v)+4294967296^i*L[i]=val L+4294967296^i*v:=by
 have e:i<(L.set i v).length:=by rw[auD];exact h
 rw[JT L h,JT (L.set i v) e,List.getElem_set_self,List.take_set_of_le (asU _),List.drop_set_of_lt Om,auJ,auJ];omega
theorem Pj{L:N_}{i:Nat}(h:∀(j x:Nat),i<=j->L[j]?=some x->x=0)(k v:Nat)(u:k<i):∀(j x:Nat),i<=j->(L.set k v)[j]?=some x->x=0:=λj x l e=>by
 rw[List.getElem?_set_ne Om]at e;exact h j x l e
end Go.Na
namespace Go.PM
open Go Go.Na
structure Bh(a b L:N_)(i:Nat):Prop where
 len:Z' L=Z' a+Z' b
 lim:Lim L
 v:val L=val (a.take i)*val b
 z:∀j x,i+Z' b<=j->L[j]?=some x->x=0
theorem adD{x y:Nat}(e:x<4294967296)(i:y<4294967296):u_.wrap ((x:Int)*(y:Int))=((x*y:Nat):Int):=by
 have:x*y<=4294967295*4294967295:=awV Om Om;rw[show(x:Int)*(y:Int)=((x*y:Nat):Int) by simp];exact eF Om
theorem sI{a b:Nat}(h:a+b<=9223372036854775807):i_.wrap ((a:Int)+(b:Int))=((a+b:Nat):Int):=by
 rw[wrap_i64 Om Om];omega
open Go Go.Na
theorem aeH{A P W Z:N_}{i:Nat}(e:Z' P=i)(hi:i<Z' W)(v:Nat):(bJ (A++(P++W.drop i)++Z)).set (Z' A+i) [.int .u32 (v:Int)]=bJ (A++((P++[v])++W.drop (i+1))++Z):=by
 rw[vG];congr 1;rw[List.set_append_left _ _ (by simp;omega),avQ _ _ Om,avQ _ _ Om,avF hi];rw[show A.length+i-Z' A-Z' P=0 by omega,avR];simp
end Go.PM
namespace Go.Na
structure Kn(V W top next Vr head u2 Wr p:Nat):Prop where
 hV:V=top*(4294967296*p)+next*p+Vr
 hW:W=head*(4294967296*p)+u2*p+Wr
 hVr:Vr<p
 hWr:Wr<p
 htop:2147483648<=top
 arY:next<4294967296
 hu2:u2<4294967296
 hlt:W<V*4294967296
section
variable {V W top next Vr head u2 Wr p:Nat}
theorem Kn.low(K:Kn V W top next Vr head u2 Wr p):next*p+Vr<4294967296*p/\u2*p+Wr<4294967296*p:=by
 have e:(next+1)*p<=4294967296*p:=auO _ K.arY;have i:(u2+1)*p<=4294967296*p:=auO _ K.hu2;rw[auM,Nat.one_mul]at e i;have:=K.hVr;have:=K.hWr;omega
theorem Kn.K5(K:Kn V W top next Vr head u2 Wr p):0<V/\4294967296*p<=V/\0<p:=by
 have:=K.hVr;have h:1*(4294967296*p)<=top*(4294967296*p):=auO _ (by have:=K.htop;omega);have:=K.hV;omega
theorem Kn.apB(K:Kn V W top next Vr head u2 Wr p):W/V<4294967296:=by
 rw[axC K.K5.1,avC];exact K.hlt
theorem Kn.g0(K:Kn V W top next Vr head u2 Wr p):W/V<=head/top:=by
 have e:0<top:=by have:=K.htop;omega
 rw[Nat.le_div_iff_mul_le e];have i:W/V*V<=W:=Nat.div_mul_le_self W V;have l:W/V*(top*(4294967296*p))<=W/V*V:=awP _ (by have:=K.hV;omega);have u:=K.low.2;have w:=K.hW;have h5:(W/V*top)*(4294967296*p)<(head+1)*(4294967296*p):=by rw[auP,auM,Nat.one_mul];omega
 have:=Nat.lt_of_mul_lt_mul_right h5;omega
theorem Kn.g1(K:Kn V W top next Vr head u2 Wr p){g r:Nat}(u:g*top+r=head)(hq:W/V<=g)(h:g>=4294967296\/g*next>r*4294967296+u2):1<=g/\W/V<=g-1:=by
 have x:=K.apB;have i:=Nat.div_mul_le_self W V;generalize W/V=Q at *
 rcases h with h|h
 ·omega
 ·have w:Q≠g:=by
   intro e;have y:g*V<=W:=by rw[<-e];exact i
   have A:g*V=g*top*(4294967296*p)+g*next*p+g*Vr:=by rw[K.hV,auJ,auJ,auP,auP]
   have l:(r*4294967296+u2+1)*p<=g*next*p:=auO _ h
   rw[auM,auM,Nat.one_mul,auP r]at l;have B:g*top*(4294967296*p)+r*(4294967296*p)=head*(4294967296*p):=by rw[<-auM,u]
   have:=K.hW;have:=K.hWr;omega
  omega
theorem Kn.g2(K:Kn V W top next Vr head u2 Wr p){g r:Nat}(w:g*top+r=head)(x:g<=4294967296)(h:g*next<=r*4294967296+u2):g<=W/V+1:=by
 rcases avB g with e|e
 ·rw[e];exact asQ _
 have l:g*V=g*top*(4294967296*p)+g*next*p+g*Vr:=by rw[K.hV,auJ,auJ,auP,auP]
 have i:g*next*p<=(r*4294967296+u2)*p:=auO _ h
 rw[auM,auP r]at i;have u:g*top*(4294967296*p)+r*(4294967296*p)=head*(4294967296*p):=by rw[<-auM,w]
 have h5:g*Vr<=4294967296*Vr:=auO _ x;have y:4294967296*(Vr+1)<=4294967296*p:=awP _ K.hVr;have hV:=K.K5;have hW:=K.hW;have h7:(g-1)*V<=W:=by
  have:g*V=(g-1)*V+V:=by obtain⟨k,rfl⟩:∃k,g=k+1:=⟨g-1,by omega⟩;rw[auM,Nat.one_mul];rfl
  omega
 have:=(Nat.le_div_iff_mul_le hV.1).2 h7;generalize W/V=Q at *
 clear l i u h5 h7;omega
theorem Kn.g3(K:Kn V W top next Vr head u2 Wr p){g r:Nat}(w:g*top+r=head)(x:g<=4294967296)(y:4294967296<=r):g<=W/V+1:=by
 have e:=K.low.1;have hV:=K.K5;have i:g*V=g*top*(4294967296*p)+g*(next*p+Vr):=by rw[K.hV,avZ,auJ,auP]
 have l:g*(next*p+Vr)<=4294967296*(4294967296*p):=awV x Om;have u:g*top*(4294967296*p)+r*(4294967296*p)=head*(4294967296*p):=by rw[<-auM,w]
 have h5:4294967296*(4294967296*p)<=r*(4294967296*p):=auO _ y;have hW:=K.hW;have h7:g*V<=W:=Om;have:=(Nat.le_div_iff_mul_le hV.1).2 h7;generalize W/V=Q at *
 clear i l u h5 h7;omega
theorem Kn.g4(K:Kn V W top next Vr head u2 Wr p):head/top<=4294967296+1:=by
 have e:=K.low.1;have hV:=K.K5;have hW:=K.hW;have hlt:=K.hlt;have x:=K.htop;have u:head<(top+1)*4294967296:=by
  have i:V<(top+1)*(4294967296*p):=by rw[K.hV,auM,Nat.one_mul];omega
  have w:V*4294967296<=(top+1)*(4294967296*p)*4294967296:=auO _ (Nat.le_of_lt i);have l:head*(4294967296*p)<(top+1)*4294967296*(4294967296*p):=by
   have:(top+1)*(4294967296*p)*4294967296=(top+1)*4294967296*(4294967296*p):=by rw[auP,avC (4294967296*p) 4294967296,<-auP]
   omega
  exact Nat.lt_of_mul_lt_mul_right l
 have h5:head/top<4294967296+2:=by rw[axC Om];omega
 omega
end
theorem UH:∀(k n:Nat),pW (k+1) n=pW k n++[n/4294967296^k%4294967296]
 |0,n=>by simp[pW]
 |k+1,n=>by show(n%4294967296)::pW (k+1) (n/4294967296)=(n%4294967296)::pW k (n/4294967296)++[n/4294967296^(k+1)%4294967296];rw[UH k (n/4294967296),Nat.div_div_eq_div_mul,awL,avC 4294967296];rfl
theorem SB{xs:N_}(h:Lim xs):∀{k:Nat},k<=Z' xs->val (xs.drop k)=val xs/4294967296^k:=by
 intro k i;have e:val xs=val (xs.take k)+4294967296^k*val (xs.drop k):=by
  conv=>lhs;rw[<-awK k xs,jW,atF,avJ i]
 have l:=oE (h.take k);rw[atF,avJ i]at l;rw[e,Nat.add_mul_div_left _ _ (Nat.pow_pos aR),Nat.div_eq_of_lt l,atA]
theorem Ib{R s i l u X:Nat}(w:s<32)(h:R/4294967296^i=l+4294967296*(u+4294967296*X)):(R/2^s)/4294967296^i%4294967296=(4294967296*u+l)/2^s%4294967296:=by
 rw[Nat.div_div_eq_div_mul,avC (2^s),<-Nat.div_div_eq_div_mul,h];have hp:4294967296*4294967296=2^s*(2^(32-s)*4294967296):=by rw[<-auP,<-Nat.pow_add,show s+(32-s)=32 by omega]
 have e:l+4294967296*(u+4294967296*X)=(4294967296*u+l)+2^s*(2^(32-s)*X*4294967296):=by
  have:4294967296*(4294967296*X)=2^s*(2^(32-s)*X*4294967296):=by rw[<-auP,hp,auP,auP,auP,avC 4294967296 X]
  rw[auJ,this];omega
 rw[e,Nat.add_mul_div_left _ _ (Nat.pow_pos aR),Nat.add_mul_mod_self_right]
end Go.Na
namespace Go.Na
structure GO(U0 V n lu lq:Nat)(k:Nat)(U Q:N_):Prop where
 lu':Z' U=lu
 lq':Z' Q=lq
 limU:Lim U
 limQ:Lim Q
 v:val U+val Q*V=U0
 r:val (U.drop k)<V
 z:∀i x,i<k->Q[i]?=some x->x=0
theorem Vo{M V n L A j:Nat}{U Q:N_}(h:GO M V n L A (j+1) U Q)(hV:V<4294967296^n)(hj:j<A)(hl:L=A+n) :
  val ((U.drop j).take (n+1))<V*4294967296/\GO M V n L A j (U.take j++pW (n+1) (val ((U.drop j).take (n+1))%V)++U.drop (j+(n+1))) (Q.set j (val ((U.drop j).take (n+1))/V)):=by
 have X:=h.lu';have J:=h.lq';have e:0<V:=by have:=h.r;omega
 have u:j<Z' U:=Om;have Y:val (U.drop j)=U[j]+4294967296*val (U.drop (j+1)):=by rw[avF u];rfl
 have R:=h.limU _ (asS u);have hlt:val (U.drop j)<V*4294967296:=by have:=h.r;omega
 have F:((U.drop j).take (n+1)).length=n+1:=by rw[atF,auU];omega
 have e2:val (U.drop j)=val ((U.drop j).take (n+1))+4294967296^(n+1)*val (U.drop (j+(n+1))):=by
  conv=>lhs;rw[<-awK (n+1) (U.drop j),jW,F,List.drop_drop]
 have N:4294967296^(n+1)=4294967296^n*4294967296:=awL _ _;have S:V*4294967296<=4294967296^n*4294967296:=auO _ (Nat.le_of_lt hV);have D:val (U.drop (j+(n+1)))=0:=by
  rcases avB (val (U.drop (j+(n+1))))with h0|h0
  ·exact h0
  ·have:=awP (4294967296^(n+1)) h0;omega
 rw[D,Nat.mul_zero,auI]at e2;generalize hW:val ((U.drop j).take (n+1))=W at *
 have Z:val U=val (U.take j)+4294967296^j*W:=by
  conv=>lhs;rw[<-awK j U,jW,atF,avJ Om,e2]
 have y:W%V<V:=Nat.mod_lt _ e;have E:V*(W/V)+W%V=W:=Nat.div_add_mod _ _;have K:W/V<4294967296:=by rw[axC e,avC];omega
 have hD:val (pW (n+1) (W%V))=W%V:=cj Om;have B:Q[j]=0:=h.z j _ Om (asZ Om);have l:=ul (Om:j<Z' Q) (W/V);rw[B,Nat.mul_zero,auI]at l;have w:(U.take j).length=j:=by rw[atF];omega
 refine⟨by omega,?_,?_,?_,?_,?_,?_,?_⟩
 ·simp only[asX,df,auU,atF];omega
 ·rw[auD];exact J
 ·exact((h.limU.take j).app (dg _ _)).app (h.limU.drop _)
 ·exact h.limQ.set _ K
 ·rw[atV,jW,jW,w,hD,df,D,Nat.mul_zero,auI,l];have:=h.v;have h5:(val Q+4294967296^j*(W/V))*V=val Q*V+4294967296^j*(V*(W/V)):=by rw[auM,auP,avC (W/V) V]
  have h6:4294967296^j*W=4294967296^j*(V*(W/V))+4294967296^j*(W%V):=by rw[<-auJ,E]
  omega
 ·rw[atV,List.drop_append_of_le_length Om,List.drop_of_length_le Om,awO,jW,hD,D,Nat.mul_zero,auI];exact y
 ·intro i x hi O;rw[List.getElem?_set_ne Om]at O;exact h.z i x Om O
end Go.Na
namespace Go.PM
open Go Go.Na
theorem UP(o s:Nat)(rs:P2_)(L:N_):(bJ L).map (λr=>r.map (PV.cO o s rs))=bJ L:=by
 unfold bJ;rw[avT];rfl
open Go Go.Na
theorem apR{x s:Nat}(e:s<=64):shift .shr .u64 (x:Int) (s:Int)=some (.int .u64 ((x/2^s:Nat):Int)):=by
 unfold shift;rw[aC Om];simp only;have:min (Int.toNat (s:Int)) IntKind.u64.bits=s:=by rw[show IntKind.u64.bits=64 from rfl];omega
 rw[this,Int.fdiv_eq_ediv_of_nonneg _ (by exact_mod_cast asQ _)]
 norm_cast
theorem wq{xs ys:N_}(h:bJ xs=bJ ys):xs=ys:=by
 have:=congrArg sT (show bB xs=bB ys by show PV.sl 1 (bJ xs)=PV.sl 1 (bJ ys);rw[h])
 rwa[mA,mA]at this
def dh(A B:Nat):PV:=.tup [bB (aT (A/B)),bB (aT (A%B))]
theorem Zt{n i x:Nat}(e:(asT n 0)[i]?=some x):x=0:=by
 have:=auZ e;rw[List.mem_replicate]at this;exact this.2
def Ai(A B:Nat):PV:=if nO A B then .tup [bB [],bB [],.int .i64 2]else if B=0 then .tup [bB [],bB [],.int .i64 3]else .tup [bB (aT (A/B)),bB (aT (A%B)),.int .i64 0]
theorem VI{res:List dX}{F:PF}{H:PH}{e:Int}(h:dX.evs F H res=some [.aG,.aG,.j e]):aV res (cN (.tup [bB [],bB [],.j e])) .ret F H:=by
 refine bM (.inr rfl) .nil h a_ ⟨?_,rfl⟩;refine .tup rfl λj p q hp hq=>?_
 match j with
 |0=>simp at hp hq;subst hp;subst hq;exact .nil 1
 |1=>simp at hp hq;subst hp;subst hq;exact .nil 1
 |2=>simp at hp hq;subst hp;subst hq;exact .refl _
 |j+3=>simp at hp

theorem CoL.nil:CoL [] []:=.refl _
theorem CoL.cons{p q:PV}{ps l:V_}(h:Co p q)(i:CoL ps l):CoL (p::ps) (q::l):=
 ⟨by simp[i.len],λj a b e hb=>by
  cases j with
  |zero=>simp at e hb;subst e;subst hb;exact h
  |succ j=>exact i.at_ j a b (by simpa using e) (by simpa using hb)⟩
theorem CoL.agg{ps e:V_}(h:CoL ps e):Co (.agg ps) (.agg e):=.agg h.len h.at_
theorem CoL.tup{ps e:V_}(h:CoL ps e):Co (.tup ps) (.tup e):=.tup h.len h.at_
theorem vY{a b:Nat}(e:nl a<=512)(hb:nl b<=512):nO a b=false:=by
 simp[nO];omega
theorem AC{a b m n:Nat}(e:nl a<=m)(hb:nl b<=n):nl (a*b)<=m+n:=by
 rw[oN]at e hb ⊢;rw[Nat.pow_add];by_cases h:b=0
 ·subst h;exact Nat.mul_pos (Nat.pow_pos aR) (Nat.pow_pos aR)
 ·calc a*b<4294967296^m*b:=Nat.mul_lt_mul_of_pos_right e (awA h)
   _<=4294967296^m*4294967296^n:=awP _ (Nat.le_of_lt hb)
theorem qa{n:Nat}(h:nl n<=512):szV n=.tup [bB (aT n),.j 0]:=by
 have:¬nl n>512:=Om;simp[szV,szL,szE,this]
abbrev pL(neg:Bool)(a b:N_):V_:=[.bool neg,bB a,bB b]
def fZ(a b:Nat):Bool:=decide (0<fM b)&&decide (fM b<=4096)&&decide (fM a<=4096)
abbrev Me(e:Int):PV:=.tup [.agg (pL false [] []),.int .i64 e]
abbrev akZ(neg:Bool)(a b:Nat):PV:=.tup [.agg (pL neg (aT a) (aT b)),.int .i64 0]
theorem wE{res:List dX}{F:PF}{H:PH}{e:Int}(h:dX.evs F H res=some [.agg [.bool false,.aG,.aG],.j e]):aV res (cN (Me e)) .ret F H:=
 bM (.inr rfl) .nil h a_ ⟨CoL.tup (.cons (CoL.agg (.cons (.refl _) (.cons (.nil 1) (.cons (.nil 1) .nil)))) (.cons (.refl _) .nil)),rfl⟩
theorem R3{a n:Nat}(g:Nat)(h:nl a<=n):nl (a/g)<=n:=atT (qE (avI _ _)) h
theorem yD{n k:Nat}(h:n<4294967296^k):nl n<=k:=(oN _ _).2 h
theorem mV{a b:Nat}:fZ a b=true↔b≠0/\nl b<=128/\nl a<=128:=by
 have e:=qC b 128;have i:=qC a 128;have l:=@uV b;simp only[fZ,asV,dT_];omega
def DU(e:Bool)(a1 b1:Nat)(i:Bool)(a2 b2:Nat):Int:=
 match e&&decide (a1≠0),i&&decide (a2≠0)with
 |true,true=>- jA (a1*b2) (a2*b1)
 |true,false=>-1
 |false,true=>1
 |false,false=>jA (a1*b2) (a2*b1)
abbrev FV:=Bool × Nat × Nat
abbrev FR:=Except Int FV
def rD(neg:Bool)(a b:Nat):FR:=
 if fM (a/asR a b)>4096\/fM (b/asR a b)>4096 then .error 2 else .ok (neg&&decide (a/asR a b≠0),a/asR a b,b/asR a b)
def frV:FR->PV
 | .ok (n,a,b)=>akZ n a b
 | .error e=>Me e
def oH:FV->FV->FR
 |(e,a1,b1),(i,a2,b2)=>if fZ a1 b1&&fZ a2 b2 then
   (if e=i then rD e (a1*b2+a2*b1) (b1*b2)else if a2*b1<=a1*b2 then rD e (a1*b2-a2*b1) (b1*b2)else rD i (a2*b1-a1*b2) (b1*b2))
  else .error 1
theorem R2{a b m:Nat}(e:nl a<=m)(hb:nl b<=m):nl (a+b)<=m+1:=by
 rw[oN]at e hb ⊢;rw[awL];omega
theorem I6(a b:Nat):(jA a b>=0)↔b<=a:=by
 unfold jA;split;constructor;intro h;exact absurd h aR;intro h;omega;split;constructor;intro h;omega;intro h;decide;constructor;intro h;omega;intro h;decide
theorem s8(r:FR):∃i x y e,frV r=.tup [.agg (pL i x y),.j e]:=by
 rcases r with e|⟨n,a,b⟩
 exact⟨_,_,_,_,rfl⟩;exact⟨_,_,_,_,rfl⟩
structure RF where
 neg:Bool
 num:N_
 den:N_
abbrev RF.cells(x:RF):V_:=pL x.neg x.num x.den
def RF.Ok(x:RF):Prop:=Lim x.num/\Lim x.den/\Z' x.num<=35184372087808/\Z' x.den<=35184372087808
def RF.v(x:RF):FV:=(x.neg,val x.num,val x.den)
abbrev frs(l:List RF):PV:=.sl 3 (l.map RF.cells)
def FV.rf:FV->RF
 |(n,a,b)=>⟨n,aT a,aT b⟩
def FV.Small:FV->Prop
 |(_,a,b)=>nl a<=900000/\nl b<=900000
theorem FV.apD(x:FV):x.rf.v=x:=by
 obtain⟨n,a,b⟩:=x;show(n,val (aT a),val (aT b))=_;rw[cC,cC]
def AR(l:List FV):FR:=l.foldlM oH (false,0,1)
theorem PG{neg:Bool}{a b:Nat}{r:FV}(h:rD neg a b=.ok r):r.Small/\r.rf.Ok:=by
 unfold rD at h;split at h;cases h;rename_i l;have e:=(qC (a/asR a b) 128).1 Om;have i:=(qC (b/asR a b) 128).1 Om;injection h with h
 subst h;refine⟨⟨by omega,by omega⟩,cE _,cE _,?_,?_⟩;show(aT _).length<=_;rw[cH];omega;show(aT _).length<=_;rw[cH];omega
theorem Ix{x y r:FV}(h:oH x y=.ok r):r.rf.Ok:=by
 obtain⟨e,a1,b1⟩:=x;obtain⟨i,a2,b2⟩:=y;simp only[oH]at h;split at h;split at h;exact(PG h).2;split at h;exact(PG h).2;exact(PG h).2;cases h
theorem G7{α β:Type}{f:β->α->Except Int β}(l:List α)(b:β){k:Nat}(h:k<Z' l):(l.take (k+1)).foldlM f b=((l.take k).foldlM f b).bind λx=>f x l[k]:=by
 rw[atW h,List.foldlM_append];cases(l.take k).foldlM f b with
 |error e=>rfl
 |ok x =>show([l[k]]:List α).foldlM f x=f x l[k];rw[List.foldlM_cons];cases f x l[k]<;>rfl
theorem Md{α β:Type}{f:β->α->Except Int β}(l:List α)(b:β){k:Nat}{e:Int}(h:(l.take k).foldlM f b=.error e):l.foldlM f b=.error e:=by
 conv=>lhs;rw[<-awK k l,List.foldlM_append,h]
 rfl
def fsN:List (Nat × Nat):=[(0,1),(1,1),(1,2),(1,3),(1,4),(1,5),(1,6),(1,7),(1,8),(2,1),(2,3),(2,5),(2,7),(3,1),(3,2),(3,4),(3,5),(3,7),(3,8),(4,1),(4,3),(4,5),(4,7),(5,1),(5,2),(5,3),(5,4),(5,6),(5,7),(5,8),(6,1),(6,5),(6,7),(7,8)]
def tgN:List (Nat × Nat):=[(0,1),(1,8),(1,4),(3,8),(1,2),(5,8),(3,4),(7,8),(1,1)]
def stN:List (List (Nat × Nat)):=[[(1,1)],[(0,1),(1,1)],[(1,8),(7,8)],[(1,4),(3,4)],[(3,8),(5,8)],[(1,2),(1,2)],[(5,8),(3,8)],[(3,4),(1,4)],[(7,8),(1,8)],[(1,1),(0,1)]]
def rfQ(p:Nat × Nat):RF:=⟨false,match p.1 with|0=>[]|n+1=>[n+1],[p.2]⟩
def FOk(x:RF):Prop:=∃p∈fsN,x=rfQ p
def TOk(x:RF):Prop:=∃p∈tgN,x=rfQ p
def KL(l:List RF):Prop:=∃p∈stN,l=p.map rfQ
instance rfDec:DecidableEq RF:=λx y=>decidable_of_iff (x.neg=y.neg/\x.num=y.num/\x.den=y.den) ⟨λh=>by cases x;cases y;simp_all,λh=>by subst h;exact⟨rfl,rfl,rfl⟩⟩
instance fokDec(x:RF):Decidable (FOk x):=inferInstanceAs (Decidable (∃p∈fsN,x=rfQ p))
instance tokDec(x:RF):Decidable (TOk x):=inferInstanceAs (Decidable (∃p∈tgN,x=rfQ p))
instance stDec(l:List RF):Decidable (KL l):=inferInstanceAs (Decidable (∃p∈stN,l=p.map rfQ))
theorem V3:∀p∈fsN,p.1<9/\p.2<9:=by decide
theorem FOk.ok{x:RF}(h:FOk x):x.Ok:=by
 obtain⟨⟨a,b⟩,hp,rfl⟩:=h;obtain⟨i,l⟩:=V3 _ hp;simp only at i l;refine⟨λy e=>?_,λy e=>?_,?_,show 1<=35184372087808 by decide⟩
 ·cases a with
  |zero=>cases e
  |succ n=>rw[auB.1 e];omega
 rw[auB.1 e];omega
 ·cases a with
  |zero=>exact asQ _
  |succ n=>exact(show 1<=35184372087808 by decide)
theorem alO:∀p∈tgN,p∈fsN:=by decide
theorem TOk.fok{x:RF}(h:TOk x):FOk x:=by
 obtain⟨p,hp,e⟩:=h;exact⟨p,alO p hp,e⟩
theorem TOk.ok{x:RF}(h:TOk x):x.Ok:=h.fok.ok
theorem aaO:∀p∈stN,Z' p<=2/\∀x∈p,x∈fsN:=by decide
theorem KL.fits{l:List RF}(h:KL l):Z' l<=9223372036854775807:=by
 obtain⟨p,hp,rfl⟩:=h;have:=(aaO p hp).1;rw[asO];omega
theorem KL.all{l:List RF}(h:KL l):∀x∈l,FOk x:=λx e=>by
 obtain⟨p,hp,rfl⟩:=h;obtain⟨y,i,rfl⟩:=atM.1 e;exact⟨y,(aaO p hp).2 y i,rfl⟩
theorem agP:∀a:Fin 9,∀b:Fin 8,(a.val<=6\/b.val=7)->(a.val/asR a.val (b.val+1),(b.val+1)/asR a.val (b.val+1))∈fsN:=by decide +kernel
theorem Fa{a b:Nat}(e:a<9)(hb:b<9)(h:0<b):rfQ (a,b)=⟨false,aT a,aT b⟩:=by
 unfold rfQ;rw[uC (Om:b≠0) Om];cases a with
 |zero=>rw[jT]
 |succ n=>rw[uC (Nat.succ_ne_zero n) Om]
theorem aiG:∀a:Fin 9,(a.val/asR a.val 8,8/asR a.val 8)∈tgN:=by decide +kernel
theorem fok{a b:Nat}(u:a<=8)(w:b<=8)(e:0<b)(x:a<=6\/b=8):FOk ⟨false,aT (a/asR a b),aT (b/asR a b)⟩:=by
 obtain⟨c,rfl⟩:∃c,b=c+1:=⟨b-1,by omega⟩;have k:=agP ⟨a,by omega⟩ ⟨c,by omega⟩ sO_;simp only at k;have l:=avI a (asR a (c+1));have e2:=avI (c+1) (asR a (c+1));have i:0<(c+1)/asR a (c+1):=Nat.div_pos (Nat.le_of_dvd e (Nat.gcd_dvd_right a _)) (Nat.gcd_pos_of_pos_right a e);exact⟨_,k,(Fa Om Om i).symm⟩
theorem tok{a:Nat}(l:a<=8):TOk ⟨false,aT (a/asR a 8),aT (8/asR a 8)⟩:=by
 have k:=aiG ⟨a,by omega⟩;simp only at k;have i:=avI a (asR a 8);have e2:=avI 8 (asR a 8);have e:0<8/asR a 8:=Nat.div_pos (Nat.le_of_dvd aR (Nat.gcd_dvd_right a _)) (Nat.gcd_pos_of_pos_right a aR);exact⟨_,k,(Fa Om Om e).symm⟩
def MT:=bT [] Proofs.Tryz.f188
def rX:=cG MT
def UU:=bT [] Proofs.Tryz.f229
def CD:=cG UU
def UY:=bT [] Proofs.Tryz.f189
def aj:=cG UY
def ni:=bT [] Proofs.Tryz.f139
def EQ:=cG ni
def gin:=bT [] Proofs.Tryz.f88
def OM:=cG gin
def zy:=bT [] Proofs.Tryz.f134
def me:=cG zy
def zz:=bT [] Proofs.Tryz.f184
def mf:=cG zz
def zx:=bT [] Proofs.Tryz.f182
def mb:=cG zx
def mg:=bT [] Proofs.Tryz.f183
def ZZ:=cG mg
def oK:=bT [1] Proofs.Tryz.f136
def dw:=aA oK 8
def JC:aJ:=(iE (aA oK 9) 45 4 (aA oK 12) (sq (aA oK 10) (.region (aA oK 11))))
def UR:=aA oK 13
def JD:aJ:=(iE (aA oK 5) 21 2 UR (sq (aA oK 6) (sq (aA oK 7) (cS dw 4 JC))))
def mh:aJ:=(sq (aA oK 0) (sq (aA oK 1) (.seq (cS (aA oK 2) 0 (dH (aA oK 3) 15 0 (aA oK 14) (cS (aA oK 4) 2 JD))) (sq (aA oK 15) .ret))))
def vC:=bT [1] Proofs.Tryz.f90
def dx:=aA vC 10
def dy:=aA vC 11
def dz:=aA vC 12
def d6:=aA vC 13
def vh:aJ:=(sq (aA vC 0) (sq (aA vC 1) (kK (aA vC 2) 43 (aA vC 3) (.seq (cS (aA vC 4) 0 (iE (aA vC 5) 48 0 (aA vC 9) (sq (aA vC 6) (sq (aA vC 7) (.cond (Tm 67) (sq (aA vC 8) .ret) .skip))))) (sq dx (sq dy (sq dz (sq d6 .ret))))))))
def Ab:=bT [] Proofs.Tryz.f92
def mm:=cG Ab
def Cy:=bT [1] Proofs.Tryz.f89
def UQ:=cG Cy
def z8:=bT [] Proofs.Tryz.f185
def mi:=cG z8
def Mj:=bT [7] Proofs.Tryz.f137
def vi:=cG Mj
def mj:=bT [1] Proofs.Tryz.f186
def aa:=cG mj
def Aa:=bT [6,7] Proofs.Tryz.f138
def ml:=cG Aa
def Mk:=bT [2] Proofs.Tryz.f91
def vj:=cG Mk
def gK:=bT [1,76,94,128,141,183,204] Proofs.Tryz.f55
def ta:=aA gK 5
def OP:aJ:=(iE (aA gK 6) 70 0 (aA gK 10) (sq (aA gK 7) (sq (aA gK 8) (.region (aA gK 9)))))
def d9:=aA gK 11
def OQ:aJ:=(iE (aA gK 12) 88 2 (aA gK 16) (sq (aA gK 13) (sq (aA gK 14) (.region (aA gK 15)))))
def ef:=aA gK 17
def OR:aJ:=(iE (aA gK 18) 122 4 (aA gK 21) (sq (aA gK 19) (.region (aA gK 20))))
def el:=aA gK 22
def OS:aJ:=(iE (aA gK 23) 135 6 (aA gK 27) (sq (aA gK 24) (sq (aA gK 25) (.region (aA gK 26)))))
def ep:=aA gK 28
def OT:aJ:=(iE (aA gK 29) 177 8 (aA gK 33) (sq (aA gK 30) (sq (aA gK 31) (.region (aA gK 32)))))
def fa:=aA gK 34
def OU:aJ:=(iE (aA gK 35) 198 10 (aA gK 39) (sq (aA gK 36) (sq (aA gK 37) (.region (aA gK 38)))))
def HM:=aA gK 40
def sW:=aA gK 41
def OV:=aA gK 42
def vk:aJ:=(sq (aA gK 0) (kK (aA gK 1) 65 (aA gK 2) (sq (aA gK 3) (sq (aA gK 4) (.seq (cS ta 0 OP) (.seq (cS d9 2 OQ) (.seq (cS ef 4 OR) (.seq (cS el 6 OS) (.seq (cS ep 8 OT) (.seq (cS fa 10 OU) (kK HM 243 sW (sq OV .ret))))))))))))
def gV(n:Nat):Bool:=decide (97<=n)&&decide (n<=122)||decide (65<=n)&&decide (n<=90)
def qL(n:Nat):Bool:=decide (48<=n)&&decide (n<=57)
def iS(n:Nat):Bool:=gV n||qL n||decide (n=45)||decide (n=46)
variable{C:Ctx}
theorem M5(n:Nat):rX.wp C (aV MT.res (aK (.bool (gV n)))) (g_ [.int .u8 n]) .nil:=by
 have fin:∀(F:PF)(b:Bool),F 2=some (.bool b)->b=gV n->aV MT.res (aK (.bool (gV n))) .ret F .nil:=by intro F b h e;subst e;refine cZ (.inr rfl) (vs:=[.bool (gV n)]) (by simp only[go_sem,MT,h]) rfl
 unfold gV at *
 by_cases a:97<=n;have i:(n:Int)>=97:=Om;by_cases b:n<=122;have u:(n:Int)<=122:=Om;simp only[go_sem,rX,i,u];exact fin _ _ rfl (by simp[a,b]);have u:¬(n:Int)<=122:=Om;by_cases c:65<=n;have l:(n:Int)>=65:=Om;have d:¬(n:Int)<=90:=Om;simp only[go_sem,rX,i,u,l,d];exact fin _ _ rfl (by simp[a,b,c];omega);omega;have i:¬(n:Int)>=97:=Om;by_cases c:65<=n;have l:(n:Int)>=65:=Om;by_cases d:n<=90;have w:(n:Int)<=90:=Om;simp only[go_sem,rX,i,l,w];exact fin _ _ rfl (by simp[a,c,d]);have w:¬(n:Int)<=90:=Om;simp only[go_sem,rX,i,l,w];exact fin _ _ rfl (by simp[a,c,d]);have l:¬(n:Int)>=65:=Om;simp only[go_sem,rX,i,l];exact fin _ _ rfl (by simp[a,c])
theorem Ri(n:Nat):CD.wp C (aV UU.res (aK (.bool (qL n)))) (g_ [.int .u8 n]) .nil:=by
 have fin:∀(F:PF)(b:Bool),F 2=some (.bool b)->b=qL n->aV UU.res (aK (.bool (qL n))) .ret F .nil:=by intro F b h e;subst e;refine cZ (.inr rfl) (vs:=[.bool (qL n)]) (by simp only[go_sem,UU,h]) rfl
 unfold qL at *
 by_cases a:48<=n;have i:(n:Int)>=48:=Om;by_cases b:n<=57;have l:(n:Int)<=57:=Om;simp only[go_sem,CD,i,l];exact fin _ _ rfl (by simp[a,b]);have l:¬(n:Int)<=57:=Om;simp only[go_sem,CD,i,l];exact fin _ _ rfl (by simp[a,b]);have i:¬(n:Int)>=48:=Om;simp only[go_sem,CD,i];exact fin _ _ rfl (by simp[a])
theorem Rq(u:∀n:Nat,aH C 126 [.int .u8 n] .nil (aK (.bool (gV n))))(w:∀n:Nat,aH C 124 [.int .u8 n] .nil (aK (.bool (qL n))))(n:Nat) :
  aj.wp C (aV UY.res (aK (.bool (iS n)))) (g_ [.int .u8 n]) .nil:=by
 have fin:∀(F:PF)(b:Bool),F 2=some (.bool b)->b=iS n->aV UY.res (aK (.bool (iS n))) .ret F .nil:=by intro F b h e;subst e;refine cZ (.inr rfl) (vs:=[.bool (iS n)]) (by simp only[go_sem,UY,h]) rfl
 simp only[go_sem,aj];refine aD (u n) rfl ?_;cases l:gV n with
 |true =>simp only[go_sem];exact fin _ _ rfl (by simp[iS,l])
 |false=>
  simp only[go_sem];refine aD (w n) rfl ?_;cases i:qL n with
  |true =>simp only[go_sem];exact fin _ _ rfl (by simp[iS,i])
  |false =>by_cases c:n=45;simp only[go_sem,bR (Om:(n:Int)=45)];exact fin _ _ rfl (by simp[iS,c]);by_cases d:n=46;simp only[go_sem,bH (Om:(n:Int)≠45),bR (Om:(n:Int)=46)];exact fin _ _ rfl (by simp[iS,d]);simp only[go_sem,bH (Om:(n:Int)≠45),bH (Om:(n:Int)≠46)];exact fin _ _ rfl (by simp[iS,c,d,l,i])
def isName(s:List UInt8):Bool:=match s with
 |[]=>false
 |c::_=>decide (Z' s<=16)&&gV c.toNat&&s.all λc=>iS c.toNat
theorem uS{α:Type}{p:α->Bool}{l:List α}{k:Nat}(e:k<Z' l)(h:(l.take k).all p=true)(hp:p l[k]=true):(l.take (k+1)).all p=true:=by
 rw[atW e,awG,h];simp[hp]
theorem uT{α:Type}{p:α->Bool}{l:List α}{k:Nat}(e:k<Z' l)(hp:p l[k]=false):l.all p=false:=by
 rw[List.all_eq_false];exact⟨l[k],asS e,by simp[hp]⟩
def Dl(s:List UInt8)(k:Nat):PF:=((n_.set 0 (.str s)).set 3 (.int .i64 k))
theorem W0(B:∀n:Nat,aH C 126 [.int .u8 n] .nil (aK (.bool (gV n))))(D:∀n:Nat,aH C 125 [.int .u8 n] .nil (aK (.bool (iS n))))(s:List UInt8) :
  EQ.wp C (aV ni.res (aK (.bool (isName s)))) (g_ [.str s]) .nil:=by
 have fin:∀(F:PF)(b:Bool),F 2=some (.bool b)->b=isName s->aV ni.res (aK (.bool (isName s))) .ret F .nil:=by intro F b h e;subst e;refine cZ (.inr rfl) (vs:=[.bool (isName s)]) (by simp only[go_sem,ni,h]) rfl
 cases s with
 |nil =>simp only[go_sem,EQ];exact fin _ _ rfl rfl
 |cons c t=>
  have J:(c::t)[0]?=some c:=rfl;have w:(c::t==[])=false:=rfl;have u:isName (c::t)=(decide ((c::t).length<=16)&&gV c.toNat&&(c::t).all λc=>iS c.toNat):=rfl;generalize c::t=s at *
  by_cases A:Z' s<=16
  ·have l:¬(Z' s:Int)>16:=Om;rw[aW A,atJ]at u;simp only[go_sem,EQ,w,l,J,atO];refine aD (B c.toNat) rfl ?_;cases y:gV c.toNat with
   |false =>simp only[go_sem,atH];exact fin _ _ rfl (by rw[u,y];rfl)
   |true=>
    rw[y,atJ]at u;simp only[go_sem,asY];refine wp_loop (α:=Nat) (λk=>Dl s k) (λ_=>.nil) (λk=>k<=Z' s/\(s.take k).all (λc=>iS c.toNat)=true) (λk=>Z' s-k) 0 ⟨asQ _,rfl⟩ ?_ a_ ?_;unfold Dl;exact Lq;rintro k ⟨K,x⟩;simp only[go_sem,Dl];by_cases hlt:k<Z' s
    ·have i:(k:Int)<(Z' s:Nat):=Om;have E:s[k]?=some s[k]:=asZ hlt;simp only[go_sem,i,E,atO];refine aD (D (s[k]).toNat) rfl ?_;cases hi:iS (s[k]).toNat with
     |false =>simp only[go_sem,atH];refine fin _ false rfl ?_;rw[u,uT hlt hi]
     |true =>simp only[go_sem,asY,wZz k];refine aE (k+1) ⟨hlt,atI.1 (uS hlt x hi)⟩ Om ?_ a_;exact Lq
    have i:¬(k:Int)<(Z' s:Nat):=Om;simp only[go_sem,i];have:k=Z' s:=Om;subst this;rw[atP (asU _)]at x;exact fin _ true rfl (by rw[u,x])
  have l:(Z' s:Int)>16:=Om;simp only[go_sem,EQ,w,l];exact fin _ _ rfl (by rw[u,bD A];rfl)
abbrev eQ(x:Int):Prop:=-9223372036854775808<=x/\x<=9223372036854775807
structure cV where
 name:List UInt8
 start:List RF
 arG:List (List RF)
 exit:List RF
structure dN where
 name:List UInt8
 arS:Int
 port:Int
 law:Int
structure cU where
 name:List UInt8
 level:Int
 parent:Int
 arW:Int
 arR:RF
structure eN where
 name:List UInt8
 model:Int
 machine:Int
structure bX where
 name:List UInt8
 k:Int
 m:Int
 asA:Int
 s0:Int
 s1:Int
 s2:Int
 s3:Int
 s4:Int
 arC:I_
 repair:List RF
 target:RF
 arM:RF
structure gD where
 name:List UInt8
 arO:Int
structure aB where
 asG:Int
 arJ:List cV
 arC:List dN
 arE:List cU
 arB:List eN
 arF:List bX
 arD:List gD
abbrev I(x:Int):PV:=.int .i64 x
abbrev aaM(l:List (List RF)):PV:=.sl 1 (l.map λr=>[frs r])
abbrev cV.cells(x:cV):V_:=[.str x.name,frs x.start,aaM x.arG,frs x.exit]
abbrev dN.cells(x:dN):V_:=[.str x.name,.int .i64 x.arS,.int .i64 x.port,.int .i64 x.law]
abbrev cU.cells(x:cU):V_:=[.str x.name,.int .i64 x.level,.int .i64 x.parent,.int .i64 x.arW,.bool x.arR.neg,bB x.arR.num,bB x.arR.den]
abbrev eN.cells(x:eN):V_:=[.str x.name,.int .i64 x.model,.int .i64 x.machine]
abbrev bX.cells(x:bX):V_:=[.str x.name,.int .i64 x.k,.int .i64 x.m,.int .i64 x.asA,.int .i64 x.s0,.int .i64 x.s1,.int .i64 x.s2,.int .i64 x.s3,.int .i64 x.s4,ints x.arC,frs x.repair,
 .bool x.target.neg,bB x.target.num,bB x.target.den,.bool x.arM.neg,bB x.arM.num,bB x.arM.den]
abbrev gD.cells(x:gD):V_:=[.str x.name,.int .i64 x.arO]
abbrev aB.cells(f:aB):V_:=[.int .i64 f.asG,.sl 4 (f.arJ.map cV.cells),.sl 4 (f.arC.map dN.cells),.sl 7 (f.arE.map cU.cells),.sl 3 (f.arB.map eN.cells),.sl 17 (f.arF.map bX.cells),.sl 2 (f.arD.map gD.cells)]
def bX.spread(p:bX)(level:Nat):Int:=match level with
 |0=>p.s0
 |1=>p.s1
 |2=>p.s2
 |3=>p.s3
 |_=>p.s4
abbrev Fits{α:Type}(l:List α):Prop:=Z' l<=9223372036854775807
structure pC(l:List RF):Prop where
 fits:Fits l
 all:∀x∈l,FOk x
structure cV.Ok(x:cV):Prop where
 start:KL x.start
 exit:pC x.exit
 arG:Fits x.arG
 row:∀r∈x.arG,pC r
structure bX.Ok(x:bX):Prop where
 k:eQ x.k
 m:eQ x.m
 asA:eQ x.asA
 arC:Fits x.arC
 each:∀m∈x.arC,eQ m
 repair:pC x.repair
 target:TOk x.target
 arM:FOk x.arM
structure aB.Ok(f:aB):Prop where
 arJ:Fits f.arJ
 arC:Fits f.arC
 arE:Fits f.arE
 arB:Fits f.arB
 arF:Fits f.arF
 arD:Fits f.arD
 law:∀x∈f.arJ,x.Ok
 dom:∀x∈f.arE,FOk x.arR/\eQ x.level/\eQ x.parent
 drive:∀x∈f.arB,eQ x.model/\eQ x.machine
 arO:∀x∈f.arF,x.Ok
 volume:∀x∈f.arD,eQ x.arO
def DY(x:RF):FR:=if fZ (val x.num) (val x.den)then rD x.neg (val x.num) (val x.den)else .error 1
def dS(x:RF):Bool:=match DY x with
 | .ok (n,a,b)=>!n&&(decide (fM a<=32)&&decide (fM b<=32))
 | .error _=>false
def bY(x:RF):Bool:=decide (val x.num≠0)
def HV(x:RF):Bool:=fZ (val x.num) (val x.den)&&decide (DU x.neg (val x.num) (val x.den) false 1 1<=0)
def within(n lo hi:Int):Bool:=decide (lo<=n)&&decide (n<=hi)
def dB(R:List Bool)(i:Nat)(row:List RF):Nat->List Bool
 |0=>R
 |k+1=>let e:=dB R i row k
  e.set i (e.getD i false||(row.map bY).getD k false&&e.getD k false)
def nS(l:cV)(R:List Bool)(i:Nat):List Bool:=
 dB (R.set i (R.getD i false||(l.exit.map bY).getD i false)) i (l.arG.getD i []) (l.arG.getD i []).length
def dW(l:cV)(R:List Bool):Nat->List Bool
 |0=>R
 |i+1=>nS l (dW l R i) i
def eA(l:cV):Nat->List Bool
 |0=>asT l.exit.length false
 |r+1=>dW l (eA l r) l.exit.length
def wD(l:cV):Bool:=(eA l (Z' l.exit+1)).all id
def nA(l:cV):Bool:=
 within l.start.length 1 4&&decide (Z' l.exit=Z' l.start)&&decide (Z' l.arG=Z' l.start)&&l.start.all dS&&l.exit.all dS
 && (asP l.arG.length).all (λi=>decide ((l.arG.getD i []).length=Z' l.start)&&(l.arG.getD i []).all dS&&!((l.arG.getD i []).map bY).getD i false)
 && (match AR (l.start.map RF.v)with
  | .ok (n,a,b)=>decide (DU n a b false 1 1=0)
  | .error _=>false)&&wD l
def distinct(l:List (List UInt8)):Bool:=(asP l.length).all λi=>isName (l.getD i [])&&!(l.take i).contains (l.getD i [])
def OB(f:aB)(i:Nat)(d:cU):Bool:=
 within d.parent 0 i&&decide ((f.arE.map cU.level).getD d.parent.toNat 0=i_.wrap (d.level-1))&&within d.level 1 4&&within d.arW 1 64&&dS d.arR
def IZ(f:aB)(r:cU)(t:List cU):Bool:=
 decide (r.name=[])&&decide (r.level=0)&&decide (r.parent=-1)&&decide (r.arW=0)&&dS r.arR&&!bY r.arR
  && (asP t.length).all λi=>match t[i]? with
   |some d=>OB f i d
   |none=>false
def sU(f:aB):Bool:=match f.arE with
 |[]=>false
 |r::t=>IZ f r t
def QE(p:bX):Bool:=
 within p.k 1 6&&within p.m 0 4&&decide (p.k+p.m<=8)&&within p.asA p.k (p.k+p.m)&&decide (p.s0=0)&&([p.s0,p.s1,p.s2,p.s3,p.s4].all λn=>within n 0 8)
def JM(p:bX):Bool:=
 decide ((Z' p.repair:Int)=max p.m 1)&&(p.repair.all λx=>dS x&&bY x)&&dS p.target&&HV p.target&&dS p.arM
def lN(arC:Nat)(p:bX):Bool:=
 QE p&&decide (Z' p.arC≠0)&&JM p&&(asP p.arC.length).all λj=>within (p.arC.getD j 0) 0 ((arC:Int)-1)&&!(p.arC.take j).contains (p.arC.getD j 0)
def nB(f:aB)(m:dN):Bool:=within m.arS 1 16&&within m.port 1 64&&within m.law 0 ((Z' f.arJ:Int)-1)
def kR(f:aB)(d:eN):Bool:=within d.model 0 ((Z' f.arC:Int)-1)&&within d.machine 0 ((Z' f.arE:Int)-1)&&decide ((f.arE.map cU.level).getD d.machine.toNat 0=4)
def tJ(f:aB)(v:gD):Bool:=within v.arO 0 ((Z' f.arF:Int)-1)
def sE(f:aB):Bool:=within f.asG 1 4&&decide (Z' f.arJ<=4)&&decide (Z' f.arC<=4)&&decide (Z' f.arE<=40)&&decide (Z' f.arB<=24)&&decide (Z' f.arF<=4)&&decide (Z' f.arD<=12)
def cI(f:aB):Bool:=
 sE f&&sU f&&(f.arJ.all nA&&f.arC.all (nB f)&&f.arB.all (kR f)&&f.arF.all (lN f.arC.length)&&f.arD.all (tJ f))
 && (distinct (f.arJ.map cV.name)&&distinct (f.arC.map dN.name)&&distinct ((f.arE.drop 1).map cU.name++f.arB.map eN.name)&&distinct (f.arF.map bX.name)&&distinct (f.arD.map gD.name))
theorem bS{t:Nat}{b i:Bool}{F:PF}{H:PH}(h:F t=some (.bool b))(e:b=i):aV [.tmp t] (cN (.bool i)) .ret F H:=by
 subst e;exact bM (.inr rfl) .nil (vs:=[.bool b]) (by rw[nT,sB,h,uE]) a_ ⟨.refl _,rfl⟩
theorem agU(n lo hi:Int):OM.wp C (aV gin.res (cN (.bool (within n lo hi)))) (g_ [.j n,.j lo,.j hi]) .nil:=by
 by_cases a:lo<=n;by_cases b:n<=hi;simp only[go_sem,OM,gin,show n>=lo from a,b];exact bS Ev (by simp[within,a,b]);simp only[go_sem,OM,gin,show n>=lo from a,b];exact bS Ev (by simp[within,a,b]);have e:¬n>=lo:=a;simp only[go_sem,OM,gin,e];exact bS Ev (by simp[within,a])
theorem PE{neg:Bool}{a b:Nat}{e:Int}(h:rD neg a b=.error e):e=2:=by
 unfold rD at h;split at h;injection h with h;exact h.symm
 cases h
theorem X2{x:RF}{e:Int}(h:DY x=.error e):e≠0:=by
 unfold DY at h;split at h;rw[PE h];decide;injection h with h;subst h;decide
theorem V5(p:RF->Bool)(fn:Nat)(l:List RF)(w:Fits l)(h:∀x∈l,aH C fn [.agg x.cells] .nil (aK (.bool (p x)))) :
  me.wp C (aV zy.res (cN (.bool (l.all p)))) (g_ [frs l,.fn fn []]) .nil:=by
 simp only[go_sem,me,zy];refine wp_loop (α:=Nat) (λk=>((((n_.set 1 (.fn fn [])).set 7 (frs l)).set 8 (.j (Z' l:Nat))).set 9 (.j k))) (λ_=>.nil) (λk=>k<=Z' l/\(l.take k).all p=true) (λk=>Z' l-k) 0 ⟨asQ _,rfl⟩ ?_ a_ ?_;exact lM;rintro k ⟨y,i⟩;simp only[go_sem];by_cases hlt:k<Z' l
 ·have e:(k:Int)<(Z' l:Nat):=Om;have u:(l.map RF.cells)[k]?=some (l[k]).cells:=by simp[hlt]
  simp only[go_sem,e,u];refine aQ λo A=>?_;simp only[go_sem];refine aD (h _ (asS hlt)) Ev ?_;cases hp:p l[k]with
  |false =>simp only[go_sem];exact bS (b:=false) Ev (uT (p:=p) hlt hp).symm
  |true =>simp only[go_sem,wZz k];refine aE (k+1) ⟨hlt,atI.1 (uS hlt i hp)⟩ Om ?_ a_;exact Lq
 have e:¬(k:Int)<(Z' l:Nat):=Om;simp only[go_sem,e];have:k=Z' l:=Om;subst this;rw[atP (asU _)]at i;exact bS Ev i.symm
theorem V6(p:Int->Bool)(fn:Nat)(l:I_)(w:Fits l)(h:∀x∈l,aH C fn [.j x] .nil (aK (.bool (p x)))) :
  mf.wp C (aV zz.res (cN (.bool (l.all p)))) (g_ [ints l,.fn fn []]) .nil:=by
 simp only[go_sem,mf,zz];refine wp_loop (α:=Nat) (λk=>((((n_.set 1 (.fn fn [])).set 7 (ints l)).set 8 (.j (Z' l:Nat))).set 9 (.j k))) (λ_=>.nil) (λk=>k<=Z' l/\(l.take k).all p=true) (λk=>Z' l-k) 0 ⟨asQ _,rfl⟩ ?_ a_ ?_;exact lM;rintro k ⟨y,i⟩;simp only[go_sem];by_cases hlt:k<Z' l
 ·have e:(k:Int)<(Z' l:Nat):=Om;have u:(l.map λn=>[PV.int .i64 n])[k]?=some [.j l[k]]:=by simp[hlt]
  simp only[go_sem,e,u];refine aD (h _ (asS hlt)) Ev ?_;cases hp:p l[k]with
  |false =>simp only[go_sem];exact bS (b:=false) Ev (uT (p:=p) hlt hp).symm
  |true =>simp only[go_sem,wZz k];refine aE (k+1) ⟨hlt,atI.1 (uS hlt i hp)⟩ Om ?_ a_;exact Lq
 have e:¬(k:Int)<(Z' l:Nat):=Om;simp only[go_sem,e];have:k=Z' l:=Om;subst this;rw[atP (asU _)]at i;exact bS Ev i.symm
abbrev Li(l:List Bool):PV:=.sl 1 (l.map λb=>[PV.bool b])
theorem V4(p:Bool->Bool)(fn:Nat)(l:List Bool)(w:Fits l)(h:∀x∈l,aH C fn [.bool x] .nil (aK (.bool (p x)))) :
  mb.wp C (aV zx.res (cN (.bool (l.all p)))) (g_ [Li l,.fn fn []]) .nil:=by
 simp only[go_sem,mb,zx];refine wp_loop (α:=Nat) (λk=>((((n_.set 1 (.fn fn [])).set 7 (Li l)).set 8 (.j (Z' l:Nat))).set 9 (.j k))) (λ_=>.nil) (λk=>k<=Z' l/\(l.take k).all p=true) (λk=>Z' l-k) 0 ⟨asQ _,rfl⟩ ?_ a_ ?_;exact lM;rintro k ⟨y,i⟩;simp only[go_sem];by_cases hlt:k<Z' l
 ·have e:(k:Int)<(Z' l:Nat):=Om;have u:(l.map λb=>[PV.bool b])[k]?=some [.bool l[k]]:=by simp[hlt]
  simp only[go_sem,e,u];refine aD (h _ (asS hlt)) Ev ?_;cases hp:p l[k]with
  |false =>simp only[go_sem];exact bS (b:=false) Ev (uT (p:=p) hlt hp).symm
  |true =>simp only[go_sem,wZz k];refine aE (k+1) ⟨hlt,atI.1 (uS hlt i hp)⟩ Om ?_ a_;exact Lq
 have e:¬(k:Int)<(Z' l:Nat):=Om;simp only[go_sem,e];have:k=Z' l:=Om;subst this;rw[atP (asU _)]at i;exact bS Ev i.symm
theorem Q7(b:Bool):ZZ.wp C (aV mg.res (cN (.bool b))) (g_ [.bool b]) .nil:=by
 simp only[go_sem,ZZ,mg];exact bS Ev rfl
theorem V8(e:∀n lo hi:Int,aH C 104 [.j n,.j lo,.j hi] .nil (aK (.bool (within n lo hi))))(n:Int):mi.wp C (aV z8.res (cN (.bool (within n 0 8)))) (g_ [.j n]) .nil:=by
 simp only[go_sem,mi,z8];refine aD (e n 0 8) Ev ?_;simp only[go_sem];exact bS Ev rfl
theorem Q9(i:∀x:RF,FOk x->aH C 105 [.agg x.cells] .nil (aK (.bool (dS x))))(l:∀x:RF,FOk x->aH C 97 [.agg x.cells] .nil (aK (.bool (bY x))))(x:RF)(e:FOk x) :
  aa.wp C (aV mj.res (cN (.bool (dS x&&bY x)))) (g_ [.agg x.cells]) .nil:=by
 simp only[go_sem,aa,mj];refine aD (i x e) Ev ?_;cases u:dS x with
 |false =>simp only[go_sem];exact bS Ev rfl
 |true =>simp only[go_sem];refine aD (l x e) Ev ?_;simp only[go_sem];exact bS Ev rfl
structure Kw(C:Ctx):Prop where
 vX:∀x:RF,FOk x->aH C 97 [.agg x.cells] .nil (aK (.bool (bY x)))
 lim:∀x:RF,FOk x->aH C 105 [.agg x.cells] .nil (aK (.bool (dS x)))
 one:∀x:RF,TOk x->aH C 101 [.agg x.cells] .nil (aK (.bool (HV x)))
 tot:∀l:List RF,KL l->aH C 117 [frs l] .nil (aK (frV (.ok (false,1,1))))
 frac:aH C 115 [.int .i64 1,.int .i64 1] .nil (aK (frV (.ok (false,1,1))))
 ord:aH C 114 [.agg (FV.rf (false,1,1)).cells,.agg (FV.rf (false,1,1)).cells] .nil (aK (.tup [.int .i64 0,.int .i64 0]))
structure zE(C:Ctx):Prop extends Kw C where
 inn:∀n lo hi:Int,aH C 104 [.int .i64 n,.int .i64 lo,.int .i64 hi] .nil (aK (.bool (within n lo hi)))
 allf:∀(p:RF->Bool)(fn:Nat)(l:List RF),Fits l->(∀x∈l,aH C fn [.agg x.cells] .nil (aK (.bool (p x))))->aH C 99 [frs l,.fn fn []] .nil (aK (.bool (l.all p)))
 alli:∀(p:Int->Bool)(fn:Nat)(l:I_),Fits l->(∀x∈l,aH C fn [.int .i64 x] .nil (aK (.bool (p x))))->aH C 100 [ints l,.fn fn []] .nil (aK (.bool (l.all p)))
 allb:∀(p:Bool->Bool)(fn:Nat)(l:List Bool),Fits l->(∀x∈l,aH C fn [.bool x] .nil (aK (.bool (p x))))->aH C 98 [Li l,.fn fn []] .nil (aK (.bool (l.all p)))
 ends1:∀b:Bool,aH C 103 [.bool b] .nil (aK (.bool b))
 num1:∀n:Int,aH C 107 [.int .i64 n] .nil (aK (.bool (within n 0 8)))
 rate1:∀x:RF,FOk x->aH C 109 [.agg x.cells] .nil (aK (.bool (dS x&&bY x)))
 name:∀s:List UInt8,aH C 123 [.str s] .nil (aK (.bool (isName s)))
theorem zE.Wz(L:zE C)(l:List RF)(h:pC l):aH C 99 [frs l,.fn 105 []] .nil (aK (.bool (l.all dS))):=
 L.allf dS 105 l h.fits λx e=>L.lim x (h.all x e)
theorem within_iff{n lo hi:Int}:within n lo hi=true↔lo<=n/\n<=hi:=by simp[within]
theorem abY(L:zE C)(p:bX)(hp:p.Ok) :
  vi.wp C (aV Mj.res (cN (.bool (QE p)))) (g_ [.j p.k,.j p.m,.j p.asA,.agg [.j p.s0,.j p.s1,.j p.s2,.j p.s3,.j p.s4]]) .nil:=by
 simp only[go_sem,vi,Mj];refine aD (L.inn p.k 1 6) Ev ?_;unfold QE;cases y:within p.k 1 6 with
 |false =>simp only[go_sem,atH];exact bS Ev (by simp only[atE])
 |true=>
  obtain⟨E,F⟩:=within_iff.1 y;simp only[go_sem,asY];refine aD (L.inn p.m 0 4) Ev ?_;cases A:within p.m 0 4 with
  |false =>simp only[go_sem,atH];exact bS Ev (by simp only[atE,auF])
  |true=>
   obtain⟨J,K⟩:=within_iff.1 A;have w:i_.wrap (p.k+p.m)=p.k+p.m:=wrap_i64 Om Om;by_cases u:p.k+p.m<=8
   ·have e:¬p.k+p.m>8:=Om;simp only[go_sem,asY,w,e];refine aD (L.inn p.asA p.k (p.k+p.m)) Ev ?_;cases D:within p.asA p.k (p.k+p.m)with
    |false =>simp only[go_sem,atH];exact bS Ev (by simp only[atE,auF])
    |true=>
     have i:(0:Int)<((5:Nat):Int):=by decide
     by_cases h5:p.s0=0;have l:chunks 1 5 [PV.int .i64 p.s0,.j p.s1,.j p.s2,.j p.s3,.j p.s4]=([p.s0,p.s1,p.s2,p.s3,p.s4].map λn=>[PV.int .i64 n]):=rfl;have B:5<=maxLen:=by decide
     simp only[go_sem,asY,i,cB h5,l,B];refine aD (L.alli (λn=>within n 0 8) 107 [p.s0,p.s1,p.s2,p.s3,p.s4] (show 5<=9223372036854775807 by decide) λx _=>L.num1 x) Ev ?_;simp only[go_sem];exact bS Ev (by rw[aW u,aW h5];simp only[atJ]);simp only[go_sem,asY,i,cY h5];exact bS Ev (by rw[bD h5];simp only[atE,auF])
   have e:p.k+p.m>8:=Om;simp only[go_sem,asY,w,e];exact bS Ev (by rw[bD u];simp only[atE,auF])
theorem max_eq(a b:Int):(if a<b then b else a)=max a b:=by
 rw[Int.max_def];by_cases h:a<b;rw[aF h,aF Om];by_cases e:a<=b;rw[aC h,aF e];omega;rw[aC h,aC e]
theorem V9(L:zE C)(p:bX)(hp:p.Ok) :
  ml.wp C (aV Aa.res (cN (.bool (JM p)))) (g_ [.j p.m,frs p.repair,.agg p.target.cells,.agg p.arM.cells]) .nil:=by
 simp only[go_sem,ml,Aa,max_eq,asO];unfold JM;by_cases e:(Z' p.repair:Int)=max p.m 1
 ·simp only[go_sem,bR e];refine aD (L.allf (λx=>dS x&&bY x) 109 p.repair hp.repair.fits λx i=>L.rate1 x (hp.repair.all x i)) Ev ?_;rw[aW e,atJ];cases l:p.repair.all λx=>dS x&&bY x with
  |false =>simp only[go_sem];exact bS Ev rfl
  |true=>
   simp only[go_sem];refine aD (L.lim _ hp.target.fok) Ev ?_;cases u:dS p.target with
   |false =>simp only[go_sem];exact bS Ev rfl
   |true=>
    simp only[go_sem];refine aD (L.one _ hp.target) Ev ?_;cases w:HV p.target with
    |false =>simp only[go_sem];exact bS Ev rfl
    |true =>simp only[go_sem];refine aD (L.lim _ hp.arM) Ev ?_;simp only[go_sem];exact bS Ev rfl
 simp only[go_sem,bH e];exact bS Ev (by rw[bD e];rfl)
def wQ(l:List (List UInt8))(k:List KS):Option PV:=match k with
 |[.str s]=>if l.contains s then some (.bool true)else none
 |_=>none
theorem Tg(l:List (List UInt8))(s:List UInt8):(λk=>if k=[KS.str s]then some (PV.bool true)else wQ l k)=wQ (l++[s]):=by
 funext k
 match k with
 |[]=>rfl
 |[.int a b]=>simp[wQ]
 |[.bool a]=>simp[wQ]
 |[.str t] =>by_cases h:t=s;subst h;simp[wQ];simp[wQ,h]
 |a::b::c=>simp[wQ]
abbrev texts(l:List (List UInt8)):PV:=.sl 1 (l.map λs=>[PV.str s])
theorem Tf:wQ []=(λ_=>none:jY):=by
 funext k
 match k with
 |[]=>rfl
 |[.int a b]=>rfl
 |[.bool a]=>rfl
 |[.str t]=>rfl
 |a::b::c=>cases a<;>rfl
theorem Th(l:List (List UInt8))(s:List UInt8):jY.upd (wQ l) [KS.str s] (.bool true)=wQ (l++[s]):=Tg l s
theorem Fm(l:List (List UInt8))(s:List UInt8):(wQ l [KS.str s]).getD (.bool false)=.bool (l.contains s):=by
 show(if l.contains s then some (PV.bool true)else none).getD (.bool false)=_;cases l.contains s<;>rfl
theorem tx{p:Nat->Bool}{k:Nat}(h:(asP k).all p=true)(hp:p k=true):(asP (k+1)).all p=true:=by
 rw[avH,awG,h];simp[hp]
theorem gW{p:Nat->Bool}{n k:Nat}(e:k<n)(hp:p k=false):(asP n).all p=false:=by
 rw[List.all_eq_false];exact⟨k,atQ.2 e,by simp[hp]⟩
def xI(p:Nat->Bool)(k:Nat):Prop:=(asP k).all p=true
theorem xI.zero{p:Nat->Bool}:xI p 0:=rfl
theorem xI.step{p:Nat->Bool}{k:Nat}(h:xI p k)(hp:p k=true):xI p (k+1):=tx h hp
def O1(l:List (List UInt8))(o k:Nat):PF:=((((n_.set 3 (.map o)).set 7 (texts l)).set 8 (.int .i64 (Z' l:Nat))).set 9 (.int .i64 k))
theorem Wd(L:zE C)(l:List (List UInt8))(E:Fits l):mm.wp C (aV Ab.res (cN (.bool (distinct l)))) (g_ [texts l]) .nil:=by
 simp only[go_sem,mm,Ab];refine aQ λo J=>?_;simp only[go_sem];have B:(h_.set o (.map (false,[.str]) (λ_=>none)))=h_.set o (.map (false,[.str]) (wQ (l.take 0))):=by rw[avA,Tf]
 unfold distinct;generalize hp:(λi=>isName (l.getD i [])&&!(l.take i).contains (l.getD i []))=p;have x:∀k (h:k<Z' l),p k=(isName l[k]&&!(l.take k).contains l[k]):=by intro k h;rw[<-hp];simp only[asW,asZ h,auV]
 refine wp_loop (α:=Nat) (λk=>O1 l o k) (λk=>h_.set o (.map (false,[.str]) (wQ (l.take k)))) (λk=>k<=Z' l/\xI p k) (λk=>Z' l-k) 0 ⟨asQ _,.zero⟩ ?_ ?_ ?_;unfold O1;exact lM;rw[B];exact b_;rintro k ⟨F,A⟩;simp only[go_sem,O1];by_cases hlt:k<Z' l
 ·have u:(k:Int)<(Z' l:Nat):=Om;have D:(l.map λs=>[PV.str s])[k]?=some [.str l[k]]:=by simp[hlt]
  simp only[go_sem,u,D];refine aD (L.name l[k]) rfl ?_;have e:=x k hlt;cases y:isName l[k]with
  |false =>rw[y,atE]at e;simp only[go_sem,atH];exact bS (b:=false) rfl (gW hlt e).symm
  |true=>
   rw[y,atJ]at e;cases w:(l.take k).contains l[k]with
   |true =>rw[w]at e;simp only[go_sem,asY,Fm,w];exact bS (b:=false) rfl (gW hlt e).symm
   |false =>rw[w]at e;simp only[go_sem,asY,Fm,w,Th,wZz k];refine aE (k+1) ⟨hlt,A.step e⟩ Om ?_ ?_;exact Lq;rw[atW hlt];exact d_ a_ Sq
 have u:¬(k:Int)<(Z' l:Nat):=Om;simp only[go_sem,u];have:k=Z' l:=Om;subst this;exact bS (b:=true) rfl (show xI p l.length from A).symm
def marks(n:Nat)(l:I_):List Bool:=(asP n).map λ(i:Nat)=>l.contains (i:Int)
theorem JG(n:Nat)(l:I_):(marks n l).length=n:=by simp[marks]
theorem wa(n:Nat):marks n []=asT n false:=by
 refine avL (by simp[marks]) λi e l=>by simp[marks]
theorem yC{n:Nat}{l:I_}{m:Int}(e:0<=m)(i:m<n):(marks n l)[m.toNat]?=some (l.contains m):=by
 have:m.toNat<n:=Om;simp only[marks,atC,auT this,atO];rw[Int.toNat_of_nonneg e]
theorem JH{n:Nat}{l:I_}{m:Int}(u:0<=m)(w:m<n):(marks n l).set m.toNat true=marks n (l++[m]):=by
 refine avL (by simp[marks]) λi x y=>?_;simp only[marks,auN,List.getElem_range,List.getElem_set,List.contains_append];by_cases h:m.toNat=i;subst h;rw[aF rfl,Int.toNat_of_nonneg u];simp;have e:((i:Nat):Int)≠m:=Om;rw[aC h];simp[e]
abbrev dE(l:List Bool):P2_:=l.map λb=>[PV.bool b]
theorem kB(l:List Bool)(i:Nat)(b:Bool):(dE l).set i [.bool b]=dE (l.set i b):=by unfold dE;rw[avP]
structure Bb(C:Ctx):Prop extends zE C where
 num:∀p:bX,p.Ok->aH C 106 [.int .i64 p.k,.int .i64 p.m,.int .i64 p.asA,.agg [.int .i64 p.s0,.int .i64 p.s1,.int .i64 p.s2,.int .i64 p.s3,.int .i64 p.s4]] .nil (aK (.bool (QE p)))
 rate:∀p:bX,p.Ok->aH C 108 [.int .i64 p.m,frs p.repair,.agg p.target.cells,.agg p.arM.cells] .nil (aK (.bool (JM p)))
 uniq:∀l:List (List UInt8),Fits l->aH C 110 [texts l] .nil (aK (.bool (distinct l)))
def Xt(p:bX)(arC:Nat)(o k:Nat):PF:=(((((n_.set 1 (.int .i64 arC)).set 5 (.osl o 1 0 arC)).set 39 (ints p.arC)).set 40 (.int .i64 (Z' p.arC:Nat))).set 41 (.int .i64 k))
theorem abZ(L:Bb C)(p:bX)(hp:p.Ok)(arC:Nat)(S:arC<=4):vj.wp C (aV Mk.res (cN (.bool (lN arC p)))) (g_ [.agg p.cells,.j arC]) .nil:=by
 simp only[go_sem,vj,Mk];refine aD (L.num p hp) rfl ?_;unfold lN;cases w:QE p with
 |false =>simp only[go_sem,atH];exact bS rfl (by simp only[atE])
 |true=>
  by_cases u:Z' p.arC=0;simp only[go_sem,asY,asO,bR (Om:(Z' p.arC:Int)=0)];refine bS rfl ?_;have:decide (Z' p.arC≠0)=false:=by simp[u]
  rw[this];simp only[atE,auF]
  ·have A:decide (Z' p.arC≠0)=true:=by simp[u]
   simp only[go_sem,asY,asO,bH (Om:(Z' p.arC:Int)≠0)];refine aD (L.rate p hp) rfl ?_;rw[A];cases O:JM p with
   |false =>simp only[go_sem,atH];exact bS rfl (by simp only[atE,auF])
   |true=>
    have B:((arC:Nat):Int)*((1:Nat):Int)<=140737488355328:=Om;have D:((arC:Nat):Int)<=9223372036854775807:=Om;simp only[atJ];simp only[go_sem,asY,B,D];refine aQ λo U=>?_;simp only[go_sem];have K:asT arC [PV.bool false]=dE (marks arC (p.arC.take 0)):=by rw[avA,wa];simp[dE]
    rw[K];generalize hq:(λj=>within (p.arC.getD j 0) 0 ((arC:Int)-1)&&!(p.arC.take j).contains (p.arC.getD j 0))=q;have E:∀k (h:k<Z' p.arC),q k=(within p.arC[k] 0 ((arC:Int)-1)&&!(p.arC.take k).contains p.arC[k]):=by intro k h;rw[<-hq];simp only[asW,asZ h,auV]
    refine wp_loop (α:=Nat) (λk=>Xt p arC o k) (λk=>h_.set o (.rows 1 (dE (marks arC (p.arC.take k))))) (λk=>k<=Z' p.arC/\xI q k) (λk=>Z' p.arC-k) 0 ⟨asQ _,.zero⟩ ?_ (b_) ?_;unfold Xt;exact lM;rintro k ⟨R,F⟩;simp only[go_sem,Xt];have J:=hp.arC;by_cases hlt:k<Z' p.arC
    ·have i:(k:Int)<(Z' p.arC:Nat):=Om;have M:(p.arC.map λn=>[PV.int .i64 n])[k]?=some [.j p.arC[k]]:=by simp[hlt]
     have N:i_.wrap ((arC:Int)-1)=(arC:Int)-1:=wrap_i64 Om Om;simp only[go_sem,i,M,N];refine aD (L.inn p.arC[k] 0 ((arC:Int)-1)) rfl ?_;have e:=E k hlt;cases w:within p.arC[k] 0 ((arC:Int)-1)with
     |false =>rw[w,atE]at e;simp only[go_sem,atH];exact bS (b:=false) rfl (gW hlt e).symm
     |true=>
      rw[w,atJ]at e;obtain⟨x,V⟩:=within_iff.1 w;have y:p.arC[k]<(arC:Nat):=Om;have l:(dE (marks arC (p.arC.take k)))[p.arC[k].toNat]?=some [.bool ((p.arC.take k).contains p.arC[k])]:=by unfold dE;rw[atC,yC x y];rfl
      cases u:(p.arC.take k).contains p.arC[k]with
      |true =>rw[u]at e l;simp only[go_sem,asY,x,y,atA,l];exact bS (b:=false) rfl (gW hlt e).symm
      |false =>rw[u]at e l;simp only[go_sem,asY,x,y,atA,l,kB,JH x y,wZz k];refine aE (k+1) ⟨hlt,F.step e⟩ Om ?_ ?_;exact Lq;rw[atW hlt];exact d_ a_ Sq
    have i:¬(k:Int)<(Z' p.arC:Nat):=Om;simp only[go_sem,i];have:k=Z' p.arC:=Om;subst this;exact bS (b:=true) rfl (show xI q p.arC.length from F).symm
def Vn:PV->RF
 | .agg [.bool n,a,b]=>⟨n,sT a,sT b⟩
 |_=>⟨false,[],[]⟩
theorem Lv(x:RF):Vn (.agg x.cells)=x:=by
 show(⟨x.neg,sT (bB x.num),sT (bB x.den)⟩:RF)=x;rw[mA,mA]
def flS:Spec:=λname vs=>match name,vs with
 |104,[.int _ n,.int _ lo,.int _ hi]=>some ([],λ_=>aK (.bool (within n lo hi)))
 |105,[x]=>some ([],λ_=>aK (.bool (dS (Vn x))))
 |97,[x]=>some ([],λ_=>aK (.bool (bY (Vn x))))
 |_,_=>none
theorem Cs(n lo hi:Int):flS 104 [.j n,.j lo,.j hi]=some ([],λ_=>aK (.bool (within n lo hi))):=rfl
theorem abQ(x:RF):flS 105 [.agg x.cells]=some ([],λ_=>aK (.bool (dS x))):=by
 show some _=_;rw[Lv]
def Mi(f:aB)(t:List cU)(k:Nat):PF:=((((n_.set 1 (.aU f.cells)).set 45 (.sl 7 (t.map cU.cells))).set 46 (.int .i64 (Z' t:Nat))).set 47 (.int .i64 k))
theorem abW(L:zE C)(f:aB)(hf:f.Ok):UQ.wp C (aV Cy.res (cN (.bool (sU f)))) (g_ [.agg f.cells]) .nil:=by
 obtain⟨asG,arJ,arC,arE,arB,arF,arD⟩:=f;cases arE with
 |nil =>rw[show sU ⟨asG,arJ,arC,[],arB,arF,arD⟩=false from rfl];simp only[go_sem,UQ,Cy,auH,avD];have:(((0:Nat):Int)==0)=true:=rfl;simp only[go_sem,this];exact bS rfl rfl
 |cons r t=>
  generalize hF:(⟨asG,arJ,arC,r::t,arB,arF,arD⟩:aB)=f at *
  have D:f.arE=r::t:=by rw[<-hF]
  have hP:sU f=IZ f r t:=by unfold sU;rw[D]
  rw[hP];unfold IZ;have l:Z' f.arE=Z' t+1:=by rw[D];rfl
  have β:=hf.arE;have K:(f.arE.map cU.cells)[0]?=some r.cells:=by rw[D];rfl
  have γ:(f.arE.map cU.cells)[Int.toNat 0]?=some r.cells:=K;have F:=hf.dom;have x:=F r (by rw[D];exact axA ..);simp only[go_sem,UQ,Cy,asO,l,bH (Om:((Z' t+1:Nat):Int)≠0),K];refine aQ λo ho=>?_;by_cases y:r.name=[];rw[aW y];by_cases B:r.level=0;rw[aW B];by_cases E:r.parent=-1;rw[aW E];by_cases M:r.arW=0
  ·rw[aW M];simp only[go_sem,wA y,asY,cB B,cB E,cB M];refine aD (L.lim r.arR x.1) rfl ?_;cases c5:dS r.arR with
   |false =>simp only[go_sem,atH];exact bS rfl (by simp only[auF,atE])
   |true=>
    simp only[go_sem,asY];refine aD (L.vX r.arR x.1) rfl ?_;cases c6:bY r.arR with
    |true =>simp only[go_sem];exact bS rfl (by simp only[asY,auF,atE])
    |false=>
     have V:(0:Int)<=1/\(1:Int)<=((Z' t+1:Nat):Int):=Om;have A:((f.arE.map cU.cells).take (Z' t+1)).drop (Int.toNat 1)=t.map cU.cells:=by rw[atP (by simp[l]),D];rfl
     have w:((f.arE.map cU.cells).take (Z' t+1)).drop 1=t.map cU.cells:=A;simp only[go_sem,asO,l,V,w,auL];generalize hq:(λi=>match t[i]? with|some d=>OB f i d|none=>false)=q;have S:∀k (h:k<Z' t),q k=OB f k t[k]:=by intro k h;rw[<-hq];simp only[asZ h]
     refine wp_loop (α:=Nat) (λk=>Mi f t k) (λk=>.nil) (λk=>k<=Z' t/\xI q k) (λk=>Z' t-k) 0 ⟨asQ _,.zero⟩ ?_ a_ ?_;unfold Mi;exact lM;rintro k ⟨hk,Z⟩;simp only[go_sem,Mi];by_cases hlt:k<Z' t
     ·have u:(k:Int)<(Z' t:Nat):=Om;have U:(t.map cU.cells)[k]?=some (t[k]).cells:=by simp[hlt]
      have O:=F t[k] (by rw[D];exact awN _ (asS hlt));have e:=S k hlt;unfold OB at e;simp only[go_sem,u,U];refine aQ λo2 δ=>?_;simp only[go_sem];refine bE .nil flS a_ ?_;simp only[go_sem];refine cJ (Cs _ 0 k) (L.inn (t[k]).parent 0 k) rfl a_ ?_;cases N:within (t[k]).parent 0 k with
      |false =>simp only[N,atE]at e;simp only[go_sem,atH];exact bS (b:=false) rfl (gW hlt e).symm
      |true=>
       obtain⟨i1,i2⟩:=within_iff.1 N;have i3:(t[k]).parent.toNat<Z' f.arE:=Om;have J:(f.arE.map cU.cells)[(t[k]).parent.toNat]?=some (f.arE[(t[k]).parent.toNat]).cells:=by simp[i3]
       have R:(f.arE.map cU.level).getD (t[k]).parent.toNat 0=(f.arE[(t[k]).parent.toNat]).level:=by simp[i3]
       rw[R,N,atJ]at e;by_cases e2:(f.arE[(t[k]).parent.toNat]).level=i_.wrap ((t[k]).level-1)
       ·rw[aW e2,atJ]at e;simp only[go_sem,asY,i1,J,cB e2];refine cJ (Cs _ 1 4) (L.inn (t[k]).level 1 4) rfl a_ ?_;cases W:within (t[k]).level 1 4 with
        |false =>simp only[W,atE]at e;simp only[go_sem,atH];exact bS (b:=false) rfl (gW hlt e).symm
        |true=>
         rw[W,atJ]at e;simp only[go_sem,asY];refine cJ (Cs _ 1 64) (L.inn (t[k]).arW 1 64) rfl a_ ?_;cases X:within (t[k]).arW 1 64 with
         |false =>simp only[X,atE]at e;simp only[go_sem,atH];exact bS (b:=false) rfl (gW hlt e).symm
         |true=>
          rw[X,atJ]at e;simp only[go_sem,asY];refine cJ (abQ (t[k]).arR) (L.lim _ O.1) rfl a_ ?_;cases Y:dS (t[k]).arR with
          |false =>rw[Y]at e;simp only[go_sem,atH];exact bS (b:=false) rfl (gW hlt e).symm
          |true =>rw[Y]at e;simp only[go_sem,asY,wZz k];refine aE (k+1) ⟨hlt,Z.step e⟩ Om ?_ a_;exact Lq
       simp only[bD e2,atE]at e;simp only[go_sem,asY,i1,J,cY e2];exact bS (b:=false) rfl (gW hlt e).symm
     have u:¬(k:Int)<(Z' t:Nat):=Om;simp only[go_sem,u];have:k=Z' t:=Om;subst this;exact bS (b:=true) rfl (show xI q t.length from Z).symm
  simp only[go_sem,wA y,asY,cB B,cB E,cY M];exact bS rfl (by rw[bD M];simp only[auF,atE]);simp only[go_sem,wA y,asY,cB B,cY E];exact bS rfl (by rw[bD E];simp only[auF,atE]);simp only[go_sem,wA y,asY,cY B];exact bS rfl (by rw[bD B];simp only[auF,atE]);simp only[go_sem,kj y,atH];exact bS rfl (by rw[bD y];simp only[auF,atE])
theorem AK(R:List Bool)(i:Nat)(row:List RF):∀k,(dB R i row k).length=Z' R
 |0=>rfl
 |k+1=>by simp only[dB,auD,AK R i row k]
theorem E5(l:cV)(R:List Bool)(i:Nat):(nS l R i).length=Z' R:=by
 unfold nS;rw[AK,auD]
theorem wN(l:cV)(R:List Bool):∀i,(dW l R i).length=Z' R
 |0=>rfl
 |i+1=>by simp only[dW,E5,wN l R i]
theorem wM(l:cV):∀r,(eA l r).length=Z' l.exit
 |0=>by simp[eA]
 |r+1=>by simp only[eA,wN,wM l r]
theorem rB{R:List Bool}{i:Nat}(h:i<Z' R):(dE R)[i]?=some [.bool (R.getD i false)]:=by
 unfold dE;rw[atC,asZ h,asW,asZ h];rfl
theorem yP(R:List Bool):(dE R).length=Z' R:=by simp[dE]
def YI(l:cV)(o r:Nat):PF:=(((n_.set 1 (.aU l.cells)).set 3 (.osl o 1 0 l.exit.length)).set 4 (.int .i64 r))
def OC(l:cV)(o r i:Nat):PF:=(((((n_.set 1 (.aU l.cells)).set 3 (.osl o 1 0 l.exit.length)).set 4 (.int .i64 r)).set 19 (.int .i64 (Z' l.exit:Nat))).set 20 (.int .i64 i))
def zS(l:cV)(o r i:Nat)(row:List RF)(k:Nat):PF:=(((((((((n_.set 1 (.aU l.cells)).set 3 (.osl o 1 0 l.exit.length)).set 4 (.int .i64 r)).set 19 (.int .i64 (Z' l.exit:Nat))).set 20 (.int .i64 i)).set 5 (.int .i64 i)).set 42 (frs row)).set 43 (.int .i64 (Z' row:Nat))).set 44 (.int .i64 k))
def kH(o:Nat)(R:List Bool):PH:=h_.set o (.rows 1 (dE R))
theorem G9(L:zE C)(l:cV)(o r i:Nat)(row:List RF)(J:pC row)(X:Z' row=Z' l.exit)(hi:i<Z' l.exit)(hn:Z' l.exit<=4)(e:List Bool)(Y:Z' e=Z' l.exit)(K:bP)(F:PF)(H:PH)
  (O:(zS l o r i row 0).le F) (M:(kH o e).le H)
  (V:∀F H,(zS l o r i row row.length).le F->(kH o (dB e i row row.length)).le H->K .normal F H) :
  aJ.wp C (.block 4 (.loop JC)) K F H:=by
 simp only[go_sem];refine wp_loop (α:=Nat) (λk=>zS l o r i row k) (λk=>kH o (dB e i row k)) (λk=>k<=Z' row) (λk=>Z' row-k) 0 (asQ _) O M ?_;intro k hk;simp only[go_sem,JC,zS,kH];have S:=AK e i row k;by_cases hlt:k<Z' row
 ·have u:(k:Int)<(Z' row:Nat):=Om;have W:(row.map RF.cells)[k]?=some (row[k]).cells:=by simp[hlt]
  simp only[go_sem,u,W];refine aQ λo7 E=>?_;have N:o≠o7:=by rintro rfl;simp only[aO,if_true]at E;cases E
  have x:(i:Int)<(Z' l.exit:Nat):=Om;have D:(k:Int)<(Z' l.exit:Nat):=Om;have w:=rB (R:=dB e i row k) (i:=i) Om;have y:=rB (R:=dB e i row k) (i:=k) Om;have B:dB e i row (k+1)=(dB e i row k).set i ((dB e i row k).getD i false||bY row[k]&&(dB e i row k).getD k false):=by simp only[dB,asW,atC,asZ hlt,atO,auV]
  have fin:∀(b:Bool)(F:PF)(H:PH),b=((dB e i row k).getD i false||bY row[k]&&(dB e i row k).getD k false)->(zS l o r i row (k+1)).le F->H o=some (.rows 1 ((dE (dB e i row k)).set i [.bool b])) ->
    fK (λk=>zS l o r i row k) (λk=>kH o (dB e i row k)) (λk=>k<=Z' row) (λk=>Z' row-k) (Z' row-k) (fL 4 K) .normal F H:=by
   intro b F H hb O M;refine aE (k+1) hlt Om O ?_;rw[kB,hb,<-B]at M;exact d_ a_ M
  unfold zS kH at fin;generalize hb:(dB e i row k).getD i false=b at *
  generalize Z:(dB e i row k).getD k false=c at *
  generalize U:bY row[k]=A at *
  cases b with
  |true =>simp only[go_sem,N,x,atA,w,wZz k];exact fin true _ _ aZ Lq Sq
  |false=>
   simp only[go_sem,N,x,atA,w];refine aD (L.vX _ (J.all _ (asS hlt))) rfl ?_;rw[U];cases A with
   |false =>simp only[go_sem,x,D,N,atA,w,y,wZz k];exact fin false _ _ aZ Lq Sq
   |true =>simp only[go_sem,x,D,N,atA,w,y,wZz k];exact fin c _ _ aZ Lq Sq
 have u:¬(k:Int)<(Z' row:Nat):=Om;simp only[go_sem,u];have:k=Z' row:=Om;subst this;exact V _ _ (by unfold zS;exact Lq) (b_)
structure IV(l:cV):Prop where
 n:Z' l.exit<=4
 arG:Z' l.arG=Z' l.exit
 row:∀r∈l.arG,Z' r=Z' l.exit
theorem Ha(L:zE C)(l:cV)(U:l.Ok)(he:IV l)(o r:Nat)(R:List Bool)(hR:Z' R=Z' l.exit)(K:bP)(F:PF)(H:PH)
  (x:(OC l o r 0).le F) (N:(kH o R).le H)
  (hK:∀F H,(YI l o r).le F->(kH o (dW l R l.exit.length)).le H->K .normal F H) :
  aJ.wp C (.block 2 (.loop JD)) K F H:=by
 simp only[go_sem];refine wp_loop (α:=Nat) (λi=>OC l o r i) (λi=>kH o (dW l R i)) (λi=>i<=Z' l.exit) (λi=>Z' l.exit-i) 0 (asQ _) x N ?_;intro i hi;have V:=wN l R i;have hn:=he.n;by_cases hlt:i<Z' l.exit
 ·have e:(i:Int)<(Z' l.exit:Nat):=Om;have w:i<Z' l.arG:=by rw[he.arG];exact hlt
  have y:=rB (R:=dW l R i) (i:=i) Om;have hx:(l.exit.map RF.cells)[i]?=some (l.exit[i]).cells:=by simp[hlt]
  have E:(l.arG.map λr=>[frs r])[i]?=some [frs l.arG[i]]:=by simp[w]
  have S:(l.arG[i]).length=Z' l.exit:=he.row _ (asS w);generalize u:(dW l R i).set i ((dW l R i).getD i false||bY l.exit[i])=J;have D:Z' J=Z' l.exit:=by rw[<-u,auD];omega
  have A:dW l R (i+1)=dB J i l.arG[i] (l.arG[i]).length:=by
   simp only[dW,nS];have X:(l.exit.map bY).getD i false=bY l.exit[i]:=by simp[asW,hlt]
   have e2:l.arG.getD i []=l.arG[i]:=by simp[asW,w]
   rw[X,e2,u]
  have rest:∀(F:PF)(H:PH),(((((((n_.set 1 (.aU l.cells)).set 3 (.osl o 1 0 l.exit.length)).set 4 (.j r)).set 19 (.j (Z' l.exit:Nat))).set 20 (.j i)).set 5 (.j i)):PF).le F->H o=some (.rows 1 (dE J)) ->
    aJ.wp C (.seq (.region dw) (.block 4 (.loop JC))) (fL 3 (gL C (aJ.wp C (.region UR)) (fK (λi=>OC l o r i) (λi=>kH o (dW l R i)) (λi=>i<=Z' l.exit) (λi=>Z' l.exit-i) (Z' l.exit-i) (fL 2 K)))) F H:=by
   intro F H x N;have f1:F 1=some (.aU l.cells):=x 1 _ rfl;have f3:F 3=some (.osl o 1 0 l.exit.length):=x 3 _ rfl;have f4:F 4=some (.j r):=x 4 _ rfl;have Y:F 19=some (.j (Z' l.exit:Nat)):=x 19 _ rfl;have Z:F 20=some (.j i):=x 20 _ rfl;have f5:F 5=some (.j i):=x 5 _ rfl;rw[uq];simp only[go_sem,dw,f1,f5,E,asO];have inner:=G9 L l o r i l.arG[i] (U.row _ (asS w)) S hlt hn J D;simp only[aJ.wp,go_sem]at inner;refine inner _ _ _ ?_ (d_ a_ N) ?_;unfold zS;exact Lq;intro W H' B O;have M:W 20=some (.j i):=B 20 _ (by unfold zS;simp only[go_sem]);simp only[go_sem,UR,M,wZz i];refine aE (i+1) hlt Om ?_ (by rw[A];exact O);have g:=λ(q:Nat) v h=>B q v h;unfold OC;unfold zS at g;refine e_ (e_ (e_ (e_ (e_ c_ ?_) ?_) ?_) ?_) ?_;simp only[go_sem];exact g 1 _ rfl;simp only[go_sem];exact g 3 _ rfl;simp only[go_sem];exact g 4 _ rfl;simp only[go_sem];exact g 19 _ rfl;simp only[go_sem]
  simp only[aJ.wp,go_sem]at rest;simp only[go_sem,JD,OC,kH,e];generalize hb:(dW l R i).getD i false=b at *
  cases b with
  |true =>simp only[go_sem,e,atA,y];refine rest _ _ Lq ?_;rw[<-u];simp only[go_sem,kB,Bool.true_or]
  |false =>simp only[go_sem,e,atA,y,hx];refine aD (L.vX _ (U.exit.all _ (asS hlt))) rfl ?_;simp only[go_sem,e,atA,y];refine rest _ _ Lq ?_;rw[<-u];simp only[go_sem,kB,Bool.false_or]
 have e:¬(i:Int)<(Z' l.exit:Nat):=Om;simp only[go_sem,JD,OC,kH,e];have:i=Z' l.exit:=Om;subst this;exact hK _ _ (by unfold YI;exact Lq) b_
theorem V7(L:zE C)(l:cV)(F:l.Ok)(he:IV l):mh.wp C (aV oK.res (cN (.bool (wD l)))) (g_ [.agg l.cells]) .nil:=by
 have J:=he.n;have A:(Z' l.exit:Int)*((1:Nat):Int)<=140737488355328:=Om;have B:(Z' l.exit:Int)<=9223372036854775807:=Om;simp only[go_sem,mh,oK,asO,A,B];refine aQ λo K=>?_;simp only[go_sem];refine wp_loop (α:=Nat) (λr=>YI l o r) (λr=>kH o (eA l r)) (λr=>r<=Z' l.exit+1) (λr=>Z' l.exit+1-r) 0 (asQ _) ?_ ?_ ?_;unfold YI;exact Lq;refine d_ a_ ?_;simp only[go_sem,eA];simp[dE];intro r M;have i:=wM l r;simp only[go_sem,YI,kH];by_cases hlt:r<=Z' l.exit;have e:(r:Int)<=(Z' l.exit:Nat):=Om;simp only[go_sem,e];have inner:=Ha L l F he o r (eA l r) i;simp only[aJ.wp,go_sem]at inner;refine inner _ _ _ ?_ b_ ?_;unfold OC;exact Lq;intro D H' w y;have g:=λ(q:Nat) v h=>w q v h;unfold YI at g;have g4:D 4=some (.j r):=g 4 _ rfl;simp only[go_sem,g4,wZz r];refine aE (r+1) Om Om ?_ y;refine e_ (e_ (e_ c_ ?_) ?_) ?_;simp only[go_sem];exact g 1 _ rfl;simp only[go_sem];exact g 3 _ rfl;simp only[go_sem];have e:¬(r:Int)<=(Z' l.exit:Nat):=Om;have:r=Z' l.exit+1:=Om;subst this;simp only[go_sem,e];have u:=L.allb id 103 (eA l (Z' l.exit+1)) (Om:(eA l (Z' l.exit+1)).length<=_) λx _=>L.ends1 x;have E:(dE (eA l (Z' l.exit+1))).length=Z' l.exit:=by rw[yP,i]
 refine uG u (rs:=dE (eA l (Z' l.exit+1))) (o:=o) (s:=1) Sq ?_ ?_;simp only[go_sem,BG (show l.exit.length<=(dE (eA l (Z' l.exit+1))).length by omega),atP (show(dE (eA l (Z' l.exit+1))).length<=l.exit.length by omega)];simp only[go_sem];exact bS rfl rfl
structure j2(C:Ctx):Prop extends Bb C where
 ends:∀l:cV,l.Ok->IV l->aH C 102 [.agg l.cells] .nil (aK (.bool (wD l)))
def yH(l:cV)(i:Nat):Bool:=decide ((l.arG.getD i []).length=Z' l.start)&&(l.arG.getD i []).all dS&&!((l.arG.getD i []).map bY).getD i false
def LD(l:cV):Bool:=match AR (l.start.map RF.v)with
 | .ok (n,a,b)=>decide (DU n a b false 1 1=0)
 | .error _=>false
theorem Jk(l:cV):nA l=(within l.start.length 1 4&&decide (Z' l.exit=Z' l.start)&&decide (Z' l.arG=Z' l.start)&&l.start.all dS&&l.exit.all dS&&(asP l.arG.length).all (yH l)&&LD l&&wD l):=rfl
theorem Yt{l:List FV}{e:Int}(h:AR l=.error e):e≠0:=by
 have:∀(l:List FV)(b:FV)(e:Int),l.foldlM oH b=.error e->e≠0:=by
  intro l
  induction l with
  |nil=>intro b e h;cases h
  |cons x t w=>
   intro b e h;rw[List.foldlM_cons]at h;cases i:oH b x with
   |error u=>
    rw[i]at h;have:u=e:=by injection h
    subst this;obtain⟨A,a1,b1⟩:=b;obtain⟨B,a2,b2⟩:=x;simp only[oH]at i;split at i;split at i;rw[PE i];decide;split at i;rw[PE i];decide;rw[PE i];decide;injection i with i;subst i;decide
   |ok y=>rw[i]at h;exact w y e h
 exact this l _ e h
theorem aeM{l:List FV}{r:FV}(h:AR l=.ok r):r.rf.Ok:=by
 have:∀(l:List FV)(b r:FV),b.rf.Ok->l.foldlM oH b=.ok r->r.rf.Ok:=by
  intro l
  induction l with
  |nil=>intro b r hb h;injection h with h;subst h;exact hb
  |cons x t i=>
   intro b r hb h;rw[List.foldlM_cons]at h;cases e:oH b x with
   |error u=>rw[e]at h;cases h
   |ok y=>rw[e]at h;exact i y r (Ix e) h
 refine this l _ r ⟨cE _,cE _,?_,?_⟩ h;show(aT 0).length<=_;rw[jT];simp;show(aT 1).length<=_;rw[uC aR aR];simp
theorem PI{neg:Bool}{a b:Nat}{r:FV}(hb:b≠0)(h:rD neg a b=.ok r):fZ r.2.1 r.2.2=true:=by
 unfold rD at h;split at h;cases h;rename_i u;injection h with h
 subst h;have e:asR a b ∣ b:=Nat.gcd_dvd_right _ _;have i:b/asR a b≠0:=by have:=Nat.div_pos (Nat.le_of_dvd (awA hb) e) (awA λh=>hb (Nat.gcd_eq_zero_iff.1 h).2);omega
 have l:=@uV (b/asR a b);simp only[fZ,asV,dT_];omega
theorem K6{x y r:FV}(h:oH x y=.ok r):fZ r.2.1 r.2.2=true:=by
 obtain⟨l,a1,b1⟩:=x;obtain⟨u,a2,b2⟩:=y;simp only[oH]at h;split at h;rename_i i;rw[asV]at i;have e:b1*b2≠0:=Nat.mul_ne_zero (mV.1 i.1).1 (mV.1 i.2).1;split at h;exact PI e h;split at h;exact PI e h;exact PI e h;cases h
theorem O7:fZ 0 1=true:=by
 have:fM 1=1:=by rw[HA aR,sK]
 simp[fZ,this,sK]
theorem Oi{l:List FV}{r:FV}(h:AR l=.ok r):fZ r.2.1 r.2.2=true:=by
 have:∀(l:List FV)(b r:FV),fZ b.2.1 b.2.2=true->l.foldlM oH b=.ok r->fZ r.2.1 r.2.2=true:=by
  intro l
  induction l with
  |nil=>intro b r hb h;injection h with h;subst h;exact hb
  |cons x t i=>
   intro b r hb h;rw[List.foldlM_cons]at h;cases e:oH b x with
   |error u=>rw[e]at h;cases h
   |ok y=>rw[e]at h;exact i y r (K6 e) h
 exact this l _ r O7 h
def Wm(l:cV)(k:Nat):PF:=(((((n_.set 1 (.aU l.cells)).set 3 (.int .i64 (Z' l.start:Nat))).set 45 (aaM l.arG)).set 46 (.int .i64 (Z' l.arG:Nat))).set 47 (.int .i64 k))
theorem aiE{l:cV}(h:KL l.start):LD l=true:=by
 obtain⟨p,hp,he⟩:=h;unfold LD;rw[he];exact(show ∀p∈stN,(match AR ((p.map rfQ).map RF.v)with
  | .ok (n,a,b)=>decide (DU n a b false 1 1=0)
  | .error _=>false)=true by decide +kernel) p hp
theorem Q8(L:j2 C)(l:cV)(i:l.Ok)(he:IV l)(F:PF)(u:F 1=some (.aU l.cells)) :
  aJ.wp C (.seq (.region dx) (.seq (.region dy) (.seq (.region dz) (.seq (.region d6) .ret)))) (aV [.tmp 2] (cN (.bool (LD l&&wD l)))) F .nil:=by
 simp only[go_sem,dx,u];refine aD (L.tot l.start i.start) Ev ?_;simp only[go_sem,frV];refine aQ λo6 w=>?_;simp only[go_sem,dy];refine aD L.frac Ev ?_;simp only[go_sem,frV];refine aQ λo8 e=>?_;have x:o6≠o8:=by rintro rfl;simp only[aO,if_true]at e;cases e
 simp only[go_sem,dz,x];refine aD L.ord Ev ?_;simp only[go_sem,d6,u];refine aD (L.ends l i he) Ev ?_;simp only[go_sem];exact bS Ev (by rw[aiE i.start,atJ])
theorem abX(L:j2 C)(l:cV)(A:l.Ok):vh.wp C (aV vC.res (cN (.bool (nA l)))) (g_ [.agg l.cells]) .nil:=by
 rw[Jk];simp only[go_sem,vh,vC,asO];refine aD (L.inn l.start.length 1 4) Ev ?_;cases R:within l.start.length 1 4 with
 |false =>simp only[go_sem,atH];exact bS Ev (by simp only[atE])
 |true=>
  obtain⟨X,Y⟩:=within_iff.1 R;by_cases F:Z' l.exit=Z' l.start;rw[aW F];by_cases J:Z' l.arG=Z' l.start
  ·rw[aW J];simp only[go_sem,asY,asO,cB (Om:(Z' l.exit:Int)=(Z' l.start:Nat)),cB (Om:(Z' l.arG:Int)=(Z' l.start:Nat))];refine aD (L.Wz l.start ⟨A.start.fits,A.start.all⟩) Ev ?_;cases U:l.start.all dS with
   |false =>simp only[go_sem,atH];exact bS Ev (by simp only[atE])
   |true=>
    simp only[go_sem,asY];refine aD (L.Wz l.exit A.exit) Ev ?_;cases V:l.exit.all dS with
    |false =>simp only[go_sem,atH];exact bS Ev (by simp only[atE])
    |true=>
     simp only[go_sem,asY,asO];have B:∀k (h:k<Z' l.arG),yH l k=(decide ((l.arG[k]).length=Z' l.start)&&(l.arG[k]).all dS&&!((l.arG[k]).map bY).getD k false):=by
      intro k h;have:l.arG.getD k []=l.arG[k]:=by simp[asW,h]
      rw[yH,this]
     refine wp_loop (α:=Nat) (λk=>Wm l k) (λ_=>.nil) (λk=>k<=Z' l.arG/\xI (yH l) k) (λk=>Z' l.arG-k) 0 ⟨asQ _,.zero⟩ ?_ a_ ?_;unfold Wm;exact lM;rintro k ⟨W,O⟩;simp only[go_sem,Wm];by_cases hlt:k<Z' l.arG;have u:(k:Int)<(Z' l.arG:Nat):=Om;have E:(l.arG.map λr=>[frs r])[k]?=some [frs l.arG[k]]:=by simp[hlt]
     have e:=B k hlt;have x:=A.row l.arG[k] (asS hlt);simp only[go_sem,u,E,asO];by_cases K:(l.arG[k]).length=Z' l.start
     ·rw[aW K,atJ]at e;simp only[go_sem,cB (show(((l.arG[k]).length:Nat):Int)=(Z' l.start:Nat) by omega)];refine aD (L.Wz _ x) Ev ?_;cases M:(l.arG[k]).all dS with
      |false =>rw[M,atE]at e;simp only[go_sem,atH];refine bS (b:=false) Ev ?_;have:(asP l.arG.length).all (yH l)=false:=gW hlt e;rw[this];simp only[atE,auF]
      |true=>
       have y:k<(l.arG[k]).length:=Om;have S:((l.arG[k]).map RF.cells)[k]?=some ((l.arG[k])[k]).cells:=by simp[y]
       have D:((l.arG[k]).map bY).getD k false=bY (l.arG[k])[k]:=by simp[asW,y]
       rw[M,atJ,D]at e;simp only[go_sem,asY,S];refine aD (L.vX _ (x.all _ (asS y))) Ev ?_;cases N:bY (l.arG[k])[k]with
       |true =>rw[N]at e;simp only[go_sem];refine bS (b:=false) Ev ?_;have:(asP l.arG.length).all (yH l)=false:=gW hlt e;rw[this];simp only[atE,auF]
       |false =>rw[N]at e;simp only[go_sem,wZz k];refine aE (k+1) ⟨hlt,O.step e⟩ Om ?_ a_;exact Lq
     simp only[bD K,atE]at e;simp only[go_sem,cY (show(((l.arG[k]).length:Nat):Int)≠(Z' l.start:Nat) by omega)];refine bS (b:=false) Ev ?_;have:(asP l.arG.length).all (yH l)=false:=gW hlt e;rw[this];simp only[atE,auF];have u:¬(k:Int)<(Z' l.arG:Nat):=Om;have:k=Z' l.arG:=Om;subst this;have w:(asP l.arG.length).all (yH l)=true:=O;have he:IV l:=⟨by omega,by omega,λr E=>by obtain⟨i,hi,rfl⟩:=auG E;have:=atI.1 w i (atQ.2 hi);rw[B i hi]at this;simp only[asV,dT_]at this;omega⟩
     have tail:=Q8 L l A he;simp only[aJ.wp,go_sem]at tail;rw[w];simp only[go_sem,u,atJ,avK];exact tail _ Sq
  simp only[go_sem,asY,asO,cB (Om:(Z' l.exit:Int)=(Z' l.start:Nat)),cY (Om:(Z' l.arG:Int)≠(Z' l.start:Nat))];exact bS Ev (by rw[bD J];simp only[atE,auF]);simp only[go_sem,asY,asO,cY (Om:(Z' l.exit:Int)≠(Z' l.start:Nat))];exact bS Ev (by rw[bD F];simp only[atE,auF])
structure nU(C:Ctx):Prop extends j2 C where
 law:∀l:cV,l.Ok->aH C 95 [.agg l.cells] .nil (aK (.bool (nA l)))
 pol:∀(p:bX)(n:Nat),p.Ok->n<=4->aH C 112 [.agg p.cells,.int .i64 n] .nil (aK (.bool (lN n p)))
 arL:∀f:aB,f.Ok->aH C 111 [.agg f.cells] .nil (aK (.bool (sU f)))
abbrev hZ(l:List (List UInt8)):P2_:=l.map λs=>[PV.str s]
theorem DM(l:List (List UInt8)){k:Nat}(h:k<Z' l):hZ (l.take k)++[[.str l[k]]]=hZ (l.take (k+1)):=by
 unfold hZ;rw[atW h,atK];rfl
theorem zB{l:List (List UInt8)}(h:Z' l<=1000):roomFor (hZ l).length 1 16:=by
 unfold roomFor hZ;simp only[asO,maxLen];omega
def kV{α:Type}(l:List α)(p:α->Bool)(k:Nat):Bool:=(l.take k).all p
theorem zM{α:Type}(l:List α)(p:α->Bool):kV l p 0=true:=rfl
theorem zL{α:Type}(l:List α)(p:α->Bool){k:Nat}(h:k<Z' l):kV l p (k+1)=(kV l p k&&p l[k]):=by
 unfold kV;rw[atW h,awG];simp
theorem CQ{α:Type}(l:List α)(p:α->Bool):kV l p l.length=l.all p:=by unfold kV;rw[atL]
def lF(f:aB)(e i l u w:PV)(ok:Bool):PF:=(((((((n_.set 1 (.aU f.cells)).set 3 (e)).set 4 (i)).set 5 (l)).set 6 (u)).set 7 (w)).set 8 (.bool ok))
structure oG(F:PF)(f:aB)(w3 w4 w5 w6 w7:PV)(ok:Bool):Prop where
 a1:F 1=some (.aU f.cells)
 a3:F 3=some w3
 a4:F 4=some w4
 a5:F 5=some w5
 a6:F 6=some w6
 a7:F 7=some w7
 a8:F 8=some (.bool ok)
theorem Mn(L:nU C)(f:aB)(S:f.Ok)(Y:Z' f.arJ<=4)(E J M N:PV)(K:bP)(F:PF)(H:PH)(u:oG F f .aG E J M N true)
  (A:F 67=some (.sl 4 (f.arJ.map cV.cells))) (B:F 68=some (.j (Z' f.arJ:Nat))) (D:F 69=some (.j 0))
  (R:∀v O H',oG O f v E J M N (f.arJ.all nA)->bC H' 1 v (hZ (f.arJ.map cV.name))->K (.exit 0) O H') :
  aJ.wp C (.loop OP) K F H:=by
 refine wp_loop (α:=T3_) (λt=>(((lF f t.2.1 E J M N (kV f.arJ nA t.1)).set 67 (.sl 4 (f.arJ.map cV.cells))).set 68 (.j (Z' f.arJ:Nat))).set 69 (.j t.1)) (λt=>t.2.2)
  (λt=>t.1<=Z' f.arJ/\bC t.2.2 1 t.2.1 (hZ ((f.arJ.map cV.name).take t.1))) (λt=>Z' f.arJ-t.1) (0,.aG,.nil) ⟨asQ _,.nil⟩ ?_ a_ ?_
 unfold lF
 (repeat' (first|exact c_|refine e_ ?_ ?_))<;>first|(simp only[go_sem,u.a1,u.a3,u.a4,u.a5,u.a6,u.a7,u.a8,A,B,D,zM]<;>rfl)|rfl
 rintro⟨k,v,X⟩ ⟨U,y⟩;simp only at U y ⊢;simp only[go_sem,OP,lF];by_cases hlt:k<Z' f.arJ
 ·have i:(k:Int)<(Z' f.arJ:Nat):=Om;have W:(f.arJ.map cV.cells)[k]?=some (f.arJ[k]).cells:=by simp[hlt]
  have x:=DM (f.arJ.map cV.name) (k:=k) (by simpa using hlt);rw[auN]at x;simp only[go_sem,i,W];refine aQ λo V=>?_;simp only[go_sem];refine rS y V (zB (by simp;omega)) λv' H' l w=>?_;rw[x]at l;have e:=zL f.arJ nA hlt;cases hb:kV f.arJ nA k with
  |false =>rw[hb,atE]at e;simp only[go_sem,w,wZz k];refine aE (k+1,v',H') ⟨hlt,l⟩ sO_ ?_ b_;simp only[e];exact Lq
  |true =>rw[hb,atJ]at e;simp only[go_sem,w];refine aD (L.law _ (S.law _ (asS hlt))) Ev ?_;simp only[go_sem,wZz k];refine aE (k+1,v',H') ⟨hlt,l⟩ sO_ ?_ b_;simp only[e];exact Lq
 have i:¬(k:Int)<(Z' f.arJ:Nat):=Om;have:k=Z' f.arJ:=Om;subst this;rw[atP aZ]at y;rw[CQ];simp only[go_sem,i];exact R v _ _ ⟨s_,s_,s_,s_,s_,s_,s_⟩ y
theorem KI{n:Nat}(h:n<=1000):i_.wrap ((n:Int)-1)=(n:Int)-1:=wrap_i64 Om Om
theorem Mo(L:nU C)(f:aB)(hs:Z' f.arC<=4)(hl:Z' f.arJ<=4)(x:Bool)(D E J M:PV)(K:bP)(F:PF)(H:PH)(u:oG F f D .aG E J M x)
  (R:F 85=some (.sl 4 (f.arC.map dN.cells))) (S:F 86=some (.j (Z' f.arC:Nat))) (U:F 87=some (.j 0))
  (W:∀v w H',oG w f D v E J M (x&&f.arC.all (nB f))->bC H' 1 v (hZ (f.arC.map dN.name))->K (.exit 2) w H') :
  aJ.wp C (.loop OQ) K F H:=by
 refine wp_loop (α:=T3_) (λt=>(((lF f D t.2.1 E J M (x&&kV f.arC (nB f) t.1)).set 85 (.sl 4 (f.arC.map dN.cells))).set 86 (.j (Z' f.arC:Nat))).set 87 (.j t.1)) (λt=>t.2.2)
  (λt=>t.1<=Z' f.arC/\bC t.2.2 1 t.2.1 (hZ ((f.arC.map dN.name).take t.1))) (λt=>Z' f.arC-t.1) (0,.aG,.nil) ⟨asQ _,.nil⟩ ?_ a_ ?_
 unfold lF
 (repeat' (first|exact c_|refine e_ ?_ ?_))<;>first|(simp only[go_sem,u.a1,u.a3,u.a4,u.a5,u.a6,u.a7,u.a8,R,S,U,zM,avK]<;>rfl)|rfl
 rintro⟨k,v,H0⟩ ⟨Y,N⟩;simp only at Y N ⊢;simp only[go_sem,OQ,lF];by_cases hlt:k<Z' f.arC
 ·have e:(k:Int)<(Z' f.arC:Nat):=Om;have hr:(f.arC.map dN.cells)[k]?=some (f.arC[k]).cells:=by simp[hlt]
  have B:=DM (f.arC.map dN.name) (k:=k) (by simpa using hlt);rw[auN]at B;simp only[go_sem,e,hr];refine aQ λo Z=>?_;simp only[go_sem];refine rS N Z (zB (by simp;omega)) λv' H' y i=>?_;rw[B]at y;have l:=zL f.arC (nB f) hlt;have fin:∀(c:Bool)(w:PF),c=(x&&kV f.arC (nB f) (k+1))->((((lF f D v' E J M c).set 85 (.sl 4 (f.arC.map dN.cells))).set 86 (.j (Z' f.arC:Nat))).set 87 (.j (k+1:Nat))).le w ->
    fK (λ(t:T3_)=>(((lF f D t.2.1 E J M (x&&kV f.arC (nB f) t.1)).set 85 (.sl 4 (f.arC.map dN.cells))).set 86 (.j (Z' f.arC:Nat))).set 87 (.j t.1)) (λ(t:T3_)=>t.2.2)  (λ(t:T3_)=>t.1<=Z' f.arC/\bC t.2.2 1 t.2.1 (hZ ((f.arC.map dN.name).take t.1))) (λ(t:T3_)=>Z' f.arC-t.1) (Z' f.arC-k) K .normal w H':=by
   intro c w X A;refine aE (α:=T3_) (k+1,v',H') ⟨hlt,y⟩ sO_ ?_ b_;rw[X]at A;exact A
  unfold lF at fin;rw[l,<-awF]at fin;have V:nB f f.arC[k]=(within (f.arC[k]).arS 1 16&&within (f.arC[k]).port 1 64&&within (f.arC[k]).law 0 ((Z' f.arJ:Int)-1)):=rfl;cases hb:(x&&kV f.arC (nB f) k)with
  |false =>rw[hb,atE]at fin;simp only[go_sem,i,wZz k];refine fin false _ rfl ?_;exact Lq
  |true=>
   rw[hb,atJ]at fin;simp only[go_sem,i];refine aD (L.inn _ 1 16) Ev ?_;cases O:within (f.arC[k]).arS 1 16 with
   |false =>simp only[go_sem,wZz k];refine fin false _ (by rw[V,O];simp only[atE]) ?_;exact Lq
   |true=>
    simp only[go_sem,i];refine aD (L.inn _ 1 64) Ev ?_;cases e2:within (f.arC[k]).port 1 64 with
    |false =>simp only[go_sem,wZz k];refine fin false _ (by rw[V,O,e2];simp only[atE,auF]) ?_;exact Lq
    |true =>simp only[go_sem,i,asO,KI (Om:Z' f.arJ<=1000)];refine aD (L.inn _ 0 _) Ev ?_;simp only[go_sem,wZz k];refine fin (within (f.arC[k]).law 0 ((Z' f.arJ:Int)-1)) _ (by rw[V,O,e2];simp only[atJ]) ?_;exact Lq
 have e:¬(k:Int)<(Z' f.arC:Nat):=Om;have:k=Z' f.arC:=Om;subst this;rw[atP aZ]at N;rw[CQ];simp only[go_sem,e];exact W v _ _ ⟨s_,s_,s_,s_,s_,s_,s_⟩ N
theorem Mp(L:nU C)(f:aB)(t:List cU)(X:Z' t<=40)(x:Bool)(D E J M:PV)(K:bP)(F:PF)(H:PH)(i:oG F f D E .aG J M x)
  (y:F 119=some (.sl 7 (t.map cU.cells))) (A:F 120=some (.j (Z' t:Nat))) (B:F 121=some (.j 0))
  (O:∀v N H',oG N f D E v J M x->bC H' 1 v (hZ (t.map cU.name))->K (.exit 4) N H') :
  aJ.wp C (.loop OR) K F H:=by
 refine wp_loop (α:=T3_) (λa=>(((lF f D E a.2.1 J M x).set 119 (.sl 7 (t.map cU.cells))).set 120 (.j (Z' t:Nat))).set 121 (.j a.1)) (λa=>a.2.2)
  (λa=>a.1<=Z' t/\bC a.2.2 1 a.2.1 (hZ ((t.map cU.name).take a.1))) (λa=>Z' t-a.1) (0,.aG,.nil) ⟨asQ _,.nil⟩ ?_ a_ ?_
 unfold lF
 (repeat' (first|exact c_|refine e_ ?_ ?_))<;>first|(simp only[go_sem,i.a1,i.a3,i.a4,i.a5,i.a6,i.a7,i.a8,y,A,B]<;>rfl)|rfl
 rintro⟨k,v,W⟩ ⟨R,w⟩;simp only at R w ⊢;simp only[go_sem,OR,lF];by_cases hlt:k<Z' t;have e:(k:Int)<(Z' t:Nat):=Om;have V:(t.map cU.cells)[k]?=some (t[k]).cells:=by simp[hlt]
 have u:=DM (t.map cU.name) (k:=k) (by simpa using hlt);rw[auN]at u;simp only[go_sem,e,V];refine aQ λo S=>?_;simp only[go_sem];refine rS w S (zB (by simp;omega)) λv' H' l U=>?_;rw[u]at l;simp only[go_sem,wZz k];refine aE (k+1,v',H') ⟨hlt,l⟩ sO_ ?_ b_;exact Lq;have e:¬(k:Int)<(Z' t:Nat):=Om;have:k=Z' t:=Om;subst this;rw[atP aZ]at w;simp only[go_sem,e];exact O v _ _ ⟨s_,s_,s_,s_,s_,s_,s_⟩ w
theorem Mq(L:nU C)(f:aB)(e:List (List UInt8))(hn:Z' e<=40)(hs:Z' f.arB<=24)(hm:Z' f.arC<=4)(hd:Z' f.arE<=40)(A:Bool)(J M v0 N O:PV)(K:bP)(F:PF)(H:PH)(x:oG F f J M v0 N O A)
  (h0:bC H 1 v0 (hZ e))
  (V:F 132=some (.sl 3 (f.arB.map eN.cells))) (W:F 133=some (.j (Z' f.arB:Nat))) (X:F 134=some (.j 0))
  (hK:∀v y H',oG y f J M v N O (A&&f.arB.all (kR f))->bC H' 1 v (hZ (e++f.arB.map eN.name))->K (.exit 6) y H') :
  aJ.wp C (.loop OS) K F H:=by
 refine wp_loop (α:=T3_) (λt=>(((lF f J M t.2.1 N O (A&&kV f.arB (kR f) t.1)).set 132 (.sl 3 (f.arB.map eN.cells))).set 133 (.j (Z' f.arB:Nat))).set 134 (.j t.1)) (λt=>t.2.2)
  (λt=>t.1<=Z' f.arB/\bC t.2.2 1 t.2.1 (hZ (e++(f.arB.map eN.name).take t.1))) (λt=>Z' f.arB-t.1) (0,v0,H) ⟨asQ _,by rw[avA,auA];exact h0⟩ ?_ b_ ?_
 unfold lF
 (repeat' (first|exact c_|refine e_ ?_ ?_))<;>first|(simp only[go_sem,x.a1,x.a3,x.a4,x.a5,x.a6,x.a7,x.a8,V,W,X,zM,avK]<;>rfl)|rfl
 rintro⟨k,v,H0⟩ ⟨hk,U⟩;simp only at hk U ⊢;simp only[go_sem,OS,lF];by_cases hlt:k<Z' f.arB
 ·have i:(k:Int)<(Z' f.arB:Nat):=Om;have hr:(f.arB.map eN.cells)[k]?=some (f.arB[k]).cells:=by simp[hlt]
  have Z:hZ (e++(f.arB.map eN.name).take k)++[[.str (f.arB[k]).name]]=hZ (e++(f.arB.map eN.name).take (k+1)):=by rw[atW (by simpa using hlt),<-atV,auN];unfold hZ;simp only[atK,atU,auH]
  simp only[go_sem,i,hr];refine aQ λo ho=>?_;simp only[go_sem];refine rS U ho (zB (by simp;omega)) λv' H' B u=>?_;rw[Z]at B;have w:=zL f.arB (kR f) hlt;have fin:∀(c:Bool)(y:PF),c=(A&&kV f.arB (kR f) (k+1))->((((lF f J M v' N O c).set 132 (.sl 3 (f.arB.map eN.cells))).set 133 (.j (Z' f.arB:Nat))).set 134 (.j (k+1:Nat))).le y ->
    fK (λ(t:T3_)=>(((lF f J M t.2.1 N O (A&&kV f.arB (kR f) t.1)).set 132 (.sl 3 (f.arB.map eN.cells))).set 133 (.j (Z' f.arB:Nat))).set 134 (.j t.1)) (λ(t:T3_)=>t.2.2)  (λ(t:T3_)=>t.1<=Z' f.arB/\bC t.2.2 1 t.2.1 (hZ (e++(f.arB.map eN.name).take t.1))) (λ(t:T3_)=>Z' f.arB-t.1) (Z' f.arB-k) K .normal y H':=by
   intro c y hc D;refine aE (α:=T3_) (k+1,v',H') ⟨hlt,B⟩ sO_ ?_ b_;rw[hc]at D;exact D
  unfold lF at fin;rw[w,<-awF]at fin;have l:kR f f.arB[k]=(within (f.arB[k]).model 0 ((Z' f.arC:Int)-1)&&within (f.arB[k]).machine 0 ((Z' f.arE:Int)-1)&&decide ((f.arE.map cU.level).getD (f.arB[k]).machine.toNat 0=4)):=rfl;cases hb:(A&&kV f.arB (kR f) k)with
  |false =>rw[hb,atE]at fin;simp only[go_sem,u,wZz k];refine fin false _ rfl ?_;exact Lq
  |true=>
   rw[hb,atJ]at fin;simp only[go_sem,u,asO,KI (Om:Z' f.arC<=1000)];refine aD (L.inn _ 0 _) Ev ?_;cases R:within (f.arB[k]).model 0 ((Z' f.arC:Int)-1)with
   |false =>simp only[go_sem,wZz k];refine fin false _ (by rw[l,R];simp only[atE]) ?_;exact Lq
   |true=>
    simp only[go_sem,u,asO,KI (Om:Z' f.arE<=1000)];refine aD (L.inn _ 0 _) Ev ?_;cases e2:within (f.arB[k]).machine 0 ((Z' f.arE:Int)-1)with
    |false =>simp only[go_sem,wZz k];refine fin false _ (by rw[l,R,e2];simp only[atE,auF]) ?_;exact Lq
    |true=>
     obtain⟨i1,i2⟩:=within_iff.1 e2;have i3:(f.arB[k]).machine.toNat<Z' f.arE:=Om;have E:(f.arE.map cU.cells)[(f.arB[k]).machine.toNat]?=some (f.arE[(f.arB[k]).machine.toNat]).cells:=by simp[i3]
     have Y:(f.arE.map cU.level).getD (f.arB[k]).machine.toNat 0=(f.arE[(f.arB[k]).machine.toNat]).level:=by simp[i3]
     rw[Y]at l;by_cases S:(f.arE[(f.arB[k]).machine.toNat]).level=4;simp only[go_sem,u,i1,E,bR S,wZz k];refine fin true _ (by rw[l,R,e2,aW S];rfl) ?_;exact Lq;simp only[go_sem,u,i1,E,bH S,wZz k];refine fin false _ (by rw[l,R,e2,bD S];rfl) ?_;exact Lq
 have i:¬(k:Int)<(Z' f.arB:Nat):=Om;have:k=Z' f.arB:=Om;subst this;rw[atP aZ]at U;rw[CQ];simp only[go_sem,i];exact hK v _ _ ⟨s_,s_,s_,s_,s_,s_,s_⟩ U
theorem Mr(L:nU C)(f:aB)(W:f.Ok)(hs:Z' f.arF<=4)(Y:Z' f.arC<=4)(w:Bool)(D E J M:PV)(K:bP)(F:PF)(H:PH)(l:oG F f D E J .aG M w)
  (O:F 174=some (.sl 17 (f.arF.map bX.cells))) (R:F 175=some (.j (Z' f.arF:Nat))) (S:F 176=some (.j 0))
  (U:∀v u H',oG u f D E J v M (w&&f.arF.all (lN f.arC.length))->bC H' 1 v (hZ (f.arF.map bX.name))->K (.exit 8) u H') :
  aJ.wp C (.loop OT) K F H:=by
 refine wp_loop (α:=T3_) (λt=>(((lF f D E J t.2.1 M (w&&kV f.arF (lN f.arC.length) t.1)).set 174 (.sl 17 (f.arF.map bX.cells))).set 175 (.j (Z' f.arF:Nat))).set 176 (.j t.1)) (λt=>t.2.2)
  (λt=>t.1<=Z' f.arF/\bC t.2.2 1 t.2.1 (hZ ((f.arF.map bX.name).take t.1))) (λt=>Z' f.arF-t.1) (0,.aG,.nil) ⟨asQ _,.nil⟩ ?_ a_ ?_
 unfold lF
 (repeat' (first|exact c_|refine e_ ?_ ?_))<;>first|(simp only[go_sem,l.a1,l.a3,l.a4,l.a5,l.a6,l.a7,l.a8,O,R,S,zM,avK]<;>rfl)|rfl
 rintro⟨k,v,H0⟩ ⟨X,N⟩;simp only at X N ⊢;simp only[go_sem,OT,lF];by_cases hlt:k<Z' f.arF
 ·have e:(k:Int)<(Z' f.arF:Nat):=Om;have hr:(f.arF.map bX.cells)[k]?=some (f.arF[k]).cells:=by simp[hlt]
  have B:=DM (f.arF.map bX.name) (k:=k) (by simpa using hlt);rw[auN]at B;simp only[go_sem,e,hr];refine aQ λo Z=>?_;simp only[go_sem];refine rS N Z (zB (by simp;omega)) λv' H' x A=>?_;rw[B]at x;have i:=zL f.arF (lN f.arC.length) hlt;have fin:∀(c:Bool)(u:PF),c=(w&&kV f.arF (lN f.arC.length) (k+1))->((((lF f D E J v' M c).set 174 (.sl 17 (f.arF.map bX.cells))).set 175 (.j (Z' f.arF:Nat))).set 176 (.j (k+1:Nat))).le u ->
    fK (λ(t:T3_)=>(((lF f D E J t.2.1 M (w&&kV f.arF (lN f.arC.length) t.1)).set 174 (.sl 17 (f.arF.map bX.cells))).set 175 (.j (Z' f.arF:Nat))).set 176 (.j t.1)) (λ(t:T3_)=>t.2.2)  (λ(t:T3_)=>t.1<=Z' f.arF/\bC t.2.2 1 t.2.1 (hZ ((f.arF.map bX.name).take t.1))) (λ(t:T3_)=>Z' f.arF-t.1) (Z' f.arF-k) K .normal u H':=by
   intro c u V y;refine aE (α:=T3_) (k+1,v',H') ⟨hlt,x⟩ sO_ ?_ b_;rw[V]at y;exact y
  unfold lF at fin;rw[i,<-awF]at fin;cases hb:(w&&kV f.arF (lN f.arC.length) k)with
  |false =>rw[hb,atE]at fin;simp only[go_sem,A,wZz k];refine fin false _ rfl ?_;exact Lq
  |true =>rw[hb,atJ]at fin;simp only[go_sem,A,asO];refine aD (L.pol _ _ (W.arO _ (asS hlt)) Y) Ev ?_;simp only[go_sem,wZz k];refine fin _ _ rfl ?_;exact Lq
 have e:¬(k:Int)<(Z' f.arF:Nat):=Om;have:k=Z' f.arF:=Om;subst this;rw[atP aZ]at N;rw[CQ];simp only[go_sem,e];exact U v _ _ ⟨s_,s_,s_,s_,s_,s_,s_⟩ N
theorem Ms(L:nU C)(f:aB)(hs:Z' f.arD<=12)(hl:Z' f.arF<=4)(w:Bool)(D E J M:PV)(K:bP)(F:PF)(H:PH)(l:oG F f D E J M .aG w)
  (O:F 195=some (.sl 2 (f.arD.map gD.cells))) (R:F 196=some (.j (Z' f.arD:Nat))) (S:F 197=some (.j 0))
  (U:∀v u H',oG u f D E J M v (w&&f.arD.all (tJ f))->bC H' 1 v (hZ (f.arD.map gD.name))->K (.exit 10) u H') :
  aJ.wp C (.loop OU) K F H:=by
 refine wp_loop (α:=T3_) (λt=>(((lF f D E J M t.2.1 (w&&kV f.arD (tJ f) t.1)).set 195 (.sl 2 (f.arD.map gD.cells))).set 196 (.j (Z' f.arD:Nat))).set 197 (.j t.1)) (λt=>t.2.2)
  (λt=>t.1<=Z' f.arD/\bC t.2.2 1 t.2.1 (hZ ((f.arD.map gD.name).take t.1))) (λt=>Z' f.arD-t.1) (0,.aG,.nil) ⟨asQ _,.nil⟩ ?_ a_ ?_
 unfold lF
 (repeat' (first|exact c_|refine e_ ?_ ?_))<;>first|(simp only[go_sem,l.a1,l.a3,l.a4,l.a5,l.a6,l.a7,l.a8,O,R,S,zM,avK]<;>rfl)|rfl
 rintro⟨k,v,H0⟩ ⟨W,N⟩;simp only at W N ⊢;simp only[go_sem,OU,lF];by_cases hlt:k<Z' f.arD
 ·have e:(k:Int)<(Z' f.arD:Nat):=Om;have Z:(f.arD.map gD.cells)[k]?=some (f.arD[k]).cells:=by simp[hlt]
  have B:=DM (f.arD.map gD.name) (k:=k) (by simpa using hlt);rw[auN]at B;simp only[go_sem,e,Z];refine aQ λo Y=>?_;simp only[go_sem];refine rS N Y (zB (by simp;omega)) λv' H' x A=>?_;rw[B]at x;have i:=zL f.arD (tJ f) hlt;have fin:∀(c:Bool)(u:PF),c=(w&&kV f.arD (tJ f) (k+1))->((((lF f D E J M v' c).set 195 (.sl 2 (f.arD.map gD.cells))).set 196 (.j (Z' f.arD:Nat))).set 197 (.j (k+1:Nat))).le u ->
    fK (λ(t:T3_)=>(((lF f D E J M t.2.1 (w&&kV f.arD (tJ f) t.1)).set 195 (.sl 2 (f.arD.map gD.cells))).set 196 (.j (Z' f.arD:Nat))).set 197 (.j t.1)) (λ(t:T3_)=>t.2.2)  (λ(t:T3_)=>t.1<=Z' f.arD/\bC t.2.2 1 t.2.1 (hZ ((f.arD.map gD.name).take t.1))) (λ(t:T3_)=>Z' f.arD-t.1) (Z' f.arD-k) K .normal u H':=by
   intro c u V y;refine aE (α:=T3_) (k+1,v',H') ⟨hlt,x⟩ sO_ ?_ b_;rw[V]at y;exact y
  unfold lF at fin;rw[i,<-awF]at fin;have X:tJ f f.arD[k]=within (f.arD[k]).arO 0 ((Z' f.arF:Int)-1):=rfl;cases hb:(w&&kV f.arD (tJ f) k)with
  |false =>rw[hb,atE]at fin;simp only[go_sem,A,wZz k];refine fin false _ rfl ?_;exact Lq
  |true =>rw[hb,atJ,X]at fin;simp only[go_sem,A,asO,KI (Om:Z' f.arF<=1000)];refine aD (L.inn _ 0 _) Ev ?_;simp only[go_sem,wZz k];refine fin _ _ rfl ?_;exact Lq
 have e:¬(k:Int)<(Z' f.arD:Nat):=Om;have:k=Z' f.arD:=Om;subst this;rw[atP aZ]at N;rw[CQ];simp only[go_sem,e];exact U v _ _ ⟨s_,s_,s_,s_,s_,s_,s_⟩ N
theorem sF{f:aB}(h:¬(Z' f.arJ<=4/\Z' f.arC<=4/\Z' f.arE<=40/\Z' f.arB<=24/\Z' f.arF<=4/\Z' f.arD<=12)):sE f=false:=by
 rw[<-Bool.not_eq_true];intro e;simp only[sE,asV,dT_]at e;omega
theorem Ic{f:aB}(h:Z' f.arJ<=4/\Z' f.arC<=4/\Z' f.arE<=40/\Z' f.arB<=24/\Z' f.arF<=4/\Z' f.arD<=12):sE f=within f.asG 1 4:=by
 obtain⟨e,i,l,u,h5,w⟩:=h;simp[sE,e,i,l,u,h5,w]
theorem rF{t:Nat}{n m:Int}{F:PF}{H:PH}(h:F t=some (.j n))(e:n=m):aV [.tmp t] (cN (.j m)) .ret F H:=by
 subst e;exact bM (.inr rfl) .nil (vs:=[.j n]) (by rw[nT,sB,h,uE]) a_ ⟨.refl _,rfl⟩
def yL(f:aB):Int:=if cI f then 0 else 1
theorem O6{f:aB}(h:cI f=false):yL f=1:=by rw[yL,h];rfl
theorem AZ{F:PF}{H:PH}{name t s:Nat}{v r:PV}{rows:P2_}{d:O_}{K:K_}(h:aH C name [.sl s rows] .nil (aK r))(y:bC H s v rows)(w:F t=some v)
  (l:∀(e:PF)(x:PH),(∀i u,F i=some u->Pure u->e i=some u)->K (e.put d r) x):jX C name [.tmp t] [] d K F H:=by
 rcases y with⟨rfl,rfl⟩|⟨q,rs,rfl,h1,h2,h3⟩
 refine aD (h.Ob (.inl ⟨rfl,rfl⟩)) (by rw[HG,lm,w,YJ]) ?_;exact l F H λi u hi _=>hi;rw[<-h3]at h;refine ry (k:=Z' rows) h w h1 h2 (l _ _ λi u hi hp=>?_);rw[uZ,hi,atO,hp q s rs]
theorem Seen.pure{s:Nat}{v:PV}{rows:P2_}(h:Seen s v rows):Pure v:=by
 rcases h with⟨_,rfl⟩|rfl
 exact λ_ _ _=>rfl;exact λ_ _ _=>rfl
def bI(b:Bool):Int:=if b then 0 else 1
abbrev YQ(f:aB):List (List UInt8):=(f.arE.drop 1).map cU.name++f.arB.map eN.name
def CN(f:aB):Bool:=distinct (f.arJ.map cV.name)&&distinct (f.arC.map dN.name)&&distinct (YQ f)&&distinct (f.arF.map bX.name)&&distinct (f.arD.map gD.name)
structure Small(f:aB):Prop where
 arJ:Z' f.arJ<=4
 arC:Z' f.arC<=4
 arE:Z' f.arE<=40
 arB:Z' f.arB<=24
 arF:Z' f.arF<=4
 arD:Z' f.arD<=12
theorem JQ(L:nU C){v:PV}{l:List (List UInt8)}(h:Seen 1 v (hZ l))(e:Z' l<=1000):aH C 110 [v] .nil (aK (.bool (distinct l))):=
 (L.uniq l (Om:Z' l<=9223372036854775807)).Ob h
theorem We(L:nU C)(f:aB)(E:Small f)(i l u w x:PV)(ok:Bool)(F:PF)(H:PH)(e:oG F f i l u w x ok)
  (A:Seen 1 i (hZ (f.arJ.map cV.name))) (B:Seen 1 l (hZ (f.arC.map dN.name))) (h5:Seen 1 u (hZ (YQ f))) (D:Seen 1 w (hZ (f.arF.map bX.name))) (h7:bC H 1 x (hZ (f.arD.map gD.name))) :
  aJ.wp C (.seq (.seq (.region HM) (.cond (.tmp 243) (.seq (.region sW) .ret) .skip)) (.seq (.region OV) .ret)) (aV [.tmp 2] (cN (.j (bI (ok&&CN f))))) F H:=by
 obtain⟨s1,s2,s3,s4,Y,Z⟩:=E;have J:(f.arJ.map cV.name).length<=1000:=by simp;omega
 have K:(f.arC.map dN.name).length<=1000:=by simp;omega
 have M:(YQ f).length<=1000:=by simp;omega
 have N:(f.arF.map bX.name).length<=1000:=by simp;omega
 have O:(f.arD.map gD.name).length<=9223372036854775807:=by simp;omega
 cases ok with
 |false =>simp only[go_sem,HM,e.a8,sW];exact rF rfl rfl
 |true=>
  simp only[go_sem,HM,e.a8,e.a3];refine aD (JQ L A J) rfl ?_;unfold CN;cases S:distinct (f.arJ.map cV.name)with
  |false =>simp only[go_sem,sW,atH];exact rF rfl rfl
  |true=>
   simp only[go_sem,e.a4,asY];refine aD (JQ L B K) rfl ?_;cases U:distinct (f.arC.map dN.name)with
   |false =>simp only[go_sem,sW,atH];exact rF rfl rfl
   |true=>
    simp only[go_sem,e.a5,asY];refine aD (JQ L h5 M) rfl ?_;cases V:distinct (YQ f)with
    |false =>simp only[go_sem,sW,atH];exact rF rfl rfl
    |true=>
     simp only[go_sem,e.a6,asY];refine aD (JQ L D N) rfl ?_;cases W:distinct (f.arF.map bX.name)with
     |false =>simp only[go_sem,sW,atH];exact rF rfl rfl
     |true=>
      simp only[go_sem,e.a7,asY];refine AZ (L.uniq _ O) h7 rfl λy R hp=>?_;have g:y 239=some (.bool false):=hp 239 _ rfl λ_ _ _=>rfl;cases X:distinct (f.arD.map gD.name)with
      |false =>simp only[go_sem,sW,atH,g];exact rF rfl rfl
      |true =>simp only[go_sem,OV,asY,g];exact rF rfl rfl
abbrev uk(b:Bool):bP:=aV [.tmp 2] (cN (.int .i64 (bI b)))
def A0:aJ:=.seq (.seq (.region fa) (.block 10 (.loop OU))) (.seq (.seq (.region HM) (.cond (.tmp 243) (.seq (.region sW) .ret) .skip)) (.seq (.region OV) .ret))
def Az:aJ:=.seq (.seq (.region ep) (.block 8 (.loop OT))) A0
def Ay:aJ:=.seq (.seq (.region el) (.block 6 (.loop OS))) Az
def Ax:aJ:=.seq (.seq (.region ef) (.block 4 (.loop OR))) Ay
def Aw:aJ:=.seq (.seq (.region d9) (.block 2 (.loop OQ))) Ax
def O5:aJ:=.seq (.seq (.region ta) (.block 0 (.loop OP))) Aw
theorem acI(L:nU C)(f:aB)(x:Small f)(l u w J:PV)(ok:Bool)(F:PF)(H:PH)(i:oG F f l u w J .aG ok)
  (B:Seen 1 l (hZ (f.arJ.map cV.name))) (D:Seen 1 u (hZ (f.arC.map dN.name))) (h5:Seen 1 w (hZ (YQ f))) (O:bC H 1 J (hZ (f.arF.map bX.name))) :
  aJ.wp C A0 (uk (ok&&f.arD.all (tJ f)&&CN f)) F H:=by
 unfold A0;simp only[go_sem,fa,i.a1,asO];refine wT O λE A M N S hp=>?_;refine Ms L f x.arD x.arF ok l u w E _ M N ⟨hp 1 _ (by simp only[go_sem,i.a1]) λ_ _ _=>rfl,hp 3 _ (by simp only[go_sem,i.a3]) B.pure,hp 4 _ (by simp only[go_sem,i.a4]) D.pure,hp 5 _ (by simp only[go_sem,i.a5]) h5.pure,S 6 (by simp only[go_sem,i.a6]),hp 7 _ (by simp only[go_sem,i.a7]) λ_ _ _=>rfl,hp 8 _ (by simp only[go_sem,i.a8]) λ_ _ _=>rfl⟩
  (hp 195 _ rfl λ_ _ _=>rfl) (hp 196 _ rfl λ_ _ _=>rfl) (hp 197 _ rfl λ_ _ _=>rfl) λv K H' y R=>?_
 have e:=We L f x l u w E v _ K H' y B D h5 A R;simp only[aJ.wp,go_sem]at e;simp only[go_sem];exact e
theorem acH(L:nU C)(f:aB)(N:f.Ok)(u:Small f)(i l D:PV)(ok:Bool)(F:PF)(H:PH)(e:oG F f i l D .aG .aG ok)
  (y:Seen 1 i (hZ (f.arJ.map cV.name))) (A:Seen 1 l (hZ (f.arC.map dN.name))) (h5:bC H 1 D (hZ (YQ f))) :
  aJ.wp C Az (uk (ok&&f.arF.all (lN f.arC.length)&&f.arD.all (tJ f)&&CN f)) F H:=by
 unfold Az;simp only[go_sem,ep,e.a1,asO];refine wT h5 λB x J K O hp=>?_;refine Mr L f N u.arF u.arC ok i l B .aG _ J K ⟨hp 1 _ (by simp only[go_sem,e.a1]) λ_ _ _=>rfl,hp 3 _ (by simp only[go_sem,e.a3]) y.pure,hp 4 _ (by simp only[go_sem,e.a4]) A.pure,O 5 (by simp only[go_sem,e.a5]),hp 6 _ (by simp only[go_sem,e.a6]) λ_ _ _=>rfl,hp 7 _ (by simp only[go_sem,e.a7]) λ_ _ _=>rfl,hp 8 _ (by simp only[go_sem,e.a8]) λ_ _ _=>rfl⟩
  (hp 174 _ rfl λ_ _ _=>rfl) (hp 175 _ rfl λ_ _ _=>rfl) (hp 176 _ rfl λ_ _ _=>rfl) λv E H' w M=>?_
 simp only[go_sem];exact acI L f u i l B v _ E H' w y A x M
theorem acG(L:nU C)(f:aB)(E:f.Ok)(i:Small f)(l u x:PV)(ok:Bool)(F:PF)(H:PH)(e:oG F f l u x .aG .aG ok)
  (A:Seen 1 l (hZ (f.arJ.map cV.name))) (B:Seen 1 u (hZ (f.arC.map dN.name))) (h5:bC H 1 x (hZ ((f.arE.drop 1).map cU.name))) :
  aJ.wp C Ay (uk (ok&&f.arB.all (kR f)&&f.arF.all (lN f.arC.length)&&f.arD.all (tJ f)&&CN f)) F H:=by
 unfold Ay;simp only[go_sem,el,e.a1,asO];refine Mq L f ((f.arE.drop 1).map cU.name) (by have:=i.arE;simp;omega) i.arB i.arC i.arE ok l u x .aG .aG _ _ H ⟨by simp only[go_sem,e.a1],by simp only[go_sem,e.a3],by simp only[go_sem,e.a4],by simp only[go_sem,e.a5],by simp only[go_sem,e.a6],by simp only[go_sem,e.a7],by simp only[go_sem,e.a8]⟩ h5
  rfl rfl rfl λv y H' w D=>?_
 simp only[go_sem];exact acH L f E i l u v _ y H' w A B D
theorem acF(L:nU C)(f:aB)(O:f.Ok)(A:Small f)(U:0<Z' f.arE)(l D:PV)(ok:Bool)(F:PF)(H:PH)(e:oG F f l D .aG .aG .aG ok)
  (y:Seen 1 l (hZ (f.arJ.map cV.name))) (M:bC H 1 D (hZ (f.arC.map dN.name))) :
  aJ.wp C Ax (uk (ok&&f.arB.all (kR f)&&f.arF.all (lN f.arC.length)&&f.arD.all (tJ f)&&CN f)) F H:=by
 unfold Ax;have u:(1:Int)<=(Z' f.arE:Nat):=Om;have R:=A.arE;have i:((f.arE.map cU.cells).take f.arE.length).drop 1=(f.arE.drop 1).map cU.cells:=by rw[atP aZ,List.map_drop]
 simp only[go_sem,ef,e.a1,asO,u,auL,i];refine wT M λB x J K S hp=>?_;refine Mp L f (f.arE.drop 1) (by simp;omega) ok l B .aG .aG _ J K ⟨hp 1 _ (by simp only[go_sem,e.a1]) λ_ _ _=>rfl,hp 3 _ (by simp only[go_sem,e.a3]) y.pure,S 4 (by simp only[go_sem,e.a4]),hp 5 _ (by simp only[go_sem,e.a5]) λ_ _ _=>rfl,hp 6 _ (by simp only[go_sem,e.a6]) λ_ _ _=>rfl,hp 7 _ (by simp only[go_sem,e.a7]) λ_ _ _=>rfl,hp 8 _ (by simp only[go_sem,e.a8]) λ_ _ _=>rfl⟩
  (hp 119 _ rfl λ_ _ _=>rfl) (hp 120 _ rfl λ_ _ _=>rfl) (hp 121 _ rfl λ_ _ _=>rfl) λv E H' w N=>?_
 simp only[go_sem];exact acG L f O A l B v _ E H' w y x N
theorem acE(L:nU C)(f:aB)(K:f.Ok)(i:Small f)(J:0<Z' f.arE)(x:PV)(ok:Bool)(F:PF)(H:PH)(e:oG F f x .aG .aG .aG .aG ok)
  (D:bC H 1 x (hZ (f.arJ.map cV.name))) :
  aJ.wp C Aw (uk (ok&&f.arC.all (nB f)&&f.arB.all (kR f)&&f.arF.all (lN f.arC.length)&&f.arD.all (tJ f)&&CN f)) F H:=by
 unfold Aw;simp only[go_sem,d9,e.a1,asO];refine wT D λw u A B M hp=>?_;refine Mo L f i.arC i.arJ ok w .aG .aG .aG _ A B ⟨hp 1 _ (by simp only[go_sem,e.a1]) λ_ _ _=>rfl,M 3 (by simp only[go_sem,e.a3]),hp 4 _ (by simp only[go_sem,e.a4]) λ_ _ _=>rfl,hp 5 _ (by simp only[go_sem,e.a5]) λ_ _ _=>rfl,hp 6 _ (by simp only[go_sem,e.a6]) λ_ _ _=>rfl,hp 7 _ (by simp only[go_sem,e.a7]) λ_ _ _=>rfl,hp 8 _ (by simp only[go_sem,e.a8]) λ_ _ _=>rfl⟩
  (hp 85 _ rfl λ_ _ _=>rfl) (hp 86 _ rfl λ_ _ _=>rfl) (hp 87 _ rfl λ_ _ _=>rfl) λv y H' l E=>?_
 simp only[go_sem];exact acF L f K i J w v _ y H' l u E
theorem acD(L:nU C)(f:aB)(l:f.Ok)(u:Small f)(y:0<Z' f.arE)(F:PF)(H:PH)(e:oG F f .aG .aG .aG .aG .aG true) :
  aJ.wp C O5 (uk (f.arJ.all nA&&f.arC.all (nB f)&&f.arB.all (kR f)&&f.arF.all (lN f.arC.length)&&f.arD.all (tJ f)&&CN f)) F H:=by
 unfold O5;simp only[go_sem,ta,e.a1,asO];refine Mn L f l u.arJ .aG .aG .aG .aG _ _ H ⟨by simp only[go_sem,e.a1],by simp only[go_sem,e.a3],by simp only[go_sem,e.a4],by simp only[go_sem,e.a5],by simp only[go_sem,e.a6],by simp only[go_sem,e.a7],by simp only[go_sem,e.a8]⟩ rfl rfl rfl λv w H' i x=>?_;simp only[go_sem];exact acE L f l u y v _ w H' i x
theorem acC(L:nU C)(f:aB)(E:f.Ok):vk.wp C (aV gK.res (cN (.j (yL f)))) (g_ [.agg f.cells]) .nil:=by
 have he:cI f=(sE f&&sU f&&(f.arJ.all nA&&f.arC.all (nB f)&&f.arB.all (kR f)&&f.arF.all (lN f.arC.length)&&f.arD.all (tJ f))&&CN f):=rfl;simp only[go_sem,vk,gK];refine aD (L.inn f.asG 1 4) rfl ?_;have bad:∀(F:PF)(H:PH),cI f=false->F 2=some (.j 1)->aV [.tmp 2] (cN (.j (yL f))) .ret F H:=λF H M N=>rF N (O6 M).symm;cases D:within f.asG 1 4 with
 |false=>
  have:sE f=false:=by simp[sE,D]
  simp only[go_sem,atH];exact bad _ _ (by rw[he,this];simp only[atE]) rfl
 |true=>
  by_cases s1:Z' f.arJ<=4;have i:¬(Z' f.arJ:Int)>4:=Om;by_cases s2:Z' f.arC<=4;have l:¬(Z' f.arC:Int)>4:=Om;by_cases s3:Z' f.arE<=40;have u:¬(Z' f.arE:Int)>40:=Om;by_cases s4:Z' f.arB<=24;have w:¬(Z' f.arB:Int)>24:=Om;by_cases J:Z' f.arF<=4;have x:¬(Z' f.arF:Int)>4:=Om;by_cases K:Z' f.arD<=12
  ·have y:¬(Z' f.arD:Int)>12:=Om;have A:=Ic ⟨s1,s2,s3,s4,J,K⟩;rw[D]at A;simp only[go_sem,asY,asO,i,l,u,w,x,y];refine aD (L.arL f E) rfl ?_;cases B:sU f with
   |false =>simp only[go_sem,atH];exact bad _ _ (by rw[he,B];simp only[auF,atE]) rfl
   |true=>
    have O:0<Z' f.arE:=by
     rcases avB f.arE.length with h|h
     have:f.arE=[]:=axE h;rw[sU,this]at B;cases B;exact h
    have S:yL f=bI (f.arJ.all nA&&f.arC.all (nB f)&&f.arB.all (kR f)&&f.arF.all (lN f.arC.length)&&f.arD.all (tJ f)&&CN f):=by rw[yL,he,A,B];rfl
    rw[S];simp only[go_sem,asY];have e:=λF H R=>acD L f E ⟨s1,s2,s3,s4,J,K⟩ O F H R;simp only[O5,Aw,Ax,Ay,Az,A0,aJ.wp,go_sem]at e;exact e _ _ ⟨s_,s_,s_,s_,s_,s_,s_⟩
  have y:(Z' f.arD:Int)>12:=Om;simp only[go_sem,asY,asO,i,l,u,w,x,y];exact bad _ _ (by rw[he,sF Om];simp only[atE]) rfl;have x:(Z' f.arF:Int)>4:=Om;simp only[go_sem,asY,asO,i,l,u,w,x];exact bad _ _ (by rw[he,sF Om];simp only[atE]) rfl;have w:(Z' f.arB:Int)>24:=Om;simp only[go_sem,asY,asO,i,l,u,w];exact bad _ _ (by rw[he,sF Om];simp only[atE]) rfl;have u:(Z' f.arE:Int)>40:=Om;simp only[go_sem,asY,asO,i,l,u];exact bad _ _ (by rw[he,sF Om];simp only[atE]) rfl;have l:(Z' f.arC:Int)>4:=Om;simp only[go_sem,asY,asO,i,l];exact bad _ _ (by rw[he,sF Om];simp only[atE]) rfl;have i:(Z' f.arJ:Int)>4:=Om;simp only[go_sem,asY,asO,i];exact bad _ _ (by rw[he,sF Om];simp only[atE]) rfl
def lvl(f:aB)(i:Nat):Int:=(f.arE.map cU.level).getD i 0
def par(f:aB)(i:Nat):Int:=(f.arE.map cU.parent).getD i 0
def tA(f:aB)(i:Nat):Nat:=(par f i).toNat
def cP(f:aB)(d:Nat):Nat:=((f.arB.map eN.machine).getD d 0).toNat
def mdl(f:aB)(d:Nat):Nat:=((f.arB.map eN.model).getD d 0).toNat
def ext(f:aB)(d:Nat):Int:=(f.arC.map dN.arS).getD (mdl f d) 0
def dI(f:aB)(v:Nat):Nat:=((f.arD.map gD.arO).getD v 0).toNat
def ny:bX:=⟨[],0,0,0,0,0,0,0,0,[],[],⟨false,[],[]⟩,⟨false,[],[]⟩⟩
def bF(f:aB)(v:Nat):bX:=f.arF.getD (dI f v) ny
def upN(f:aB):Nat->Nat->Nat
 |0,i=>i
 |k+1,i=>tA f (upN f k i)
theorem getD_at{α β:Type}{l:List α}{g:α->β}{i:Nat}{b:β}(h:i<Z' l):(l.map g).getD i b=g l[i]:=by
 simp[asW,h]
structure VF(f:aB):Prop where
 small:Small f
 root:0<Z' f.arE/\lvl f 0=0/\par f 0=-1
 dom:∀i,0<i->i<Z' f.arE->0<=par f i/\tA f i<i/\lvl f (tA f i)=lvl f i-1/\1<=lvl f i/\lvl f i<=4
 drive:∀d (h:d<Z' f.arB),0<=(f.arB[d]).model/\mdl f d<Z' f.arC/\0<=(f.arB[d]).machine/\cP f d<Z' f.arE/\lvl f (cP f d)=4
 arO:∀p∈f.arF,1<=p.k/\p.k<=6/\0<=p.m/\p.m<=4/\p.k+p.m<=8/\p.s0=0/\(∀l,0<=p.spread l/\p.spread l<=8)/\∀m∈p.arC,0<=m/\m<Z' f.arC
 volume:∀v (h:v<Z' f.arD),0<=(f.arD[v]).arO/\dI f v<Z' f.arF
 model:∀m∈f.arC,1<=m.arS/\m.arS<=16
theorem adO{p:bX}{n:Nat}(h:lN n p=true):∀m∈p.arC,0<=m/\m<n:=by
 intro m l;simp only[lN,asV]at h;obtain⟨i,hi,rfl⟩:=auG l;have:=atI.1 h.2 i (atQ.2 hi);rw[asV]at this;have e:=within_iff.1 this.1;simp only[asW,asZ hi,auV]at e;omega
theorem r8{x:Int}(e:1<=x)(i:x<=4):i_.wrap (x-1)=x-1:=wrap_i64 Om Om
theorem VF.of{f:aB}(h:cI f=true):VF f:=by
 simp only[cI,asV]at h;obtain⟨⟨⟨O,u⟩,⟨⟨⟨M,A⟩,y⟩,B⟩,D⟩,-⟩:=h;simp only[sE,asV,dT_]at O;obtain⟨⟨⟨⟨⟨⟨s0,s1⟩,s2⟩,s3⟩,s4⟩,s5⟩,s6⟩:=O;cases e:f.arE with
 |nil=>rw[sU,e]at u;cases u
 |cons r t=>
  rw[sU,e]at u;simp only[IZ,asV,dT_]at u;obtain⟨⟨⟨⟨⟨⟨r1,r2⟩,r3⟩,r4⟩,r5⟩,r6⟩,x⟩:=u;have N:Z' f.arE=Z' t+1:=by rw[e];rfl
  refine⟨⟨s1,s2,s3,s4,s5,s6⟩,⟨by omega,by rw[lvl,e];exact r2,by rw[par,e];exact r3⟩,?_,?_,?_,?_,?_⟩;intro i h0 hi;obtain⟨k,rfl⟩:∃k,i=k+1:=⟨i-1,by omega⟩;have F:k<Z' t:=Om;have:=atI.1 x k (atQ.2 F);rw[asZ F]at this;simp only[OB,asV,dT_]at this;obtain⟨⟨⟨⟨J,E⟩,K⟩,d4⟩,d5⟩:=this;obtain⟨p0,p1⟩:=within_iff.1 J;obtain⟨S,U⟩:=within_iff.1 K;have w:par f (k+1)=(t[k]).parent:=by rw[par,e];simp[asW,F]
  have e2:lvl f (k+1)=(t[k]).level:=by rw[lvl,e];simp[asW,F]
  rw[r8 S U]at E;have V:lvl f (t[k]).parent.toNat=(t[k]).level-1:=E;refine⟨by rw[w];exact p0,?_,?_,by rw[e2];exact S,by rw[e2];exact U⟩;rw[tA,w];omega;rw[tA,w,e2];exact V;intro d u;have:=atI.1 y _ (asS u);simp only[kR,asV,dT_]at this;obtain⟨⟨J,E⟩,K⟩:=this;have a1:=within_iff.1 J;have a2:=within_iff.1 E;have w:mdl f d=(f.arB[d]).model.toNat:=by rw[mdl,getD_at u]
  have e2:cP f d=(f.arB[d]).machine.toNat:=by rw[cP,getD_at u]
  refine⟨a1.1,by rw[w];omega,a2.1,by rw[e2];omega,by rw[e2];exact K⟩;intro p hp;have L:=atI.1 B p hp;have W:=adO L;simp only[lN,QE,asV,dT_,awS,List.all_nil,avK]at L;obtain⟨⟨⟨⟨⟨⟨⟨⟨Y,Z⟩,km⟩,q1⟩,z0⟩,sp⟩,-⟩,-⟩,-⟩:=L;obtain⟨g0,g1,g2,g3,g4⟩:=sp;have b1:=within_iff.1 Y;have b2:=within_iff.1 Z;have b3:=within_iff.1 g0;have b4:=within_iff.1 g1;have b5:=within_iff.1 g2;have b6:=within_iff.1 g3;have b7:=within_iff.1 g4;refine⟨b1.1,b1.2,b2.1,b2.2,km,z0,λl=>?_,W⟩;unfold bX.spread;split<;>omega;intro v R;have:=atI.1 D _ (asS R);have a1:=within_iff.1 this;have w:dI f v=(f.arD[v]).arO.toNat:=by rw[dI,getD_at R]
  exact⟨a1.1,by rw[w];omega⟩;intro m X;have:=atI.1 A m X;simp only[nB,asV]at this;exact within_iff.1 this.1.1
theorem AU{f:aB}(h:VF f){d:Nat}(i:d<Z' f.arB):∀{k:Nat},k<=4->upN f k (cP f d)<Z' f.arE/\lvl f (upN f k (cP f d))=4-(k:Int)
 |0,_=>⟨(h.drive d i).2.2.2.1,by rw[upN,(h.drive d i).2.2.2.2];rfl⟩
 |k+1,y=>by
  obtain⟨w,u⟩:=AU h i (k:=k) Om;have l:0<upN f k (cP f d):=by
   rcases avB (upN f k (cP f d))with e|e
   rw[e,h.root.2.1]at u;omega;exact e
  obtain⟨g1,g2,g3,g4,x⟩:=h.dom _ l w;refine⟨by rw[upN];omega,?_⟩;rw[upN,g3,u];omega
def dC(f:aB)(d:Nat)(level:Int):Nat:=upN f (4-level.toNat) (cP f d)
def fX(f:aB)(v:Nat):Int:=(bF f v).k+(bF f v).m
def qi:=bT [1] Proofs.Tryz.f59
def cb:=cG qi
def Ar:=bT [2] Proofs.Tryz.f140
def qe:=cG Ar
def JW:=bT [2] Proofs.Tryz.f25
def RP:=cG JW
def oC:=bT [2] Proofs.Tryz.f63
def RM:=aA oC 11
def RN:=aA oC 12
def b9:aJ:=(sq (aA oC 0) (sq (aA oC 1) (.seq (cS (aA oC 2) 0 (iE (aA oC 3) 17 0 RM (sq (aA oC 4) (cS (aA oC 5) 2 (iE (aA oC 6) 23 2 (aA oC 10) (sq (aA oC 7) (sq (aA oC 8) (.cond (Tm 33) (.region (aA oC 9)) .skip)))))))) (sq RN .ret))))
def qb:=bT [2] Proofs.Tryz.f26
def bz:=cG qb
def NG:=bT [3] Proofs.Tryz.f94
def ca:=cG NG
def qk:=bT [] Proofs.Tryz.f141
def ce:=cG qk
def fU:=bT [3,75,91,134,167] Proofs.Tryz.f95
def WX:=aA fU 16
def WY:=aA fU 17
def JY:aJ:=(dH (aA fU 18) 106 4 (aA fU 20) (.region (aA fU 19)))
def JZ:=aA fU 21
def zC:aJ:=(iE (aA fU 10) 65 2 JZ (sq (aA fU 11) (jJ (aA fU 12) 70 (sq (aA fU 13) (.exit 3)) (jJ (aA fU 14) 86 (.region (aA fU 15)) (sq WX (cS WY 4 JY))))))
def WV:aJ:=(iE (aA fU 24) 124 6 (aA fU 28) (sq (aA fU 25) (sq (aA fU 26) (.cond (Tm 129) (.region (aA fU 27)) .skip))))
def WZ:=aA fU 33
def WW:aJ:=(iE (aA fU 31) 143 8 (aA fU 36) (sq (aA fU 32) (sq WZ (sq (aA fU 34) (.cond (Tm 162) (.region (aA fU 35)) .skip)))))
def ql:aJ:=(sq (aA fU 0) (dq (dZ fU 0) (sq (aA fU 1) (.seq (cS (aA fU 2) 0 (iE (aA fU 3) 43 0 (aA fU 6) (sq (aA fU 4) (.region (aA fU 5))))) (sq (aA fU 7) (sq (aA fU 8) (dq (dZ fU 1) (.seq (cS (aA fU 9) 2 zC) (sq (aA fU 22) (.seq (cS (aA fU 23) 6 WV) (sq (aA fU 29) (.seq (cS (aA fU 30) 8 WW) (sq (aA fU 37) .ret)))))))))))))
def kM:=bT [3,28,44,74] Proofs.Tryz.f60
def WU:aJ:=(iE (aA kM 16) 61 3 (aA kM 20) (sq (aA kM 17) (sq (aA kM 18) (.cond (Tm 70) (.region (aA kM 19)) .skip))))
def qj:aJ:=(sq (aA kM 0) (.seq (.block 0 (sq (aA kM 1) (.cond (Tm 14) (sq (aA kM 2) .ret) (sq (aA kM 3) (.cond (Tm 18) (sq (aA kM 4) .ret) .skip))))) (sq (aA kM 5) (.seq (cS (aA kM 6) 1 (iE (aA kM 7) 32 1 (aA kM 13) (sq (aA kM 8) (.seq (sq (aA kM 9) (sq (aA kM 10) (.cond (Tm 41) (sq (aA kM 11) (.exit 2)) .skip))) (.region (aA kM 12)))))) (sq (aA kM 14) (.seq (cS (aA kM 15) 3 WU) (sq (aA kM 21) .ret)))))))
def qf:=bT [3] Proofs.Tryz.f21
def b8:=cG qf
theorem T4(h:∀f:aB,f.Ok->aH C 96 [.agg f.cells] .nil (aK (.j (yL f))))(f:aB)(e:f.Ok) :
  cb.wp C (aV qi.res (cN (.bool (cI f)))) (g_ [.agg f.cells]) .nil:=by
 simp only[go_sem,cb,qi];refine aD (h f e) Ev ?_;simp only[go_sem];refine bS Ev ?_;unfold yL;cases cI f<;>rfl
theorem kC{f:aB}{d:Nat}(h:d<Z' f.arB):(f.arB.map eN.cells)[d]?=some (f.arB[d]).cells:=by simp[h]
theorem fP{f:aB}{d:Nat}(h:d<Z' f.arE):(f.arE.map cU.cells)[d]?=some (f.arE[d]).cells:=by simp[h]
theorem oT{f:aB}{d:Nat}(h:d<Z' f.arD):(f.arD.map gD.cells)[d]?=some (f.arD[d]).cells:=by simp[h]
theorem lG{f:aB}{d:Nat}(h:d<Z' f.arF):(f.arF.map bX.cells)[d]?=some (f.arF[d]).cells:=by simp[h]
theorem we{f:aB}{d:Nat}(h:d<Z' f.arC):(f.arC.map dN.cells)[d]?=some (f.arC[d]).cells:=by simp[h]
theorem tO{f:aB}{d:Nat}(h:d<Z' f.arE):(f.arE[d]).level=lvl f d:=by rw[lvl,getD_at h]
theorem MX{f:aB}{d:Nat}(h:d<Z' f.arE):(f.arE[d]).parent=par f d:=by rw[par,getD_at h]
theorem VF.GH{f:aB}(h:VF f){d:Nat}(e:d<Z' f.arB):(f.arB[d]).machine=((cP f d:Nat):Int):=by
 have:=(h.drive d e).2.2.1;rw[cP,getD_at e];omega
theorem VF.DD{f:aB}(h:VF f){d:Nat}(e:d<Z' f.arB):(f.arB[d]).model=((mdl f d:Nat):Int):=by
 have:=(h.drive d e).1;rw[mdl,getD_at e];omega
theorem VF.AH{f:aB}(h:VF f){v:Nat}(e:v<Z' f.arD):(f.arD[v]).arO=((dI f v:Nat):Int):=by
 have:=(h.volume v e).1;rw[dI,getD_at e];omega
theorem VF.MY{f:aB}(h:VF f){i:Nat}(e:0<i)(hi:i<Z' f.arE):par f i=((tA f i:Nat):Int):=by
 have:=(h.dom i e hi).1;rw[tA];omega
theorem iN{f:aB}(h:VF f){v:Nat}(e:v<Z' f.arD):∃hp:dI f v<Z' f.arF,f.arF[dI f v]=bF f v:=by
 have hp:=(h.volume v e).2;exact⟨hp,by simp[bF,asW,hp]⟩
theorem Yw(f:aB)(i:VF f)(v:Nat)(h:v<Z' f.arD) :
  qe.wp C (aV Ar.res (cN (.j (fX f v)))) (g_ [.agg f.cells,.j v]) .nil:=by
 obtain⟨hp,he⟩:=iN i h;have e:=i.arO _ (asS hp);rw[he]at e;have l:i_.wrap ((bF f v).k+(bF f v).m)=(bF f v).k+(bF f v).m:=wrap_i64 Om Om;simp only[go_sem,qe,Ar];refine bE .nil cR a_ ?_;simp only[go_sem,oT h,i.AH h,lG hp,he];refine aQ λo u=>?_;simp only[go_sem,l];refine⟨a_,?_⟩;exact rF (n:=(bF f v).k+(bF f v).m) Ev rfl
structure K4(C:Ctx):Prop where
 valid:∀f:aB,f.Ok->aH C 161 [.agg f.cells] .nil (aK (.bool (cI f)))
 dj:∀(f:aB)(v:Nat),VF f->v<Z' f.arD->aH C 156 [.agg f.cells,.int .i64 v] .nil (aK (.int .i64 (fX f v)))
def pick(n:Nat)(p:Nat->Bool):I_:=((asP n).filter p).map λ(i:Nat)=>(i:Int)
theorem Sl(n:Nat)(p:Nat->Bool):pick (n+1) p=if p n then pick n p++[(n:Int)]else pick n p:=by
 unfold pick;rw[avH,awH,atK];by_cases h:p n;rw[aF h];simp[h];rw[aC h];simp[h]
theorem Xs(n:Nat)(p:Nat->Bool):(pick n p).length<=n:=by
 unfold pick;rw[asO];exact atT (awJ _ _) aZ
theorem OY(l:I_)(x:Int):aM l++[[.j x]]=aM (l++[x]):=by unfold aM;rw[atK];rfl
theorem bV(l:I_):(aM l).length=Z' l:=by unfold aM;rw[asO]
theorem NC{t:Nat}{H:PH}{v:PV}{l:I_}{F:PF}(h:bC H 1 v (aM l))(e:F t=some v):aV [.tmp t] (cN (ints l)) .ret F H:=lO (.inr rfl) h e
theorem AL{t:Nat}{H:PH}{F:PF}(e:F t=some .aG):aV [.tmp t] (cN (ints [])) .ret F H:=lO (rows:=[]) (.inr rfl) .nil e
def MK(f:aB)(dom:Int):I_:=
 if cI f/\0<=dom/\dom<f.arE.length then pick f.arB.length λd=>decide ((dC f d (lvl f dom.toNat):Nat)=dom.toNat)else[]
def toS(f:aB):Spec:=λname vs=>match name,vs with
 |155,[_,.int _ d,.int _ l]=>some ([],λ_=>aK (.int .i64 (dC f d.toNat l:Nat)))
 |156,[_,.int _ v]=>some ([],λ_=>aK (.int .i64 (fX f v.toNat)))
 |_,_=>none
theorem Yz(f:aB)(v:Nat):toS f 156 [.agg f.cells,.j v]=some ([],λ_=>aK (.j (fX f v))):=rfl
def rU(A:I_)(k:Nat):I_:=A.take k++asT (Z' A-k) 0
theorem G5(A:I_):rU A 0=asT A.length 0:=by simp[rU]
theorem L9(A:I_):rU A A.length=A:=by simp[rU]
theorem yy(A:I_){k:Nat}(h:k<=Z' A):(rU A k).length=Z' A:=by simp[rU];omega
theorem Ma(A:I_){k:Nat}(h:k<Z' A):(rU A k).set k A[k]=rU A (k+1):=by
 unfold rU;rw[avQ _ _ (by simp;omega),atF,avJ Om,auK,show A.length-k=(Z' A-(k+1))+1 by omega,List.replicate_succ,avR,
  atW h,atV]
 rfl
theorem iI(l:I_)(i:Nat)(x:Int):(aM l).set i [.j x]=aM (l.set i x):=by unfold aM;rw[avP]
theorem oW(n:Nat):asT n [PV.int .i64 0]=aM (asT n 0):=by simp[aM]
theorem rC{l:I_}{i:Nat}(h:i<Z' l):(aM l)[i]?=some [.j l[i]]:=by simp[aM,h]
theorem my(l:I_):ints l=.sl 1 (aM l):=rfl
def nF(f:aB)(room:I_)(d:Nat):Int:=if room.length=f.arB.length then min (max (room.getD d 0) 0) (ext f d)else ext f d
def bA(f:aB)(room:I_):I_:=(asP f.arB.length).map (nF f room)
def oR(f:aB)(room:I_):I_:=if cI f then bA f room else[]
theorem pA(f:aB)(room:I_):(bA f room).length=Z' f.arB:=by simp[bA]
theorem iy(f:aB)(room:I_){d:Nat}(h:d<(bA f room).length):(bA f room)[d]=nF f room d:=by simp[bA]
theorem VF.Cl{f:aB}(h:VF f){d:Nat}(i:d<Z' f.arB):∃e:mdl f d<Z' f.arC,(f.arC[mdl f d]).arS=ext f d:=by
 have e:=(h.drive d i).2.1;exact⟨e,by rw[ext,getD_at e]⟩
def trF(f:aB)(room:I_)(o k:Nat):PF:=(((((n_.set 1 (ints room)).set 2 (.aU f.cells)).set 5 (.osl o 1 0 f.arB.length)).set 15 (.int .i64 (Z' f.arB:Nat))).set 16 (.int .i64 k))
theorem Jr(a b:Int):(if b<a then b else a)=min a b:=by
 rw[Int.min_def];by_cases h:b<a;rw[aF h,aC Om];rw[aC h,aF Om]
theorem T2(valid:∀f:aB,f.Ok->aH C 161 [.agg f.cells] .nil (aK (.bool (cI f))))(f:aB)(N:f.Ok)(room:I_) :
  RP.wp C (aV JW.res (pQ 1 (aM (oR f room)))) (g_ [.agg f.cells,ints room]) .nil:=by
 simp only[go_sem,RP,JW];refine aD (valid f N) Ev ?_;unfold oR;cases S:cI f with
 |false =>simp only[go_sem,atH];exact NB (.inr rfl) Ev
 |true=>
  have hV:=VF.of S;have M:=hV.small.arB;have F:(Z' f.arB:Int)*((8:Nat):Int)<=140737488355328:=Om;have J:(Z' f.arB:Int)<=9223372036854775807:=Om;simp only[go_sem,asY,asO,F,J];refine aQ λo X=>?_;simp only[go_sem];have w:=pA f room;have E:=λd h=>iy f room (d:=d) h;generalize V:bA f room=A at *
  refine wp_loop (α:=Nat) (λk=>trF f room o k) (λk=>h_.set o (.rows 1 (aM (rU A k)))) (λk=>k<=Z' f.arB) (λk=>Z' f.arB-k) 0 (asQ _) ?_ ?_ ?_;unfold trF;exact Lq;refine d_ a_ ?_;simp only[go_sem];rw[G5,w,oW];intro k W;simp only[go_sem,trF];by_cases hlt:k<Z' f.arB;have e:(k:Int)<(Z' f.arB:Nat):=Om;obtain⟨R,he⟩:=hV.Cl hlt;have O:=yy A (k:=k) Om;have x:k<Z' A:=Om;have U:=rC (l:=rU A k) (i:=k) Om;have u:=Ma A x;rw[E k x]at u;simp only[go_sem,e];refine bE .nil cR a_ ?_;simp only[go_sem,kC hlt,hV.DD hlt,we R,he,e,atA,U];refine⟨a_,?_⟩
  try simp only[go_sem,asO]
  by_cases c:Z' room=Z' f.arB;have B:((Z' room:Int)==(Z' f.arB:Int))=true:=bR Om;have y:k<Z' room:=Om;have K:(room.map λn=>[PV.int .i64 n])[k]?=some [.j room[k]]:=by simp[y]
  simp only[go_sem,B];refine bE .nil cR a_ ?_;have L:(aM ((rU A k).set k (ext f k)))[k]?=some [.j (ext f k)]:=by rw[<-iI,List.getElem?_set_self (by rw[bV];omega)]
  simp only[go_sem,K,e,atA,L,max_eq,Jr,List.set_set,iI];refine⟨a_,?_⟩;simp only[go_sem,wZz k];refine aE (k+1) hlt Om ?_ ?_;exact Lq;refine d_ a_ ?_;rw[<-u,nF,aF c,asW,asZ y,auV];simp only[go_sem];have B:((Z' room:Int)==(Z' f.arB:Int))=false:=bH Om;simp only[go_sem,B,wZz k,iI];refine aE (k+1) hlt Om ?_ ?_;exact Lq;refine d_ a_ ?_;rw[<-u,nF,aC c];simp only[go_sem];have e:¬(k:Int)<(Z' f.arB:Nat):=Om;have:k=Z' f.arB:=Om;subst this;simp only[go_sem,e];have D:rU A f.arB.length=A:=by rw[<-w,L9]
  rw[D];exact QT (.inr rfl) (v:=.osl o 1 0 f.arB.length) (.inr ⟨o,aM A,by rw[bV,w],s_,asU _,atP (asU _)⟩) Sq
theorem Gd(L:K4 C)(f:aB)(e:f.Ok)(room:I_) :
  RP.wp C (aV JW.res (pQ 1 (aM (oR f room)))) (g_ [.agg f.cells,ints room]) .nil:=T2 L.valid f e room
def zG(l:I_)(r:PV)(H:PH):Prop:=(l=[]/\r=.aG/\H=h_)\/∃q,r=.osl q 1 0 l.length/\H=h_.set q (.rows 1 (aM l))
theorem zG.aaD{l:I_}{r:PV}{H:PH}(h:zG l r H):pQ 1 (aM l) r H:=by
 rcases h with⟨rfl,e,i⟩|⟨q,e,i⟩
 exact .inl ⟨rfl,e,i⟩;exact .inr ⟨q,aM l,by rw[e,bV],i,asU _,atL⟩
theorem aH.Jc{name:Nat}{args:V_}{H:PH}{l:I_}(h:aH C name args H (zG l)):aH C name args H (aK (ints l)):=by
 rw[my];exact aH.freeze (h.post λr _ e=>⟨r,.refl _,e.aaD⟩)
theorem aH.aaC{name o s:Nat}{rs:P2_}{args:V_}{l:I_}(h:aH C name (args.map (PV.frz o s rs)) .nil (zG l)) :
  aH C name args (h_.set o (.rows s rs)) (λr H'=>∃W,zG l r W/\W o=none/\H'=W.set o (.rows s rs)):=by
 refine⟨h.1,λE w vs hN hW S=>?_⟩;have hz:jM (g_ args) (h_.set o (.rows s rs)) _ _:=.step o (s:=s) (rs:=rs) (by simp only[aO,if_true]) (.refl _ _);obtain⟨E1,k1,k2,k3⟩:=hz.sound hW;rw[s9]at k1 k2;have B:=S.len;have U:fV E1 (args.map (PV.frz o s rs)) vs.toList:=by
  refine fV.of _ _ (by rw[asO];exact B) λi p u hp hu=>?_;have:=k3 (λi=>(vs.toList[i]?).getD undef) (λj q hj=>by have β:=(atX.1 hj).1;have M:j<Z' vs.toList:=Om;simp only[asZ M,auV];exact S.at_ j q _ hj (asZ M)) i p (by rw[uZ,args_at,<-atC];exact hp)
  simp only[hu,auV]at this;exact this
 refine(h.2 E1 w vs (k2.env.num.trans hN) k1 U).mono λe w' he=>?_;obtain⟨u,pv,E2,H2,rfl,L,hr,J,hM⟩:=he;have A:∀b,b<w.heap.size->w'.heap[b]?=w.heap[b]?:=λb hb=>J.block b hb rfl;have V:=hW.h o _ (bK o _);have hH:∀q x,(h_.set o (.rows s rs)) q=some x->q=o:=λq x hq=>by rw[aO]at hq;by_cases c:q=o;exact c;rw[aC c]at hq;cases hq
 have Z:∀b cs,E.G b=some cs->b≠o/\b<w.heap.size:=λb cs hb=>by obtain⟨g1,ty,fr,g2⟩:=hW.g b cs hb;refine⟨λe=>?_,(awB.1 g2).1⟩;subst e;cases g1 _ (bK b _)
 have D:∀q x,H2 q=some x->w.heap.size<=q:=λq x hq=>by
  rcases J.new q x hq with⟨y,hy⟩|h
  cases hy;exact h
 have N:E.le ⟨E.G,E2.sz,E.num⟩:=⟨λ_ _ h=>h,λb n h=>J.env.s _ _ (k2.env.s _ _ h),rfl⟩;have Y:H2 o=none:=by
  cases e:H2 o with
  |none=>rfl
  |some x=>have:=D o x e;have:=V.1;omega
 have F:∀q x,H2 q=some x->x=.rows 1 (aM l):=λq x hq=>by
  rcases hM with⟨-,-,rfl⟩|⟨q',-,rfl⟩
  cases hq;rw[aO]at hq;by_cases c:q=q';rw[aF c]at hq;injection hq with hq;exact hq.symm
  rw[aC c]at hq;cases hq
 refine⟨u,pv,⟨E.G,E2.sz,E.num⟩,H2.set o (.rows s rs),rfl,⟨λb cs hb=>?_,λq x hq=>?_,L.s⟩,?_,⟨N,J.os,J.tape,J.output,J.size,λb hb _=>A b hb,λq x hq=>?_,λb cs hb=>.inl hb⟩,H2,hM,Y,rfl⟩;obtain⟨g1,ty,fr,g2⟩:=hW.g b cs hb;obtain⟨n1,n2⟩:=Z b cs hb;refine⟨λx hx=>?_,ty,fr,(A b n2).trans g2⟩;rw[aO,aC n1]at hx;have:=D b x hx;omega;rw[aO]at hq;by_cases c:q=o;rw[aF c]at hq;injection hq with hq
 subst hq c;exact⟨Nat.lt_of_lt_of_le V.1 J.size,V.2.mono N (A q V.1)⟩;rw[aC c]at hq;obtain⟨a1,a2⟩:=L.h q x hq;refine⟨a1,?_⟩;have:=F q x hq;subst this;obtain⟨X,ty,b1,b2,b3,b4,b5⟩:=a2;refine⟨X,ty,b1,b2,b3,b4,λi j p hp=>?_⟩;obtain⟨v,d1,d2,d3⟩:=b5 i j p hp;refine⟨v,d1,d2,?_⟩;have:∃n,p=.j n:=by
  unfold at2 aM at hp;rw[atC]at hp;cases e:l[i]? with
  |none=>rw[e]at hp;cases hp
  |some n=>
   rw[e]at hp
   match j,hp with
   |0,hp=>injection hp with hp;exact⟨n,hp.symm⟩
 obtain⟨n,rfl⟩:=this;cases d3;exact .int _ _;rcases hM with⟨-,rfl,-⟩|⟨q,rfl,-⟩
 cases hr;exact .aG
 ·cases hr with
  |osl hb α R B O hn K=>exact .osl hb α R B O hn K
 rw[aO]at hq;by_cases c:q=o;exact .inl ⟨_,by rw[c];exact bK o _⟩;rw[aC c]at hq;exact .inr (D q x hq)
abbrev lay(l:L2_):PV:=.sl 1 (l.map λr=>[ints r])
def fN(n:Nat)(xs:I_):I_:=(asP n).map λ(d:Nat)=>((xs.count (d:Int):Nat):Int)
theorem iV(n:Nat)(xs:I_):(fN n xs).length=n:=by simp[fN]
theorem db(n:Nat):fN n []=asT n 0:=by
 refine avL (by simp[fN]) λi e l=>by simp[fN]
theorem YH{n:Nat}(xs:I_){d:Nat}(h:d<n):(fN n xs)[d]'(by rw[iV];exact h)=((xs.count (d:Int):Nat):Int):=by simp[fN]
theorem sy{n:Nat}(xs:I_){d:Nat}(h:d<n):(fN n xs).set d (((xs.count (d:Int):Nat):Int)+1)=fN n (xs++[(d:Int)]):=by
 refine avL (by simp[fN]) λi l u=>?_;simp only[fN,List.getElem_set,auN,List.getElem_range,List.count_append];by_cases e:d=i;subst e;simp;have:((d:Nat):Int)≠(i:Int):=Om;rw[aC e];simp[List.count_cons,this]
theorem HF{n:Nat}(xs:I_){x:Int}(h:¬(0<=x/\x<n)):fN n (xs++[x])=fN n xs:=by
 refine avL (by simp[fN]) λi l e=>?_;simp only[fN,auN,List.getElem_range,List.count_append];have hi:i<n:=by simpa[fN]using e
 have:x≠(i:Int):=Om;simp[List.count_cons,this]
def cD(f:aB)(l:L2_):I_:=fN f.arB.length l.flatten
structure iD(l:L2_):Prop where
 rows:Z' l<=16777216
 all:Z' l.flatten<=16777216
theorem yR(l:L2_){i:Nat}(h:i<Z' l):(l.take (i+1)).flatten=(l.take i).flatten++l[i]:=by
 rw[atW h,List.flatten_append];simp only[awZ,List.flatten_nil,auA]
theorem HJ(l:L2_)(i:Nat):(l.take i).flatten.length<=Z' l.flatten:=by
 have:l.flatten=(l.take i).flatten++(l.drop i).flatten:=by rw[<-List.flatten_append,awK]
 rw[this,asX];omega
def Dm(l:L2_)(n o i:Nat):PF:=((((n_.set 5 (.osl o 1 0 n)).set 14 (lay l)).set 15 (.int .i64 (Z' l:Nat))).set 16 (.int .i64 i))
def tg(l:L2_)(n o i:Nat)(row:I_)(k:Nat):PF:=(((((((n_.set 5 (.osl o 1 0 n)).set 14 (lay l)).set 15 (.int .i64 (Z' l:Nat))).set 16 (.int .i64 i)).set 20 (ints row)).set 21 (.int .i64 (Z' row:Nat))).set 22 (.int .i64 k))
theorem T0(f:aB)(hd:Z' f.arB<=24)(l:L2_)(Y:iD l) :
  b9.wp C (aV oC.res (zG (cD f l))) (g_ [.agg f.cells,lay l]) .nil:=by
 have M:(Z' f.arB:Int)*((8:Nat):Int)<=140737488355328:=Om;have N:(Z' f.arB:Int)<=9223372036854775807:=Om;obtain⟨Z,β⟩:=Y;simp only[go_sem,b9,oC,asO,M,N];refine aQ λo ho=>?_;simp only[go_sem];generalize S:Z' f.arB=n at *
 refine wp_loop (α:=Nat) (λi=>Dm l n o i) (λi=>h_.set o (.rows 1 (aM (fN n (l.take i).flatten)))) (λi=>i<=Z' l) (λi=>Z' l-i) 0 (asQ _) ?_ ?_ ?_;unfold Dm;exact lM;refine d_ a_ ?_;simp only[go_sem,avA,List.flatten_nil];rw[db,oW];intro i hi;simp only[go_sem,Dm];by_cases hlt:i<Z' l;have u:(i:Int)<(Z' l:Nat):=Om;have hr:(l.map λr=>[ints r])[i]?=some [ints l[i]]:=by simp[hlt]
 have J:=yR l hlt;have O:=HJ l (i+1);rw[J,asX]at O;generalize U:l[i]=row at *
 simp only[go_sem,u,hr,asO];refine wp_loop (α:=Nat) (λk=>tg l n o i row k) (λk=>h_.set o (.rows 1 (aM (fN n ((l.take i).flatten++row.take k))))) (λk=>k<=Z' row) (λk=>Z' row-k) 0 (asQ _) ?_ ?_ ?_;unfold tg;exact lM;rw[avA,auA];exact b_;intro k hk;simp only[go_sem,tg];by_cases A:k<Z' row;have e:(k:Int)<(Z' row:Nat):=Om;have B:(row.map λn=>[PV.int .i64 n])[k]?=some [.j row[k]]:=by simp[A]
 have D:(l.take i).flatten++row.take (k+1)=((l.take i).flatten++row.take k)++[row[k]]:=by rw[atW A,atV]
 have fin:∀(F:PF),(tg l n o i row (k+1)).le F->∀H:PH,H o=some (.rows 1 (aM (fN n ((l.take i).flatten++row.take (k+1))))) ->
   fK (λk=>tg l n o i row k) (λk=>h_.set o (.rows 1 (aM (fN n ((l.take i).flatten++row.take k))))) (λk=>k<=Z' row) (λk=>Z' row-k) (Z' row-k)
    (fL 2 (fL 1 (gL C (aJ.wp C (.region RM)) (fK (λi=>Dm l n o i) (λi=>h_.set o (.rows 1 (aM (fN n (l.take i).flatten)))) (λi=>i<=Z' l) (λi=>Z' l-i) (Z' l-i) (fL 0 (gL C (aJ.wp C (.seq (.region RN) .ret)) (aV [.tmp 4] (cN (ints (cD f l)))))))))) .normal F H:=by
  intro F V H W;exact aE (k+1) A Om V (d_ a_ W)
 unfold tg Dm at fin;generalize hx:row[k]=x at *
 by_cases L:x>=0;by_cases R:x<(n:Nat);obtain⟨d,rfl⟩:∃d:Nat,x=d:=⟨x.toNat,by omega⟩;have y:d<n:=Om;have E:=rC (l:=fN n ((l.take i).flatten++row.take k)) (i:=d) (by rw[iV];exact y);rw[YH _ y]at E;have X:((l.take i).flatten++row.take k).count (d:Int)<=16777216:=by refine atT (List.count_le_length ..) ?_;rw[asX,atF];omega
 have K:=sy ((l.take i).flatten++row.take k) y;rw[<-D]at K;have hw:i_.wrap (((((l.take i).flatten++row.take k).count (d:Int):Nat):Int)+1)=((((l.take i).flatten++row.take k).count (d:Int):Nat):Int)+1:=wrap_i64 Om Om;simp only[go_sem,e,B,L,R,atA,E,hw,iI,K,wZz k];exact fin _ Lq _ Sq;have w:=HF (n:=n) ((l.take i).flatten++row.take k) (x:=x) Om;simp only[go_sem,e,B,L,R,wZz k];exact fin _ Lq _ (by rw[D,w];simp only[go_sem]);have w:=HF (n:=n) ((l.take i).flatten++row.take k) (x:=x) Om;simp only[go_sem,e,B,L,wZz k];exact fin _ Lq _ (by rw[D,w];simp only[go_sem]);have e:¬(k:Int)<(Z' row:Nat):=Om;have:k=Z' row:=Om;subst this;simp only[go_sem,e,RM,wZz i,atL];refine aE (i+1) hlt Om ?_ ?_;exact Lq;refine d_ a_ ?_;rw[J];simp only[go_sem];have u:¬(i:Int)<(Z' l:Nat):=Om;have:i=Z' l:=Om;subst this;simp only[go_sem,u,RN,atL];exact bM (vs:=[.osl o 1 0 n]) (.inr rfl) _ Sq b_ (.inr ⟨o,by unfold cD;rw[iV,S];rfl,by unfold cD;rw[S]⟩)
structure kg(C:Ctx):Prop extends K4 C where
 room:∀(f:aB)(room:I_),f.Ok->aH C 152 [.agg f.cells,ints room] .nil (aK (ints (oR f room)))
 loads:∀(f:aB)(l:L2_),Z' f.arB<=24->iD l->aH C 157 [.agg f.cells,lay l] .nil (zG (cD f l))
def rY(f:aB)(l:L2_):I_:=if cI f then cD f l else[]
theorem Tt(L:kg C)(f:aB)(i:f.Ok)(l:L2_)(u:iD l) :
  bz.wp C (aV qb.res (zG (rY f l))) (g_ [.agg f.cells,lay l]) .nil:=by
 simp only[go_sem,bz,qb];refine aD (L.valid f i) Ev ?_;unfold rY;cases y:cI f with
 |false =>simp only[go_sem,atH];exact bM (vs:=[.aG]) (.inr rfl) .nil Sq a_ (.inl ⟨rfl,rfl,rfl⟩)
 |true =>have hV:=VF.of y;simp only[go_sem,asY];refine .inl ⟨_,.nil,_,Ev,a_,L.loads f l hV.small.arB u,λr H' e _=>?_⟩;simp only[go_sem];exact bM (vs:=[r]) (.inr rfl) H' Sq (λo x w=>by rw[iM,w]) e
structure jG where
 kind:Int
 vol:Int
 wher:Int
abbrev jG.cells(x:jG):V_:=[.int .i64 x.kind,.int .i64 x.vol,.int .i64 x.wher]
abbrev LR(l:List jG):PV:=.sl 3 (l.map jG.cells)
def gS(p:Int->Bool):I_->Nat->O_
 |[],_=>none
 |x::t,i=>if p x then some i else gS p t (i+1)
def kY(f:aB)(d:Int):Bool:=decide (d < -1)||decide (d>=(Z' f.arB:Nat))
def tT(f:aB)(l:L2_)(v:Nat):Option jG:=
 if((l.getD v []).length:Int)=fX f v then(gS (kY f) (l.getD v []) 0).map λ(i:Nat)=>⟨1,v,i⟩else some ⟨1,v,((l.getD v []).length:Nat)⟩
def shV:Option jG->PV
 |some x=>.tup [.agg x.cells,.bool true]
 |none=>.tup [.agg [.int .i64 0,.int .i64 0,.int .i64 0],.bool false]
def Y2(f:aB)(o:Nat)(v:Nat)(row:I_)(k:Nat):PF:=((((((n_.set 2 (.int .i64 v)).set 3 (.aU f.cells)).set 6 (.ptr o 3 0 0)).set 29 (ints row)).set 30 (.int .i64 (Z' row:Nat))).set 31 (.int .i64 k))
theorem T3(L:kg C)(f:aB)(hV:VF f)(l:L2_)(O:iD l)(v:Nat)(D:v<Z' l)(E:v<Z' f.arD) :
  ca.wp C (aV NG.res (cN (shV (tT f l v)))) (g_ [.agg f.cells,lay l,.j v]) .nil:=by
 have B:(l.map λr=>[ints r])[v]?=some [ints l[v]]:=by simp[D]
 have N:l.getD v []=l[v]:=by simp[asW,D]
 have R:(l[v]).length<=16777216:=by have J:=HJ l (v+1);have:=O.all;rw[yR l D,asX]at J;omega
 unfold tT;rw[N];simp only[go_sem,ca];refine aQ λo U=>?_;simp only[go_sem];refine bE .nil (toS f) a_ ?_;generalize l[v]=row at *
 have fin:∀(x:jG)(F:PF)(H:PH),F 6=some (.ptr o 3 0 0)->F 7=some (.bool true)->H o=some (.rows 3 [x.cells])->aV NG.res (cN (shV (some x))) .ret F H:=by intro x F H K h7 M;refine bM (.inr rfl) .nil (vs:=[.agg x.cells,.bool true]) ?_ a_ ⟨.refl _,rfl⟩;simp only[go_sem,NG,K,h7,M]
 simp only[go_sem,B,asO];refine cJ (Yz f v) (L.dj f v hV E) rfl a_ ?_;by_cases c:(Z' row:Int)=fX f v;rw[aF c];simp only[go_sem,cB c,B,asO];refine wp_loop (α:=Nat) (λk=>Y2 f o v row k) (λk=>h_.set o (.rows 3 [[.j 0,.j 0,.j 0]])) (λk=>k<=Z' row/\gS (kY f) row 0=gS (kY f) (row.drop k) k) (λk=>Z' row-k) 0 ⟨asQ _,rfl⟩ ?_ b_ ?_;unfold Y2;exact lM;rintro k ⟨S,hb⟩;simp only[go_sem,Y2];by_cases hlt:k<Z' row;have e:(k:Int)<(Z' row:Nat):=Om;have u:(row.map λn=>[PV.int .i64 n])[k]?=some [.j row[k]]:=by simp[hlt]
 have A:gS (kY f) (row.drop k) k=if kY f row[k]then some k else gS (kY f) (row.drop (k+1)) (k+1):=by rw[avF hlt,gS]
 rw[A]at hb;by_cases w:row[k] < -1;have i:kY f row[k]=true:=by simp[kY,w]
 rw[i]at hb;simp only[go_sem,e,u,w];rw[hb];exact fin ⟨1,v,k⟩ _ _ rfl rfl Sq;by_cases y:row[k]>=(Z' f.arB:Nat);have i:kY f row[k]=true:=by simp[kY,y]
 rw[i]at hb;simp only[go_sem,e,u,w,asO,y];rw[hb];exact fin ⟨1,v,k⟩ _ _ rfl rfl Sq;have i:kY f row[k]=false:=by simp[kY];omega
 rw[i]at hb;simp only[go_sem,e,u,w,asO,y,wZz k];refine aE (k+1) ⟨hlt,hb⟩ Om ?_ b_;exact Lq;have e:¬(k:Int)<(Z' row:Nat):=Om;have:k=Z' row:=Om;subst this;rw[List.drop_length,gS]at hb;simp only[go_sem,e];rw[hb];refine bM (.inr rfl) .nil (vs:=[.agg [.j 0,.j 0,.j 0],.bool false]) ?_ a_ ⟨.refl _,rfl⟩;simp only[go_sem,NG];rw[aC c];simp only[go_sem,cY c,B,asO];exact fin ⟨1,v,(Z' row:Nat)⟩ _ _ rfl rfl Sq
structure Pz(C:Ctx):Prop extends kg C where
 shape:∀(f:aB)(l:L2_) (v:Nat),VF f->iD l->v<Z' l->v<Z' f.arD->aH C 160 [.agg f.cells,lay l,.int .i64 v] .nil (aK (shV (tT f l v)))
section
variable {C:Ctx} {F:PF} {H:PH}
theorem AY{name:Nat}{vs cs:V_}{r:PV}{i:PH}{args:List aP}{d:O_}{K:K_}(h:aH C name (vs++cs) i (λr' H'=>r'=r/\H'=i))(l:aP.evs F args=some vs)(e:i.le H)
  (u:K (F.put d r) H):jX C name args cs d K F H:=by
 refine .inl ⟨vs++cs,i,_,by rw[l];rfl,e,h,?_⟩;rintro r' H' ⟨rfl,rfl⟩ -;rw[PH.over_self _ e];exact u
theorem bC.ne{s s':Nat}{v:PV}{rows:P2_}{o:Nat}{y:P2_}(h:bC H s v rows)(w:H o=some (.rows s' y))(x:s≠s'):∀l,v≠.osl o s 0 l:=by
 intro l e;rcases h with⟨_,i⟩|⟨q,rs,h1,i,_⟩
 rw[i]at e;cases e;rw[h1]at e;injection e with u
 subst u;rw[w]at i;injection i with i
 injection i with i
 exact x i.symm
theorem bC.set{s s':Nat}{v:PV}{rows:P2_}{o:Nat}{y:P2_}{x:aS}(h:bC H s v rows)(u:H o=some (.rows s' y))(w:s≠s'):bC (H.set o x) s v rows:=by
 have l:=h.ne u w;rcases h with⟨e,i⟩|⟨q,rs,e,i,h3,h4⟩
 exact .inl ⟨e,i⟩;refine .inr ⟨q,rs,e,?_,h3,h4⟩;have:q≠o:=by rintro rfl;exact l _ e
 simp only[aO,aC this,i]
def Dis(s:Nat)(v u:PV):Prop:=∀q l e i,v=.osl q s 0 l->u=.osl e s 0 i->q≠e
theorem Dis.nil{s:Nat}:Dis s .aG .aG:=λ_ _ _ _ h=>by cases h
theorem Dis.symm{s:Nat}{v u:PV}(h:Dis s v u):Dis s u v:=λq l x w e i=>(h x w q l i e).symm
theorem qK{s b:Nat}{v u y:PV}{rows rows' src:P2_}{K:R_}(h:bC H s v rows)(L:bC H s u rows')(N:Dis s v u)(V:dG H s y=some src)(U:roomFor rows.length src.length b)
  (O:∀v' H',bC H' s v' (rows++src)->bC H' s u rows'->Dis s v' u->(∀o s' z,s≠s'->H o=some (.rows s' z)->H' o=some (.rows s' z))->K v' H'):kP H s b v y K:=by
 have A:∀{H':PH}{t:PV}{r:P2_},bC H s t r->(∀o x,H o=some x->(∀l,t=.osl o s 0 l->False)\/H' o=some x)->bC H' s t r:=by
  intro H' t r Y hp;rcases Y with⟨a,b⟩|⟨q,rs,a,b,c,d⟩
  exact .inl ⟨a,b⟩;refine .inr ⟨q,rs,a,?_,c,d⟩;rcases hp q _ b with e|e
  exact(e _ a).elim;exact e
 have w:∀{o:Nat}{x:aS},H o=none->H o=some x->False:=λa b=>by rw[a]at b;cases b
 have M:∀{o:Nat}{l:Nat},u=.osl o s 0 l->∃x,H o=some x:=by
  intro o l e;rcases L with⟨a,b⟩|⟨q,rs,a,b,c,d⟩
  rw[b]at e;cases e;rw[a]at e;injection e with e;subst e;exact⟨_,b⟩
 rcases h with⟨rfl,rfl⟩|⟨q,rs,rfl,h1,h2,h3⟩
 refine⟨src,V,U,λe=>?_,λe o J=>?_⟩;subst e;exact O _ _ (.inl ⟨rfl,rfl⟩) L N λo s' z _ i=>i;refine O _ _ (.inr ⟨o,src,rfl,by simp only[aO,if_true],asU _,by simp⟩) (A L λo' x D=>.inr ?_) ?_ λo' s' z _ i=>?_;have:o'≠o:=by rintro rfl;exact w J D
 simp only[aO,aC this,D];intro q l X W B e2;injection B with B
 subst B;rintro rfl;obtain⟨x,D⟩:=M e2;exact w J D;have:o'≠o:=by rintro rfl;exact w J i
 simp only[aO,aC this,i];have E:(rows++src).length=Z' rows+Z' src:=asX;refine⟨src,V,rfl,rfl,U,rs,h1,h2,?_,λo J=>?_⟩;rw[h3];refine O _ _ (.inr ⟨q,rows++src,by rw[E],by simp only[aO,if_true],asU _,atL⟩) (A L λo' x D=>?_) ?_ λo' s' z S i=>?_;by_cases e:o'=q;exact .inl λl R=>N q _ o' l rfl R e.symm;exact .inr (by simp only[aO,aC e,D]);intro Z l X W B e2;injection B with B
 subst B;exact N _ _ _ _ rfl e2;have:o'≠q:=by
  rintro rfl;rw[h1]at i;injection i with i
  injection i with i
  exact S i
 simp only[aO,aC this,i];rw[h3];refine O _ _ (.inr ⟨o,rows++src,by rw[E],by simp only[aO,if_true],asU _,atL⟩) (A L λo' x D=>?_) ?_ λo' s' z S i=>?_;by_cases e:o'=q;exact .inl λl R=>N q _ o' l rfl R e.symm;have e2:o'≠o:=by rintro rfl;exact w J D
 exact .inr (by simp only[aO,aC e,aC e2,D]);intro Z l X W B e2;injection B with B
 subst B;rintro rfl;obtain⟨x,D⟩:=M e2;exact w J D;have B:o'≠q:=by
  rintro rfl;rw[h1]at i;injection i with i
  injection i with i
  exact S i
 have e2:o'≠o:=by rintro rfl;exact w J i
 simp only[aO,aC B,aC e2,i]
end
abbrev dT(l:List jG):P2_:=l.map jG.cells
def cF(kind v:Int)(n:Nat)(p:Nat->Bool):List jG:=((asP n).filter p).map λ(i:Nat)=>⟨kind,v,i⟩
theorem jP(kind v:Int)(n:Nat)(p:Nat->Bool):cF kind v (n+1) p=if p n then cF kind v n p++[⟨kind,v,n⟩]else cF kind v n p:=by
 unfold cF;rw[avH,awH,atK];by_cases h:p n;rw[aF h];simp[h];rw[aC h];simp[h]
theorem fJ(kind v:Int)(n:Nat)(p:Nat->Bool):(cF kind v n p).length<=n:=by
 unfold cF;rw[asO];exact atT (awJ _ _) aZ
theorem iU(l:List jG):(dT l).length=Z' l:=by simp[dT]
theorem lW(l:List jG)(x:jG):dT l++[x.cells]=dT (l++[x]):=by simp[dT]
def Eg(o5:Nat)(v:Nat):PH:=h_.set o5 (.rows 1 [[.int .i64 v]])
theorem T5(o5 v:Nat)(k w:Int):ce.wp C (aV qk.res (λr H'=>r=.agg [.j k,.j v,.j w]/\H'=Eg o5 v)) (g_ [.j k,.j w,.ptr o5 1 0 0]) (Eg o5 v):=by
 simp only[go_sem,ce,Eg];refine aQ λo i=>?_;have e:o5≠o:=by rintro rfl;simp only[aO,if_true]at i;cases i
 simp only[go_sem,e];refine bM (.inr rfl) (h_.set o5 (.rows 1 [[.j v]])) (vs:=[.agg [.j k,.j v,.j w]]) ?_ (d_ a_ ?_) ⟨rfl,rfl⟩;simp only[go_sem,qk];simp only[go_sem,e]
def kL(f:aB)(i:Nat)(d:Int):Bool:=decide (0<=d)&&decide (dC f d.toNat (lvl f i)=i)
def fO(f:aB)(xs:I_)(i:Nat):Int:=if i=0 then 0 else((xs.countP (kL f i):Nat):Int)
def fC(f:aB)(xs:I_):I_:=(asP f.arE.length).map (fO f xs)
def pJ(f:aB)(xs:I_)(d:Nat)(k:Nat):I_:=(asP f.arE.length).map λi=>if 4-(k:Int)<lvl f i then fO f (xs++[(d:Int)]) i else fO f xs i
theorem Vq(f:aB)(xs:I_)(d k:Nat):(pJ f xs d k).length=Z' f.arE:=by simp[pJ]
theorem CX(f:aB)(xs:I_):(fC f xs).length=Z' f.arE:=by simp[fC]
theorem VF.kE{f:aB}(h:VF f){i:Nat}(hi:i<Z' f.arE):0<=lvl f i/\lvl f i<=4/\(lvl f i=0↔i=0):=by
 rcases avB i with e|e
 subst e;rw[h.root.2.1];simp;have:=h.dom i e hi;omega
theorem u6{f:aB}(h:VF f)(xs:I_)(d:Nat):pJ f xs d 0=fC f xs:=by
 refine avL (by simp[pJ,fC]) λi l e=>?_;simp only[pJ,fC,auN,List.getElem_range];have hi:i<Z' f.arE:=by simpa[fC]using e
 have:=h.kE hi;rw[aC Om]
theorem u5{f:aB}(h:VF f)(xs:I_)(d:Nat):pJ f xs d 4=fC f (xs++[(d:Int)]):=by
 refine avL (by simp[pJ,fC]) λi u l=>?_;simp only[pJ,fC,auN,List.getElem_range];have hi:i<Z' f.arE:=by simpa[fC]using l
 have:=h.kE hi;by_cases e:i=0;subst e;rw[aC Om];simp[fO];rw[aF Om]
theorem IX(f:aB)(xs:I_)(d:Nat){i:Nat}(hi:i≠0):fO f (xs++[(d:Int)]) i=fO f xs i+if dC f d (lvl f i)=i then 1 else 0:=by
 unfold fO;rw[aC hi,aC hi,List.countP_append];by_cases h:dC f d (lvl f i)=i;rw[aF h];simp[kL,h];rw[aC h];simp[kL,h]
theorem I9{f:aB}(h:VF f)(xs:I_){d:Nat}(A:d<Z' f.arB){k:Nat}(E:k<4) :
  (pJ f xs d k)[upN f k (cP f d)]?=some (fO f xs (upN f k (cP f d))) /\
  (pJ f xs d k).set (upN f k (cP f d)) (fO f xs (upN f k (cP f d))+1)=pJ f xs d (k+1):=by
 obtain⟨B,x⟩:=AU h A (k:=k) Om;constructor;simp only[pJ,atC,auT B,atO];rw[aC Om];refine avL (by simp[pJ]) λi D y=>?_;have hi:i<Z' f.arE:=by simpa[pJ]using y
 simp only[pJ,List.getElem_set,auN,List.getElem_range];have J:=h.kE hi;by_cases e:upN f k (cP f d)=i;rw[aF e];subst e;rw[aF Om];have l:upN f k (cP f d)≠0:=by intro e;rw[e,h.root.2.1]at x;omega
 rw[IX f xs d l,dC,x];have:4-(4-(k:Int)).toNat=k:=Om;rw[this,aF rfl];rw[aC e];by_cases c:4-(k:Int)<lvl f i;rw[aF c,aF Om];rw[aC c];by_cases u:4-((k+1:Nat):Int)<lvl f i;rw[aF u];have w:lvl f i=4-(k:Int):=Om;have l:i≠0:=by intro e;subst e;rw[h.root.2.1]at w;omega
 rw[IX f xs d l,dC,w];have:4-(4-(k:Int)).toNat=k:=Om;rw[this,aC e];simp;rw[aC u]
theorem I8(f:aB)(xs:I_)(i:Nat):0<=fO f xs i/\fO f xs i<=Z' xs:=by
 unfold fO;have:=List.countP_le_length (p:=kL f i) (l:=xs);split<;>omega
structure MB(C:Ctx):Prop extends Pz C where
 bad:∀(o5 v:Nat)(k w:Int),aH C 159 [.int .i64 k,.int .i64 w,.ptr o5 1 0 0] (Eg o5 v) (λr H'=>r=.agg [.int .i64 k,.int .i64 v,.int .i64 w]/\H'=Eg o5 v)
structure Obs where
 o5:Nat
 o7:Nat
 o8:Nat
 oD:Nat
 oB:Nat
structure Obs.Ne(o:Obs):Prop where
 a1:o.o5≠o.oD
 a2:o.o5≠o.oB
 a3:o.o7≠o.oD
 a4:o.o7≠o.oB
 a5:o.o8≠o.oD
 a6:o.o8≠o.oB
 a7:o.oD≠o.oB
structure nN(H:PH)(o:Obs)(v:Nat)(p:bX)(A:List Bool)(D B:I_):Prop where
 h5:H o.o5=some (.rows 1 [[.int .i64 v]])
 h7:H o.o7=some (.rows 17 [p.cells])
 h8:H o.o8=some (.rows 1 (dE A))
 hD:H o.oD=some (.rows 1 (aM D))
 hB:H o.oB=some (.rows 1 (aM B))
theorem nN.keep{H H':PH}{o:Obs}{v:Nat}{p:bX}{A:List Bool}{D B:I_}(h:nN H o v p A D B)(e:∀q s' z,3≠s'->H q=some (.rows s' z)->H' q=some (.rows s' z)):nN H' o v p A D B:=
 ⟨e _ _ _ aR h.h5,e _ _ _ aR h.h7,e _ _ _ aR h.h8,e _ _ _ aR h.hD,e _ _ _ aR h.hB⟩
theorem nN.apP{H:PH}{o:Obs}{v:Nat}{p:bX}{A:List Bool}{D B:I_}(h:nN H o v p A D B)(e:o.Ne)(B':I_):nN (H.set o.oB (.rows 1 (aM B'))) o v p A D B':=
 ⟨by simp only[aO,aC e.a2,h.h5],by simp only[aO,aC e.a4,h.h7],by simp only[aO,aC e.a6,h.h8],by simp only[aO,aC e.a7,h.hD],by simp only[aO,if_true]⟩
theorem nN.apQ{H:PH}{o:Obs}{v:Nat}{p:bX}{A:List Bool}{D B:I_}(h:nN H o v p A D B)(e:o.Ne)(i:I_):nN (H.set o.oD (.rows 1 (aM i))) o v p A i B:=
 ⟨by simp only[aO,aC e.a1,h.h5],by simp only[aO,aC e.a3,h.h7],by simp only[aO,aC e.a5,h.h8],by simp only[aO,if_true],by simp only[aO,aC (Ne.symm e.a7),h.hB]⟩
def oS(f:aB)(o:Obs)(e i:PV)(row:I_)(k:Nat):PF:=
 ((((((((((((n_.set 3 (.aU f.cells)).set 5 (.ptr o.o5 1 0 0)).set 7 (.ptr o.o7 17 0 0)).set 8 (.osl o.o8 1 0 f.arC.length)).set 11 (.fn 159 [.ptr o.o5 1 0 0])).set 12 (e)).set 13 (i)).set 14 (.osl o.oD 1 0 f.arB.length)).set 15 (.osl o.oB 1 0 f.arE.length)).set 62 (ints row)).set 63 (.int .i64 (Z' row:Nat))).set 64 (.int .i64 k))
def N3(f:aB)(o:Obs)(e i:PV)(row:I_)(k:Nat)(at_:Nat):PF:=
 (((((((((((((n_.set 3 (.aU f.cells)).set 5 (.ptr o.o5 1 0 0)).set 7 (.ptr o.o7 17 0 0)).set 8 (.osl o.o8 1 0 f.arC.length)).set 11 (.fn 159 [.ptr o.o5 1 0 0])).set 12 (e)).set 13 (i)).set 14 (.osl o.oD 1 0 f.arB.length)).set 15 (.osl o.oB 1 0 f.arE.length)).set 62 (ints row)).set 63 (.int .i64 (Z' row:Nat))).set 64 (.int .i64 k)).set 18 (.int .i64 at_))
theorem ahT(f:aB)(hV:VF f)(o:Obs)(hn:o.Ne)(v:Nat)(p:bX)(A:List Bool)(D:I_)(i l:PV)(u w:P2_)(row:I_)(k:Nat)(xs:I_)(β:Z' xs<=16777216)(d:Nat)(U:d<Z' f.arB)(K:bP)(F:PF)(H:PH)
  (W:(N3 f o i l row k (cP f d)).le F) (X:nN H o v p A D (fC f xs)) (J:bC H 3 i u) (L:bC H 3 l w)
  (Y:∀S H',(oS f o i l row k).le S->nN H' o v p A D (fC f (xs++[(d:Int)]))->bC H' 3 i u->bC H' 3 l w->K .normal S H') :
  aJ.wp C (.block 4 (.loop JY)) K F H:=by
 simp only[go_sem];refine wp_loop (α:=Nat × PH) (λt=>N3 f o i l row k (upN f t.1 (cP f d))) (λt=>t.2) (λt=>t.1<=4/\nN t.2 o v p A D (pJ f xs d t.1)/\bC t.2 3 i u/\bC t.2 3 l w) (λt=>4-t.1) (0,H) ⟨asQ _,by rw[u6 hV];exact X,J,L⟩ (by rw[upN];exact W) b_ ?_;rintro⟨j,H0⟩ ⟨V,B,x,y⟩;simp only at V B x y ⊢;obtain⟨E,u2⟩:=AU hV U (k:=j) V;simp only[go_sem,JY,N3];by_cases hlt:j<4;have R:0<upN f j (cP f d):=by
  rcases avB (upN f j (cP f d))with e|e
  rw[e,hV.root.2.1]at u2;omega;exact e
 have N:((upN f j (cP f d):Nat):Int)>0:=Om;obtain⟨b1,b2⟩:=I9 hV xs U hlt;have M:(aM (pJ f xs d j))[upN f j (cP f d)]?=some [.j (fO f xs (upN f j (cP f d)))]:=by unfold aM;rw[atC,b1];rfl
 have Z:=I8 f xs (upN f j (cP f d));have hw:i_.wrap (fO f xs (upN f j (cP f d))+1)=fO f xs (upN f j (cP f d))+1:=wrap_i64 Om Om;have O:((upN f j (cP f d):Nat):Int)<(Z' f.arE:Nat):=Om;simp only[go_sem,N,O,atA,B.hB,M,hw,iI,b2,fP E,MX E,hV.MY R E];refine aE (j+1,_) ⟨hlt,B.apP hn _,x.set B.hB aR,y.set B.hB aR⟩ sO_ ?_ b_
 (repeat' (first|exact c_|refine e_ ?_ ?_))<;>first|(simp only[go_sem,upN]<;>rfl)|rfl
 have:j=4:=Om;subst this;have h0:upN f 4 (cP f d)=0:=by have:=hV.kE E;omega
 have N:¬((upN f 4 (cP f d):Nat):Int)>0:=Om;simp only[go_sem,N];rw[u5 hV]at B;refine Y _ _ ?_ B x y;unfold oS;exact Lq
structure vW(f:aB)(row:I_):Prop where
 len:Z' row<=16777216
 at_:∀x∈row,-1<=x/\x<(Z' f.arB:Nat)
def home(row:I_)(i:Nat):Bool:=decide (row.getD i 0<0)
def dV(f:aB)(p:bX)(row:I_)(i:Nat):Bool:=decide (0<=row.getD i 0)&&!p.arC.contains ((mdl f (row.getD i 0).toNat:Nat):Int)
theorem Qm(f:aB)(xs:I_){x:Int}(h:x<0):fC f (xs++[x])=fC f xs:=by
 refine avL (by simp[fC]) λi e l=>?_;simp only[fC,auN,List.getElem_range,fO,List.countP_append];have:kL f i x=false:=by simp[kL];omega
 simp[this]
theorem Ya(L:MB C)(f:aB)(hV:VF f)(o:Obs)(hn:o.Ne)(v:Nat)(p:bX)(hp:∀m∈p.arC,0<=m/\m<Z' f.arC)(row:I_)(hr:vW f row)(K:bP)(F:PF)(H:PH)
  (V:(oS f o .aG .aG row 0).le F) (hH:nN H o v p (marks f.arC.length p.arC) (fN f.arB.length []) (fC f []))
  (hK:∀y D F' H',(oS f o y D row row.length).le F'->nN H' o v p (marks f.arC.length p.arC) (fN f.arB.length row) (fC f row)->bC H' 3 y (dT (cF 2 v row.length (home row)))->bC H' 3 D (dT (cF 4 v row.length (dV f p row)))->Dis 3 y D->K (.exit 2) F' H') :
  aJ.wp C (.loop zC) K F H:=by
 obtain⟨σ,ξ⟩:=hr;refine wp_loop (α:=Nat × PV × PV × PH) (λt=>oS f o t.2.1 t.2.2.1 row t.1) (λt=>t.2.2.2)
  (λt=>t.1<=Z' row/\nN t.2.2.2 o v p (marks f.arC.length p.arC) (fN f.arB.length (row.take t.1)) (fC f (row.take t.1))/\bC t.2.2.2 3 t.2.1 (dT (cF 2 v t.1 (home row)))/\bC t.2.2.2 3 t.2.2.1 (dT (cF 4 v t.1 (dV f p row)))/\Dis 3 t.2.1 t.2.2.1)
  (λt=>Z' row-t.1) (0,.aG,.aG,H) ⟨asQ _,by rw[avA];exact hH,.nil,.nil,.nil⟩ V b_ ?_
 rintro⟨k,y,D,H0⟩ ⟨hk,J,M,N,hd⟩;simp only at hk J M N hd ⊢;by_cases hlt:k<Z' row;have A:(k:Int)<(Z' row:Nat):=Om;have X:(row.map λn=>[PV.int .i64 n])[k]?=some [.j row[k]]:=by simp[hlt]
 have hg:row.getD k 0=row[k]:=by simp[asW,hlt]
 have ζ:row.take (k+1)=row.take k++[row[k]]:=atW hlt;have hx:=ξ row[k] (asS hlt);have e2:=jP 2 v k (home row);have Y:=jP 4 v k (dV f p row);have hh:home row k=decide (row[k]<0):=by rw[home,hg]
 have Z:dV f p row k=(decide (0<=row[k])&&!p.arC.contains ((mdl f (row[k]).toNat:Nat):Int)):=by rw[dV,hg]
 have l2:=fJ 2 v k (home row);have l4:=fJ 4 v k (dV f p row);have fin:∀B e (F:PF) (E:PH),(oS f o B e row (k+1)).le F->nN E o v p (marks f.arC.length p.arC) (fN f.arB.length (row.take (k+1))) (fC f (row.take (k+1)))->bC E 3 B (dT (cF 2 v (k+1) (home row)))->bC E 3 e (dT (cF 4 v (k+1) (dV f p row)))->Dis 3 B e ->
   fK (λ(t:Nat × PV × PV × PH)=>oS f o t.2.1 t.2.2.1 row t.1) (λt=>t.2.2.2)
    (λt=>t.1<=Z' row/\nN t.2.2.2 o v p (marks f.arC.length p.arC) (fN f.arB.length (row.take t.1)) (fC f (row.take t.1))/\bC t.2.2.2 3 t.2.1 (dT (cF 2 v t.1 (home row)))/\bC t.2.2.2 3 t.2.2.1 (dT (cF 4 v t.1 (dV f p row)))/\Dis 3 t.2.1 t.2.2.1)
    (λt=>Z' row-t.1) (Z' row-k) K .normal F E:=
  λB e F E V J h1 h2 h3=>aE (α:=Nat × PV × PV × PH) (k+1,B,e,E) ⟨hlt,J,h1,h2,h3⟩ sO_ V b_
 generalize τ:row[k]=x at *
 by_cases c:x<0;have o1:=HF (n:=Z' f.arB) (row.take k) (x:=x) Om;have o2:=Qm f (row.take k) c;rw[ζ,o1,o2]at fin;rw[aF (by rw[hh];simp[c])]at e2;rw[aC (by rw[Z];simp;omega)]at Y;rw[e2,Y]at fin;simp only[go_sem,zC,oS,A,X,c];refine AY (vs:=[.j 2,.j k]) (L.bad o.o5 v 2 k) Sq (d_ a_ J.h5) ?_;have O:(1:Nat)*3<=16777216:=by decide
 simp only[go_sem,O];refine qK (src:=[(⟨2,v,k⟩:jG).cells]) M N hd Sq (by unfold roomFor;rw[iU];simp only[atD,maxLen];omega) λv' H' g1 g2 g3 g4=>?_;rw[lW]at g1;unfold oS at fin;simp only[go_sem,JZ,wZz k];exact fin v' D _ H' Lq (J.keep g4) g1 g2 g3
 ·obtain⟨d,rfl⟩:∃d:Nat,x=d:=⟨x.toNat,by omega⟩;have w:d<Z' f.arB:=Om;have ε:(d:Int)<(Z' f.arB:Nat):=Om;obtain⟨w1,w2,w3,w4,w5⟩:=hV.drive d w;have c0:(0:Int)<=(d:Int):=Om;rw[aC (by rw[hh];simp)]at e2;rw[aW c0,atJ,auL]at Z;have ρ:(row.take k).count (d:Int)<=16777216:=atT (List.count_le_length ..) (by rw[atF];omega);have hw:i_.wrap ((((row.take k).count (d:Int):Nat):Int)+1)=(((row.take k).count (d:Int):Nat):Int)+1:=wrap_i64 Om Om;have U:=rC (l:=fN f.arB.length (row.take k)) (i:=d) (by rw[iV];exact w);rw[YH _ w]at U;have δ:=sy (row.take k) w;have ο:(row.take k).length<=16777216:=by rw[atF];omega
  rw[e2,ζ]at fin;have tail:∀e (F:PF) (E:PH),(oS f o y e row k).le F->F 17=some (.j d)->nN E o v p (marks f.arC.length p.arC) (fN f.arB.length (row.take k)) (fC f (row.take k))->bC E 3 y (dT (cF 2 v k (home row)))->bC E 3 e (dT (cF 4 v (k+1) (dV f p row)))->Dis 3 y e ->
    aJ.wp C (.seq (.region WX) (.seq (.region WY) (.block 4 (.loop JY)))) (fL 3 (gL C (aJ.wp C (.region JZ)) (fK (λ(t:Nat × PV × PV × PH)=>oS f o t.2.1 t.2.2.1 row t.1) (λt=>t.2.2.2)
    (λt=>t.1<=Z' row/\nN t.2.2.2 o v p (marks f.arC.length p.arC) (fN f.arB.length (row.take t.1)) (fC f (row.take t.1))/\bC t.2.2.2 3 t.2.1 (dT (cF 2 v t.1 (home row)))/\bC t.2.2.2 3 t.2.2.1 (dT (cF 4 v t.1 (dV f p row)))/\Dis 3 t.2.1 t.2.2.1)
    (λt=>Z' row-t.1) (Z' row-k) K))) F E:=by
   intro e F E V η R ι κ gd;have f3:F 3=some (.aU f.cells):=V 3 _ (by unfold oS;simp only[go_sem]);have f14:F 14=some (.osl o.oD 1 0 f.arB.length):=V 14 _ (by unfold oS;simp only[go_sem]);simp only[go_sem,WX,f14,η,ε,atA,R.hD,U,hw,iI,δ,WY,f3,kC w,hV.GH w];have up:=ahT (C:=C) f hV o hn v p (marks f.arC.length p.arC) (fN f.arB.length (row.take k++[(d:Int)])) y e (dT (cF 2 v k (home row))) (dT (cF 4 v (k+1) (dV f p row))) row k (row.take k) ο d w;simp only[aJ.wp,go_sem]at up;refine up _ _ _ ?_ (R.apQ hn _) (ι.set R.hD aR) (κ.set R.hD aR) ?_;have g:=λ(q:Nat) u h=>V q u h;unfold oS at g;unfold N3;refine e_ (e_ (e_ (e_ (e_ (e_ (e_ (e_ (e_ (e_ (e_ (e_ (e_ c_ ?_) ?_) ?_) ?_) ?_) ?_) ?_) ?_) ?_) ?_) ?_) ?_) ?_;simp only[go_sem];exact g 3 _ Sq;simp only[go_sem];exact g 5 _ Sq;simp only[go_sem];exact g 7 _ Sq;simp only[go_sem];exact g 8 _ Sq;simp only[go_sem];exact g 11 _ Sq;simp only[go_sem];exact g 12 _ Sq;simp only[go_sem];exact g 13 _ Sq;simp only[go_sem];exact g 14 _ Sq;simp only[go_sem];exact g 15 _ Sq;simp only[go_sem];exact g 62 _ Sq;simp only[go_sem];exact g 63 _ Sq;simp only[go_sem];exact g 64 _ Sq;simp only[go_sem];intro F' H' μ ν β γ;have g:=λ(q:Nat) u h=>μ q u h;unfold oS at g;have θ:F' 64=some (.j k):=g 64 _ Sq;simp only[go_sem,JZ,θ,wZz k];refine fin y e _ H' ?_ ν β γ gd;unfold oS;refine e_ (e_ (e_ (e_ (e_ (e_ (e_ (e_ (e_ (e_ (e_ (e_ c_ ?_) ?_) ?_) ?_) ?_) ?_) ?_) ?_) ?_) ?_) ?_) ?_;simp only[go_sem];exact g 3 _ Sq;simp only[go_sem];exact g 5 _ Sq;simp only[go_sem];exact g 7 _ Sq;simp only[go_sem];exact g 8 _ Sq;simp only[go_sem];exact g 11 _ Sq;simp only[go_sem];exact g 12 _ Sq;simp only[go_sem];exact g 13 _ Sq;simp only[go_sem];exact g 14 _ Sq;simp only[go_sem];exact g 15 _ Sq;simp only[go_sem];exact g 62 _ Sq;simp only[go_sem];exact g 63 _ Sq;simp only[go_sem]
  simp only[aJ.wp,go_sem]at tail;have W:((mdl f d:Nat):Int)<(Z' f.arC:Nat):=Om;have S:(dE (marks f.arC.length p.arC))[mdl f d]?=some [.bool (p.arC.contains ((mdl f d:Nat):Int))]:=by have:=yC (n:=Z' f.arC) (l:=p.arC) (m:=((mdl f d:Nat):Int)) Om W;rw[auL]at this;unfold dE;rw[atC,this];rfl
  cases hb:p.arC.contains ((mdl f d:Nat):Int)with
  |true =>rw[hb]at S Z;rw[aC (by rw[Z];simp)]at Y;rw[Y]at tail;simp only[go_sem,zC,oS,A,X,c,kC w,hV.DD w,W,atA,J.h8,S,asY];exact tail D _ H0 (by unfold oS;exact Lq) Sq J M N hd
  |false=>
   rw[hb]at S Z;rw[aF (by rw[Z];simp)]at Y;rw[Y]at tail;simp only[go_sem,zC,oS,A,X,c,kC w,hV.DD w,W,atA,J.h8,S,atH];refine AY (vs:=[.j 4,.j k]) (L.bad o.o5 v 4 k) Sq (d_ a_ J.h5) ?_;have O:(1:Nat)*3<=16777216:=by decide
   simp only[go_sem,O];refine qK (src:=[(⟨4,v,k⟩:jG).cells]) N M hd.symm Sq (by unfold roomFor;rw[iU];simp only[atD,maxLen];omega) λv' H' g1 g2 g3 g4=>?_;rw[lW]at g1;exact tail v' _ H' (by unfold oS;exact Lq) Sq (J.keep g4) g2 g1 g3.symm
 have A:¬(k:Int)<(Z' row:Nat):=Om;have:k=Z' row:=Om;subst this;rw[atL]at J;simp only[go_sem,zC,oS,A];exact hK y D _ _ (by unfold oS;exact Lq) J M N hd
def lS(f:aB)(row:I_)(d:Nat):Bool:=decide ((fN f.arB.length row).getD d 0>1)
def dU(f:aB)(p:bX)(i:Nat):Int:=p.spread (lvl f i).toNat
def nJ(f:aB)(p:bX)(row:I_)(i:Nat):Bool:=decide (dU f p i>0)&&decide ((fC f row).getD i 0>dU f p i)
def tW(f:aB)(p:bX)(v:Nat)(row:I_):List jG:=
 cF 2 v row.length (home row)++cF 3 v f.arB.length (lS f row)++cF 4 v row.length (dV f p row)++cF 5 v f.arE.length (nJ f p row)
def QV(f:aB)(o:Obs)(e i:PV)(k:Nat):PF:=
 ((((((((((n_.set 3 (.aU f.cells)).set 5 (.ptr o.o5 1 0 0)).set 7 (.ptr o.o7 17 0 0)).set 11 (.fn 159 [.ptr o.o5 1 0 0])).set 13 (e)).set 15 (.osl o.oB 1 0 f.arE.length)).set 19 (i)).set 121 (.osl o.oD 1 0 f.arB.length)).set 122 (.int .i64 (Z' f.arB:Nat))).set 123 (.int .i64 k))
def Ao(f:aB)(o:Obs)(e:PV)(k:Nat):PF:=
 ((((((((n_.set 3 (.aU f.cells)).set 5 (.ptr o.o5 1 0 0)).set 7 (.ptr o.o7 17 0 0)).set 11 (.fn 159 [.ptr o.o5 1 0 0])).set 19 (e)).set 140 (.osl o.oB 1 0 f.arE.length)).set 141 (.int .i64 (Z' f.arE:Nat))).set 142 (.int .i64 k))
theorem S6(L:MB C)(f:aB)(hV:VF f)(o:Obs)(v:Nat)(p:bX)(A:List Bool)(B:I_)(row:I_)(O:List jG)(β:Z' O<=16777216)(e y:PV)(D:P2_)(K:bP)(F:PF)(H:PH)
  (hF:(QV f o e y 0).le F) (hH:nN H o v p A (fN f.arB.length row) B) (S:bC H 3 y (dT O)) (R:bC H 3 e D) (hd:Dis 3 y e)
  (hK:∀v' W H',(QV f o e v' f.arB.length).le W->nN H' o v p A (fN f.arB.length row) B->bC H' 3 v' (dT (O++cF 3 v f.arB.length (lS f row)))->bC H' 3 e D->Dis 3 v' e->K (.exit 6) W H') :
  aJ.wp C (.loop WV) K F H:=by
 have hs:=hV.small.arB;refine wp_loop (α:=T3_) (λt=>QV f o e t.2.1 t.1) (λt=>t.2.2) (λt=>t.1<=Z' f.arB/\nN t.2.2 o v p A (fN f.arB.length row) B/\bC t.2.2 3 t.2.1 (dT (O++cF 3 v t.1 (lS f row)))/\bC t.2.2 3 e D/\Dis 3 t.2.1 e) (λt=>Z' f.arB-t.1) (0,y,H)
  ⟨asQ _,hH,by rw[show cF 3 v 0 (lS f row)=[]from rfl,auA];exact S,R,hd⟩ hF b_ ?_
 rintro⟨k,v',Z⟩ ⟨hk,E,u,x,N⟩;simp only at hk E u x N ⊢;simp only[go_sem,WV,QV];by_cases hlt:k<Z' f.arB;have w:(k:Int)<(Z' f.arB:Nat):=Om;have U:=rC (l:=fN f.arB.length row) (i:=k) (by rw[iV];exact hlt);have V:(fN f.arB.length row).getD k 0=(fN f.arB.length row)[k]'(by rw[iV];exact hlt):=by rw[asW,asZ (by rw[iV];exact hlt)];rfl
 have M:=jP 3 v k (lS f row);have X:lS f row k=decide ((fN f.arB.length row)[k]'(by rw[iV];exact hlt)>1):=by rw[lS,V]
 have γ:=fJ 3 v k (lS f row);simp only[go_sem,w,atA,E.hD,U];by_cases c:(fN f.arB.length row)[k]'(by rw[iV];exact hlt)>1;rw[aF (by rw[X];simp[c])]at M;simp only[go_sem,c];refine AY (vs:=[.j 3,.j k]) (L.bad o.o5 v 3 k) Sq (d_ a_ E.h5) ?_;have J:(1:Nat)*3<=16777216:=by decide
 simp only[go_sem,J];refine qK (src:=[(⟨3,v,k⟩:jG).cells]) u x N Sq (by unfold roomFor;rw[iU,asX];simp only[atD,maxLen];omega) λv' H' Y k2 k3 k4=>?_;rw[lW,atV,<-M]at Y;simp only[go_sem,wZz k];refine aE (k+1,v',H') ⟨hlt,E.keep k4,Y,k2,k3⟩ sO_ ?_ b_;exact Lq;rw[aC (by rw[X];simp;omega)]at M;rw[<-M]at u;simp only[go_sem,c,wZz k];refine aE (k+1,v',Z) ⟨hlt,E,u,x,N⟩ sO_ ?_ b_;exact Lq;have w:¬(k:Int)<(Z' f.arB:Nat):=Om;have:k=Z' f.arB:=Om;subst this;simp only[go_sem,w];exact hK v' _ _ (by unfold QV;exact Lq) E u x N
theorem N4(f:aB)(hV:VF f)(o:Obs)(v:Nat)(p:bX)(A:List Bool)(D B:I_)(i:Nat)(hi:i<Z' f.arE)(K:K_)(F:PF)(H:PH)
  (y:nN H o v p A D B) (x:F 3=some (.aU f.cells)) (f7:F 7=some (.ptr o.o7 17 0 0)) (l:F 22=some (.j i))
  (w:∀e:PF,e 24=some (.j (dU f p i))->(∀j,j<147->j≠24->e j=F j)->K e H):wpOps C WZ K F H:=by
 obtain⟨L,Y,-⟩:=hV.kE hi;have h5:((lvl f i)<((5:Nat):Int)):=Om;unfold dU at w;simp only[go_sem,WZ,x,f7,l,fP hi,tO hi,L,h5,Nat.mul_one];have E:lvl f i=0\/lvl f i=1\/lvl f i=2\/lvl f i=3\/lvl f i=4:=Om;have fin:∀(e:PF),e 24=some (.j (p.spread (lvl f i).toNat))->(∀j,j<147->j≠24->e j=F j)->K e H:=w;have low:∀(j:Nat),j<147->j≠147/\j≠148/\j≠149/\j≠150/\j≠151/\j≠152/\j≠153/\j≠154/\j≠155:=Om;rcases E with h|h|h|h|h
 all_goals
  rw[h]at fin ⊢;simp only[go_sem,y.h7];refine fin _ (by simp only[go_sem];rfl) λj J u=>?_;obtain⟨M,N,O,R,S,U,V,W,X⟩:=low j J;simp only[go_sem,u,M,N,O,R,S,U,V,W,X]
theorem S5(L:MB C)(f:aB)(hV:VF f)(o:Obs)(v:Nat)(p:bX)(A:List Bool)(D:I_)(row:I_)(Y:List jG)(ζ:Z' Y<=100000000)(R:PV)(K:bP)(F:PF)(H:PH)
  (hF:(Ao f o R 0).le F) (hH:nN H o v p A D (fC f row)) (γ:bC H 3 R (dT Y))
  (hK:∀v' F' H',F' 19=some v'->bC H' 3 v' (dT (Y++cF 5 v f.arE.length (nJ f p row)))->K (.exit 8) F' H') :
  aJ.wp C (.loop WW) K F H:=by
 have hs:=hV.small.arE;refine wp_loop (α:=T3_) (λt=>Ao f o t.2.1 t.1) (λt=>t.2.2) (λt=>t.1<=Z' f.arE/\nN t.2.2 o v p A D (fC f row)/\bC t.2.2 3 t.2.1 (dT (Y++cF 5 v t.1 (nJ f p row)))) (λt=>Z' f.arE-t.1) (0,R,H)
  ⟨asQ _,hH,by rw[show cF 5 v 0 (nJ f p row)=[]from rfl,auA];exact γ⟩ hF b_ ?_
 rintro⟨k,v',H0⟩ ⟨hk,O,e⟩;simp only at hk O e ⊢;simp only[go_sem,WW,Ao];by_cases hlt:k<Z' f.arE;have B:(k:Int)<(Z' f.arE:Nat):=Om;have δ:=rC (l:=fC f row) (i:=k) (by rw[CX];exact hlt);have ε:(fC f row).getD k 0=(fC f row)[k]'(by rw[CX];exact hlt):=by rw[asW,asZ (by rw[CX];exact hlt)];rfl
 have S:=jP 5 v k (nJ f p row);have η:=fJ 5 v k (nJ f p row);have ht:nJ f p row k=(decide (dU f p k>0)&&decide ((fC f row)[k]'(by rw[CX];exact hlt)>dU f p k)):=by rw[nJ,ε]
 generalize(fC f row)[k]'(by rw[CX];exact hlt)=β at *
 simp only[go_sem,B,atA,O.hB,δ];refine N4 f hV o v p A D (fC f row) k hlt _ _ _ O Sq Sq Sq λF' N U=>?_;have g:=λ(q:Nat)(h1:q<147)(h2:q≠24)=>U q h1 h2;have Z:=g 3 aR aR;have q5:=g 5 aR aR;have q7:=g 7 aR aR;have E:=g 11 aR aR;have J:=g 19 aR aR;have w:=g 140 aR aR;have x:=g 141 aR aR;have y:=g 142 aR aR;have W:=g 22 aR aR;have M:=g 23 aR aR;simp only[go_sem,Nat.reduceEqDiff,reduceIte]at Z q5 q7 E J w x y W M;by_cases X:dU f p k>0;by_cases c2:β>dU f p k;rw[aF (by rw[ht];simp[X,c2])]at S;simp only[go_sem,N,M,X,c2,J,E,W];refine AY (vs:=[.j 5,.j k]) (L.bad o.o5 v 5 k) Sq (d_ a_ O.h5) ?_;have V:(1:Nat)*3<=16777216:=by decide
 simp only[go_sem,V];refine qK (rows':=[]) (u:=.aG) (src:=[(⟨5,v,k⟩:jG).cells]) e .nil (λ_ _ _ _ _ h=>by cases h) Sq (by unfold roomFor;rw[iU,asX];simp only[atD,maxLen];omega) λv' H' k1 k2 k3 k4=>?_;rw[lW,atV,<-S]at k1;simp only[go_sem,y,wZz k];refine aE (k+1,v',H') ⟨hlt,O.keep k4,k1⟩ sO_ ?_ b_;exact lE6 Z q5 q7 E w x;rw[aC (by rw[ht];simp;omega)]at S;rw[<-S]at e;simp only[go_sem,N,M,X,c2,y,wZz k];refine aE (k+1,v',H0) ⟨hlt,O,e⟩ sO_ ?_ b_;exact lE7 Z q5 q7 E J w x;rw[aC (by rw[ht];simp;omega)]at S;rw[<-S]at e;simp only[go_sem,N,M,X,y,wZz k];refine aE (k+1,v',H0) ⟨hlt,O,e⟩ sO_ ?_ b_;exact lE7 Z q5 q7 E J w x;have B:¬(k:Int)<(Z' f.arE:Nat):=Om;have:k=Z' f.arE:=Om;subst this;simp only[go_sem,B];exact hK v' _ _ Sq e
theorem HD(n:Nat):asT n [PV.bool false]=dE (marks n []):=by rw[wa];simp[dE]
theorem Pi(n:Nat):asT n [PV.int .i64 0]=aM (fN n []):=by rw[db,oW]
theorem yu(f:aB):asT f.arE.length [PV.int .i64 0]=aM (fC f []):=by
 have:fC f []=asT f.arE.length 0:=by refine avL (by simp[fC]) λi e l=>?_;simp[fC,fO]
 rw[this,oW]
def N2(f:aB)(l:L2_)(o5 o7 o8:Nat)(ms:I_)(k:Nat):PF:=
 ((((((((n_.set 1 (lay l)).set 3 (.aU f.cells)).set 5 (.ptr o5 1 0 0)).set 7 (.ptr o7 17 0 0)).set 8 (.osl o8 1 0 f.arC.length)).set 40 (ints ms)).set 41 (.int .i64 (Z' ms:Nat))).set 42 (.int .i64 k))
theorem Y4(L:MB C)(f:aB)(hV:VF f)(S:∀p∈f.arF,Fits p.arC)(l:L2_)(v:Nat)(hv:v<Z' l)(E:v<Z' f.arD)(hr:vW f l[v]) :
  ql.wp C (aV fU.res (cN (LR (tW f (bF f v) v l[v])))) (g_ [.agg f.cells,lay l,.j v]) .nil:=by
 obtain⟨hp,he⟩:=iN hV E;have B:=hV.arO _ (asS hp);have υ:=S _ (asS hp);rw[he]at B υ;generalize Ψ:bF f v=p at *
 have U:=B.2.2.2.2.2.2.2;have V:(l.map λr=>[ints r])[v]?=some [ints l[v]]:=by simp[hv]
 generalize l[v]=row at *
 have D:=hV.small;have ο:(Z' f.arC:Int)*((1:Nat):Int)<=140737488355328:=by have:=D.arC;omega
 have ρ:(Z' f.arC:Int)<=9223372036854775807:=by have:=D.arC;omega
 have M:(Z' f.arB:Int)*((8:Nat):Int)<=140737488355328:=by have:=D.arB;omega
 have N:(Z' f.arB:Int)<=9223372036854775807:=by have:=D.arB;omega
 have O:(Z' f.arE:Int)*((8:Nat):Int)<=140737488355328:=by have:=D.arE;omega
 have R:(Z' f.arE:Int)<=9223372036854775807:=by have:=D.arE;omega
 simp only[go_sem,ql];refine aQ λo5 h5=>?_;simp only[go_sem];refine bE (h_.set o5 (.rows 1 [[.j v]])) cR (d_ a_ Sq) ?_;simp only[go_sem,oT E,hV.AH E,lG hp,he];refine aQ λo7 h7=>?_;have e:o5≠o7:=by rintro rfl;simp only[aO,if_true]at h7;cases h7
 simp only[go_sem,e];refine⟨d_ a_ (by simp only[go_sem,e]),?_⟩;simp only[go_sem,asO,ο,ρ];refine aQ λo8 h8=>?_;have i:o5≠o8:=by rintro rfl;simp only[aO,e,if_true,if_false]at h8;cases h8
 have w:o7≠o8:=by rintro rfl;simp only[aO,if_true]at h8;cases h8
 simp only[go_sem,w,asO];rw[HD];refine wp_loop (α:=Nat) (λk=>N2 f l o5 o7 o8 p.arC k) (λk=>((h_.set o5 (.rows 1 [[.j v]])).set o7 (.rows 17 [p.cells])).set o8 (.rows 1 (dE (marks f.arC.length (p.arC.take k))))) (λk=>k<=Z' p.arC) (λk=>Z' p.arC-k) 0 (asQ _) ?_ ?_ ?_;unfold N2;exact lM;refine d_ (d_ (d_ a_ ?_) ?_) ?_;simp only[go_sem,e,i];simp only[go_sem,w];simp only[go_sem,avA];intro k hk;simp only[go_sem,N2];by_cases hlt:k<Z' p.arC;have x:(k:Int)<(Z' p.arC:Nat):=Om;have τ:(p.arC.map λn=>[PV.int .i64 n])[k]?=some [.j p.arC[k]]:=by simp[hlt]
 obtain⟨m1,m2⟩:=U _ (asS hlt);have Φ:(p.arC[k]).toNat<(dE (marks f.arC.length (p.arC.take k))).length:=by rw[yP,JG];omega
 have σ:(dE (marks f.arC.length (p.arC.take k)))[(p.arC[k]).toNat]?=some [.bool ((p.arC.take k).contains p.arC[k])]:=by unfold dE;rw[atC,yC m1 m2];rfl
 simp only[go_sem,x,τ,m1,m2,atA,σ,kB,JH m1 m2,wZz k];refine aE (k+1) hlt Om ?_ ?_;exact Lq;rw[atW hlt];refine d_ (d_ (d_ a_ ?_) ?_) ?_;simp only[go_sem,e,i];simp only[go_sem,w];simp only[go_sem];have x:¬(k:Int)<(Z' p.arC:Nat):=Om;have:k=Z' p.arC:=Om;subst this;simp only[go_sem,x,atL];refine bE .nil cR a_ ?_;simp only[go_sem,asO,M,N,O,R];refine aQ λoD hD=>?_;have y:o5≠oD:=by rintro rfl;simp only[aO,e,i,if_true,if_false]at hD;cases hD
 have J:o7≠oD:=by rintro rfl;simp only[aO,w,if_true,if_false]at hD;cases hD
 have K:o8≠oD:=by rintro rfl;simp only[aO,if_true]at hD;cases hD
 simp only[go_sem,asO,M,N,O,R];refine aQ λoB hB=>?_;have F:o5≠oB:=by rintro rfl;simp only[aO,e,i,y,if_true,if_false]at hB;cases hB
 have W:o7≠oB:=by rintro rfl;simp only[aO,w,J,if_true,if_false]at hB;cases hB
 have X:o8≠oB:=by rintro rfl;simp only[aO,K,if_true,if_false]at hB;cases hB
 have Y:oD≠oB:=by rintro rfl;simp only[aO,if_true]at hB;cases hB
 rw[Pi,yu];simp only[go_sem,e,i,y,F,V,asO];have φ:(⟨o5,o7,o8,oD,oB⟩:Obs).Ne:=⟨y,F,J,W,K,X,Y⟩;refine Ya L f hV ⟨o5,o7,o8,oD,oB⟩ φ v p U row hr _ _ _ ?_ ⟨?_,?_,?_,?_,?_⟩ ?_;unfold oS;exact Lq;simp only[go_sem,e,i,y,F];simp only[go_sem,w,J,W];simp only[go_sem,K,X];simp only[go_sem,Y];simp only[go_sem];intro Θ Λ F1 H1 θ ν δ ε gd;have g:=λ(q:Nat) u h=>θ q u h;unfold oS at g;have q3:=g 3 _ rfl;have q5:=g 5 _ rfl;have q7:=g 7 _ rfl;have ψ:=g 11 _ rfl;have ω:=g 12 _ rfl;have Z:=g 13 _ rfl;have Γ:=g 14 _ rfl;have β:=g 15 _ rfl;simp only[go_sem,ω,Γ];have l2:=fJ 2 v row.length (home row);have l3:=fJ 3 v f.arB.length (lS f row);have l4:=fJ 4 v row.length (dV f p row);have Ω:=hr.len;have Ξ:=D.arB;refine S6 L f hV ⟨o5,o7,o8,oD,oB⟩ v p _ _ row (cF 2 v row.length (home row)) Om Λ Θ _ _ _ H1 ?_ ν δ ε gd ?_;unfold QV;exact Lq;intro a' F2 H2 ι ξ ζ A η;have g:=λ(q:Nat) u h=>ι q u h;unfold QV at g;have q3:=g 3 _ rfl;have q5:=g 5 _ rfl;have q7:=g 7 _ rfl;have ψ:=g 11 _ rfl;have Z:=g 13 _ rfl;have β:=g 15 _ rfl;have Δ:=g 19 _ rfl;simp only[go_sem,Δ,Z];refine qK ζ A η A.view (by unfold roomFor;rw[iU,iU,asX];simp only[maxLen];omega) λγ H3 k1 k2 k3 k4=>?_;simp only[go_sem,β];have χ:dT (cF 2 v row.length (home row)++cF 3 v f.arB.length (lS f row))++dT (cF 4 v row.length (dV f p row))=dT (cF 2 v row.length (home row)++cF 3 v f.arB.length (lS f row)++cF 4 v row.length (dV f p row)):=by simp only[dT,atK]
 rw[χ]at k1;refine S5 L f hV ⟨o5,o7,o8,oD,oB⟩ v p _ _ row _ (by simp only[asX];omega) γ _ _ H3 ?_ (ξ.keep k4) k1 ?_;unfold Ao;exact Lq;intro b' F4 H4 κ μ;simp only[go_sem,κ];exact lO (.inr rfl) μ rfl
structure Bn(C:Ctx):Prop extends MB C where
 row:∀(f:aB)(l:L2_) (v:Nat),VF f->(∀p∈f.arF,Fits p.arC)->(h:v<Z' l)->v<Z' f.arD->vW f l[v]->aH C 158 [.agg f.cells,lay l,.int .i64 v] .nil (aK (LR (tW f (bF f v) v l[v])))
def vH(f:aB)(l:L2_)(v:Nat):List jG:=match tT f l v with
 |some x=>[x]
 |none=>tW f (bF f v) v (l.getD v [])
def rJ(f:aB)(l:L2_)(n:Nat):List jG:=(asP n).flatMap (vH f l)
def over(f:aB)(l:L2_)(room:I_)(d:Nat):Bool:=decide ((cD f l).getD d 0>(bA f room).getD d 0)
def aaP(f:aB)(l:L2_)(room:I_):List jG:=rJ f l l.length++cF 6 (-1) f.arB.length (over f l room)
def tI(f:aB)(l:L2_)(room:I_):List jG:=
 if cI f then(if l.length=f.arD.length then aaP f l room else[⟨1,-1,(Z' l:Nat)⟩])else[]
theorem xJ{p:Int->Bool}:∀{l:I_}{i:Nat},gS p l i=none->∀x∈l,p x=false
 |[],_,_,x,hx=>absurd hx (atS)
 |y::t,i,h,x,hx=>by
  rw[gS]at h;split at h;cases h;rename_i e;rcases atG.1 hx with rfl|hx
  simpa using e;exact xJ h x hx
theorem xv{f:aB}{l:L2_}(w:iD l){v:Nat}(e:v<Z' l)(h:tT f l v=none):vW f l[v]:=by
 have u:l.getD v []=l[v]:=by simp[asW,e]
 unfold tT at h;rw[u]at h;split at h;rw[Option.map_eq_none_iff]at h;refine⟨?_,λx y=>?_⟩;have i:=HJ l (v+1);have:=w.all;rw[yR l e,asX]at i;omega;have:=xJ h x y;simp[kY]at this;omega;cases h
theorem O9(f:aB)(p:bX)(v:Nat)(row:I_):(tW f p v row).length<=2*Z' row+Z' f.arB+Z' f.arE:=by
 unfold tW;have e:=fJ 2 v row.length (home row);have i:=fJ 3 v f.arB.length (lS f row);have l:=fJ 4 v row.length (dV f p row);have u:=fJ 5 v f.arE.length (nJ f p row);simp only[asX];omega
theorem gs{f:aB}(e:Small f){l:L2_}(w:iD l){v:Nat}(i:v<Z' l):(vH f l v).length<=100000000:=by
 unfold vH;split;simp;rename_i h;have u:l.getD v []=l[v]:=by simp[asW,i]
 have:=O9 f (bF f v) v (l.getD v []);have x:=(xv w i h).len;have:=e.arB;have:=e.arE;rw[u]at *
 omega
theorem OJ(f:aB)(l:L2_)(n:Nat):rJ f l (n+1)=rJ f l n++vH f l n:=by
 unfold rJ;rw[avH,List.flatMap_append];simp
theorem CY{f:aB}(i:Small f){l:L2_}(e:iD l):∀{n:Nat},n<=Z' l->(rJ f l n).length<=n*100000000
 |0,_=>by simp[rJ]
 |n+1,h=>by rw[OJ,asX];have:=CY i e (n:=n) Om;have:=gs i e (v:=n) Om;omega
def viF(f:aB)(l:L2_)(room:I_)(e:PV)(k:Nat):PF:=((((((n_.set 1 (lay l)).set 2 (ints room)).set 3 (.aU f.cells)).set 7 (e)).set 30 (.int .i64 (Z' l:Nat))).set 31 (.int .i64 k))
def viG(f:aB)(l:L2_)(room:I_)(e:PV)(k:Nat):PF:=(((((n_.set 7 (e)).set 11 (ints (bA f room))).set 58 (ints (cD f l))).set 59 (.int .i64 (Z' f.arB:Nat))).set 60 (.int .i64 k))
theorem Uf(f:aB)(hV:VF f)(l:L2_)(room:I_)(B:List jG)(U:Z' B<=2000000000)(D:PV)(K:bP)(F:PF)(H:PH)
  (N:(viG f l room D 0).le F) (R:bC H 3 D (dT B))
  (O:∀v' E H',E 7=some v'->bC H' 3 v' (dT (B++cF 6 (-1) f.arB.length (over f l room)))->K (.exit 3) E H'):aJ.wp C (.loop WU) K F H:=by
 have V:=hV.small.arB;refine wp_loop (α:=T3_) (λt=>viG f l room t.2.1 t.1) (λt=>t.2.2) (λt=>t.1<=Z' f.arB/\bC t.2.2 3 t.2.1 (dT (B++cF 6 (-1) t.1 (over f l room)))) (λt=>Z' f.arB-t.1) (0,D,H)
  ⟨asQ _,by rw[show cF 6 (-1) 0 (over f l room)=[]from rfl,auA];exact R⟩ N b_ ?_
 rintro⟨k,v',M⟩ ⟨S,i⟩;simp only at S i ⊢;simp only[go_sem,WU,viG];by_cases hlt:k<Z' f.arB;have e:(k:Int)<(Z' f.arB:Nat):=Om;have w:k<(cD f l).length:=by rw[cD,iV];exact hlt
 have x:k<(bA f room).length:=by rw[pA];exact hlt
 have a1:((cD f l).map λn=>[PV.int .i64 n])[k]?=some [.j (cD f l)[k]]:=by simp[w]
 have a2:((bA f room).map λn=>[PV.int .i64 n])[k]?=some [.j (bA f room)[k]]:=by simp[x]
 have J:over f l room k=decide ((cD f l)[k]>(bA f room)[k]):=by simp only[over,asW,asZ w,asZ x,auV]
 have A:=jP 6 (-1) k (over f l room);have Z:=fJ 6 (-1) k (over f l room);simp only[go_sem,e,a1,a2];by_cases c:(cD f l)[k]>(bA f room)[k];rw[aF (by rw[J];simp[c])]at A;have y:(1:Nat)*3<=16777216:=by decide
 simp only[go_sem,c,y];refine qK (rows':=[]) (u:=.aG) (src:=[(⟨6,-1,k⟩:jG).cells]) i .nil (λ_ _ _ _ _ h=>by cases h) Sq (by unfold roomFor;rw[iU,asX];simp only[atD,maxLen];omega) λv' H' L W X Y=>?_;rw[lW,atV,<-A]at L;simp only[go_sem,wZz k];refine aE (k+1,v',H') ⟨hlt,L⟩ sO_ ?_ b_;exact Lq;rw[aC (by rw[J];simp;omega)]at A;rw[<-A]at i;simp only[go_sem,c,wZz k];refine aE (k+1,v',M) ⟨hlt,i⟩ sO_ ?_ b_;exact Lq;have e:¬(k:Int)<(Z' f.arB:Nat):=Om;have:k=Z' f.arB:=Om;subst this;simp only[go_sem,e];exact O v' _ _ Sq i
theorem Y3(L:Bn C)(f:aB)(S:f.Ok)(l:L2_)(D:iD l)(room:I_) :
  qj.wp C (aV kM.res (cN (LR (tI f l room)))) (g_ [.agg f.cells,lay l,ints room]) .nil:=by
 simp only[go_sem,qj,kM];refine aD (L.valid f S) Ev ?_;unfold tI;have β:=D.rows;have F:∀p∈f.arF,Fits p.arC:=λp hp=>(S.arO p hp).arC;cases Y:cI f with
 |false =>simp only[go_sem,atH];exact lO (rows:=[]) (.inr rfl) .nil Ev
 |true=>
  have hV:=VF.of Y;by_cases c:Z' l=Z' f.arD;have O:((Z' l:Int) != (Z' f.arD:Int))=false:=cB Om;rw[aF c];have Z:=hV.small.arD;simp only[go_sem,asY,asO,O];refine wp_loop (α:=T3_) (λt=>viF f l room t.2.1 t.1) (λt=>t.2.2) (λt=>t.1<=Z' l/\bC t.2.2 3 t.2.1 (dT (rJ f l t.1))) (λt=>Z' l-t.1) (0,.aG,.nil) ⟨asQ _,.nil⟩ ?_ a_ ?_;unfold viF;exact lM;rintro⟨k,v7,H0⟩ ⟨hk,N⟩;simp only at hk N ⊢;simp only[go_sem,viF];by_cases hlt:k<Z' l
  ·have i:(k:Int)<(Z' l:Nat):=Om;have U:=CY hV.small D (n:=k) Om;have e:=OJ f l k;simp only[go_sem,i];refine aD (L.shape f l k hV D hlt Om) Ev ?_;cases E:tT f l k with
   |some x=>
    have w:vH f l k=[x]:=by rw[vH,E]
    rw[w]at e;simp only[go_sem,shV];refine aQ λo W=>?_;have B:(1:Nat)*3<=16777216:=by decide
    simp only[go_sem,B];refine qK (rows':=[]) (u:=.aG) (src:=[x.cells]) (N.fresh W _).1 .nil (λ_ _ _ _ _ h=>by cases h) Sq (by unfold roomFor;rw[iU];simp only[atD,maxLen];omega) λv' H' M k2 k3 k4=>?_;rw[lW,<-e]at M;simp only[go_sem,wZz k];refine aE (k+1,v',H') ⟨hlt,M⟩ sO_ ?_ b_;exact Lq
   |none=>
    have hg:l.getD k []=l[k]:=by simp[asW,hlt]
    have w:vH f l k=tW f (bF f k) k l[k]:=by rw[vH,E,hg]
    have K:=xv D hlt E;have J:=gs hV.small D hlt;rw[w]at e J;simp only[go_sem,shV];refine aQ λo W=>?_;simp only[go_sem];refine aD (L.row f l k hV F hlt Om K) Ev ?_;simp only[go_sem];refine qK (rows':=[]) (u:=.aG) (src:=dT (tW f (bF f k) k l[k])) (N.fresh W _).1 .nil (λ_ _ _ _ _ h=>by cases h) Sq (by unfold roomFor;rw[iU,iU];simp only[maxLen];omega) λv' H' M k2 k3 k4=>?_;have X:dT (rJ f l k)++dT (tW f (bF f k) k l[k])=dT (rJ f l (k+1)):=by rw[e];simp only[dT,atK]
    rw[X]at M;simp only[go_sem,wZz k];refine aE (k+1,v',H') ⟨hlt,M⟩ sO_ ?_ b_;exact Lq
  have i:¬(k:Int)<(Z' l:Nat):=Om;have:k=Z' l:=Om;subst this;have U:=CY hV.small D (n:=Z' l) (asU _);have y:=L.room f room S;rw[oR,Y]at y;have A:=(L.loads f l hV.small.arB D).Jc;simp only[go_sem,i];refine aD y Ev ?_;simp only[go_sem];refine aD A Ev ?_;have V:(cD f l).length=Z' f.arB:=by rw[cD,iV]
  simp only[go_sem,asO,V];refine Uf f hV l room (rJ f l l.length) Om v7 _ _ H0 ?_ N ?_;unfold viG;exact Lq;intro v' F' H' h7 R;simp only[go_sem,h7];exact lO (.inr rfl) R Sq;have O:((Z' l:Int) != (Z' f.arD:Int))=true:=cY Om;have B:(1:Nat)*3<=16777216:=by decide
  rw[aC c];simp only[go_sem,asY,asO,O,B];exact bM (.inr rfl) .nil Ev a_ ⟨.refl _,rfl⟩
structure Z5(C:Ctx):Prop extends Bn C where
 viol:∀(f:aB)(l:L2_) (room:I_),f.Ok->iD l->aH C 154 [.agg f.cells,lay l,ints room] .nil (aK (LR (tI f l room)))
def eU(f:aB)(l:L2_)(room:I_):Bool:=cI f&&decide ((tI f l room).length=0)
theorem Tv(L:Z5 C)(f:aB)(e:f.Ok)(l:L2_)(i:iD l)(room:I_) :
  b8.wp C (aV qf.res (cN (.bool (eU f l room)))) (g_ [.agg f.cells,lay l,ints room]) .nil:=by
 simp only[go_sem,b8,qf];refine aD (L.valid f e) Ev ?_;unfold eU;cases u:cI f with
 |false =>simp only[go_sem];exact bS Ev rfl
 |true =>simp only[go_sem];refine aD (L.viol f l room e i) Ev ?_;by_cases c:(tI f l room).length=0;simp only[go_sem,asO,bR (show(((tI f l room).length:Nat):Int)=0 by omega)];exact bS Ev (by simp[c]);simp only[go_sem,asO,bH (show(((tI f l room).length:Nat):Int)≠0 by omega)];exact bS Ev (by rw[bD c])
def gk:=bT [] Proofs.Tryz.f12
def tp:=aA gk 3
def wd:aJ:=(sq (aA gk 0) (jJ (aA gk 1) 5 (.region (aA gk 2)) (sq tp .ret)))
def EZ:=bT [] Proofs.Tryz.f7
def gl:=aA EZ 1
def QA:aJ:=(sq (aA EZ 0) (.seq (dq (dZ EZ 0) (.cond (Tm 18) (sq gl .ret) .skip)) (sq (aA EZ 2) (dq (dZ EZ 1) .ret))))
def Ae:=bT [] Proofs.Tryz.f74
def nu:=cG Ae
def kZ:=bT [45,63,90,95] Proofs.Tryz.f42
def ti:=aA kZ 6
def tj:=aA kZ 7
def tk:=aA kZ 8
def YP:=aA kZ 9
def fw:=aA kZ 10
def fx:=aA kZ 11
def fy:=aA kZ 12
def ga:=aA kZ 13
def gb:=aA kZ 14
def PW:=aA kZ 15
def ge:=aA kZ 16
def gf:=aA kZ 17
def gg:=aA kZ 21
def gh:=aA kZ 22
def gi:=aA kZ 23
def PU:aJ:=(dH (aA kZ 18) 68 2 gi (sq (aA kZ 19) (jJ (aA kZ 20) 85 (.region gg) (.region gh))))
def gj:=aA kZ 24
def wc:aJ:=(sq (aA kZ 0) (sq (aA kZ 1) (sq (aA kZ 2) (sq (aA kZ 3) (.seq (cS (aA kZ 4) 0 (dH (aA kZ 5) 22 0 (aA kZ 25) (sq ti (jJ tj 29 (.region tk) (sq YP (sq fw (sq fx (sq fy (jJ ga 58 (.region gb) (sq PW (sq ge (.seq (cS gf 2 PU) (.region gj))))))))))))) (sq (aA kZ 26) .ret))))))
def Nf:=bT [16] Proofs.Tryz.f46
def wg:=cG Nf
def Af:=bT [] Proofs.Tryz.f43
def nv:=cG Af
def mS:=bT [60,81,113] Proofs.Tryz.f45
def VD:=dZ mS 3
def VE:=aA mS 11
def DE:aJ:=(dH (aA mS 5) 28 0 (aA mS 12) (jJ (aA mS 6) 32 (jJ (aA mS 7) 39 (dq (dZ mS 0) (.draw (dZ mS 1))) (.exit 1)) (jJ (aA mS 8) 78 .ret (dq (dZ mS 2) (jJ (aA mS 9) 98 (.region (aA mS 10)) (dq VD (.region VE)))))))
def PT:aJ:=(sq (aA mS 0) (sq (aA mS 1) (jJ (aA mS 2) 25 (.region (aA mS 3)) (cS (aA mS 4) 0 DE))))
def eG:=bT [40,67,148,154,176] Proofs.Tryz.f13
def VC:aJ:=(dH (aA eG 4) 29 0 (aA eG 8) (sq (aA eG 5) (sq (aA eG 6) (.region (aA eG 7)))))
def PJ:aJ:=(dH (aA eG 11) 48 2 (aA eG 12) (dq (dZ eG 0) (.draw (dZ eG 1))))
def PN:=aA eG 18
def EU:=dZ eG 2
def EV:=dZ eG 3
def EW:=aA eG 19
def EX:=aA eG 20
def PO:=aA eG 21
def ET:aJ:=(dH (aA eG 22) 119 6 (aA eG 25) (sq (aA eG 23) (.cond (Tm 124) (.region (aA eG 24)) .skip)))
def PP:=aA eG 26
def PQ:=aA eG 27
def PR:=aA eG 28
def PS:=aA eG 29
def EY:=aA eG 30
def PK:aJ:=(dH (aA eG 17) 82 4 (aA eG 31) (sq PN (.seq (dq EU (.draw EV)) (sq EW (sq EX (.seq (cS PO 6 ET) (sq PP (sq PQ (jJ PR 143 (.region PS) (.region EY))))))))))
def PL:aJ:=(dH (aA eG 34) 163 8 (aA eG 35) (dq (dZ eG 4) (.draw (dZ eG 5))))
def aw:aJ:=(sq (aA eG 0) (sq (aA eG 1) (sq (aA eG 2) (.seq (cS (aA eG 3) 0 VC) (sq (aA eG 9) (.seq (cS (aA eG 10) 2 PJ) (sq (aA eG 13) (sq (aA eG 14) (sq (aA eG 15) (.seq (cS (aA eG 16) 4 PK) (sq (aA eG 32) (.seq (cS (aA eG 33) 8 PL) (sq (aA eG 36) .ret)))))))))))))
def nr:=bT [] Proofs.Tryz.f38
def ao:=cG nr
def Ah:=bT [3,21] Proofs.Tryz.f14
def nw:=cG Ah
def iF:=bT [3,62,66] Proofs.Tryz.f5
def PX:=aA iF 7
def PY:=aA iF 8
def PZ:=aA iF 9
def KT:=aA iF 10
def KU:=aA iF 11
def KV:=aA iF 12
def KW:=aA iF 13
def CG:=aA iF 14
def KX:=aA iF 15
def CH:=aA iF 16
def KY:=aA iF 17
def KR:aJ:=(dH PX 28 2 KY (sq PY (jJ PZ 34 (sq KT (sq KU (.block 4 (sq KV (.cond (Tm 44) (.region KW) (sq CG (.cond (Tm 51) (.region KX) .skip))))))) (.region CH))))
def VG:aJ:=(sq (aA iF 0) (sq (aA iF 1) (.seq (cS (aA iF 2) 0 (dH (aA iF 3) 15 0 (aA iF 19) (sq (aA iF 4) (sq (aA iF 5) (.seq (cS (aA iF 6) 2 KR) (.region (aA iF 18))))))) (sq (aA iF 20) .ret))))
def Ap:=bT [2] Proofs.Tryz.f15
def pu:=cG Ap
def KF:=bT [] Proofs.Tryz.f119
def js:=aA KF 4
def qx:aJ:=(sq (aA KF 0) (sq (aA KF 1) (.seq (.block 0 (.loop (.seq (sq (aA KF 2) (.cond (Tm 15) .skip (.exit 0))) (.block 1 (.region (aA KF 3)))))) (sq js .ret))))
def Av:=bT [8] Proofs.Tryz.f77
def qr:=cG Av
def qq:=bT [] Proofs.Tryz.f172
def cg:=cG qq
def Ou:=bT [] Proofs.Tryz.f178
def yb:=cG Ou
def eH:=bT [76] Proofs.Tryz.f173
def RQ:=aA eH 4
def RR:=aA eH 5
def RT:=aA eH 6
def LF:aJ:=(dH (aA eH 7) 36 0 (aA eH 11) (sq (aA eH 8) (sq (aA eH 9) (.region (aA eH 10)))))
def LG:=aA eH 12
def LH:=aA eH 15
def LJ:=aA eH 16
def LK:=aA eH 17
def LL:=aA eH 18
def CK:aJ:=(.seq (dq (dZ eH 1) (.cond (Tm 146) .skip (.exit 4))) (.block 5 (.region (aA eH 23))))
def LM:=aA eH 24
def LN:=aA eH 25
def CL:aJ:=(dH (aA eH 26) 166 6 (aA eH 30) (sq (aA eH 27) (sq (aA eH 28) (.cond (Tm 177) (.region (aA eH 29)) .skip))))
def LO:=aA eH 31
def LP:=aA eH 32
def CM:aJ:=(dH (aA eH 19) 105 2 LP (dq (dZ eH 0) (sq (aA eH 20) (jJ (aA eH 21) 131 (.region (aA eH 22)) (.seq (.block 4 (.loop CK)) (sq LM (.seq (cS LN 6 CL) (.region LO))))))))
def LQ:=aA eH 33
def XA:aJ:=(sq (aA eH 0) (kK (aA eH 1) 23 (aA eH 2) (jJ (aA eH 3) 28 (sq RQ (sq RR (.seq (cS RT 0 LF) (sq LG .ret)))) (sq (aA eH 13) (sq (aA eH 14) (sq LH (sq LJ (sq LK (.seq (cS LL 2 CM) (sq LQ .ret))))))))))
def udiv:=bT [] Proofs.Tryz.f121
def yc:=cG udiv
def Oy:=bT [] Proofs.Tryz.f120
def yd:=cG Oy
def qG:=bT [16] Proofs.Tryz.f76
def SC:=aA qG 6
def SD:=aA qG 7
def FO:=aA qG 8
def XN:aJ:=(sq (aA qG 0) (sq (aA qG 1) (kK (aA qG 2) 15 (aA qG 3) (.seq (sq (aA qG 4) (sq (aA qG 5) (.cond (Tm 32) (sq SC (.region SD)) .skip))) (sq FO .ret)))))
def A6:=bT [] Proofs.Tryz.f78
def rp:=cG A6
def rg:=bT [] Proofs.Tryz.f47
def rh:=cG rg
def O8:=bT [] Proofs.Tryz.f44
def yj:=cG O8
end Go.PM
