/-Lemmas for the law. No condition.-/
import Derived.Test.YtjlbgiaeggfcaabGreatDoorWK1
import Derived.Shelf.Strconv.Itoa3
import Derived.Test.YtjlbgiaeggfcaabGreatDoorProg
import Derived.ProofKit
import Derived.OpenShut
set_option linter.unusedSimpArgs false
set_option linter.unusedVariables false
open Nat renaming reduceEqDiff->γ,reduceAdd->δ,reduceSub->ε,reduceMul->ζ,reduceLT->η,reduceLeDiff->θ,reduceBEq->τ
open Int renaming reduceLT->ι,reduceLE->κ,reduceEq->μ,reduceToNat->ν,reduceAdd->ξ,reduceNeg->ο,reduceBEq->ρ,reduceBNe->σ
open List renaming reduceReplicate->υ
open List renaming length_map->bhO,range->bhP,getElem_mem->bhS,replicate->bhU,length_append->bhW,getD_eq_getElem?_getD->bhX,all_eq_true->biB,length_singleton->biC,getElem?_eq_getElem->biD,mem_cons->biG,length_take->biI,mem_map->biJ,take_of_length_le->biK,getElem?_map->biL,mem_range->biM,take_length->biS,map_cons->biU,append_assoc->biY,getElem?_eq_some_iff->biZ,mem_append->bjB,getElem_of_mem->bjD,take_succ_eq_append_getElem->bjF,drop_zero->bjG,mem_singleton->bjH,append_nil->bjI,getElem?_eq_none->bjJ,getElem_map->bjK,length_cons->bjL,length_set->bjO,map_nil->bjP,mem_of_getElem?->bjQ,drop_eq_getElem_cons->bjS,length_drop->bjZ,getElem?_append_left->bkE,getElem?_append_right->bkF,length_nil->bkK,take_append_drop->bkQ,ext_getElem->bkS,map_map->bkT,map_take->bkY,set_append_right->blC,take_zero->blF,all_cons->blJ,nil_append->blM,set_cons_zero->blP,drop_of_length_le->blV,getElem?_drop->blW,getElem?_range->blX,mem_or_eq_of_mem_set->blZ,getElem_append_right->bmA,mem_of_mem_take->bmB,getElem_append_left->bmC
open Bool renaming and_eq_true->bhQ,false_and->bhY,not_true->bhZ,true_and->biA,not_false->biF,and_false->bjE,and_true->bjY,and_self->bkO
open Nat renaming gcd->bhR,zero_le->bhT,le_refl->bhV,mul_add->biH,zero_add->biN,le_trans->biQ,lt_or_ge->biR,mul_assoc->biT,mul_comm->biW,mul_le_mul_right->biX,add_mul->bjC,mod_eq_of_lt->bjM,mod_lt->bjR,pow_succ->bjU,add_zero->bkA,min_eq_left->bkG,mul_le_mul_left->bkH,succ_mul->bkI,add_assoc->bkL,eq_zero_or_pos->bkM,pos_of_ne_zero->bkN,sub_self->bkR,pow_pos->bkW,div_le_self->bkZ,mul_le_mul->blA,mul_one->blB,div_lt_iff_lt_mul->blD,div_add_mod->blQ,div_eq_of_lt->blR,pow_le_pow_right->blS
open Option renaming map_eq_some_iff->biE,map_some->biP,some->bjV,getD_some->bkC,bind_some->blG,bind_eq_some_iff->blT
open Int renaming toNat->bjA,toNat_natCast->bjN
open Array renaming length_toList->bkX
open List renaming length->Z'
set_option maxRecDepth 100000
set_option maxHeartbeats 800000
open Go.IntKind renaming i64->i_,u64->u_
open Go.PM.PF renaming nil->n_,args->g_
open Go.PM.PH renaming nil->h_
noncomputable section
namespace Go.Proofs
open Go.Shelf
def Tryz.arP:Go.Shelf.Ren:=⟨λ|171=>90|243=>130|246=>155|283=>166|284=>167|285=>168|286=>169|129=>177|317=>176|318=>178|319=>179|320=>180|337=>181|338=>182|n=>n,λ|3=>3|9=>9|2=>2|4=>4|171=>194|0=>0|53=>107|37=>22|5=>5|173=>197|212=>205|51=>154|20=>20|213=>206|46=>159|232=>209|233=>210|n=>n,λ|17=>0|18=>1|19=>2|n=>n⟩
theorem Tryz.a2N:Go.Proofs.Lays.n171 Tryz.prog Tryz.arP:={
 mixed:=by kernel_rfl
 f129:=Tryz.func177.trans (congrArg some (by kernel_rfl))
 f171:=Tryz.func90.trans (congrArg some (by kernel_rfl))
 f243:=Tryz.func130.trans (congrArg some (by kernel_rfl))
 f246:=Tryz.func155.trans (congrArg some (by kernel_rfl))
 f283:=Tryz.func166.trans (congrArg some (by kernel_rfl))
 f284:=Tryz.func167.trans (congrArg some (by kernel_rfl))
 f285:=Tryz.func168.trans (congrArg some (by kernel_rfl))
 f286:=Tryz.func169.trans (congrArg some (by kernel_rfl))
 f317:=Tryz.func176.trans (congrArg some (by kernel_rfl))
 f318:=Tryz.func178.trans (congrArg some (by kernel_rfl))
 f319:=Tryz.func179.trans (congrArg some (by kernel_rfl))
 f320:=Tryz.func180.trans (congrArg some (by kernel_rfl))
 f337:=Tryz.func181.trans (congrArg some (by kernel_rfl))
 f338:=Tryz.func182.trans (congrArg some (by kernel_rfl))
 t0:=Tryz.underlying0
 a0:=Tryz.isAgg0
 z0:=Tryz.sizeOf0
 v0:=Tryz.zeroValue0
 t2:=Tryz.underlying2
 a2:=Tryz.isAgg2
 z2:=Tryz.sizeOf2
 v2:=Tryz.zeroValue2
 t3:=Tryz.underlying3
 a3:=Tryz.isAgg3
 z3:=Tryz.sizeOf3
 v3:=Tryz.zeroValue3
 t4:=Tryz.underlying4
 a4:=Tryz.isAgg4
 z4:=Tryz.sizeOf4
 v4:=Tryz.zeroValue4
 t5:=Tryz.underlying5
 a5:=Tryz.isAgg5
 z5:=Tryz.sizeOf5
 v5:=Tryz.zeroValue5
 t9:=Tryz.underlying9
 a9:=Tryz.isAgg9
 z9:=Tryz.sizeOf9
 v9:=Tryz.zeroValue9
 t20:=Tryz.underlying20
 a20:=Tryz.isAgg20
 z20:=Tryz.sizeOf20
 v20:=Tryz.zeroValue20
 t37:=Tryz.underlying22
 a37:=Tryz.isAgg22
 z37:=Tryz.sizeOf22
 v37:=Tryz.zeroValue22
 t46:=Tryz.underlying159
 a46:=Tryz.isAgg159
 z46:=Tryz.sizeOf159
 v46:=Tryz.zeroValue159
 t51:=Tryz.underlying154
 a51:=Tryz.isAgg154
 z51:=Tryz.sizeOf154
 v51:=Tryz.zeroValue154
 t53:=Tryz.underlying107
 a53:=Tryz.isAgg107
 z53:=Tryz.sizeOf107
 v53:=Tryz.zeroValue107
 t171:=Tryz.underlying194
 a171:=Tryz.isAgg194
 z171:=Tryz.sizeOf194
 v171:=Tryz.zeroValue194
 t173:=Tryz.underlying197
 a173:=Tryz.isAgg197
 z173:=Tryz.sizeOf197
 v173:=Tryz.zeroValue197
 t212:=Tryz.underlying205
 a212:=Tryz.isAgg205
 z212:=Tryz.sizeOf205
 v212:=Tryz.zeroValue205
 t213:=Tryz.underlying206
 a213:=Tryz.isAgg206
 z213:=Tryz.sizeOf206
 t232:=Tryz.underlying209
 a232:=Tryz.isAgg209
 z232:=Tryz.sizeOf209
 v232:=Tryz.zeroValue209
 t233:=Tryz.underlying210
 a233:=Tryz.isAgg210
 z233:=Tryz.sizeOf210
 v233:=Tryz.zeroValue210
 g17:=by kernel_rfl
 g18:=by kernel_rfl
 g19:=by kernel_rfl }
end Go.Proofs
namespace Go.PM
open Go
inductive Co:PV->PV->Prop
 |refl (v:PV):Co v v
 |junk (v:PV):Co v .junk
 |nil (s:Nat):Co .aK (.sl s [])
 |osl0 (o s off s':Nat):Co (.osl o s off 0) (.sl s' [])
 |agg {cs ds:List PV} (hl:Z' ds=Z' cs) (h:∀(j:Nat) p q,cs[j]?=some p->ds[j]?=some q->Co p q):Co (.agg cs) (.agg ds)
 |tup {cs ds:List PV} (hl:Z' ds=Z' cs) (h:∀(j:Nat) p q,cs[j]?=some p->ds[j]?=some q->Co p q):Co (.tup cs) (.tup ds)
 |bK {cs ds:List PV} (hl:Z' ds=Z' cs) (h:∀(j:Nat) p q,cs[j]?=some p->ds[j]?=some q->Co p q):Co (.bK cs) (.bK ds)
 |sl {s:Nat} {rs ts:P2_} (hl:Z' ts=Z' rs) (hr:∀(i:Nat) r t,rs[i]?=some r->ts[i]?=some t->Z' t=Z' r)
   (h:∀(i j:Nat) p q,at2 rs i j=some p->at2 ts i j=some q->Co p q):Co (.sl s rs) (.sl s ts)
structure CoL(ps qs:List PV):Prop where
 len:Z' qs=Z' ps
 at_:∀(j:Nat) p q,ps[j]?=some p->qs[j]?=some q->Co p q
theorem CoL.refl(ps:List PV):CoL ps ps:=⟨rfl,λj p q h k=>by rw[h]at k;cases k;exact .refl p⟩
theorem Co.sound{E:Env}{p q:PV}(h:Co p q):∀{v:Value},bM E p v->bM E q v:=by
 induction h with
 |refl=>intro v r;exact r
 |junk=>intro v _;exact .junk v
 |nil s =>intro v r;cases r;exact .sl (λ_ _=>.bool false) bH aS bH bH (λ_ _=>rfl) (by simp[at2])
 |osl0 o s Z s'=>
  intro v r;cases r with
  |osl hb J V U x hn Q=>exact .sl (λ_ _=>.bool false) bH x bH bH (λ_ _=>rfl) (by simp[at2])
 |agg w h B=>
  intro v r;cases r with
  |agg vs A F y=>
  refine .agg vs (A.trans w.symm) F λj q u d R=>?_;have l:=(biZ.1 d).1;have hp:=biD (show j<_ by rw[w]at l;exact l);exact B j _ q hp d (y j _ u hp R)
 |tup w h B=>
  intro v r;cases r with
  |tup vs A y=>
  refine .tup vs (A.trans w.symm) λj q u d R=>?_;have l:=(biZ.1 d).1;have hp:=biD (show j<_ by rw[w]at l;exact l);exact B j _ q hp d (y j _ u hp R)
 |bK w h B=>
  intro v r;cases r with
  |bK u J N F y=>
  refine .bK u J (λj q d=>?_) F λj q d=>?_
  ·have l:=(biZ.1 d).1;exact N j _ (biD (show j<_ by rw[w]at l;exact l))
  ·have l:=(biZ.1 d).1;have hp:=biD (show j<_ by rw[w]at l;exact l);exact B j _ q hp d (y j _ hp)
 |@sl s rs ts w H h B=>
  intro v r;have K:∀(i j:Nat) q,at2 ts i j=some q->∃p,at2 rs i j=some p:=by intro i j q d;unfold at2 at d ⊢;rw[blT]at d;obtain⟨t,M,d⟩:=d;have hi:=(biZ.1 M).1;have y:=biD (Om:i<Z' rs);have:=H i _ t y M;have l:=(biZ.1 d).1;rw[y];exact⟨(rs[i])[j]'Om,by simp⟩
  cases r with
  |sl u S x Y X F y=>
  rw[<-w];refine .sl u Om x (λt M=>?_) (λO=>?_) F λi j q d=>?_
  ·obtain⟨i,hi,rfl⟩:=bjD M;have:=H i rs[i] ts[i] bH bH;rw[this];exact Y _ bH
  ·obtain⟨W,e,sp,N⟩:=X (by rintro rfl;exact O (List.eq_nil_of_length_eq_zero (by simpa using w)));refine⟨W,e,sp,λi j q d=>?_⟩;obtain⟨p,hp⟩:=K i j q d;exact N i j p hp
  ·obtain⟨p,hp⟩:=K i j q d;exact B i j p q hp d (y i j p hp)
theorem CoL.sound{E:Env}:∀{ps d:List PV}{vs:List Value},CoL ps d->fU E ps vs->fU E d vs
 |[],d,vs,h,r=>by cases r;have:d=[]:=List.eq_nil_of_length_eq_zero h.len;subst this;exact .nil
 |p::ps,d,vs,h,r=>by
  cases r with
  |cons r1 r2=>
  cases d with
  |nil=>have:=h.len;simp at this
  |cons q d =>refine .cons ((h.at_ 0 p q rfl rfl).sound r1) (CoL.sound ⟨by simpa using h.len,λj x y a b=>h.at_ (j+1) x y (by simpa using a) (by simpa using b)⟩ r2)
variable{C:Ctx}
theorem aH.args{name:Nat}{args d:List PV}{H:PH}{R:PV->PH->Prop}(h:aH C name d H R)(l:CoL args d):aH C name args H R:=
 ⟨h.1,λE w vs i hW e=>h.2 E w vs i hW (l.sound e)⟩
theorem aH.post{name:Nat}{args:List PV}{H:PH}{R x:PV->PH->Prop}(h:aH C name args H R)(F:∀r H',R r H'->∃r',Co r r'/\x r' H'):aH C name args H x:=
 ⟨h.1,λE w vs B hW p=>(h.2 E w vs B hW p).mono λe M J=>by obtain⟨v,pv,y,H',rfl,d,K,A,hp⟩:=J;obtain⟨u,i,l⟩:=F pv H' hp;exact⟨v,u,y,H',rfl,d,i.sound K,A,l⟩⟩
attribute [go_sem] List.getElem?_cons_succ List.getElem?_cons_zero and_self and_true true_and or_true true_or or_false false_or bhZ biF biP blG if_true if_false bjL bkK List.drop_succ_cons bjG List.take_succ_cons blF biU bjP bjV.injEq PV.bool.injEq PV.int.injEq aU PV.bin
@[go_sem] theorem a9E(k:IntKind)(a b:Int):pP .add k a b=some (.int k (k.wrap (a+b))):=(rfl)
@[go_sem] theorem a9O(k:IntKind)(a b:Int):pP .sub k a b=some (.int k (k.wrap (a-b))):=(rfl)
@[go_sem] theorem a9K(k:IntKind)(a b:Int):pP .mul k a b=some (.int k (k.wrap (a*b))):=(rfl)
@[go_sem] theorem a9M(k:IntKind)(a b:Int):pP .quo k a b=if b=0 then none else some (.int k (k.wrap (a.tdiv b))):=(rfl)
@[go_sem] theorem a9N(k:IntKind)(a b:Int):pP .rem k a b=if b=0 then none else some (.int k (a.tmod b)):=(rfl)
@[go_sem] theorem a9F(k:IntKind)(a b:Int):pP .eql k a b=some (.bool (a==b)):=(rfl)
@[go_sem] theorem a9L(k:IntKind)(a b:Int):pP .neq k a b=some (.bool (a != b)):=(rfl)
@[go_sem] theorem a9J(k:IntKind)(a b:Int):pP .lss k a b=some (.bool (decide (a<b))):=(rfl)
@[go_sem] theorem a9I(k:IntKind)(a b:Int):pP .leq k a b=some (.bool (decide (a<=b))):=(rfl)
@[go_sem] theorem a9H(k:IntKind)(a b:Int):pP .gtr k a b=some (.bool (decide (a>b))):=(rfl)
@[go_sem] theorem a9G(k:IntKind)(a b:Int):pP .geq k a b=some (.bool (decide (a>=b))):=(rfl)
section
variable {C:Ctx} {K:cF} {F:PF} {H:PH}
@[go_sem] theorem beF:aC.wp C .skip K F H=K .normal F H:=(rfl)
@[go_sem] theorem bbD(ops:List aW):aC.wp C (.region ops) K F H=wpOps C ops (K .normal) F H:=(rfl)
@[go_sem] theorem Nd(a b:aC):aC.wp C (.seq a b) K F H=a.wp C (kB C (b.wp C) K) F H:=(rfl)
@[go_sem] theorem bcN(id:Nat)(c:aC):aC.wp C (.block id c) K F H=c.wp C (fS id K) F H:=(rfl)
@[go_sem] theorem beE(id:Nat):aC.wp C (.exit id) K F H=K (.exit id) F H:=(rfl)
@[go_sem] theorem beR:aC.wp C .ret K F H=K .ret F H:=(rfl)
def lm(C:Ctx)(v:Option PV)(a b:aC)(K:cF)(F:PF)(H:PH):Prop:=
 match v with
 |some (.bool t)=>if t then a.wp C K F H else b.wp C K F H
 |_=>False
@[go_sem] theorem aYZ(c:aP)(a b:aC):aC.wp C (.cond c a b) K F H=lm C (c.ev F) a b K F H:=(rfl)
@[go_sem] theorem a9T(a b:aC):lm C (some (.bool true)) a b K F H=a.wp C K F H:=(rfl)
@[go_sem] theorem a8H(a b:aC):lm C (some (.bool false)) a b K F H=b.wp C K F H:=(rfl)
theorem aSW{t:Bool}{a b:aC}(d:t=true->a.wp C K F H)(e:t=false->b.wp C K F H):lm C (some (.bool t)) a b K F H:=by
 cases t
 ·exact e rfl
 ·exact d rfl
@[go_sem] theorem a8P(w:cF->PF->PH->Prop):kB C w K .normal F H=w K F H:=(rfl)
@[go_sem] theorem a7P(w:cF->PF->PH->Prop):kB C w K .normal=w K:=(rfl)
@[go_sem] theorem bcA(w:cF->PF->PH->Prop)(id:Nat):kB C w K (.exit id)=K (.exit id):=(rfl)
@[go_sem] theorem bdV(w:cF->PF->PH->Prop):kB C w K .ret=K .ret:=(rfl)
@[go_sem] theorem a5M(id:Nat):fS id K .normal=K .normal:=(rfl)
@[go_sem] theorem a9R(id:Nat):fS id K .ret=K .ret:=(rfl)
@[go_sem] theorem NU(id d:Nat):fS id K (.exit d) F H=if d=id then K .normal F H else K (.exit d) F H:=(rfl)
@[go_sem] theorem bbB(K:PF->PH->Prop):wpOps C [] K F H=K F H:=(rfl)
@[go_sem] theorem bbC(d:Option Nat)(op:POp)(rest:List aW)(K:PF->PH->Prop):wpOps C (⟨d,op,none⟩::rest) K F H=wpOp C op d (wpOps C rest K) F H:=(rfl)
def ES(C:Ctx)(v:Option PV)(e:Bool)(op:POp)(d:Option Nat)(rest:List aW)(K:PF->PH->Prop)(F:PF)(H:PH):Prop:=
 match v with
 |some (.bool b)=>if b=e then wpOp C op d (wpOps C rest K) F H else wpOps C rest K (F.put d (.tup [])) H
 |some (.tup [])=>wpOps C rest K (F.put d (.tup [])) H
 |_=>False
@[go_sem] theorem asP(d:Option Nat)(op:POp)(t:Nat)(e:Bool)(rest:List aW)(K:PF->PH->Prop) :
  wpOps C (⟨d,op,some (t,e)⟩::rest) K F H=ES C (F t) e op d rest K F H:=(rfl)
@[go_sem] theorem bbW(op:POp)(d:Option Nat)(rest:List aW)(K:PF->PH->Prop):ES C (some (.bool true)) true op d rest K F H=wpOp C op d (wpOps C rest K) F H:=(rfl)
@[go_sem] theorem bbT(op:POp)(d:Option Nat)(rest:List aW)(K:PF->PH->Prop):ES C (some (.bool false)) false op d rest K F H=wpOp C op d (wpOps C rest K) F H:=(rfl)
@[go_sem] theorem bbV(op:POp)(d:Option Nat)(rest:List aW)(K:PF->PH->Prop):ES C (some (.bool true)) false op d rest K F H=wpOps C rest K (F.put d (.tup [])) H:=(rfl)
@[go_sem] theorem bbU(op:POp)(d:Option Nat)(rest:List aW)(K:PF->PH->Prop):ES C (some (.bool false)) true op d rest K F H=wpOps C rest K (F.put d (.tup [])) H:=(rfl)
@[go_sem] theorem a8M(e:Bool)(op:POp)(d:Option Nat)(rest:List aW)(K:PF->PH->Prop):ES C (some (.tup [])) e op d rest K F H=wpOps C rest K (F.put d (.tup [])) H:=(rfl)
@[go_sem] theorem bdS(d:Nat)(v:PV):F.put (some d) v=F.set d v:=(rfl)
@[go_sem] theorem bdR(v:PV):F.put none v=F:=(rfl)
@[go_sem] theorem pR(i j:Nat)(v:PV):(F.set i v) j=if j=i then some v else F j:=(rfl)
@[go_sem] theorem args_at(vs:List PV)(i:Nat):g_ vs i=vs[i]?:=(rfl)
@[go_sem] theorem beW(i:Nat):n_ i=none:=(rfl)
@[go_sem] theorem Df(t:Nat):(aP.tmp t).ev F=F t:=(rfl)
@[go_sem] theorem bdF(v:PV):(aP.const v).ev F=some v:=(rfl)
@[go_sem] theorem bC(i j:Nat)(x:aY):(H.set i x) j=if j=i then some x else H j:=(rfl)
@[go_sem] theorem mf(i:Nat):h_ i=none:=(rfl)
@[go_sem] theorem l6:aP.evs F []=some []:=(rfl)
@[go_sem] theorem JO(x:aP)(xs:List aP):aP.evs F (x::xs)=(match x.ev F,aP.evs F xs with|some v,some vs=>some (v::vs)|_,_=>none):=(rfl)
theorem kP{i j:Nat}{x:aY}:(H.set i x) j=none↔j≠i/\H j=none:=by
 rw[bC];split<;>simp_all
@[go_sem] theorem a8Q(v:PV)(d:Option Nat)(K:PF->PH->Prop):yJ (some v) d K F H=K (F.put d v) H:=by
 simp[yJ]
theorem aQ{e:Nat->PV}{x:aY}{d:Option Nat}{K:PF->PH->Prop}(h:∀o,H o=none->K (F.put d (e o)) (H.set o x)):qA (some (e,x)) d K F H:=⟨e,x,rfl,h⟩
abbrev Wq(C:Ctx)(o:POp):Prop:=∀(d:Option Nat)(K:PF->PH->Prop)(F:PF)(H:PH),wpOp C o d K F H=yJ (aU o F H) d K F H
theorem wqr{o:POp}(h:Wq C o:=by intro _ _ _ _;rfl):Wq C o:=h
@[go_sem] theorem beP(x:aP):Wq C (.mv x):=wqr
@[go_sem] theorem bcM(x:aP):Wq C (.same x):=wqr
@[go_sem] theorem bcL(c a b:aP):Wq C (.pick c a b):=wqr
@[go_sem] theorem bdZ(o:BinOp)(x y:aP):Wq C (.bin o x y):=wqr
@[go_sem] theorem beB(n:Bool)(x y:aP):Wq C (.eqb n x y):=wqr
@[go_sem] theorem beC(n:Bool)(d:List Sc)(x y:aP):Wq C (.eqs n d x y):=wqr
@[go_sem] theorem beQ(o:UnOp)(x:aP):Wq C (.un o x):=wqr
@[go_sem] theorem bcE(k:IntKind)(x:aP):Wq C (.conv k x):=wqr
@[go_sem] theorem baU(z:List PV)(ps:List (Nat × Nat × aP)):Wq C (.build z ps):=wqr
@[go_sem] theorem bcJ(n:Option Nat)(p:aP):Wq C (.load n p):=wqr
@[go_sem] theorem a9B(x:aP):Wq C (.bgQ x):=wqr
@[go_sem] theorem a8U(d:Nat)(x:aP):Wq C (.bhG d x):=wqr
@[go_sem] theorem baW(d:Nat)(n:Option Nat)(x:aP):Wq C (.field d n x):=wqr
@[go_sem] theorem bcG(s:Nat)(x i:aP):Wq C (.bgU s x i):=wqr
@[go_sem] theorem bcF(n s:Nat)(x i:aP):Wq C (.idxA n s x i):=wqr
@[go_sem] theorem bcH(n s:Nat)(g:Bool)(x i:aP):Wq C (.idxV n s g x i):=wqr
@[go_sem] theorem a8V(x i:aP):Wq C (.bhE x i):=wqr
@[go_sem] theorem baZ(s:Nat)(x:aP)(lo hi mx:Option aP):Wq C (.slice s x lo hi mx):=wqr
@[go_sem] theorem a9C(n s:Nat)(x:aP)(lo hi mx:Option aP):Wq C (.sliceA n s x lo hi mx):=wqr
@[go_sem] theorem a5P(x:aP)(lo hi:Option aP):Wq C (.bhA x lo hi):=wqr
@[go_sem] theorem bbX:PV.uP .aK=some (.int .i64 0):=(rfl)
@[go_sem] theorem beO(s:Nat)(rows:P2_):PV.uP (.sl s rows)=some (.int .i64 rows.length):=(rfl)
@[go_sem] theorem bdM(o s d n:Nat):PV.uP (.osl o s d n)=some (.int .i64 n):=(rfl)
@[go_sem] theorem beD(x:aP):Wq C (.len x):=wqr
@[go_sem] theorem a8X(x:aP):Wq C (.bhD x):=wqr
@[go_sem] theorem bcI(x:aP):Wq C (.lenM x):=wqr
@[go_sem] theorem baX(n:Bool)(x:aP):Wq C (.isNil n x):=wqr
@[go_sem] theorem a8O:PV.uB .aK=some true:=(rfl)
@[go_sem] theorem baI(o s d len:Nat):PV.uB (.osl o s d len)=some false:=(rfl)
@[go_sem] theorem a8N(s:Nat)(r:List PV)(rs:P2_):PV.uB (.sl s (r::rs))=some false:=(rfl)
@[go_sem] theorem a8T(x:aP):Wq C (.bhN x):=wqr
@[go_sem] theorem a8D(x:aP)(i:Nat):Wq C (.extract x i):=wqr
@[go_sem] theorem a9A(m:Bool)(x y:aP):Wq C (.bgY m x y):=wqr
@[go_sem] theorem bcK(n:Nat)(cs:List aP):Wq C (.mkfn n cs):=wqr
@[go_sem] theorem a8Y(sh:MSh)(z:PV)(x k:aP)(ok:Bool):Wq C (.lookup sh z x k ok):=wqr
@[go_sem] theorem a5E(x:aP):Wq C (.bgR x):=wqr
@[go_sem] theorem bcC(x:aP):Wq C (.box true x):=wqr
@[go_sem] theorem a8C(s l:Nat)(z:List PV)(ps:List (Nat × aP)):Wq C (.bgJ true s l z ps):=wqr
@[go_sem] theorem baT(cs:List PV)(d:Option Nat)(K:PF->PH->Prop):wpOp C (.alloc cs) d K F H=qA (cU (.alloc cs) F) d K F H:=(rfl)
@[go_sem] theorem a8E(s b:Nat)(z:List PV)(l c:aP)(d:Option Nat)(K:PF->PH->Prop):wpOp C (.bgL s b z l c) d K F H=qA (cU (.bgL s b z l c) F) d K F H:=(rfl)
@[go_sem] theorem baY(sh:MSh)(d:Option Nat)(K:PF->PH->Prop):wpOp C (.bhJ sh) d K F H=qA (cU (.bhJ sh) F) d K F H:=(rfl)
@[go_sem] theorem beA(x:aP)(d:Option Nat)(K:PF->PH->Prop):wpOp C (.box false x) d K F H=qA (cU (.box false x) F) d K F H:=(rfl)
@[go_sem] theorem a8S(s l:Nat)(z:List PV)(ps:List (Nat × aP))(d:Option Nat)(K:PF->PH->Prop):wpOp C (.bgJ false s l z ps) d K F H=qA (cU (.bgJ false s l z ps) F) d K F H:=(rfl)
@[go_sem] theorem bbA(n:Nat)(p x:aP)(d:Option Nat)(K:PF->PH->Prop):wpOp C (.store n p x) d K F H=cJ (.store n p x) F H (λr H'=>K (F.put d r) H'):=(rfl)
@[go_sem] theorem a8R(s b:Nat)(x y:aP)(d:Option Nat)(K:PF->PH->Prop):wpOp C (.append s b x y) d K F H=cJ (.append s b x y) F H (λr H'=>K (F.put d r) H'):=(rfl)
@[go_sem] theorem a8Z(sh:MSh)(x k v:aP)(d:Option Nat)(K:PF->PH->Prop):wpOp C (.bgV sh x k v) d K F H=cJ (.bgV sh x k v) F H (λr H'=>K (F.put d r) H'):=(rfl)
@[go_sem] theorem a8W(sh:MSh)(x k v:aP)(d:Option Nat)(K:PF->PH->Prop):wpOp C (.insert sh x k v) d K F H=cJ (.insert sh x k v) F H (λr H'=>K (F.put d r) H'):=(rfl)
@[go_sem] theorem bcD(n:Nat)(az:List aP)(d:Option Nat)(K:PF->PH->Prop):wpOp C (.call n az) d K F H=lD C n az [] d K F H:=(rfl)
@[go_sem] theorem baV(x:aP)(az:List aP)(d:Option Nat)(K:PF->PH->Prop):wpOp C (.bhF x az) d K F H=xJ C (x.ev F) az d K F H:=(rfl)
@[go_sem] theorem baS(n:Nat)(cs:List PV)(az:List aP)(d:Option Nat)(K:PF->PH->Prop):xJ C (some (.fn n cs)) az d K F H=lD C n az cs d K F H:=(rfl)
theorem PF.nil_le:n_.le F:=λ_ _ h=>(by cases h)
abbrev c_:=@PF.nil_le
theorem PF.aM{i:Nat}{v:PV}{G:PF}(l:F.le G)(p:G i=some v):(F.set i v).le G:=by
 intro j u d;rw[pR]at d;split at d
 ·rename_i e;subst e;cases d;exact p
 ·exact l _ _ d
abbrev d_:=@PF.aM
theorem PF.le_refl:F.le F:=λ_ _ h=>h
theorem PH.nil_le:h_.le H:=λ_ _ h=>(by cases h)
abbrev a_:=@PH.nil_le
theorem PH.aM{i:Nat}{x:aY}{G:PH}(l:H.le G)(p:G i=some x):(H.set i x).le G:=by
 intro j u d;rw[bC]at d;split at d
 ·rename_i e;subst e;cases d;exact p
 ·exact l _ _ d
abbrev e_:=@PH.aM
theorem PH.le_refl:H.le H:=λ_ _ h=>h
abbrev b_:=@PH.le_refl
theorem wp_loop{c:aC}{α:Type}(d:α->PF)(Hs:α->PH)(e:α->Prop)(m:α->Nat)(i:α)(l:e i)(p:(d i).le F)(u:(Hs i).le H)
  (hb:∀a,e a->c.wp C (gG d Hs e m (m a) K) (d a) (Hs a)):aC.wp C (.loop c) K F H:=
 ⟨α,d,Hs,e,m,i,F,H,.refl F H,l,p,u,hb⟩
theorem aJ{α:Type}{d:α->PF}{Hs:α->PH}{e:α->Prop}{m:α->Nat}{n:Nat}(a:α)(i:e a)(u:m a<n)(l:(d a).le F)(p:(Hs a).le H):gG d Hs e m n K .normal F H:=
 ⟨a,F,H,.refl F H,i,u,l,p⟩
@[go_sem] theorem baM{α:Type}{d:α->PF}{Hs:α->PH}{e:α->Prop}{m:α->Nat}{n:Nat}(id:Nat):gG d Hs e m n K (.exit id)=K (.exit id):=(rfl)
@[go_sem] theorem bbY{α:Type}{d:α->PF}{Hs:α->PH}{e:α->Prop}{m:α->Nat}{n:Nat}:gG d Hs e m n K .ret=K .ret:=(rfl)
def aI(v:PV)(r:PV)(H:PH):Prop:=r=v/\H=h_
theorem PH.KL:H.over .nil .nil=H:=PH.ext λo=>rfl
theorem asO{name:Nat}{vs cs:List PV}{v:PV}{args:List aP}{d:Option Nat}{K:PF->PH->Prop}(h:aH C name (vs++cs) .nil (aI v))(e:aP.evs F args=some vs)
  (i:K (F.put d v) H):lD C name args cs d K F H:=by
 refine .inl ⟨vs++cs,.nil,_,by rw[e];rfl,a_,h,?_⟩;rintro r H' ⟨rfl,rfl⟩ _;rw[PH.KL];exact i
theorem aB{name:Nat}{vs:List PV}{v:PV}{args:List aP}{d:Option Nat}{K:PF->PH->Prop}(h:aH C name vs .nil (aI v))(e:aP.evs F args=some vs)
  (i:K (F.put d v) H):lD C name args [] d K F H:=asO (cs:=[]) (by rw[bjI];exact h) e i
theorem aT{res:List eE}{vs:List PV}{v:PV}{e:oH}(p:e=.normal\/e=.ret)(h:eE.evs F H res=some vs)(w:bN vs=v):aZ res (aI v) e F H:=by
 have d:∃vs,eE.evs F H res=some vs/\∃i l H2,kN (n_.set 0 (bN vs)) H i l/\H2.le l/\∃u,i 0=some u/\aI v u H2:=
  ⟨vs,h,_,H,.nil,.refl _ _,a_,v,by rw[pR,aG rfl,w],rfl,rfl⟩
 rcases p with rfl|rfl<;>exact d
@[go_sem] theorem uL:eE.evs F H []=some []:=(rfl)
@[go_sem] theorem pJ(x:eE)(xs:List eE):eE.evs F H (x::xs)=(match x.ev F H,eE.evs F H xs with|some v,some vs=>some (v::vs)|_,_=>none):=(rfl)
@[go_sem] theorem sW(t:Nat):eE.ev F H (.tmp t)=F t:=(rfl)
@[go_sem] theorem bdT(t:Nat):eE.ev F H (.cell t none)=(match F t with|some p=>(match loadCells H p 1 with|some [v]=>some v|_=>none)|none=>none):=(rfl)
@[go_sem] theorem bbZ(t k:Nat):eE.ev F H (.cell t (some k))=(match F t with|some p=>(loadCells H p k).map .agg|none=>none):=(rfl)
end
section
variable {C:Ctx} {K:cF} {F:PF} {H Hs:PH} {S:Spec}
theorem bV{ops:List (aW × Bool)}(Hs:PH)(S:Spec)(d:Hs.le H)(h:wpD C Hs S ops (K .normal) F H):aC.wp C (.draw ops) K F H:=⟨Hs,S,d,h⟩
def eW:Spec:=λ_ _=>none
def dOp(C:Ctx)(Hs:PH)(S:Spec)(st:Bool)(op:POp)(d:Option Nat)(K:PF->PH->Prop)(F:PF)(H:PH):Prop:=(op.kind F).run C Hs S st (λv H'=>K (F.put d v) H') H
@[go_sem] theorem bdX(K:PF->PH->Prop):wpD C Hs S [] K F H=K F H:=(rfl)
@[go_sem] theorem bdY(d:Option Nat)(op:POp)(st:Bool)(rest:List (aW × Bool))(K:PF->PH->Prop):wpD C Hs S ((⟨d,op,none⟩,st)::rest) K F H=dOp C Hs S st op d (wpD C Hs S rest K) F H:=(rfl)
def JU(C:Ctx)(Hs:PH)(S:Spec)(v:Option PV)(e st:Bool)(op:POp)(d:Option Nat)(rest:List (aW × Bool))(K:PF->PH->Prop)(F:PF)(H:PH):Prop:=
 match v with
 |some (.bool b)=>if b=e then dOp C Hs S st op d (wpD C Hs S rest K) F H else wpD C Hs S rest K (F.put d (.tup [])) H
 |some (.tup [])=>wpD C Hs S rest K (F.put d (.tup [])) H
 |_=>False
@[go_sem] theorem bcB(d:Option Nat)(op:POp)(t:Nat)(e st:Bool)(rest:List (aW × Bool))(K:PF->PH->Prop) :
  wpD C Hs S ((⟨d,op,some (t,e)⟩,st)::rest) K F H=JU C Hs S (F t) e st op d rest K F H:=by
 have i:wpD C Hs S ((⟨d,op,some (t,e)⟩,st)::rest) K F H=((⟨d,op,some (t,e)⟩:aW).kind F).run C Hs S st (λv H'=>wpD C Hs S rest K (F.put d v) H') H:=(rfl);rw[i];unfold aW.kind JU;simp only;cases F t with
 |none=>rfl
 |some v=>
  cases v
  case bool b=>
   simp only;by_cases hb:b=e
   ·rw[aG hb,aG hb];rfl
   ·rw[aE hb,aE hb];simp[Kind.run]
  case tup vs=>cases vs<;>simp[Kind.run]
  all_goals rfl
@[go_sem] theorem bbS(op:POp)(st:Bool)(d:Option Nat)(rest:List (aW × Bool))(K:PF->PH->Prop):JU C Hs S (some (.bool true)) true st op d rest K F H=dOp C Hs S st op d (wpD C Hs S rest K) F H:=(rfl)
@[go_sem] theorem bbP(op:POp)(st:Bool)(d:Option Nat)(rest:List (aW × Bool))(K:PF->PH->Prop):JU C Hs S (some (.bool false)) false st op d rest K F H=dOp C Hs S st op d (wpD C Hs S rest K) F H:=(rfl)
@[go_sem] theorem bbR(op:POp)(st:Bool)(d:Option Nat)(rest:List (aW × Bool))(K:PF->PH->Prop):JU C Hs S (some (.bool true)) false st op d rest K F H=wpD C Hs S rest K (F.put d (.tup [])) H:=(rfl)
@[go_sem] theorem bbQ(op:POp)(st:Bool)(d:Option Nat)(rest:List (aW × Bool))(K:PF->PH->Prop):JU C Hs S (some (.bool false)) true st op d rest K F H=wpD C Hs S rest K (F.put d (.tup [])) H:=(rfl)
@[go_sem] theorem a8L(e:Bool)(op:POp)(st:Bool)(d:Option Nat)(rest:List (aW × Bool))(K:PF->PH->Prop):JU C Hs S (some (.tup [])) e st op d rest K F H=wpD C Hs S rest K (F.put d (.tup [])) H:=(rfl)
abbrev Dq(C:Ctx)(Hs:PH)(S:Spec)(o:POp):Prop:=∀(st:Bool)(d:Option Nat)(K:PF->PH->Prop)(F:PF)(H:PH),dOp C Hs S st o d K F H=yJ (aU o F (if st then Hs else H)) d K F H
theorem dqr{Hs:PH}{S:Spec}{o:POp}(h:Dq C Hs S o:=by intro _ _ _ _ _;rfl):Dq C Hs S o:=h
@[go_sem] theorem beS(x:aP):Dq C Hs S (.mv x):=dqr
@[go_sem] theorem bdD(x:aP):Dq C Hs S (.same x):=dqr
@[go_sem] theorem bdC(c a b:aP):Dq C Hs S (.pick c a b):=dqr
@[go_sem] theorem beH(o:BinOp)(x y:aP):Dq C Hs S (.bin o x y):=dqr
@[go_sem] theorem beJ(n:Bool)(x y:aP):Dq C Hs S (.eqb n x y):=dqr
@[go_sem] theorem beK(n:Bool)(d:List Sc)(x y:aP):Dq C Hs S (.eqs n d x y):=dqr
@[go_sem] theorem beT(o:UnOp)(x:aP):Dq C Hs S (.un o x):=dqr
@[go_sem] theorem bcV(k:IntKind)(x:aP):Dq C Hs S (.conv k x):=dqr
@[go_sem] theorem bbG(z:List PV)(ps:List (Nat × Nat × aP)):Dq C Hs S (.build z ps):=dqr
@[go_sem] theorem bdA(n:Option Nat)(p:aP):Dq C Hs S (.load n p):=dqr
@[go_sem] theorem baD(x:aP):Dq C Hs S (.bgQ x):=dqr
@[go_sem] theorem a9X(d:Nat)(x:aP):Dq C Hs S (.bhG d x):=dqr
@[go_sem] theorem bbH(d:Nat)(n:Option Nat)(x:aP):Dq C Hs S (.field d n x):=dqr
@[go_sem] theorem bcX(s:Nat)(x i:aP):Dq C Hs S (.bgU s x i):=dqr
@[go_sem] theorem bcW(n s:Nat)(x i:aP):Dq C Hs S (.idxA n s x i):=dqr
@[go_sem] theorem bcY(n s:Nat)(g:Bool)(x i:aP):Dq C Hs S (.idxV n s g x i):=dqr
@[go_sem] theorem a9Y(x i:aP):Dq C Hs S (.bhE x i):=dqr
@[go_sem] theorem bbK(s:Nat)(x:aP)(lo hi mx:Option aP):Dq C Hs S (.slice s x lo hi mx):=dqr
@[go_sem] theorem a6C(x:aP)(lo hi:Option aP):Dq C Hs S (.bhA x lo hi):=dqr
@[go_sem] theorem beL(x:aP):Dq C Hs S (.len x):=dqr
@[go_sem] theorem a9Z(x:aP):Dq C Hs S (.bhD x):=dqr
@[go_sem] theorem bcZ(x:aP):Dq C Hs S (.lenM x):=dqr
@[go_sem] theorem bbI(n:Bool)(x:aP):Dq C Hs S (.isNil n x):=dqr
@[go_sem] theorem a9W(x:aP):Dq C Hs S (.bhN x):=dqr
@[go_sem] theorem a8J(x:aP)(i:Nat):Dq C Hs S (.extract x i):=dqr
@[go_sem] theorem baC(m:Bool)(x y:aP):Dq C Hs S (.bgY m x y):=dqr
@[go_sem] theorem bdB(n:Nat)(cs:List aP):Dq C Hs S (.mkfn n cs):=dqr
@[go_sem] theorem baA(sh:MSh)(z:PV)(x k:aP)(ok:Bool):Dq C Hs S (.lookup sh z x k ok):=dqr
@[go_sem] theorem a5O(x:aP):Dq C Hs S (.bgR x):=dqr
@[go_sem] theorem bcU(x:aP):Dq C Hs S (.box true x):=dqr
@[go_sem] theorem a8I(s l:Nat)(z:List PV)(ps:List (Nat × aP)):Dq C Hs S (.bgJ true s l z ps):=dqr
@[go_sem] theorem bbF(cs:List PV)(st:Bool)(d:Option Nat)(K:PF->PH->Prop):dOp C Hs S st (.alloc cs) d K F H=qA (cU (.alloc cs) F) d K F H:=(rfl)
@[go_sem] theorem a8K(s b:Nat)(z:List PV)(l c:aP)(st:Bool)(d:Option Nat)(K:PF->PH->Prop):dOp C Hs S st (.bgL s b z l c) d K F H=qA (cU (.bgL s b z l c) F) d K F H:=(rfl)
@[go_sem] theorem bbJ(sh:MSh)(st:Bool)(d:Option Nat)(K:PF->PH->Prop):dOp C Hs S st (.bhJ sh) d K F H=qA (cU (.bhJ sh) F) d K F H:=(rfl)
@[go_sem] theorem beI(x:aP)(st:Bool)(d:Option Nat)(K:PF->PH->Prop):dOp C Hs S st (.box false x) d K F H=qA (cU (.box false x) F) d K F H:=(rfl)
@[go_sem] theorem a9V(s l:Nat)(z:List PV)(ps:List (Nat × aP))(st:Bool)(d:Option Nat)(K:PF->PH->Prop):dOp C Hs S st (.bgJ false s l z ps) d K F H=qA (cU (.bgJ false s l z ps) F) d K F H:=(rfl)
@[go_sem] theorem bbL(n:Nat)(p x:aP)(st:Bool)(d:Option Nat)(K:PF->PH->Prop):dOp C Hs S st (.store n p x) d K F H=cJ (.store n p x) F H (λr H'=>Hs.le H'/\K (F.put d r) H'):=(rfl)
@[go_sem] theorem a9U(s b:Nat)(x y:aP)(st:Bool)(d:Option Nat)(K:PF->PH->Prop):dOp C Hs S st (.append s b x y) d K F H=cJ (.append s b x y) F H (λr H'=>Hs.le H'/\K (F.put d r) H'):=(rfl)
@[go_sem] theorem baB(sh:MSh)(x k v:aP)(st:Bool)(d:Option Nat)(K:PF->PH->Prop):dOp C Hs S st (.bgV sh x k v) d K F H=cJ (.bgV sh x k v) F H (λr H'=>Hs.le H'/\K (F.put d r) H'):=(rfl)
theorem XF:H.only []=h_:=PH.ext λo=>by simp[PH.only,h_]
theorem bX{name:Nat}{vs:List PV}{v:PV}{args:List aP}{st:Bool}{d:Option Nat}{K:PF->PH->Prop}(i:S name vs=some ([],λ_=>aI v))(h:aH C name vs .nil (aI v))(l:aP.evs F args=some vs)
  (e:Hs.le H) (p:K (F.put d v) H):dOp C Hs S st (.call name args) d K F H:=by
 refine⟨vs,[],λ_=>aI v,l,i,λo u=>by simp at u,by rw[XF];exact h,λG=>⟨v,.nil,⟨rfl,rfl⟩,λo x w=>by simp[h_]at w⟩,?_⟩;rintro r H' ⟨rfl,rfl⟩ -;rw[XF,PH.KL];exact⟨e,p⟩
end
theorem wrap_i64{n:Int}(d:-9223372036854775808<=n)(i:n<=9223372036854775807):i_.wrap n=n:=by
 have e:i_.wrap n=if decide (n%18446744073709551616>=9223372036854775808)=true then n%18446744073709551616-18446744073709551616 else n%18446744073709551616:=by simp[IntKind.wrap,IntKind.bits,IntKind.signed]
 rw[e];split
 ·rename_i h;simp only[dT_]at h;omega
 ·rename_i h;simp only[dT_]at h;omega
theorem zg{k:Nat}(h:k<=9223372036854775807):i_.wrap (k:Int)=k:=wrap_i64 Om Om
theorem dZ{k:Nat}(h:k<9223372036854775807):i_.wrap ((k:Int)+1)=((k+1:Nat):Int):=by
 rw[wrap_i64 Om Om];omega
theorem wZz(k:Nat)(h:k<9223372036854775807:=by omega):i_.wrap ((k:Int)+1)=((k+1:Nat):Int):=dZ h
theorem wrap_u64{n:Int}(d:0<=n)(i:n<18446744073709551616):u_.wrap n=n:=by
 have e:u_.wrap n=n%18446744073709551616:=by simp[IntKind.wrap,IntKind.bits,IntKind.signed]
 rw[e];omega
abbrev ints(xs:List Int):PV:=.sl 1 (xs.map λn=>[.int .i64 n])
open Go Go.RowKit
inductive CT where
 |int (k:IntKind)
 |bool
 |str
 |sl (es:List CT)
 deriving Inhabited
def xW(P:Program)(rec:TypeId->Option (List CT)):Nat->List Field->Option (List CT)
 |_,[]=>some []
 |k,f::d=>match rec f.type with
  |some cts=>if f.offset=k/\P.cellsOf f.type=cts.length then(xW P rec (k+Z' cts) d).map (cts++·)else none
  |none=>none
def kU(P:Program):Nat->TypeId->Option (List CT)
 |0,_=>none
 |n+1,t=>match P.underlying t with
  |some .bool=>some [.bool]
  |some (.int k)=>some [.int k]
  |some .string=>some [.str]
  |some (.slice e)=>match kU P n e with
   |some cts=>if P.cellsOf e=Z' cts/\0<cts.length then some [.sl cts]else none
   |none=>none
  |some (.struct d)=>match xW P (kU P n) 0 d.toList with
   |some cts=>if P.cellsOf t=cts.length then some cts else none
   |none=>none
  |some (.array k e)=>match kU P n e with
   |some cts=>if P.cellsOf e=Z' cts/\P.cellsOf t=k*cts.length then some (bhU k cts).flatten else none
   |none=>none
  |_=>none
inductive PV.Ty:CT->PV->Prop
 |int {k:IntKind} {n:Int} (h:(Lit.int k n).wf=true):PV.Ty (.int k) (.int k n)
 |bool (b:Bool):PV.Ty .bool (.bool b)
 |str {s:List UInt8} (h:Z' s<=maxLen):PV.Ty .str (.str s)
 |sl {es:List CT} {rows:P2_} (hr:∀r∈rows,Z' r=Z' es) (hl:Z' rows<=maxLen) (h:∀(i j:Nat) pv ct,at2 rows i j=some pv->es[j]?=some ct->PV.Ty ct pv):PV.Ty (.sl es) (.sl es.length rows)
def Env.of(W:World)(num:Nat->FuncId):Env:=⟨λb=>match W.heap[b]? with|some (.cells cs _ _)=>some cs|_=>none,λ_=>none,num⟩
theorem cB.start(W:World)(num:Nat->FuncId):cB (Env.of W num) h_ W:=by
 refine⟨λb cs hb=>⟨λx d=>(by cases d),?_⟩,λo x d=>(by cases d),λo n h=>(by cases h)⟩;simp only[Env.of]at hb;split at hb
 ·rename_i c ty fr h;cases hb;exact⟨ty,fr,h⟩
 ·cases hb
structure Reads(E:Env)(cts:List CT)(pvs:List PV)(cs:List Value):Prop where
 lp:Z' pvs=Z' cts
 lc:Z' cs=Z' cts
 rep:∀(j:Nat) pv c,pvs[j]?=some pv->cs[j]?=some c->bM E pv c/\c.oneCell'=true
 ty:∀(j:Nat) pv ct,pvs[j]?=some pv->cts[j]?=some ct->PV.Ty ct pv
theorem Reads.one{E:Env}{ct:CT}{pv:PV}{c:Value}(h:bM E pv c)(d:c.oneCell'=true)(e:PV.Ty ct pv):Reads E [ct] [pv] [c]:=by
 refine⟨rfl,rfl,λj p u a b=>?_,λj p u a b=>?_⟩
 ·cases j with
  |zero=>simp at a b;subst a;subst b;exact⟨h,d⟩
  |succ j=>simp at a
 ·cases j with
  |zero=>simp at a b;subst a;subst b;exact e
  |succ j=>simp at a
theorem Reads.append{E:Env}{d i:List CT}{e x:List PV}{l w:List Value}(h:Reads E d e l)(k:Reads E i x w):Reads E (d++i) (e++x) (l++w):=by
 refine⟨by simp[h.lp,k.lp],by simp[h.lc,k.lc],λj p u a b=>?_,λj p u a b=>?_⟩
 ·rcases biR j e.length with hj|hj
  ·rw[bkE hj]at a;rw[bkE (by rw[h.lc,<-h.lp];exact hj)]at b;exact h.rep j p u a b
  ·rw[bkF hj]at a;rw[bkF (by rw[h.lc,<-h.lp];exact hj)]at b;rw[show j-Z' l=j-e.length by rw[h.lc,h.lp]]at b;exact k.rep _ p u a b
 ·rcases biR j e.length with hj|hj
  ·rw[bkE hj]at a;rw[bkE (by rw[<-h.lp];exact hj)]at b;exact h.ty j p u a b
  ·rw[bkF hj]at a;rw[bkF (by rw[<-h.lp];exact hj)]at b;rw[show j-Z' d=j-e.length by rw[h.lp]]at b;exact k.ty _ p u a b
theorem A3{W:World}{num:Nat->FuncId}{a:Addr}{v:Value}(h:W.cell? a=some v):a.spot=none/\(Env.of W num).cell a.block a.off=some v:=by
 unfold World.cell? at h;split at h
 ·rename_i c ty fr hb;split at h
  ·cases h
  ·rename_i d;refine⟨by simpa using d,?_⟩;simp only[Env.cell,Env.of,hb];exact h
 ·cases h
inductive PV.Len (N:Nat):PV->Prop
 |flat {pv:PV} (h1:∀n rows,pv≠.sl n rows) (h2:∀vs,pv≠.agg vs):PV.Len N pv
 |sl {n:Nat} {rows:P2_} (h:Z' rows<=N) (hr:∀r∈rows,∀v∈r,PV.Len N v):PV.Len N (.sl n rows)
 |agg {vs:List PV} (h:∀v∈vs,PV.Len N v):PV.Len N (.agg vs)
theorem PV.Len.int{N:Nat}(k:IntKind)(n:Int):PV.Len N (.int k n):=.flat (λ_ _ h=>by cases h) λ_ h=>by cases h
theorem PV.Len.bool{N:Nat}(b:Bool):PV.Len N (.bool b):=.flat (λ_ _ h=>by cases h) λ_ h=>by cases h
theorem PV.Len.str{N:Nat}(s:List UInt8):PV.Len N (.str s):=.flat (λ_ _ h=>by cases h) λ_ h=>by cases h
theorem PV.Len.rows{N n:Nat}{rows:P2_}(h:PV.Len N (.sl n rows)):Z' rows<=N/\∀r∈rows,∀v∈r,PV.Len N v:=by
 cases h with
 |flat d _=>exact absurd rfl (d n rows)
 |sl d e=>exact⟨d,e⟩
theorem PV.Len.parts{N:Nat}{vs:List PV}(h:PV.Len N (.agg vs)):∀v∈vs,PV.Len N v:=by
 cases h with
 |flat _ d=>exact absurd rfl (d vs)
 |agg h=>exact h
structure ug{H:Type}(P:Program)(N:Nat)(S:TypeId->DataW H->Prop):Prop where
 sl:∀t e elems spare,P.underlying t=some (.slice e)->S t (.slice elems spare)->Z' elems<=N/\∀d∈elems,S e d
 st:∀t fs parts,P.underlying t=some (.struct fs)->S t (.agg parts)->∀(i:Nat) g d,fs[i]?=some g->parts[i]?=some d->S g.type d
 ar:∀t n e parts,P.underlying t=some (.array n e)->S t (.agg parts)->∀d∈parts,S e d
theorem k7{H:Type}{P:Program}{A:(TypeId->DataW H->Prop)->Prop}{pv:PV}(h:∀{N},PV.Len N pv):∀N S,ug P N S->A S->∀v∈[pv],PV.Len N v:=λN S _ _ v d=>by
 obtain rfl:=bjH.1 d;exact h
theorem Dh{P:Program}{E:Env}{rec:TypeId->Option (List CT)}{H:Type}{f:TypeId->List Value->Option (DataW H × List MemPlace)}
  (F:∀t cs x cts,f t cs=some x->rec t=some cts->∃d,Reads E cts d cs/\∀N S,ug P N S->S t x.1->∀v∈d,PV.Len N v) (cs:List Value) :
  ∀(i:List Field)(k:Nat)(cts:List CT),(∀g∈i,∃x,f g.type ((cs.drop g.offset).take (P.cellsOf g.type))=some x)->xW P rec k i=some cts ->
   ∃d,Reads E cts d ((cs.drop k).take cts.length)/\∀N S,ug P N S->(∀g∈i,∀x,f g.type ((cs.drop g.offset).take (P.cellsOf g.type))=some x->S g.type x.1)->∀v∈d,PV.Len N v
 |[],k,cts,_,h=>by simp[xW]at h;subst h;exact⟨[],⟨rfl,by simp,λj p c a=>by simp at a,λj p c a=>by simp at a⟩,λ_ _ _ _ v hv=>by cases hv⟩
 |g::i,k,cts,A,h=>by
  simp only[xW]at h;split at h
  ·rename_i J M;split at h
   ·rename_i y;simp only[biE]at h;obtain⟨K,O,rfl⟩:=h;obtain⟨x,B⟩:=A g bH;obtain⟨U,r1,Q⟩:=F _ _ _ _ B M;rw[y.1,y.2]at r1;obtain⟨V,r2,R⟩:=Dh F cs i (k+Z' J) K (λl e=>A l (by simp[e])) O;refine⟨U++V,?_,λN S u w v hv=>?_⟩
    ·have:=r1.append r2;rw[bhW,List.take_add,List.drop_drop];exact this
    ·rcases bjB.1 hv with hv|hv
     ·exact Q N S u (w g bH x B) v hv
     ·exact R N S u (λl e=>w l (by simp[e])) v hv
   ·cases h
  ·cases h
theorem Pv{E:Env}{cts:List CT}{R:List PV->Prop}(e:R [])(l:∀a b,R a->R b->R (a++b))(cs:List Value) :
  ∀n:Nat,(∀i,i<n->∃d,Reads E cts d ((cs.drop (i*Z' cts)).take cts.length)/\R d)->∃d,Reads E (bhU n cts).flatten d (cs.take (n*Z' cts))/\R d
 |0,_=>⟨[],⟨rfl,by simp,λj p c a=>by simp at a,λj p c a=>by simp at a⟩,e⟩
 |n+1,h=>by obtain⟨u,r1,x⟩:=Pv e l cs n λi hi=>h i Om;obtain⟨w,r2,y⟩:=h n Om;refine⟨u++w,?_,l _ _ x y⟩;rw[List.replicate_succ',List.flatten_append,List.flatten_singleton,bkI,List.take_add];exact r1.append r2
theorem aXV{H:Type}{enc:TypeId × Value->H}{P:Program}{W:World}{base:Nat}{sp:Nat->Bool}{α:Bool}(num:Nat->FuncId) :
  ∀(fuel m:Nat)(t:TypeId)(cs:List Value)(x:DataW H × List MemPlace)(cts:List CT),DataW.trod enc P W base sp α fuel t cs=some x->kU P m t=some cts->∃l,Reads (Env.of W num) cts l cs/\∀N S,ug P N S->S t x.1->∀v∈l,PV.Len N v:=by
 intro fuel
 induction fuel with
 |zero=>intro m t cs x cts h;simp[DataW.trod]at h
 |succ fuel ih=>
  intro m t cs x cts h u;cases m with
  |zero=>simp[kU]at u
  |succ m=>
   simp only[kU]at u;split at u
   ·rename_i M;cases u;obtain⟨b,rfl,-⟩:=DataW.trod_bool M h;exact⟨[.bool b],.one (.bool b) rfl (.bool b),k7 (.bool b)⟩
   ·rename_i k M;cases u;obtain⟨n,rfl,-,hw⟩:=DataW.trod_int M h;exact⟨[.int k n],.one (.int k n) rfl (.int hw),k7 (.int k n)⟩
   ·rename_i M;cases u;obtain⟨s,rfl,-,hs⟩:=DataW.trod_string M h;exact⟨[.str s.data.toList],.one (.str s) rfl (.str (by rw[bkX];exact hs)),k7 (.str _)⟩
   ·rename_i e M;split at u
    ·rename_i p he;split at u
     ·rename_i A;cases u;rcases DataW.trod_slice M h with⟨rfl,-⟩|⟨a,len,cap,elems,rest,n,hn,rfl,V,-,β,hcap,hel,helem,-⟩
      ·refine⟨[.sl p.length []],.one ?_ rfl (.sl bH bH (by simp[at2])),k7 (.sl (bhT _) (λr Q=>by cases Q))⟩;exact .sl (λ_ _=>.bool false) bH aS bH bH (λ_ _=>rfl) (by simp[at2])
      ·cases hn;have each:∀i,i<len->∃l X,(Reads (Env.of W num) p l X/\∀N S,ug P N S->(∀d∈elems.map (·.1),S e d)->∀v∈l,PV.Len N v)/\W.cells? base (a.add (i*Z' p)) p.length=some X:=by intro i hi;have Z:=helem i hi;rw[biD Om,blT]at Z;obtain⟨X,h2,h3⟩:=Z;obtain⟨l,r,rl⟩:=ih m e X _ p h3 he;rw[A.1]at h2;exact⟨l,X,⟨r,λN S F J=>rl N S F (J _ (biJ.2 ⟨_,bhS _,rfl⟩))⟩,h2⟩
       have γ:∀i,∃l,∃X,i<len->(Reads (Env.of W num) p l X/\∀N S,ug P N S->(∀d∈elems.map (·.1),S e d)->∀v∈l,PV.Len N v)/\W.cells? base (a.add (i*Z' p)) p.length=some X:=by
        intro i;by_cases hi:i<len
        ·obtain⟨l,X,Z⟩:=each i hi;exact⟨l,X,λ_=>Z⟩
        ·exact⟨[],[],λh=>(hi h).elim⟩
       obtain⟨pf,ν⟩:=Classical.axiomOfChoice γ;obtain⟨uf,K⟩:=Classical.axiomOfChoice ν;have δ:∀i j pv,at2 ((bhP len).map pf) i j=some pv->i<len/\(pf i)[j]?=some pv:=by
        intro i j pv hp;unfold at2 at hp;rw[biL,blT]at hp;obtain⟨r,Q,hp⟩:=hp;rw[biE]at Q;obtain⟨i',O,rfl⟩:=Q;have hi:i<len:=by simpa using(biZ.1 O).1
        have:i'=i:=by simp[hi]at O;exact O.symm
        subst this;exact⟨hi,hp⟩
       have hu2:∀i j pv,at2 ((bhP len).map pf) i j=some pv->∃v,(uf i)[j]?=some v/\j<Z' p/\bM (Env.of W num) pv v/\v.oneCell'=true:=by
        intro i j pv hp;obtain⟨hi,U⟩:=δ i j pv hp;obtain⟨⟨r,-⟩,-⟩:=K i hi;have hj:j<Z' p:=by rw[<-r.lp];exact(biZ.1 U).1
        have B:(uf i)[j]?=some ((uf i)[j]'(by rw[r.lc];exact hj)):=biD _;exact⟨_,B,hj,(r.rep j pv _ U B).1,(r.rep j pv _ U B).2⟩
       have Y:((bhP len).map pf).length=len:=by simp
       refine⟨[.sl p.length ((bhP len).map pf)],.one ?_ rfl (.sl (λr Q=>?_) (by rw[Y];omega) λi j pv ct hp ι=>?_),λN S F J v B=>?_⟩
       ·have ζ:=bM.sl (E:=Env.of W num) (size:=Z' p) (rows:=(bhP len).map pf) (a:=some a) (cap:=cap)
         (λi j=>match at2 ((bhP len).map pf) i j with|some _=>((uf i)[j]?).getD (.bool false)|none=>.bool false) (by rw[Y];exact β) hcap
         (λr Q=>by simp only[biJ,biM]at Q;obtain⟨i,hi,rfl⟩:=Q;exact(K i hi).1.1.lp)
         (λμ=>by
          have κ:0<len:=by
           rcases bkM len with h|h
           ·subst h;exact(μ rfl).elim
           ·exact h
          have ε:a.spot=none:=by obtain⟨⟨r,-⟩,u⟩:=K 0 κ;have h3:=(World.cells?_some u).2.2 0 A.2;rw[Nat.zero_mul,Addr.add_zero',Addr.add_zero',biD (by rw[r.lc];exact A.2)]at h3;exact(A3 (num:=num) h3).1
          refine⟨a,rfl,ε,λi j pv hp=>?_⟩;obtain⟨hi,-⟩:=δ i j pv hp;obtain⟨v,B,hj,-⟩:=hu2 i j pv hp;have h3:=(World.cells?_some (K i hi).2).2.2 j hj;rw[tJ ε,add_plain,add_plain,B]at h3;have h4:=(A3 (num:=num) h3).2;simp only[hp,B,bkC];exact h4)
         (λi j=>by
          split
          ·rename_i pv hp;obtain⟨v,B,-,-,Z⟩:=hu2 i j pv hp;simp[B,Z]
          ·rfl)
         (λi j pv hp=>by obtain⟨v,B,-,Z,-⟩:=hu2 i j pv hp;simp only[hp,B,bkC];exact Z)
        rw[Y]at ζ;exact ζ
       ·simp only[biJ,biM]at Q;obtain⟨i,hi,rfl⟩:=Q;exact(K i hi).1.1.lp
       ·obtain⟨hi,U⟩:=δ i j pv hp;exact(K i hi).1.1.ty j pv ct U ι
       ·rw[V]at J;obtain⟨m1,m2⟩:=F.sl t e _ _ M J;obtain rfl:=bjH.1 B;refine .sl (by rw[Y];simpa[hel]using m1) λr Q w hw=>?_;simp only[biJ,biM]at Q;obtain⟨i,hi,rfl⟩:=Q;exact(K i hi).1.2 N S F m2 w hw
     ·cases u
    ·cases u
   ·rename_i fs M;split at u
    ·rename_i ο η;split at u
     ·rename_i β;cases u;obtain⟨xs,n,hn,V,θ,ξ,hx⟩:=DataW.trod_struct M h;cases hn;have:=Dh (f:=DataW.trod enc P W base sp α fuel) (λt cs x cts a b=>ih m t cs x cts a b) cs fs.toList 0 cts (λg hg=>by obtain⟨i,hi,rfl⟩:=bjD hg;have:=hx i fs.toList[i] (by simp at hi;simp[hi]);rw[this];exact⟨_,biD (by simp at hi;omega)⟩) η
      rw[bjG,biK Om]at this;obtain⟨l,r,rl⟩:=this;refine⟨l,r,λN S F J=>rl N S F λg hg y hy=>?_⟩;rw[V]at J;obtain⟨i,hi,rfl⟩:=bjD hg;have O:i<fs.size:=by simpa using hi
      have:=hx i fs.toList[i] (by simp[O]);rw[hy,biD Om]at this;refine F.st t fs _ M J i fs.toList[i] y.1 (by simp[O]) ?_;rw[biL,biD Om,<-this];rfl
     ·cases u
    ·cases u
   ·rename_i k e M;split at u
    ·rename_i p he;split at u
     ·rename_i A;cases u;obtain⟨xs,n,hn,V,θ,ξ,hx⟩:=DataW.trod_array M h;cases hn;obtain⟨l,r,hq⟩:=Pv (E:=Env.of W num) (cts:=p) (R:=λl=>∀N S,ug P N S->(∀d:DataW H,d∈xs.map (λy:DataW H × List MemPlace=>y.1)->S e d)->∀v∈l,PV.Len N v) (λ_ _ _ _ v B=>by cases B)
       (λa b ha hb N S F J v B=>(bjB.1 B).elim (ha N S F J v) (hb N S F J v)) cs k λi hi=>by have h2:=hx i hi;rw[biD Om,A.1]at h2;obtain⟨l,r,rl⟩:=ih m e _ _ p h2 he;exact⟨l,r,λN S F J=>rl N S F (J _ (biJ.2 ⟨_,bhS _,rfl⟩))⟩
      rw[biK Om]at r;exact⟨l,r,λN S F J=>hq N S F (F.ar t k e _ M (by rw[V]at J;exact J))⟩
     ·cases u
    ·cases u
   ·cases u
theorem He{H:Type}{enc:TypeId × Value->H}{P:Program}{W:World}{base:Nat}{l:Nat->Bool}{d:Bool}(num:Nat->FuncId)
  (fuel m:Nat) (t:TypeId) (cs:List Value) (x:DataW H × List MemPlace) (cts:List CT) (h:DataW.trod enc P W base l d fuel t cs=some x) (i:kU P m t=some cts):∃e,Reads (Env.of W num) cts e cs:=
 (aXV num fuel m t cs x cts h i).imp λ_ r=>r.1
open Go Go.RowKit Go.ChangeShapes Go.WideShapes
theorem Ext.below{E e:Env}{H':PH}{w d:World}(h:Ext E h_ w e H' d):Below w.heap.size w d:=
 ⟨h.os,h.tape,h.output,h.size,λk i=>h.block k i rfl⟩
theorem Below.trodAll{H:Type}{enc:TypeId × Value->H}{P:Program}(w:laidOutB P=true){W i:World}(hb:Below W.heap.size W i) :
  ∀{ts:List TypeId}{vs:List Value}{ds:List (DataW H)}{ps:List MemPlace},(∀t∈ts,P.readableRec t=true/\t<P.types.size)->DataW.TrodAll enc P W 0 (λ_=>true) true ts vs ds ps ->
   DataW.TrodAll enc P i 0 (λb=>decide (b<W.heap.size)) true ts vs ds ps
 |[],[],[],ps,_,h=>h
 |[],_::_,_,_,_,h=>h.elim
 |[],[],_::_,_,_,h=>h.elim
 |_::_,[],_,_,_,h=>h.elim
 |_::_,_::_,[],_,_,h=>h.elim
 |t::ts,v::vs,d::ds,ps,e,h=>by obtain⟨p,q,l,y,rfl⟩:=h;have hlt:∀x∈p,x.block<W.heap.size:=λx B=>DataW.TrodAll.lt (ts:=[t]) (vs:=[v]) (ds:=[d]) ⟨p,[],l,rfl,(bjI p).symm⟩ x B;exact⟨p,q,Below.trod w (e t bH).1 (e t bH).2 l hb hlt,Below.trodAll w hb (λu A=>e u (by simp[A])) y,rfl⟩
theorem aPB{H:Type}{enc:TypeId × Value->H}{P:Program}{f:Func}{s:ChangeSpec}{d apart fresh:Bool}{W A:World}{args:Array Value}{ds i:List (DataW H)}{e:List MemPlace}{bt:TypeId}
  (F:laidOutB P=true) (hW:DataW.Whole enc P f.params.toList s.vars apart W args.toList ds i e) (hb:Below W.heap.size W A) (w:∀t∈f.params.toList,P.readableRec t=true/\t<P.types.size)
  (u:f.resultTypes=#[bt]) (l:P.underlying bt=some .bool) (x:s.vars=[]) (K:(s.fn H (ds++i)).results=[.lit (.bool true)]) (E:(s.fn H (ds++i)).args=ds) (y:(s.fn H (ds++i)).vars=[]) :
  s.post enc P f apart fresh d false W args (.bool true) A:=by
 obtain⟨p,q,B,hV,rfl,M,J⟩:=hW;rw[x]at hV;obtain⟨rfl,rfl⟩:=trodVars_none hV;refine⟨ds,[],p++[],[],p,[],⟨p,[],B,by rw[x];exact hV,rfl,M,J⟩,?_,?_,?_,hb.frame _,λh=>by cases h⟩
 ·rw[K,u];refine⟨[],[],⟨1,?_⟩,rfl,rfl⟩;simp[DataW.trod,l,Value.cells,Value.resultList]
 ·rw[E];exact Below.trodAll F hb w B
 ·rw[x,y];exact rfl
theorem aNF{name:Nat}{W:World}{args:Array Value}{i:List PV}(h:aH C name i h_ (aI (.bool true)))(w:fU (Env.of W C.num) i args.toList) :
  Calls C.P (C.num name) args W λe l=>e=.returned (.bool true)/\Below W.heap.size W l:=
 (h.2 (Env.of W C.num) W args rfl (cB.start W C.num) w).mono λe l u=>by obtain⟨v,pv,x,H',rfl,-,d,p,rfl,-⟩:=u;cases d;exact⟨rfl,p.below⟩
theorem aEU{H:Type}{enc:TypeId × Value->H}{P:Program}{W:World}{r:Reach}{base:Nat}{F:Nat->Bool}{l:Bool}(num:Nat->FuncId){t:TypeId}{v:Value}{d:DataW H}{ps:List MemPlace}{y:Array Field}{n:Nat}{cts:List CT}
  (w:P.underlying t=some (.struct y)) (p:Value.okWide P W r base t v) (B:DataW.Trod enc P W 0 F l t v d ps) (A:kU P n t=some cts) :
  ∃e,bM (Env.of W num) (.agg e) v/\Z' e=Z' cts/\∀(j:Nat) pv ct,e[j]?=some pv->cts[j]?=some ct->PV.Ty ct pv:=by
 obtain⟨cs,rfl,-⟩:=okWide_struct w p;obtain⟨fuel,h⟩:=B;obtain⟨e,i⟩:=He num fuel n t _ _ cts h A;have E:cs.size=Z' e:=by have:=i.lc;rw[i.lp,<-this];simp[Value.cells]
 refine⟨e,.agg cs E (λu w=>?_) (λj pv u a b=>(i.rep j pv u a (by simpa[Value.cells]using b)).1),i.lp,i.ty⟩;obtain⟨j,x,rfl⟩:=bjD w;simp only[bkX]at x;exact(i.rep j _ _ (biD Om) (by simp[Value.cells,x])).2
theorem CP{H:Type}{enc:TypeId × Value->H}{P:Program}{W:World}{y:Nat->Bool}{e:Bool}(num:Nat->FuncId){t:TypeId}{v:Value}{d:DataW H}{ps:List MemPlace}{n:Nat}{ct:CT}
  (x:v.cells=#[v]) (u:DataW.Trod enc P W 0 y e t v d ps) (p:kU P n t=some [ct]):∃pv,bM (Env.of W num) pv v/\PV.Ty ct pv:=by
 obtain⟨fuel,h⟩:=u;obtain⟨l,i⟩:=He num fuel n t _ _ [ct] h p;rw[x]at i;have w:=i.lp;cases l with
 |nil=>simp at w
 |cons pv rest=>exact⟨pv,(i.rep 0 pv v rfl rfl).1,i.ty 0 pv ct rfl rfl⟩
def InK(k:IntKind)(n:Int):Prop:=k.min<=n/\n<=k.max
def aHH(k:IntKind)(xs:List Int):PV:=.sl 1 (xs.map λn=>[.int k n])
theorem Ty.awY{k:IntKind}{pv:PV}(h:PV.Ty (.int k) pv):∃n,pv=.int k n/\InK k n:=by
 cases h with
 |int h=>simp only[Lit.wf,bhQ,dT_]at h;exact⟨_,rfl,h⟩
theorem Ty.a4N{ct:CT}{pv:PV}(h:PV.Ty (.sl [ct]) pv):∃vs:List PV,pv=.sl 1 (vs.map λv=>[v])/\Z' vs<=maxLen/\∀v∈vs,PV.Ty ct v:=by
 cases h with
 |@sl A rows y w h=>
 have d:∀r∈rows,r=[r.headD .junk]:=λr l=>by
  have:=y r l
  match r,this with
  |[x],_=>rfl
 have e:rows=(rows.map λr=>r.headD .junk).map λv=>[v]:=by rw[bkT];apply bkS bH;intro n u B;simp only[bjK,Function.comp];exact d _ (bhS u)
 refine⟨rows.map λr=>r.headD .junk,by rw[<-e];rfl,by simpa using w,λv p=>?_⟩;rw[biJ]at p;obtain⟨r,l,rfl⟩:=p;obtain⟨i,hi,rfl⟩:=bjD l;refine h i 0 _ ct ?_ rfl;have:=d rows[i] l;unfold at2;rw[biD hi,blG,this];rfl
theorem Ty.aUW{k:IntKind}{pv:PV}(h:PV.Ty (.sl [.int k]) pv):∃xs:List Int,pv=aHH k xs/\Z' xs<=maxLen/\∀x∈xs,InK k x:=by
 obtain⟨vs,rfl,w,i⟩:=Ty.a4N h;have e:vs=(vs.map λv=>match v with | .int _ n=>n|_=>0).map λn=>PV.int k n:=by rw[bkT];apply bkS bH;intro n p y;simp only[bjK,Function.comp];obtain⟨m,d,-⟩:=Ty.awY (i _ (bhS p));rw[d]
 refine⟨vs.map λv=>match v with | .int _ n=>n|_=>0,?_,by simpa using w,λx l=>?_⟩
 ·unfold aHH
  conv=>lhs;rw[e]
  rw[bkT];rfl
 ·rw[biJ]at l;obtain⟨v,d,rfl⟩:=l;obtain⟨m,rfl,u⟩:=Ty.awY (i v d);exact u
end Go.PM
namespace Go.Proofs.YtjlbgiaeggfcaabGreatDoor
open Go Go.PM
def a6V:List Nat:=[16,89,39,6,15,42,17,41,0,0,0,0,0,0,0,0,0,0,0,0,0,0,0,0,0,0,0,28,14,40,162,156,88,92,91,44,129,164,74,132,159,131,158,174,154,157,141,13,175,12,18,38,105,31,62,104,30,163,43,45,87,106,101,161,140,139,107,26,61,65,60,102,64,59,63,103,58,109,0,0,110,0,19,8,68,67,0,27,142,108,66,0,0,0,0,78,33,120,146,121,148,151,123,147,76,119,124,149,125,150,80,77,79,82,22,54,94,122,50,99,98,52,53,126,165,153,152,127,95,51,136,135,138,97,128,137,160,133,96,173,170,134,172,171,0,0,0,0,0,0,0,0,35,0,0,0,0,0,0,0,0,83,155,130,178,168,169,179,176,167,166,0,0,0,0,0,0,0,0,0,0,0,0,0,0,0,0,0,0,0,0,0,0,0,0,90,0,0,0,0,0,86,85,84,36,111,46,47,37,11,48,93,0,0,0,0,0,0,0,0,0,0,0,0,0,0,0,0,0,56,20,25,55,0,0,0,0,0,0,0,0,0,0,0,0,0,0,0,0,0,0,0,0,0,0,0,0,0,0,0,0,0,0,0,0,0,0,0,0,0,0,0,0,0,0,0,0,0,57,100,0,0,0,0,0,0,0,0,0,0,0,0,0,0,0,0,0,0,0,0,0,0,0,0,0,0,0,0,0,0,0,0,0,0,0,0,0,0,0,0,0,0,0,0,0,3,4,5,10,0,7,0,9,29,32,21,23,24,34,0,0,0,69,70,71,72,73,75,49,81,0,112,113,114,115,116,117,118,143,144,145,0,0,0,0,0,0,0,0,0,0,0,0,0]
def a3F:List (Option Nat):=[none,none,none,some 325,some 326,some 327,some 3,some 330,some 83,some 332,some 328,some 209,some 49,some 47,some 28,some 4,some 0,some 6,some 50,some 82,some 230,some 335,some 114,some 336,some 337,some 231,some 67,some 87,some 27,some 333,some 56,some 53,some 334,some 96,some 338,some 152,some 204,some 208,some 51,some 2,some 29,some 7,some 5,some 58,some 35,some 59,some 206,some 207,some 210,some 348,some 118,some 129,some 121,some 122,some 115,some 232,some 229,some 278,some 76,some 73,some 70,some 68,some 54,some 74,some 72,some 69,some 90,some 85,some 84,some 342,some 343,some 344,some 345,some 346,some 38,some 347,some 104,some 111,some 95,some 112,some 110,some 349,some 113,some 161,some 203,some 202,some 201,some 60,some 32,some 1,some 195,some 34,some 33,some 211,some 116,some 128,some 138,some 133,some 120,some 119,some 279,some 62,some 71,some 75,some 55,some 52,some 61,some 66,some 89,some 77,some 80,some 205,some 351,some 352,some 353,some 354,some 355,some 356,some 357,some 105,some 97,some 99,some 117,some 102,some 106,some 108,some 123,some 127,some 134,some 36,some 163,some 41,some 39,some 137,some 141,some 131,some 130,some 135,some 132,some 65,some 64,some 46,some 88,some 358,some 359,some 360,some 98,some 103,some 100,some 107,some 109,some 101,some 126,some 125,some 44,some 162,some 31,some 45,some 42,some 40,some 136,some 63,some 30,some 57,some 37,some 124,some 170,some 169,some 165,some 166,some 140,some 143,some 142,some 139,some 43,some 48,some 168,none,some 164,some 167]
def num(n:Nat):FuncId:=a6V.getD n 0
def nameOf(f:FuncId):Option Nat:=a3F.getD f none
noncomputable def T(ro:List Nat):Tbl:={ P:=Tryz.prog,num:=num,name:=nameOf,ro:=ro }
end Go.Proofs.YtjlbgiaeggfcaabGreatDoor
namespace Go.PM
open Go
abbrev Rg:=List aW
abbrev Rd:=List (aW×Bool)
def aC.rs : aC->List Rg
 | .region r=>[r] | .seq a b=>a.rs++b.rs | .cond _ a b=>a.rs++b.rs | .block _ a=>a.rs | .loop a=>a.rs | _=>[]
def aC.ds : aC->List Rd
 | .draw r=>[r] | .seq a b=>a.ds++b.ds | .cond _ a b=>a.ds++b.ds | .block _ a=>a.ds | .loop a=>a.ds | _=>[]
theorem aAX (n:Nat) (h:n<2^8):UInt8.ofBitVec (BitVec.ofFin ⟨n,h⟩)=UInt8.ofNat n:=by
 apply UInt8.toNat_inj.1;have d:n<256:=h;simp [UInt8.toNat_ofNat'];omega
def bT(ro:List Nat)(f:Func)(x:{p:bD//(Go.Proofs.YtjlbgiaeggfcaabGreatDoor.T ro).func f=some p}:=by refine⟨?p,?h⟩;case h=>conv=>lhs;reduce):bD:=x.1
def aA(q:bD)(k:Nat)(x:{l:Rg//(q.body.rs).getD k []=l}:=by refine⟨?p,?h⟩;case h=>conv=>lhs;reduce;try simp only[aAX,UInt8.reduceOfNat,Int.reduceOfNat,Int.reduceNegSucc]):Rg:=x.1
def cV(q:bD)(k:Nat)(x:{l:Rd//(q.body.ds).getD k []=l}:=by refine⟨?p,?h⟩;case h=>conv=>lhs;reduce;try simp only[aAX,UInt8.reduceOfNat,Int.reduceOfNat,Int.reduceNegSucc]):Rd:=x.1
@[go_sem ↓] theorem bdU(q:bD)(k:Nat)(l:Rg)(h:(q.body.rs).getD k []=l):aA q k ⟨l,h⟩=l:=(rfl)
@[go_sem ↓] theorem bdE(q:bD)(k:Nat)(l:Rd)(h:(q.body.ds).getD k []=l):cV q k ⟨l,h⟩=l:=(rfl)
def iM(d s:Nat):aW:=⟨some d,.mv (.tmp s),none⟩
def iI(d:Nat)(n:Int):aW:=⟨some d,.mv (.const (.int .i64 n)),none⟩
def iB(d:Nat)(o:BinOp)(x y:Nat):aW:=⟨some d,.bin o (.tmp x) (.tmp y),none⟩
def iC(d:Nat)(o:BinOp)(x:Nat)(n:Int):aW:=⟨some d,.bin o (.tmp x) (.const (.int .i64 n)),none⟩
def iL(d s:Nat):aW:=⟨some d,.load none (.tmp s),none⟩
def iX(d n x y:Nat):aW:=⟨some d,.bgU n (.tmp x) (.tmp y),none⟩
def iN(d x:Nat):aW:=⟨some d,.len (.tmp x),none⟩
def iF(d n x:Nat):aW:=⟨some d,.bhG n (.tmp x),none⟩
def iS(n p x:Nat):aW:=⟨none,.store n (.tmp p) (.tmp x),none⟩
def iA(d:Nat)(o:POp):aW:=⟨some d,o,none⟩
def iG(d:Nat)(o:POp)(g:Nat)(b:Bool):aW:=⟨some d,o,some (g,b)⟩
def iP(d a b:Nat):aW:=⟨some d,.pick (.tmp a) (.tmp b) (.const (.bool false)),none⟩
def iQ(d a b:Nat):aW:=⟨some d,.pick (.tmp a) (.const (.bool true)) (.tmp b),none⟩
def iO(d s a:Nat):aW:=⟨some d,.load (some s) (.tmp a),none⟩
def iE(d a n:Nat):aW:=⟨some d,.extract (.tmp a) n,none⟩
def iK(d f a:Nat):aW:=⟨some d,.call f [.tmp a],none⟩
def iK2(d f a b:Nat):aW:=⟨some d,.call f [.tmp a,.tmp b],none⟩
def iT(d:Nat)(b:Bool):aW:=⟨some d,.mv (.const (.bool b)),none⟩
def iZ(d:Nat):aW:=⟨some d,.mv (.const .aK),none⟩
def gM(d s g:Nat)(b:Bool):aW:=⟨some d,.mv (.tmp s),some (g,b)⟩
def gL(d s g:Nat)(b:Bool):aW:=⟨some d,.load none (.tmp s),some (g,b)⟩
def gF(d n s g:Nat)(b:Bool):aW:=⟨some d,.bhG n (.tmp s),some (g,b)⟩
def gN(d s g:Nat)(b:Bool):aW:=⟨some d,.len (.tmp s),some (g,b)⟩
def gO(d n s g:Nat)(b:Bool):aW:=⟨some d,.load (some n) (.tmp s),some (g,b)⟩
def gK(d f a g:Nat)(b:Bool):aW:=⟨some d,.call f [.tmp a],some (g,b)⟩
def gK2(d f a c g:Nat)(b:Bool):aW:=⟨some d,.call f [.tmp a,.tmp c],some (g,b)⟩
def gC(d:Nat)(o:BinOp)(x:Nat)(n:Int)(g:Nat)(b:Bool):aW:=⟨some d,.bin o (.tmp x) (.const (.int .i64 n)),some (g,b)⟩
def gB(d:Nat)(o:BinOp)(x y g:Nat)(b:Bool):aW:=⟨some d,.bin o (.tmp x) (.tmp y),some (g,b)⟩
def zI:PV:=.int .i64 0
def zB:PV:=.bool false
def sq(r:Rg)(c:aC):aC:=.seq (.region r) c
def dq(r:Rd)(c:aC):aC:=.seq (.draw r) c
def Tm(n:Nat):aP:=.tmp n
def Ci(n:Int):aP:=.const (.int .i64 n)
@[go_sem] theorem bfR(d s:Nat):iM d s=⟨some d,.mv (.tmp s),none⟩:=(rfl)
@[go_sem] theorem bfO(d:Nat)(n:Int):iI d n=⟨some d,.mv (.const (.int .i64 n)),none⟩:=(rfl)
@[go_sem] theorem bfJ(d:Nat)(o:BinOp)(x y:Nat):iB d o x y=⟨some d,.bin o (.tmp x) (.tmp y),none⟩:=(rfl)
@[go_sem] theorem bfK(d:Nat)(o:BinOp)(x:Nat)(n:Int):iC d o x n=⟨some d,.bin o (.tmp x) (.const (.int .i64 n)),none⟩:=(rfl)
@[go_sem] theorem bfQ(d s:Nat):iL d s=⟨some d,.load none (.tmp s),none⟩:=(rfl)
@[go_sem] theorem bfY(d n x y:Nat):iX d n x y=⟨some d,.bgU n (.tmp x) (.tmp y),none⟩:=(rfl)
@[go_sem] theorem bfS(d x:Nat):iN d x=⟨some d,.len (.tmp x),none⟩:=(rfl)
@[go_sem] theorem bfM(d n x:Nat):iF d n x=⟨some d,.bhG n (.tmp x),none⟩:=(rfl)
@[go_sem] theorem bfW(n p x:Nat):iS n p x=⟨none,.store n (.tmp p) (.tmp x),none⟩:=(rfl)
@[go_sem] theorem bfI(d:Nat)(o:POp):iA d o=⟨some d,o,none⟩:=(rfl)
@[go_sem] theorem bfN(d:Nat)(o:POp)(g:Nat)(b:Bool):iG d o g b=⟨some d,o,some (g,b)⟩:=(rfl)
@[go_sem] theorem bfU(d a b:Nat):iP d a b=⟨some d,.pick (.tmp a) (.tmp b) (.const (.bool false)),none⟩:=(rfl)
@[go_sem] theorem bfV(d a b:Nat):iQ d a b=⟨some d,.pick (.tmp a) (.const (.bool true)) (.tmp b),none⟩:=(rfl)
@[go_sem] theorem bfT(d s a:Nat):iO d s a=⟨some d,.load (some s) (.tmp a),none⟩:=(rfl)
@[go_sem] theorem bfL(d a n:Nat):iE d a n=⟨some d,.extract (.tmp a) n,none⟩:=(rfl)
@[go_sem] theorem bfP(d f a:Nat):iK d f a=⟨some d,.call f [.tmp a],none⟩:=(rfl)
@[go_sem] theorem beV(d f a b:Nat):iK2 d f a b=⟨some d,.call f [.tmp a,.tmp b],none⟩:=(rfl)
@[go_sem] theorem bfX(d:Nat)(b:Bool):iT d b=⟨some d,.mv (.const (.bool b)),none⟩:=(rfl)
@[go_sem] theorem bfZ(d:Nat):iZ d=⟨some d,.mv (.const .aK),none⟩:=(rfl)
@[go_sem] theorem bfF(d s g:Nat)(b:Bool):gM d s g b=⟨some d,.mv (.tmp s),some (g,b)⟩:=(rfl)
@[go_sem] theorem bfE(d s g:Nat)(b:Bool):gL d s g b=⟨some d,.load none (.tmp s),some (g,b)⟩:=(rfl)
@[go_sem] theorem bfC(d n s g:Nat)(b:Bool):gF d n s g b=⟨some d,.bhG n (.tmp s),some (g,b)⟩:=(rfl)
@[go_sem] theorem bfG(d s g:Nat)(b:Bool):gN d s g b=⟨some d,.len (.tmp s),some (g,b)⟩:=(rfl)
@[go_sem] theorem bfH(d n s g:Nat)(b:Bool):gO d n s g b=⟨some d,.load (some n) (.tmp s),some (g,b)⟩:=(rfl)
@[go_sem] theorem bfD(d f a g:Nat)(b:Bool):gK d f a g b=⟨some d,.call f [.tmp a],some (g,b)⟩:=(rfl)
@[go_sem] theorem beU(d f a c g:Nat)(b:Bool):gK2 d f a c g b=⟨some d,.call f [.tmp a,.tmp c],some (g,b)⟩:=(rfl)
@[go_sem] theorem bfB(d:Nat)(o:BinOp)(x:Nat)(n:Int)(g:Nat)(b:Bool):gC d o x n g b=⟨some d,.bin o (.tmp x) (.const (.int .i64 n)),some (g,b)⟩:=(rfl)
@[go_sem] theorem bfA(d:Nat)(o:BinOp)(x y g:Nat)(b:Bool):gB d o x y g b=⟨some d,.bin o (.tmp x) (.tmp y),some (g,b)⟩:=(rfl)
@[go_sem] theorem bgC:zI=.int .i64 0:=(rfl)
@[go_sem] theorem bgB:zB=.bool false:=(rfl)
@[go_sem] theorem bgA(r:Rg)(c:aC):sq r c=.seq (.region r) c:=(rfl)
@[go_sem] theorem beZ(r:Rd)(c:aC):dq r c=.seq (.draw r) c:=(rfl)
@[go_sem] theorem beY(n:Nat):Tm n=.tmp n:=(rfl)
@[go_sem] theorem beX(n:Int):Ci n=.const (.int .i64 n):=(rfl)
def fI(r:Rg)(t k:Nat)(s:Rg)(b:aC):aC:=sq r (.seq (.cond (Tm t) .skip (.exit k)) (.seq (.block (k+1) b) (.region s)))
@[go_sem] theorem bdN(r:Rg)(t k:Nat)(s:Rg)(b:aC):fI r t k s b=sq r (.seq (.cond (Tm t) .skip (.exit k)) (.seq (.block (k+1) b) (.region s))):=(rfl)
def dK(r:Rg)(t k:Nat)(s:Rg)(b:aC):aC:=.seq (sq r (.cond (Tm t) .skip (.exit k))) (.seq (.block (k+1) b) (.region s))
@[go_sem] theorem bdO(r:Rg)(t k:Nat)(s:Rg)(b:aC):dK r t k s b=.seq (sq r (.cond (Tm t) .skip (.exit k))) (.seq (.block (k+1) b) (.region s)):=(rfl)
def dP(r:Rg)(n:Nat)(y:Rg)(b:aC):aC:=.seq (sq r (.cond (Tm n) (sq y .ret) .skip)) b
@[go_sem] theorem bcT(r:Rg)(n:Nat)(y:Rg)(b:aC):dP r n y b=.seq (sq r (.cond (Tm n) (sq y .ret) .skip)) b:=(rfl)
def jB(r:Rg)(n:Nat)(a b:aC):aC:=.seq (sq r (.cond (Tm n) a .skip)) b
@[go_sem] theorem bcS(r:Rg)(n:Nat)(a b:aC):jB r n a b=.seq (sq r (.cond (Tm n) a .skip)) b:=(rfl)
def cH(r:Rg)(k:Nat)(l:aC):aC:=sq r (.block k (.loop l))
@[go_sem] theorem beG(r:Rg)(k:Nat)(l:aC):cH r k l=sq r (.block k (.loop l)):=(rfl)
end Go.PM
namespace Go.PM
open Go
open Go
def vT:=bT [] Proofs.Tryz.f96
def WV:=aA vT 0
def WW:=aA vT 1
def WX:=aA vT 2
def WY:=aA vT 3
def WU:aC:=(.seq (sq WX (.cond (Tm 15) .skip (.exit 0))) (.block 1 (.region WY)))
def BL:=aA vT 4
def vS:aC:=(sq WV (sq WW (.seq (.block 0 (.loop WU)) (sq BL .ret))))
def SI:bD:=⟨1,19,vS,[.tmp 2]⟩
def ri:=bT [] Proofs.Tryz.f133
def Rz:=aA ri 0
def R1:=aA ri 1
def PP:aC:=(sq Rz (sq R1 .ret))
def aiC:bD:=⟨1,6,PP,[.tmp 2]⟩
def yD:=bT [] Proofs.Tryz.f134
def Se:=aA yD 0
def Sf:=aA yD 1
def Sg:=aA yD 2
def Sh:=aA yD 3
def Si:=aA yD 4
def PR:aC:=(sq Se (sq Sf (dP Sg 8 Sh (sq Si .ret))))
def aiP:bD:=⟨1,13,PR,[.tmp 2,.tmp 3]⟩
def XA:=bT [9] Proofs.Tryz.f138
def aiD:=aA XA 0
def aiE:=aA XA 1
def aiF:=aA XA 2
def WZ:aC:=(sq aiD (sq aiE (sq aiF .ret)))
def aIL:bD:=⟨1,14,WZ,[.tmp 2]⟩
def Gh:=bT [] Proofs.Tryz.f137
def aiW:=aA Gh 0
def aiX:=aA Gh 1
def XB:aC:=(sq aiW (sq aiX .ret))
def aIN:bD:=⟨1,8,XB,[.tmp 2]⟩
def lK:=bT [] Proofs.Tryz.f51
def ayI:=aA lK 0
def ayJ:=aA lK 1
def ayK:=aA lK 2
def ayL:=aA lK 3
def ayM:=aA lK 4
def ayN:=aA lK 5
def ayO:=aA lK 6
def ayP:=aA lK 7
def ayQ:=cV lK 0
def ayR:=aA lK 8
def ahT:=cV lK 1
def ahU:=aA lK 9
def ahV:=aA lK 10
def ahS:aC:=(dK ayP 23 1 ahV (.block 3 (dq ayQ (.cond (Tm 26) (sq ayR .ret) (dq ahT (.cond (Tm 36) (sq ahU .ret) .skip))))))
def ahW:=aA lK 11
def gi:aC:=(sq ayI (sq ayJ (.seq (.block 0 (sq ayK (.cond (Tm 12) (sq ayL .ret) (sq ayM (.cond (Tm 16) (sq ayN .ret) .skip))))) (.seq (cH ayO 1 ahS) (sq ahW .ret)))))
def aWC:bD:=⟨2,46,gi,[.tmp 4]⟩
def iD:=bT [] Proofs.Tryz.f127
def ayC:=aA iD 0
def ayD:=aA iD 1
def Ln:=aA iD 2
def ayE:=cV iD 0
def ayF:=aA iD 3
def ayG:=aA iD 4
def Lo:=aA iD 5
def Lp:=aA iD 6
def Lr:=aA iD 7
def ayH:=aA iD 8
def ahD:=aA iD 9
def ahE:=aA iD 10
def ahF:=aA iD 11
def ahG:=aA iD 12
def xe:=aA iD 13
def xf:=aA iD 14
def xg:=aA iD 15
def xd:aC:=(fI ayH 37 0 xg (sq ahD (sq ahE (jB ahF 49 (.region ahG) (sq xe (.region xf))))))
def xh:=aA iD 16
def xi:=aA iD 17
def gh:aC:=(sq ayC (dP ayD 14 Ln (dq ayE (jB ayF 27 (.region ayG) (sq Lo (sq Lp (.seq (cH Lr 0 xd) (sq xh (sq xi .ret)))))))))
def aVZ:bD:=⟨2,75,gh,[.tmp 4,.tmp 5]⟩
def jF:=bT [] Proofs.Tryz.f128
def azK:=aA jF 0
def azL:=aA jF 1
def L6:=aA jF 2
def azM:=aA jF 3
def azN:=aA jF 4
def azO:=cV jF 0
def L7:=aA jF 5
def L8:=aA jF 6
def L9:=aA jF 7
def azP:=aA jF 8
def aiQ:=aA jF 9
def aiR:=aA jF 10
def aiS:=aA jF 11
def aiT:=aA jF 12
def xt:=aA jF 13
def xu:=aA jF 14
def xv:=aA jF 15
def xr:aC:=(fI azP 36 1 xv (sq aiQ (sq aiR (jB aiS 48 (.region aiT) (sq xt (.region xu))))))
def xw:=aA jF 16
def gt:aC:=(sq azK (.seq (.block 0 (sq azL (.cond (Tm 10) (sq L6 .ret) (sq azM (.cond (Tm 17) (sq azN .ret) .skip))))) (dq azO (sq L7 (sq L8 (.seq (cH L9 1 xr) (sq xw .ret)))))))
def aWJ:bD:=⟨2,68,gt,[.tmp 4,.tmp 5]⟩
def iH:=bT [] Proofs.Tryz.f97
def azG:=aA iH 0
def azH:=aA iH 1
def Lx:=aA iH 2
def azI:=cV iH 0
def Ly:=aA iH 3
def Lz:=aA iH 4
def azJ:=aA iH 5
def L0:=aA iH 6
def L3:=aA iH 7
def L4:=aA iH 8
def aiG:=aA iH 9
def aiH:=aA iH 10
def aiI:=aA iH 11
def aiJ:=aA iH 12
def aiK:=aA iH 13
def aiL:=aA iH 14
def xl:aC:=(fI aiG 42 2 aiL (sq aiH (sq aiI (sq aiJ (.region aiK)))))
def xn:=aA iH 15
def aiM:=aA iH 16
def xm:aC:=(fI azJ 35 0 aiM (sq L0 (sq L3 (.seq (cH L4 2 xl) (.region xn)))))
def xo:=aA iH 17
def gn:aC:=(sq azG (dP azH 17 Lx (dq azI (sq Ly (.seq (cH Lz 0 xm) (sq xo .ret))))))
def aWH:bD:=⟨2,84,gn,[.tmp 4,.tmp 5]⟩
def oL:=bT [] Proofs.Tryz.f95
def ahJ:=aA oL 0
def ahK:=aA oL 1
def ahL:=aA oL 2
def ahM:=aA oL 3
def ahN:=aA oL 4
def ahO:=aA oL 5
def ahP:=aA oL 6
def ahQ:=aA oL 7
def ahR:=aA oL 8
def ahI:aC:=(dK ahP 19 0 ahR (.region ahQ))
def Rx:=aA oL 9
def WR:aC:=(sq ahJ (sq ahK (dP ahL 9 ahM (sq ahN (.seq (cH ahO 0 ahI) (sq Rx .ret))))))
def aID:bD:=⟨1,25,WR,[.tmp 2]⟩
def tE:=bT [] Proofs.Tryz.f135
def ayZ:=aA tE 0
def azA:=aA tE 1
def Lw:=aA tE 2
def azB:=aA tE 3
def azC:=aA tE 4
def azD:=aA tE 5
def azE:=aA tE 6
def ayY:aC:=(.seq (sq azC (.cond (Tm 20) .skip (.exit 0))) (.block 1 (sq azD (.region azE))))
def azF:=aA tE 7
def gm:aC:=(sq ayZ (dP azA 13 Lw (sq azB (.seq (.block 0 (.loop ayY)) (sq azF .ret)))))
def aWF:bD:=⟨2,30,gm,[.tmp 4,.tmp 5]⟩
def vQ:=bT [] Proofs.Tryz.f136
def ayS:=aA vQ 0
def ayT:=aA vQ 1
def Lt:=aA vQ 2
def ayU:=aA vQ 3
def ayV:=aA vQ 4
def ayW:=cV vQ 0
def ayX:=aA vQ 5
def gk:aC:=(sq ayS (.seq (.block 0 (sq ayT (.cond (Tm 9) (sq Lt .ret) (sq ayU (.cond (Tm 16) (sq ayV .ret) .skip))))) (dq ayW (sq ayX .ret))))
def aWD:bD:=⟨2,34,gk,[.tmp 4,.tmp 5,.tmp 6]⟩
def mR:=bT [] Proofs.Tryz.f170
def R4:=aA mR 0
def R5:=aA mR 1
def R6:=aA mR 2
def R7:=aA mR 3
def R8:=aA mR 4
def R9:=aA mR 5
def Sa:=aA mR 6
def Sb:=aA mR 7
def Sd:=aA mR 8
def R3:aC:=(dK R8 16 0 Sd (sq R9 (sq Sa (.region Sb))))
def Gf:=aA mR 9
def PQ:aC:=(sq R4 (sq R5 (sq R6 (.seq (cH R7 0 R3) (sq Gf .ret)))))
def aiO:bD:=⟨2,45,PQ,[.tmp 4,.tmp 5]⟩
def pG:=bT [] Proofs.Tryz.f171
def aOC:=aA pG 0
def aOD:=aA pG 1
def aOE:=aA pG 2
def aOF:=aA pG 3
def aOG:=aA pG 4
def aOH:=aA pG 5
def aOI:=aA pG 6
def aOJ:=aA pG 7
def aOK:=aA pG 8
def aOL:=aA pG 9
def azQ:aC:=(fI aOG 16 0 aOL (sq aOH (sq aOI (sq aOJ (.region aOK)))))
def azR:=aA pG 10
def azS:=aA pG 11
def xx:aC:=(sq aOC (sq aOD (sq aOE (.seq (cH aOF 0 azQ) (sq azR (sq azS .ret))))))
def nup:bD:=⟨2,41,xx,[.tmp 4]⟩
def cO:=bT [] Proofs.Tryz.f160
def F0:=aA cO 0
def F6:=aA cO 1
def F7:=aA cO 2
def F8:=aA cO 3
def F9:=aA cO 4
def Ga:=aA cO 5
def Gb:=aA cO 6
def Gc:=aA cO 7
def Gd:=aA cO 8
def Fy:aC:=(.seq (sq Gc (.cond (Tm 50) .skip (.exit 0))) (.block 1 (.region Gd)))
def qr:=cV cO 0
def qt:=aA cO 9
def qu:=aA cO 10
def qv:=cV cO 1
def qw:=aA cO 11
def qx:=aA cO 12
def PC:=cV cO 2
def PD:=cV cO 3
def qy:=aA cO 13
def PE:=aA cO 14
def PG:=aA cO 15
def PI:=aA cO 16
def DY:aC:=(.seq (sq qy (.cond (Tm 129) .skip (.exit 4))) (.block 5 (sq PE (sq PG (sq PI (.cond (Tm 136) (.exit 4) .skip))))))
def PJ:=aA cO 17
def PK:=aA cO 18
def PL:=aA cO 19
def DZ:=aA cO 20
def qz:=aA cO 21
def PA:aC:=(dK qx 85 2 qz (dq PC (dq PD (.seq (.block 4 (.loop DY)) (jB PJ 146 (sq PK (.region PL)) (.region DZ))))))
def PN:=aA cO 22
def PO:=aA cO 23
def q9:=aA cO 24
def rc:=aA cO 25
def re:=cV cO 4
def rg:=aA cO 26
def PB:aC:=(fI q9 168 6 rg (sq rc (.draw re)))
def rh:=cV cO 5
def KI:aC:=(sq F0 (dP F6 24 F7 (jB F8 29 (sq F9 (sq Ga .ret)) (sq Gb (.seq (.block 0 (.loop Fy)) (dq qr (sq qt (sq qu (dq qv (.seq (cH qw 2 PA) (sq PN (.seq (cH PO 6 PB) (dq rh .ret)))))))))))))
def Lu:bD:=⟨2,198,KI,[.tmp 4,.tmp 5]⟩
def fO:=bT [] Proofs.Tryz.f172
def gw:=aA fO 0
def gx:=aA fO 1
def gy:=aA fO 2
def gz:=aA fO 3
def ia:=aA fO 4
def ib:=aA fO 5
def ic:=aA fO 6
def ie:=aA fO 7
def ig:=aA fO 8
def ii:=aA fO 9
def bn:=aA fO 10
def bj:aC:=(fI gz 16 0 bn (sq ia (sq ib (sq ic (sq ie (sq ig (.region ii)))))))
def bo:=aA fO 11
def br:=aA fO 12
def bs:=aA fO 13
def DE:aC:=(sq gw (sq gx (.seq (cH gy 0 bj) (sq bo (sq br (sq bs .ret))))))
def gv:bD:=⟨3,65,DE,[.tmp 6]⟩
def mA:=bT [] Proofs.Tryz.f173
def rk:=aA mA 0
def rp:=aA mA 1
def rt:=aA mA 2
def ru:=aA mA 3
def rx:=aA mA 4
def ry:=aA mA 5
def rz:=aA mA 6
def r8:=aA mA 7
def rj:aC:=(fI rt 10 0 r8 (sq ru (sq rx (sq ry (.region rz)))))
def r9:=aA mA 8
def FN:aC:=(sq rk (.seq (cH rp 0 rj) (.region r9)))
def xq:bD:=⟨2,41,FN,[]⟩
open Go Go.RowKit Go.ChangeShapes Go.WideShapes
inductive AT where
 |one (ct:CT)
 |struct (cts:List CT)
 deriving Inhabited
def aET(P:Program)(n:Nat)(t:TypeId):Option AT:=
 match P.underlying t with
 |some .bool=>some (.one .bool)
 |some (.int k)=>some (.one (.int k))
 |some .string=>some (.one .str)
 |some (.slice _)=>match kU P n t with
  |some [ct]=>some (.one ct)
  |_=>none
 |some (.struct _)=>(kU P n t).map .struct
 |_=>none
def RQ(P:Program)(n:Nat):List TypeId->Option (List AT)
 |[]=>some []
 |t::ts=>match aET P n t,RQ P n ts with
  |some a,some az=>some (a::az)
  |_,_=>none
inductive AT.Ty:AT->PV->Prop
 |one {ct:CT} {pv:PV} (h:PV.Ty ct pv):AT.Ty (.one ct) pv
 |struct {cts:List CT} {pvs:List PV} (hl:Z' pvs=Z' cts) (h:∀(j:Nat) pv ct,pvs[j]?=some pv->cts[j]?=some ct->PV.Ty ct pv):AT.Ty (.struct cts) (.agg pvs)
def AT.TyL:List AT->List PV->Prop
 |[],[]=>True
 |a::az,p::ps=>AT.Ty a p/\AT.TyL az ps
 |_,_=>False
section
variable {H:Type} {enc:TypeId × Value->H} {P:Program} {W:World} {sp:Nat->Bool} {held:Bool}
theorem a5Y{r:Reach}{base:Nat}(num:Nat->FuncId){t:TypeId}{v:Value}{d:DataW H}{ps:List MemPlace}{n:Nat}{a:AT}
  (i:Value.okWide P W r base t v) (y:DataW.Trod enc P W 0 sp held t v d ps) (p:aET P n t=some a):∃pv,bM (Env.of W num) pv v/\AT.Ty a pv:=by
 unfold aET at p;cases n with
 |zero=>
  split at p
  ·rename_i l;cases p;obtain⟨b,rfl⟩:=okWide_bool l i;obtain⟨pv,u,w⟩:=CP (n:=1) (ct:=.bool) num (by simp[Value.cells]) y (by simp[kU,l]);exact⟨pv,u,.one w⟩
  ·rename_i k l;cases p;obtain⟨b,rfl⟩:=okWide_int l i;obtain⟨pv,u,w⟩:=CP (n:=1) (ct:=.int k) num (by simp[Value.cells]) y (by simp[kU,l]);exact⟨pv,u,.one w⟩
  ·rename_i l;cases p;obtain⟨b,rfl⟩:=okWide_string l i;obtain⟨pv,u,w⟩:=CP (n:=1) (ct:=.str) num (by simp[Value.cells]) y (by simp[kU,l]);exact⟨pv,u,.one w⟩
  ·simp[kU]at p
  ·simp[kU]at p
  ·cases p
 |succ n=>
  split at p
  ·rename_i l;cases p;obtain⟨b,rfl⟩:=okWide_bool l i;obtain⟨pv,u,w⟩:=CP (n:=n+1) (ct:=.bool) num (by simp[Value.cells]) y (by simp[kU,l]);exact⟨pv,u,.one w⟩
  ·rename_i k l;cases p;obtain⟨b,rfl⟩:=okWide_int l i;obtain⟨pv,u,w⟩:=CP (n:=n+1) (ct:=.int k) num (by simp[Value.cells]) y (by simp[kU,l]);exact⟨pv,u,.one w⟩
  ·rename_i l;cases p;obtain⟨b,rfl⟩:=okWide_string l i;obtain⟨pv,u,w⟩:=CP (n:=n+1) (ct:=.str) num (by simp[Value.cells]) y (by simp[kU,l]);exact⟨pv,u,.one w⟩
  ·rename_i e l;split at p
   ·rename_i ct A;cases p;obtain⟨x,len,cap,rfl⟩:=okWide_slice l i;obtain⟨pv,u,w⟩:=CP num (by simp[Value.cells]) y A;exact⟨pv,u,.one w⟩
   ·cases p
  ·rename_i F l;rw[biE]at p;obtain⟨cts,A,rfl⟩:=p;obtain⟨E,u,w,B⟩:=aEU num l i y A;exact⟨_,u,.struct w B⟩
  ·cases p
theorem asY{r:Reach}{base:Nat}(num:Nat->FuncId){n:Nat}:∀{ts:List TypeId}{vs:List Value}{ds:List (DataW H)}{ps:List MemPlace}{az:List AT},DataW.TrodAll enc P W 0 sp held ts vs ds ps ->
  (∀(j:Nat) t v,ts[j]?=some t->vs[j]?=some v->Value.okWide P W r base t v)->RQ P n ts=some az->∃e,fU (Env.of W num) e vs/\AT.TyL az e
 |[],[],_,_,az,_,_,h=>by simp[RQ]at h;subst h;exact⟨[],.nil,trivial⟩
 |[],_::_,_,_,_,h,_,_=>h.elim
 |_::_,[],[],_,_,h,_,_=>h.elim
 |_::_,[],_::_,_,_,h,_,_=>h.elim
 |_::_,_::_,[],_,_,h,_,_=>h.elim
 |t::ts,v::vs,d::ds,ps,az,h,l,i=>by
  obtain⟨p,q,x,y,rfl⟩:=h;simp only[RQ]at i;split at i
  ·rename_i a u w e2;cases i;obtain⟨pv,r1,A⟩:=a5Y num (l 0 t v rfl rfl) x w;obtain⟨e,r2,B⟩:=asY num y (λj t v a b=>l (j+1) t v (by simpa using a) (by simpa using b)) e2;exact⟨pv::e,.cons r1 r2,A,B⟩
  ·cases i
theorem TrodAll.length:∀{ts:List TypeId}{vs:List Value}{ds:List (DataW H)}{ps:List MemPlace},DataW.TrodAll enc P W 0 sp held ts vs ds ps->Z' ds=Z' ts
 |[],[],[],_,_=>rfl
 |[],[],_::_,_,h=>h.elim
 |[],_::_,_,_,h=>h.elim
 |_::_,[],[],_,h=>h.elim
 |_::_,[],_::_,_,h=>h.elim
 |_::_,_::_,[],_,h=>h.elim
 |t::ts,v::vs,d::ds,ps,h=>by obtain⟨p,q,i,e,rfl⟩:=h;simp[TrodAll.length e]
end
theorem Yl{H:Type}{enc:TypeId × Value->H}{P:Program}{f:FuncId}{fn:Func}{s:ChangeSpec}{apart fresh d:Bool}{bt:TypeId}{num:Nat->FuncId}{name n:Nat}{ats:List AT}
  (S:laidOutB P=true) (J:fn.params.toList.all (λt=>P.readableRec t&&decide (t<P.types.size))=true) (E:fn.resultTypes=#[bt]) (B:P.underlying bt=some .bool) (N:s.vars=[])
  (V:∀ds:List (DataW H),Z' ds=Z' fn.params.toList->(s.fn H ds).results=[.lit (.bool true)]/\(s.fn H ds).args=ds/\(s.fn H ds).vars=[])
  (w:num name=f) (Q:RQ P n fn.params.toList=some ats) (h:∀l,AT.TyL ats l->aH ⟨P,num⟩ name l h_ (aI (.bool true)))
  {W:World} {base:Nat} {args:Array Value} {ds O:List (DataW H)} {i:List MemPlace}
  (y:∀(j:Nat) t v,fn.params[j]?=some t->args[j]?=some v->Value.okWide P W .any base t v) (hW:DataW.Whole enc P fn.params.toList s.vars apart W args.toList ds O i) :
  Calls P f args W λe K=>∃v,e=.returned v/\s.post enc P fn apart fresh d false W args v K:=by
 have x:∀t∈fn.params.toList,P.readableRec t=true/\t<P.types.size:=λt F=>by have:=biB.1 J t F;simpa using this
 have A:=hW;obtain⟨p,q,M,hV,rfl,Y,X⟩:=hW;rw[N]at hV;obtain⟨rfl,rfl⟩:=trodVars_none hV;obtain⟨l,U,F⟩:=asY num M (λj t v a b=>y j t v (by simpa using a) (by simpa using b)) Q;have u:=TrodAll.length M;subst w;obtain⟨r1,r2,r3⟩:=V (ds++[]) (by simpa using u);refine(aNF (C:=⟨P,num⟩) (h l F) U).mono λe K R=>?_;obtain⟨rfl,hb⟩:=R;exact⟨_,rfl,aPB S A hb x E B N r1 (by rw[r2];simp) r3⟩
attribute [go_sem] rO iY setCells PV.cells PV.one cJ storeAt cU loadCells eA bnd PV.slice PV.intOf PV.eqs PV.eq1 PV.un keyOf KS.of KS.ofs KS.sh blJ List.all_nil blP List.set_cons_succ biA bjY bhY bjE biB bkO
attribute [go_sem] Bool.bne_false Bool.bne_true Int.le_refl Int.lt_irrefl decide_true decide_false exists_eq_left exists_eq_left' bhO List.length_replicate bjN Int.natCast_nonneg Option.isSome_some Option.isSome_none bkC Option.getD_none dT_ decide_eq_false_iff_not biN bkA bhV Nat.sub_zero
def bJ(xs:List Int):P2_:=xs.map λn=>[.int .i64 n]
theorem bL{a b:Int}(h:a≠b):(a==b)=false:=by simp[h]
theorem bY{a b:Int}(h:a=b):(a==b)=true:=by simp[h]
theorem dX{a b:Int}(h:a≠b):(a != b)=true:=by simp[h]
theorem cN{a b:Int}(h:a=b):(a != b)=false:=by simp[h]
section
variable {H:PH}
@[go_sem] theorem PH.set_set(o:Nat)(x y:aY):(H.set o x).set o y=H.set o y:=PH.ext λq=>by
 simp only[bC];split<;>rfl
@[go_sem] theorem cZ(o:Nat)(x:aY):(H.set o x) o=some x:=by simp only[bC,if_true]
end
section
variable {C:Ctx} {K:cF} {F:PF} {H:PH}
theorem PH.qV(o:Nat)(x:aY):H.over .nil (h_.set o x)=H.set o x:=PH.ext λq=>by
 rw[lO];simp only[bC,mf];split<;>simp_all
theorem PH.BO(o:Nat)(x y:aY):H.over (h_.set o x) (h_.set o y)=H.set o y:=PH.ext λq=>by
 rw[lO];simp only[bC,mf];split<;>simp_all
theorem nE{name:Nat}{vs:List PV}{e:PH}{R:PV->PH->Prop}{args:List aP}{d:Option Nat}{K:PF->PH->Prop}(h:aH C name vs e R)(l:aP.evs F args=some vs)(i:e.le H)
  (p:∀r H',R r H'->qW H e H'->K (F.put d r) (H.over e H')):lD C name args [] d K F H:=
 .inl ⟨vs,e,R,by rw[l];simp,i,h,p⟩
theorem bE{res:List eE}{R:PV->PH->Prop}{vs:List PV}{e:oH}(y:e=.normal\/e=.ret)(d:PH)(h:eE.evs F H res=some vs)(i:d.le H)(x:R (bN vs) d):aZ res R e F H:=by
 have l:∃vs,eE.evs F H res=some vs/\∃p w H2,kN (n_.set 0 (bN vs)) H p w/\H2.le w/\∃u,p 0=some u/\R u H2:=
  ⟨vs,h,_,H,d,.refl _ _,i,bN vs,by rw[pR,aG rfl],x⟩
 rcases y with rfl|rfl<;>exact l
theorem ya{t o s k:Nat}{rs:P2_}{R:PV->PH->Prop}{e:oH}(w:e=.normal\/e=.ret)(h:F t=some (.osl o s 0 k))(x:H o=some (.rows s rs))(y:k<=Z' rs)(p:R (.sl s (rs.take k)) .nil) :
  aZ [.tmp t] R e F H:=by
 have d:∃vs,eE.evs F H [.tmp t]=some vs/\∃i l H2,kN (n_.set 0 (bN vs)) H i l/\H2.le l/\∃u,i 0=some u/\R u H2:=by refine⟨[.osl o s 0 k],by rw[pJ,sW,h,uL],_,_,.nil,.step o x (.refl _ _),a_,.sl s (rs.take k),?_,p⟩;have:0+k<=Z' rs:=Om;simp only[PF.frz,pR,if_true,bN,biP,PV.frz,PV.tO,PV.dV,true_and,aG this,bjG]
 rcases w with rfl|rfl<;>exact d
def cM(v:PV)(r:PV)(H:PH):Prop:=Co r v/\H=h_
theorem aH.a7O{name:Nat}{args:List PV}{H:PH}{v:PV}(h:aH C name args H (cM v)):aH C name args H (aI v):=
 h.post λr H' ⟨d,e⟩=>⟨v,d,rfl,e⟩
theorem aI.a7O{v r:PV}{H:PH}(h:aI v r H):cM v r H:=by
 obtain⟨rfl,rfl⟩:=h;exact⟨.refl _,rfl⟩
theorem CI{s b:Nat}{y:PV}{src:P2_}{K:PV->PH->Prop}(l:eA H s y=some src)(i:roomFor 0 src.length b)(d:src=[]->K .aK H)
  (e:src≠[]->∀o,H o=none->K (.osl o s 0 src.length) (H.set o (.rows s src))):sG H s b .aK y K:=⟨src,l,i,d,e⟩
theorem aqD{o s b len:Nat}{rs:P2_}{y:PV}{src:P2_}{K:PV->PH->Prop}(u:eA H s y=some src)(p:roomFor len src.length b)(l:H o=some (.rows s rs))(i:len<=Z' rs)
  (d:K (.osl o s 0 (len+Z' src)) (H.set o (.rows s (rs.take len++src))))
  (e:∀o',H o'=none->K (.osl o' s 0 (len+Z' src)) (H.set o' (.rows s (rs.take len++src)))):sG H s b (.osl o s 0 len) y K:=
 ⟨src,u,rfl,rfl,p,rs,l,i,d,e⟩
end
def cA(H:PH)(s:Nat)(v:PV)(rows:P2_):Prop:=
 (rows=[]/\v=.aK)\/∃q rs,v=.osl q s 0 rows.length/\H q=some (.rows s rs)/\Z' rows<=Z' rs/\rs.take rows.length=rows
def Seen(s:Nat)(v:PV)(rows:P2_):Prop:=(rows=[]/\v=.aK)\/v=.sl s rows
section
variable {C:Ctx} {K:cF} {F:PF} {H:PH} {s b:Nat} {v y:PV} {rows src:P2_}
theorem cA.nil:cA H s .aK []:=.inl ⟨rfl,rfl⟩
theorem cA.view(h:cA H s v rows):eA H s v=some rows:=by
 rcases h with⟨rfl,rfl⟩|⟨q,rs,rfl,h1,h2,h3⟩
 ·rfl
 ·have:0+Z' rows<=Z' rs:=Om;simp only[eA,if_true,h1,true_and,aG this,bjG,h3]
theorem Seen.view(h:Seen s v rows):eA H s v=some rows:=by
 rcases h with⟨rfl,rfl⟩|rfl
 ·rfl
 ·simp[eA]
theorem cA.ext{H':PH}(h:cA H s v rows)(d:∀o x,H o=some x->H' o=some x):cA H' s v rows:=by
 rcases h with h|⟨q,rs,h0,h1,h2,h3⟩
 ·exact .inl h
 ·exact .inr ⟨q,rs,h0,d q _ h1,h2,h3⟩
theorem fL{K:PV->PH->Prop}(h:cA H s v rows)(B:eA H s y=some src)(A:roomFor rows.length src.length b)
  (w:∀v' H',cA H' s v' (rows++src)->(∀o x,H o=some x->(∀l,v≠.osl o s 0 l)->H' o=some x)->K v' H'):sG H s b v y K:=by
 rcases h with⟨rfl,rfl⟩|⟨q,rs,rfl,h1,h2,h3⟩
 ·refine⟨src,B,A,λe=>?_,λe o u=>?_⟩
  ·subst e;exact w _ _ (.inl ⟨rfl,rfl⟩) λo x u _=>u
  ·refine w _ _ (.inr ⟨o,src,rfl,by simp only[bC,if_true],bhV _,by simp⟩) λo' x d _=>?_;have:o'≠o:=by rintro rfl;rw[u]at d;cases d
   simp only[bC,aE this,d]
 ·have i:(rows++src).length=Z' rows+Z' src:=bhW;refine⟨src,B,rfl,rfl,A,rs,h1,h2,?_,λo u=>?_⟩
  ·rw[h3];refine w _ _ (.inr ⟨q,rows++src,by rw[i],by simp only[bC,if_true],bhV _,biS⟩) λo' x d p=>?_;have:o'≠q:=by rintro rfl;exact p _ rfl
   simp only[bC,aE this,d]
  ·rw[h3];refine w _ _ (.inr ⟨o,rows++src,by rw[i],by simp only[bC,if_true],bhV _,biS⟩) λo' x d p=>?_;have E:o'≠o:=by rintro rfl;rw[u]at d;cases d
   simp only[bC,aE E,d]
def Pure(u:PV):Prop:=∀q s rs,PV.frz q s rs u=u
theorem cA.frz(h:cA H s v rows):∃e,Seen s e rows/\∀F:PF,∃d l,kN F H d l/\(∀t,F t=some v->d t=some e)/\∀i u,F i=some u->Pure u->d i=some u:=by
 rcases h with⟨rfl,rfl⟩|⟨q,rs,rfl,h1,h2,h3⟩
 ·exact⟨.aK,.inl ⟨rfl,rfl⟩,λF=>⟨F,H,.refl _ _,λt h=>h,λi u h _=>h⟩⟩
 ·refine⟨.sl s rows,.inr rfl,λF=>⟨_,_,.step q h1 (.refl _ _),λt p=>?_,λi u hi hp=>?_⟩⟩
  ·have:0+Z' rows<=Z' rs:=Om;simp only[PF.frz,p,biP,PV.frz,PV.tO,PV.dV,if_true,true_and,aG this,bjG,h3]
  ·simp only[PF.frz,hi,biP];rw[hp]
theorem tV{t:Nat}{e:oH}(d:e=.normal\/e=.ret)(h:cA H s v rows)(i:F t=some v):aZ [.tmp t] (cM (.sl s rows)) e F H:=by
 rcases h with⟨rfl,rfl⟩|⟨q,rs,rfl,h1,h2,h3⟩
 ·exact bE (vs:=[.aK]) d .nil (by rw[pJ,sW,i,uL]) a_ ⟨.nil s,rfl⟩
 ·exact ya d i h1 h2 ⟨by rw[h3];exact .refl _,rfl⟩
end
end Go.PM
namespace Go.PM
open Go
section
variable {C:Ctx} {F:PF} {H:PH}
@[go_sem] theorem xX(o s:Nat)(rs:P2_)(i:Nat):(F.frz o s rs) i=(F i).map (PV.frz o s rs):=(rfl)
theorem xK{name t o s k:Nat}{rs:P2_}{v:PV}{d:Option Nat}{K:PF->PH->Prop}(h:aH C name [.sl s (rs.take k)] .nil (aI v))(l:F t=some (.osl o s 0 k))(i:H o=some (.rows s rs))(p:k<=Z' rs)
  (e:K ((F.frz o s rs).put d v) (H.frz o s rs)):lD C name [.tmp t] [] d K F H:=by
 refine .inr ⟨_,_,.step o i (.refl _ _),[.sl s (rs.take k)],.nil,aI v,?_,a_,h,?_⟩
 ·have:0+k<=Z' rs:=Om;simp only[JO,l6,Df,xX,l,biP,PV.frz,PV.tO,PV.dV,if_true,true_and,aG this,bjG,bjI]
 ·rintro r H' ⟨rfl,rfl⟩ -;rw[PH.KL];exact e
end
end Go.PM
namespace Go.Na
def val:List Nat->Nat
 |[]=>0
 |x::xs=>x+4294967296*val xs
def Lim(xs:List Nat):Prop:=∀x∈xs,x<4294967296
def aL(n:Nat):List Nat:=if h:n=0 then[]else(n%4294967296)::aL (n/4294967296)
termination_by n
decreasing_by exact Nat.div_lt_self (bkN h) aS
def nl(n:Nat):Nat:=(aL n).length
theorem fG:aL 0=[]:=by rw[aL];simp
theorem zR{n:Nat}(h:n≠0):aL n=(n%4294967296)::aL (n/4294967296):=by rw[aL];simp[h]
theorem uI{n:Nat}(h:n≠0)(hb:n<4294967296):aL n=[n]:=by
 rw[zR h,bjM hb,blR hb,fG]
theorem aV(n:Nat):val (aL n)=n:=by
 induction n using Nat.strongRecOn with
 |_ n d=>
  by_cases h:n=0
  ·subst h;rw[fG];rfl
  ·rw[zR h,val,d _ (Nat.div_lt_self (bkN h) aS)];exact Nat.mod_add_div n 4294967296
theorem aX(n:Nat):Lim (aL n):=by
 induction n using Nat.strongRecOn with
 |_ n d=>
  by_cases h:n=0
  ·subst h;rw[fG];intro x hx;cases hx
  ·rw[zR h];intro x hx;rw[biG]at hx;rcases hx with rfl|hx
   ·exact bjR _ aS
   ·exact d _ (Nat.div_lt_self (bkN h) aS) x hx
theorem IN:nl 0=0:=by rw[nl,fG];rfl
theorem aNW{n:Nat}(h:n≠0):nl n=nl (n/4294967296)+1:=by rw[nl,zR h];rfl
theorem mO(n k:Nat):nl n<=k↔n<4294967296^k:=by
 induction k generalizing n with
 |zero=>
  by_cases h:n=0
  ·subst h;simp[IN]
  ·rw[aNW h];simp;omega
 |succ k d=>
  by_cases h:n=0
  ·subst h;simp[IN,bkW]
  ·rw[aNW h,Nat.succ_le_succ_iff,d,bjU,blD aS]
theorem lZ{n:Nat}:nl n=0↔n=0:=by
 have:=mO n 0;simp at this;exact this
theorem kL(xs ys:List Nat):val (xs++ys)=val xs+4294967296^xs.length*val ys:=by
 induction xs with
 |nil=>simp[val]
 |cons x xs d =>simp only[List.cons_append,val,bjL,d,bjU];rw[biH,bkL,<-biT,biW 4294967296 (4294967296^xs.length)]
theorem iU{xs:List Nat}(h:Lim xs):val xs<4294967296^xs.length:=by
 induction xs with
 |nil=>simp[val]
 |cons x xs i =>have l:=h x bH;have d:=i λy e=>h y (by simp[e]);simp only[val,bjL,bjU];have:4294967296*(val xs+1)<=4294967296*4294967296^xs.length:=bkH _ d;rw[biH,blB]at this;rw[biW (4294967296^xs.length)];omega
theorem Lim.app{xs ys:List Nat}(h:Lim xs)(k:Lim ys):Lim (xs++ys):=λx d=>by
 rw[bjB]at d;exact d.elim (h x) (k x)
theorem Lim.take{xs:List Nat}(h:Lim xs)(n:Nat):Lim (xs.take n):=λx d=>h x (bmB d)
theorem Lim.drop{xs:List Nat}(h:Lim xs)(n:Nat):Lim (xs.drop n):=λx d=>h x (List.mem_of_mem_drop d)
theorem Lim.set{xs:List Nat}(h:Lim xs)(i:Nat){v:Nat}(d:v<4294967296):Lim (xs.set i v):=λx e=>by
 rcases blZ e with h1|h1
 ·exact h x h1
 ·subst h1;exact d
theorem EV(n:Nat):Lim (bhU n 0):=λx d=>by
 rw[List.mem_replicate]at d;rw[d.2];decide
theorem AG(n:Nat):val (bhU n 0)=0:=by
 induction n with
 |zero=>rfl
 |succ n d=>simp[List.replicate_succ,val,d]
theorem aNJ{xs:List Nat}(h:Lim xs)(u:∀x,xs.getLast?=some x->x≠0):aL (val xs)=xs:=by
 induction xs with
 |nil=>simp[val,fG]
 |cons x xs F=>
  have l:=h x bH;have p:Lim xs:=λy B=>h y (by simp[B]);cases xs with
  |nil =>have:=u x bH;simp only[val,Nat.mul_zero,bkA];exact uI this l
  |cons y ys=>
   have d:=F p λz E=>u z (by rw[List.getLast?_cons_cons];exact E);have A:val (y::ys)≠0:=λe=>by rw[e,fG]at d;cases d
   have i:x+4294967296*val (y::ys)≠0:=by have:0<4294967296*val (y::ys):=Nat.mul_pos aS (bkN A);omega
   show aL (x+4294967296*val (y::ys))=_;rw[zR i];have w:(x+4294967296*val (y::ys))%4294967296=x:=by rw[Nat.add_mul_mod_self_left,bjM l]
   have e2:(x+4294967296*val (y::ys))/4294967296=val (y::ys):=by rw[Nat.add_mul_div_left _ _ aS,blR l,biN]
   rw[w,e2,d]
theorem aoZ{xs:List Nat}{n:Nat}(h:∀j x,n<=j->xs[j]?=some x->x=0):val (xs.take n)=val xs:=by
 have e:xs.drop n=bhU (xs.drop n).length 0:=by apply bkS bH;intro i d l;rw[List.getElem_replicate,List.getElem_drop];exact h (n+i) _ Om (biD _)
 conv=>rhs;rw[<-bkQ n xs,kL,e,AG]
 simp
theorem YL{xs:List Nat}(p:Lim xs){n:Nat}(l:n<=Z' xs)(h:∀j x,n<=j->xs[j]?=some x->x=0)(i:∀x,0<n->xs[n-1]?=some x->x≠0):xs.take n=aL (val xs):=by
 rw[<-aoZ h,aNJ (p.take n)];intro x d;rw[List.getLast?_eq_getElem?,biI,bkG l]at d;rcases bkM n with e|e
 ·subst e;simp at d
 ·rw[List.getElem?_take_of_lt Om]at d;exact i x e d
theorem aAW{xs:List Nat}(i:Lim xs){n:Nat}(e:n<=Z' xs)(h:∀j x,n<=j->xs[j]?=some x->x=0)(d:∀x,0<n->xs[n-1]?=some x->x≠0):nl (val xs)=n:=by
 rw[nl,<-YL i e h d,biI];omega
theorem jR{xs:List Nat}(h:Lim xs):nl (val xs)<=Z' xs:=(mO _ _).2 (iU h)
theorem pM {xs : List Nat} (h : Lim xs) : xs.take (nl (val xs)) = aL (val xs) := by
  have hl := jR h;have e : val (xs.take (nl (val xs)) ++ xs.drop (nl (val xs))) = val xs := by rw [bkQ]
  rw [kL, biI, bkG hl] at e;have h1 := iU (h.take (nl (val xs)));rw [biI, bkG hl] at h1;have h2 := (mO (val xs) (nl (val xs))).1 (bhV _);have hd : val (xs.drop (nl (val xs))) = 0 := by
    rcases bkM (val (xs.drop (nl (val xs)))) with h | h
    · exact h
    · have := bkH (4294967296 ^ nl (val xs)) h
      omega
  have hz : ∀ j x, nl (val xs) <= j -> xs[j]? = some x -> x = 0 := by
    have zero : ∀ ys : List Nat, val ys = 0 -> ∀ y ∈ ys, y = 0 := by
      intro ys
      induction ys with
      | nil => intro _ y hy; cases hy
      | cons z zs ih =>
        intro hv y hy;simp only [val] at hv;rw [biG] at hy;rcases hy with rfl | hy
        · omega
        · exact ih (by have : 4294967296 * val zs = 0 := Om
                       rcases Nat.mul_eq_zero.1 this with h | h
                       · cases h
                       · exact h) y hy
    intro j x hj hx;refine zero _ hd x ?_;rw [List.mem_iff_getElem?];exact ⟨j - nl (val xs), by rw [blW, Nat.add_sub_cancel' hj]; exact hx⟩
  refine YL h hl hz fun x hpos hx e => ?_;subst e;have hz2 : ∀ j x, nl (val xs) - 1 <= j -> xs[j]? = some x -> x = 0 := fun j y hj hy => by
    rcases biR j (nl (val xs)) with h3 | h3
    · have : j = nl (val xs) - 1 := Om
      subst this; rw [hx] at hy; cases hy; rfl
    · exact hz j y h3 hy
  have h3 := aoZ hz2;have h4 := iU (h.take (nl (val xs) - 1));rw [h3, biI, bkG Om] at h4;have := (mO (val xs) (nl (val xs) - 1)).2 h4;omega
theorem amS{xs:List Nat}(h:Lim xs){n:Nat}(p:nl (val xs)=n+1):∃x,xs[n]?=some x/\x≠0:=by
 have u:=jR h;refine⟨xs[n]'Om,biD _,λe=>?_⟩;have l:=pM h;have d:=aV (val xs);rw[<-l,p,bjF Om,e,kL]at d;simp only[val,Nat.mul_zero,bkA]at d;have i:=iU (h.take n);rw[d,biI,bkG Om]at i;have:=(mO (val xs) n).2 i;omega
theorem AC(xs:List Nat){k:Nat}(h:k<Z' xs):val xs=val (xs.take k)+4294967296^k*(xs[k]+4294967296*val (xs.drop (k+1))):=by
 conv=>lhs;rw[<-bkQ k xs,kL,biI,bkG Om,bjS h]
 rfl
theorem Bf{xs ys:List Nat}(u:Lim xs){k:Nat}(d:k<Z' xs)(e:k<Z' ys)(p:xs.drop (k+1)=ys.drop (k+1))(h:xs[k]<ys[k]):val xs<val ys:=by
 rw[AC xs d,AC ys e,p];have i:=iU (u.take k);rw[biI,bkG Om]at i;have l:4294967296^k*(xs[k]+4294967296*val (ys.drop (k+1))+1)<=4294967296^k*(ys[k]+4294967296*val (ys.drop (k+1))):=bkH _ Om;rw[biH _ _ 1,blB]at l;omega
def eI(a b:Nat):Int:=if a<b then -1 else if b<a then 1 else 0
theorem Pt{xs ys:List Nat}{k:Nat}(d:k<Z' xs)(e:k<Z' ys)(i:xs.drop (k+1)=ys.drop (k+1))(h:xs[k]=ys[k]):xs.drop k=ys.drop k:=by
 rw[bjS d,bjS e,i,h]
theorem jL{a b:Nat}(h:a<=b):nl a<=nl b:=(mO a _).2 (Nat.lt_of_le_of_lt h ((mO b _).1 (bhV _)))
theorem X8{xs:List Nat}(h:Lim xs){j:Nat}(d:j<nl (val xs)):∃(i:j<Z' xs)(l:j<(aL (val xs)).length),xs[j]=(aL (val xs))[j]:=by
 have p:=jR h;refine⟨by omega,d,?_⟩;have e:=pM h;have:(xs.take (nl (val xs)))[j]?=(aL (val xs))[j]?:=by rw[e]
 rw[List.getElem?_take_of_lt d,biD Om,biD d]at this;exact bjV.inj this
def cX(n:Nat):Nat:=if h:n=0 then 0 else cX (n/2)+1
termination_by n
decreasing_by exact Nat.div_lt_self (bkN h) aS
theorem nK:cX 0=0:=by rw[cX];simp
theorem vH{n:Nat}(h:n≠0):cX n=cX (n/2)+1:=by rw[cX];simp[h]
theorem rF(n k:Nat):cX n<=k↔n<2^k:=by
 induction k generalizing n with
 |zero=>
  by_cases h:n=0
  ·subst h;simp[nK]
  ·rw[vH h];simp;omega
 |succ k d=>
  by_cases h:n=0
  ·subst h;simp[nK,bkW]
  ·rw[vH h,Nat.succ_le_succ_iff,d,bjU,blD aS]
theorem oP{n:Nat}:cX n=0↔n=0:=by
 have:=rF n 0;simp at this;exact this
theorem Ya{hi lo k:Nat}(l:lo<2^k)(e:hi≠0):cX (lo+2^k*hi)=k+cX hi:=by
 apply Nat.le_antisymm
 ·rw[rF,Nat.pow_add];have d:=(rF hi _).1 (bhV _);have:2^k*(hi+1)<=2^k*2^cX hi:=bkH _ d;rw[biH,blB]at this;omega
 ·obtain⟨b,hb⟩:∃b,cX hi=b+1:=⟨cX hi-1,by have:=mt oP.1 e;omega⟩;rw[hb];rcases biR (cX (lo+2^k*hi)) (k+(b+1))with h|h
  ·have d:=(rF (lo+2^k*hi) (k+b)).1 Om;rw[Nat.pow_add]at d;have i:¬hi<2^b:=λh=>by have:=(rF hi b).2 h;omega
   have:2^k*2^b<=2^k*hi:=bkH _ Om;omega
  ·exact h
theorem jT(n k:Nat):cX n<=32*k↔nl n<=k:=by
 rw[rF,mO,Nat.pow_mul]
end Go.Na
namespace Go.PM
theorem Lq{F d:PF}(h:F.le d:=by(repeat' (first|exact c_|refine d_ ?_ ?_))<;>first|(simp only[go_sem]<;>rfl)|rfl|assumption):F.le d:=h
end Go.PM
namespace Go.PM
open Go Go.Na
abbrev aO(xs:List Nat):P2_:=xs.map λ(n:Nat)=>[PV.int .u32 (n:Int)]
abbrev aN(xs:List Nat):PV:=.sl 1 (xs.map λ(n:Nat)=>[PV.int .u32 (n:Int)])
theorem cR(xs:List Nat):(aO xs).length=Z' xs:=by simp
theorem cI(xs:List Nat){i:Nat}(h:i<Z' xs):(aO xs)[i]?=some [.int .u32 (xs[i]:Nat)]:=by simp[h]
theorem Rw(xs:List Nat)(k:Nat):aN (xs.take k)=.sl 1 ((xs.map λ(n:Nat)=>[PV.int .u32 (n:Int)]).take k):=by rw[aN,bkY]
theorem dH(n:Nat):IntKind.u32.wrap (n:Int)=((n%4294967296:Nat):Int):=by
 have e:IntKind.u32.wrap (n:Int)=(n:Int)%4294967296:=by simp[IntKind.wrap,IntKind.bits,IntKind.signed]
 rw[e];rfl
theorem FG{k:Nat}(h:k<=9223372036854775807)(d:0<k):i_.wrap ((k:Int)-1)=((k-1:Nat):Int):=by
 rw[wrap_i64 Om Om];omega
def aII(xs:List Nat)(n:Nat):PF:=((n_.set 0 (aN xs)).set 3 (.int .i64 n))
variable{C:Ctx}
theorem aIK(xs:List Nat)(w:Lim xs)(A:Z' xs<=35184372087808):vS.wp C (aZ SI.res (aI (.int .i64 (nl (val xs):Nat)))) (g_ [aN xs]) .nil:=by
 simp only[go_sem,vS,WV,WW,SI];refine wp_loop (α:=Nat) (aII xs) (λ_=>.nil) (λn=>n<=Z' xs/\∀j x,n<=j->xs[j]?=some x->x=0) (λn=>n) xs.length ⟨bhV _,λj x h e=>by rw[bjJ h]at e;cases e⟩ ?_ a_ ?_
 ·unfold aII;exact Lq
 rintro n ⟨u,p⟩;have out:(∀x,0<n->xs[n-1]?=some x->x≠0)->nl (val xs)=n:=λh=>aAW w u p h;simp only[go_sem,WU,WX,aII];by_cases l:(n:Int)>0
 ·have hp:0<n:=Om;have hi:=cI xs (Om:n-1<Z' xs);simp only[go_sem,l,FG (Om:n<=9223372036854775807) hp,hi];by_cases i:xs[n-1]=0
  ·simp only[go_sem,bY (Om:((xs[n-1]:Nat):Int)=0),WY,FG (Om:n<=9223372036854775807) hp];refine aJ (n-1) ⟨by omega,λj x y d=>?_⟩ Om ?_ a_
   ·rcases biR j n with h|h
    ·have:j=n-1:=Om;subst this;rw[biD Om]at d;cases d;exact i
    ·exact p j x h d
   ·exact Lq
  ·simp only[go_sem,bL (Om:((xs[n-1]:Nat):Int)≠0),BL];refine aT (.inr rfl) rfl ?_;rw[out λx _ d=>by rw[biD Om]at d;cases d;exact i];rfl
 ·simp only[go_sem,l,BL];refine aT (.inr rfl) rfl ?_;rw[out λx h=>by omega];rfl
theorem aNX(xs:List Nat)(d:aH C 138 [aN xs] .nil (aI (.int .i64 (nl (val xs):Nat)))):PP.wp C (aZ aiC.res (aI (.bool (decide (nl (val xs)>512))))) (g_ [aN xs]) .nil:=by
 simp only[go_sem,PP,Rz,R1,aiC];refine aB d rfl ?_;simp only[go_sem];refine aT (.inr rfl) rfl ?_;simp only[bN,PV.bool.injEq,decide_eq_decide];omega
def szL(n:Nat):List Nat:=if nl n>512 then[]else aL n
def szE(n:Nat):Int:=if nl n>512 then 2 else 0
def szV(n:Nat):PV:=.tup [aN (szL n),.int .i64 (szE n)]
theorem aOA(xs:List Nat)(l:Lim xs)(d:aH C 138 [aN xs] .nil (aI (.int .i64 (nl (val xs):Nat)))):PR.wp C (aZ aiP.res (cM (szV (val xs)))) (g_ [aN xs]) .nil:=by
 simp only[go_sem,PR,Se,Sf,aiP];refine aB d rfl ?_;simp only[go_sem,Sg];by_cases h:nl (val xs)>512
 ·have i:((nl (val xs):Nat):Int)>512:=Om;simp only[go_sem,i,Sh];refine bE (vs:=[.aK,.int .i64 2]) (.inr rfl) .nil rfl a_ ⟨?_,rfl⟩;rw[szV,szL,szE,aG h,aG h];refine .tup rfl λj p q hp e=>?_
  match j with
  |0=>simp at hp e;subst hp;subst e;exact .nil 1
  |1=>simp at hp e;subst hp;subst e;exact .refl _
  |j+2=>simp at hp
 ·have i:¬((nl (val xs):Nat):Int)>512:=Om;have w:=jR l;have u:((nl (val xs):Nat):Int)<=(Z' xs:Nat):=Om;simp only[go_sem,i,Si,u,or_true,bjG];refine bE (.inr rfl) .nil rfl a_ ⟨?_,rfl⟩;rw[szV,szL,szE,aE h,aE h,<-pM l,Rw];exact .refl _
theorem aWG(v:Nat)(F:v<18446744073709551616)(e:∀xs,Lim xs->Z' xs<=35184372087808->aH C 138 [aN xs] .nil (aI (.int .i64 (nl (val xs):Nat)))) :
  WZ.wp C (aZ aIL.res (aI (aN (aL v)))) (g_ [.int .u64 v]) .nil:=by
 have y:IntKind.u32.wrap ((v:Nat):Int)=((v%4294967296:Nat):Int):=dH v;have e2:Int.fdiv ((v:Nat):Int) 4294967296=((v/4294967296:Nat):Int):=by rw[Int.fdiv_eq_ediv_of_nonneg _ aS];rfl
 have p:v/4294967296<4294967296:=Om;have A:IntKind.u32.wrap ((v/4294967296:Nat):Int)=((v/4294967296:Nat):Int):=by rw[dH,bjM p]
 have i:Lim [v%4294967296,v/4294967296]:=by
  intro x w;simp only[biG,List.mem_nil_iff,or_false]at w;rcases w with rfl|rfl
  ·exact bjR _ aS
  ·exact p
 have d:val [v%4294967296,v/4294967296]=v:=by simp only[val,Nat.mul_zero,bkA];exact Nat.mod_add_div v 4294967296
 have E:∀a b:Int,PV.bin .shr (.int .u64 a) (.int .u64 b)=shift .shr .u64 a b:=λ_ _=>rfl;have l:shift .shr .u64 (v:Int) 32=some (.int .u64 ((v/4294967296:Nat):Int)):=by
  unfold shift;rw[aE aS];simp only;have:min (bjA 32) IntKind.u64.bits=32:=by decide
  rw[this];rw[show(2:Int)^32=4294967296 by decide,e2]
 simp only[go_sem,WZ,aiD,aiE,aIL,y,l,A];have hb:(2:Nat)*1<=16777216:=by decide
 simp only[go_sem,aiF];refine aB (e [v%4294967296,v/4294967296] i bH) rfl ?_;have u:=jR i;rw[d]at u ⊢;have B:((nl v:Nat):Int)<=((2:Nat):Int):=by simp at u;omega
 simp only[go_sem,B,or_true,bjG];refine aT (.inr rfl) rfl ?_;have:=pM i;rw[d]at this;rw[<-this,Rw];rfl
theorem aWK(xs:List Nat)(e:Lim xs)(p:Z' xs<=35184372087808)(d:aH C 138 [aN xs] .nil (aI (.int .i64 (nl (val xs):Nat)))) :
  XB.wp C (aZ aIN.res (cM (aN (aL (val xs))))) (g_ [aN xs]) .nil:=by
 simp only[go_sem,XB,aiW,aiX,aIN];refine aB d rfl ?_;have u:=jR e;have i:((nl (val xs):Nat):Int)<=(Z' xs:Nat):=Om;simp only[go_sem,i,or_true,bjG];refine fL (rows:=[]) (src:=aO (aL (val xs))) .nil ?_ ?_ λv H' l _=>?_
 ·simp only[go_sem];rw[<-pM e,<-bkY]
 ·unfold roomFor;rw[cR];have:(aL (val xs)).length=nl (val xs):=rfl;simp only[bkK,maxLen];omega
 ·exact tV (.inr rfl) (by simpa using l) rfl
end Go.PM
theorem Sq{p:Prop}(h:p:=by simp only[go_sem]):p:=h
theorem Ev{p:Prop}(h:p:=by simp only[go_sem]<;>rfl):p:=h
namespace Go.PM
open Go Go.Na
def aIE(xs ys:List Nat)(i:Int):PF:=(((n_.set 0 (aN xs)).set 1 (aN ys)).set 7 (.int .i64 i))
variable{C:Ctx}
theorem a3G(xs ys:List Nat)(H:Lim xs)(J:Lim ys)(lx:Z' xs<=35184372087808)(ly:Z' ys<=35184372087808)(w:aH C 138 [aN xs] .nil (aI (.int .i64 (nl (val xs):Nat))))(x:aH C 138 [aN ys] .nil (aI (.int .i64 (nl (val ys):Nat)))) :
  gi.wp C (aZ aWC.res (aI (.int .i64 (eI (val xs) (val ys))))) (g_ [aN xs,aN ys]) .nil:=by
 simp only[go_sem,gi,ayI,ayJ,aWC];refine aB w Ev ?_;simp only[go_sem];refine aB x Ev ?_;simp only[go_sem,ayK];have V:=jR H;have Q:=jR J;by_cases W:nl (val xs)<nl (val ys)
 ·have d:((nl (val xs):Nat):Int)<(nl (val ys):Nat):=Om;simp only[go_sem,d,ayL];refine aT (.inr rfl) Ev ?_;have:val xs<val ys:=by
   rcases biR (val xs) (val ys)with h|h
   ·exact h
   ·have:=jL h;omega
  simp[bN,eI,this]
 have d:¬((nl (val xs):Nat):Int)<(nl (val ys):Nat):=Om;simp only[go_sem,d,ayM];by_cases X:nl (val xs)>nl (val ys)
 ·have e:((nl (val xs):Nat):Int)>(nl (val ys):Nat):=Om;simp only[go_sem,e,ayN];refine aT (.inr rfl) Ev ?_;have:val ys<val xs:=by
   rcases biR (val ys) (val xs)with h|h
   ·exact h
   ·have:=jL h;omega
  have p:¬val xs<val ys:=Om;simp[bN,eI,this,p]
 have e:¬((nl (val xs):Nat):Int)>(nl (val ys):Nat):=Om;have U:nl (val xs)=nl (val ys):=Om;simp only[go_sem,e,ayO];have ex:=aV (val xs);have l:=aV (val ys);have N:=aX (val xs);have O:=aX (val ys);refine wp_loop (α:=Nat) (λk=>aIE xs ys ((k:Int)-1)) (λ_=>.nil) (λk=>k<=nl (val xs)/\(aL (val xs)).drop k=(aL (val ys)).drop k) (λk=>k) (nl (val xs)) ⟨bhV _,?_⟩ ?_ a_ ?_
 ·rw[blV (by rw[nl];exact bhV _),blV (by rw[U,nl];exact bhV _)]
 ·unfold aIE
  (repeat' (first|exact c_|refine d_ ?_ ?_))<;>first|(simp only[go_sem,wrap_i64 (show -9223372036854775808<=((nl (val xs):Nat):Int)-1 by omega) (show((nl (val xs):Nat):Int)-1<=9223372036854775807 by omega)]<;>rfl)|rfl
 rintro k ⟨Z,i⟩;simp only[go_sem,ahS,ayP,aIE];by_cases Y:0<k
 ·obtain⟨m,rfl⟩:∃m,k=m+1:=⟨k-1,by omega⟩;have y:((m+1:Nat):Int)-1=(m:Int):=Om;have u:(m:Int)>=0:=Om;obtain⟨K,A,B⟩:=X8 H (Om:m<nl (val xs));obtain⟨M,E,F⟩:=X8 J (Om:m<nl (val ys));simp only[go_sem,y,u];refine bV .nil eW a_ ?_;simp only[go_sem,ayQ,cI xs K,cI ys M];by_cases R:xs[m]<ys[m]
  ·simp only[go_sem,show((xs[m]:Nat):Int)<(ys[m]:Nat) by omega,ayR];refine aT (.inr rfl) Ev ?_;have:=Bf N A E i (by rw[<-B,<-F];exact R);rw[ex,l]at this;simp[bN,eI,this]
  ·simp only[go_sem,show ¬((xs[m]:Nat):Int)<(ys[m]:Nat) by omega];refine bV .nil eW a_ ?_;simp only[go_sem,ahT,cI xs K,cI ys M];by_cases S:xs[m]>ys[m]
   ·simp only[go_sem,show((xs[m]:Nat):Int)>(ys[m]:Nat) by omega,ahU];refine aT (.inr rfl) Ev ?_;have:=Bf O E A i.symm (by rw[<-B,<-F];exact S);rw[ex,l]at this;have p:¬val xs<val ys:=Om;simp[bN,eI,this,p]
   ·simp only[go_sem,show ¬((xs[m]:Nat):Int)>(ys[m]:Nat) by omega,ahV];refine aJ m ⟨by omega,Pt A E i (by rw[<-B,<-F];omega)⟩ Om ?_ a_
    (repeat' (first|exact c_|refine d_ ?_ ?_))<;>first|(simp only[go_sem,wrap_i64 (Om:-9223372036854775808<=(m:Int)-1) (Om:(m:Int)-1<=9223372036854775807)]<;>rfl)|rfl
 ·have:k=0:=Om;subst this;have y:¬((0:Nat):Int)-1>=0:=by decide
  simp only[go_sem,y,ahW];refine aT (.inr rfl) Ev ?_;rw[bjG,bjG]at i;have:val xs=val ys:=by rw[<-ex,<-l,i]
  simp[bN,eI,this]
def ahH(k:Nat)(v:Nat):PF:=((n_.set 4 (.int .i64 k)).set 5 (.int .u32 v))
theorem aWB(xs:List Nat)(x:Lim xs)(S:Z' xs<=35184372087808)(y:aH C 138 [aN xs] .nil (aI (.int .i64 (nl (val xs):Nat)))) :
  WR.wp C (aZ aID.res (aI (.int .i64 (cX (val xs):Nat)))) (g_ [aN xs]) .nil:=by
 simp only[go_sem,WR,ahJ,ahK,aID];refine aB y Ev ?_;simp only[go_sem,ahL];have R:=jR x;by_cases M:nl (val xs)=0
 ·simp only[go_sem,bY (show((nl (val xs):Nat):Int)=0 by omega),ahM];refine aT (.inr rfl) Ev ?_;have:val xs=0:=lZ.1 M;simp[bN,this,nK]
 obtain⟨n,K⟩:∃n,nl (val xs)=n+1:=⟨nl (val xs)-1,by omega⟩;obtain⟨t,u,A⟩:=amS x K;have w:t<4294967296:=x t (bjQ u);have d:n<Z' xs:=Om;have Q:val xs=val (xs.take n)+4294967296^n*t:=by
  have e:=pM x;have:=aV (val xs);have O:xs[n]=t:=by rw[biD d]at u;exact bjV.inj u
  rw[<-e,K,bjF d,O,kL,biI,bkG Om]at this;simp only[val,Nat.mul_zero,bkA]at this;exact this.symm
 have hb:cX (val xs)=32*n+cX t:=by
  have F:=iU (x.take n);rw[biI,bkG Om]at F;rw[Q,show(4294967296:Nat)^n=2^(32*n) by rw[Nat.pow_mul]]at *
  exact Ya F A
 have i:(aO xs)[n]?=some [.int .u32 (t:Nat)]:=by rw[cI xs d];rw[biD d]at u;rw[bjV.inj u]
 have N:i_.wrap (((nl (val xs):Nat):Int)-1)=(n:Int):=by rw[wrap_i64 Om Om];omega
 have e2:i_.wrap ((n:Int)*32)=((32*n:Nat):Int):=by rw[wrap_i64 Om Om];omega
 simp only[go_sem,bL (show((nl (val xs):Nat):Int)≠0 by omega),ahN,ahO,N,e2,i];refine wp_loop (α:=Nat × Nat) (λa=>ahH a.1 a.2) (λ_=>.nil) (λa=>a.1+cX a.2=32*n+cX t/\a.2<4294967296) (λa=>a.2) (32*n,t) ⟨rfl,w⟩ ?_ a_ ?_
 ·unfold ahH;exact Lq
 rintro⟨k,v⟩ ⟨H,hlt⟩;simp only at H hlt;have J:cX t<=32:=(rF t 32).2 w;simp only[go_sem,ahI,ahP,ahH];by_cases E:(v:Int)>0
 ·have B:v≠0:=Om;have l:PV.bin .shr (.int .u32 (v:Int)) (.int .u64 1)=some (.int .u32 ((v/2:Nat):Int)):=by
   show shift .shr .u32 (v:Int) 1=_;unfold shift;rw[aE aS];simp only;have:min (bjA 1) IntKind.u32.bits=1:=by decide
   rw[this,show(2:Int)^1=2 by decide,Int.fdiv_eq_ediv_of_nonneg _ aS];rfl
  have p:shift .shr .u32 (v:Int) 1=some (.int .u32 ((v/2:Nat):Int)):=l;simp only[go_sem,E,ahQ,ahR,l,p,wZz k];refine aJ (k+1,v/2) ⟨?_,?_⟩ (Nat.div_lt_self Om aS) ?_ a_
  ·have:=vH B;simp only;omega
  ·simp only;omega
  ·exact Lq
 ·have:v=0:=Om;subst this;simp only[go_sem,E,Rx];refine aT (.inr rfl) Ev ?_;rw[nK]at H;simp only[bN,PV.int.injEq,true_and];omega
structure yL(C:Ctx):Prop where
 length:∀xs,Lim xs->Z' xs<=35184372087808->aH C 138 [aN xs] .nil (aI (.int .i64 (nl (val xs):Nat)))
 large:∀xs,Lim xs->Z' xs<=35184372087808->aH C 137 [aN xs] .nil (aI (.bool (decide (nl (val xs)>512))))
 sized:∀xs,Lim xs->Z' xs<=35184372087808->aH C 141 [aN xs] .nil (aI (szV (val xs)))
 trim:∀xs,Lim xs->Z' xs<=35184372087808->aH C 135 [aN xs] .nil (aI (aN (aL (val xs))))
 make:∀v:Nat,v<18446744073709551616->aH C 132 [.int .u64 v] .nil (aI (aN (aL v)))
 cmp:∀xs ys,Lim xs->Lim ys->Z' xs<=35184372087808->Z' ys<=35184372087808->aH C 129 [aN xs,aN ys] .nil (aI (.int .i64 (eI (val xs) (val ys))))
def lE:PV->List Nat
 | .sl _ rows=>rows.map λr=>match r with|[.int _ n]=>n.toNat|_=>0
 |_=>[]
theorem fA(xs:List Nat):lE (aN xs)=xs:=by
 simp[lE,bkT,Function.comp_def]
def aIC:Spec:=λname vs=>match name,vs with
 |138,[x]=>some ([],λ_=>aI (.int .i64 (nl (val (lE x)):Nat)))
 |_,_=>none
theorem uJ(xs:List Nat):aIC 138 [aN xs]=some ([],λ_=>aI (.int .i64 (nl (val xs):Nat))):=by
 show some _=_;rw[fA]
theorem IR(P:List Nat)(k v:Nat):(P++bhU (k+1) 0).set P.length v=(P++[v])++bhU k 0:=by
 rw[blC _ _ (bhV _),bkR,List.replicate_succ,blP,biY];rfl
theorem jS(L:List Nat)(i v:Nat):(aO L).set i [.int .u32 (v:Int)]=aO (L.set i v):=by
 unfold aO;rw[List.map_set]
theorem mZ(P:List Nat)(v:Nat):val (P++[v])=val P+4294967296^P.length*v:=by
 rw[kL];simp[val]
theorem dA(xs:List Nat){i:Nat}(h:i<Z' xs):val (xs.take (i+1))=val (xs.take i)+4294967296^i*xs[i]:=by
 rw[bjF h,mZ,biI,bkG Om]
theorem HE{v:Nat}:shift .shr .u64 (v:Int) 32=some (.int .u64 ((v/4294967296:Nat):Int)):=by
 unfold shift;rw[aE aS];simp only;have:min (bjA 32) IntKind.u64.bits=32:=by decide
 rw[this,show(2:Int)^32=4294967296 by decide,Int.fdiv_eq_ediv_of_nonneg _ aS];rfl
theorem iV{a b:Nat}(h:a+b<18446744073709551616):u_.wrap ((a:Int)+(b:Int))=((a+b:Nat):Int):=by
 rw[wrap_u64 Om Om];omega
theorem bS{a:Nat}(h:a<18446744073709551616):u_.wrap (a:Int)=(a:Int):=wrap_u64 Om Om
def Fv(a b:List Nat)(o i c:Nat):PF:=(((((((n_.set 0 (aN a)).set 1 (aN b)).set 6 (.osl o 1 0 (Z' a+1))).set 7 (.int .u64 c)).set 35 (.int .i64 (Z' a:Nat))).set 34 (aN a)).set 36 (.int .i64 i))
theorem Rv(L:yL C)(a b:List Nat)(ha:Lim a)(hb:Lim b)(hl:Z' b<=Z' a)(h1:Z' a<=1000)(F:PF)(f0:F 0=some (aN a))(f1:F 1=some (aN b)) :
  aC.wp C (.seq (.region Lo) (.seq (.region Lp) (.seq (.seq (.region Lr) (.block 0 (.loop xd))) (.seq (.region xh) (.seq (.region xi) .ret))))) (aZ [.tmp 4,.tmp 5] (cM (szV (val a+val b)))) F .nil:=by
 have O:i_.wrap ((Z' a:Int)+1)=((Z' a+1:Nat):Int):=dZ Om;have η:((Z' a+1:Nat):Int)*((4:Nat):Int)<=140737488355328:=Om;have θ:((Z' a+1:Nat):Int)<=9223372036854775807:=Om;have hz:bhU (Z' a+1) [PV.int .u32 0]=aO ([]++bhU (Z' a+1) 0):=by simp[aO]
 simp only[go_sem,Lo,f0,O,η,θ,hz];refine aQ λo ho=>?_;simp only[go_sem,Lp,Lr,f0];refine wp_loop (α:=List Nat × Nat × Nat) (λs=>Fv a b s.2.2 s.1.length s.2.1) (λs=>h_.set s.2.2 (.rows 1 (aO (s.1++bhU (Z' a+1-s.1.length) 0))))
  (λs=>s.1.length<=Z' a/\Lim s.1/\s.2.1<=1/\val s.1+4294967296^s.1.length*s.2.1=val (a.take s.1.length)+val (b.take s.1.length)) (λs=>Z' a-s.1.length) ([],0,o) ⟨by simp,by simp[Lim],by simp,by simp[val]⟩ ?_ ?_ ?_
 ·unfold Fv;exact Lq
 ·exact e_ a_ (by simp only[go_sem,bkK])
 rintro⟨P,c,q⟩ ⟨hP,d,hc,w⟩;simp only at hP d hc w;simp only[go_sem,xd,ayH,Fv];by_cases V:Z' P<Z' a
 ·have A:(Z' P:Int)<(Z' a:Nat):=Om;have ι:=ha _ (bhS V);obtain⟨k,S⟩:∃k,Z' a+1-Z' P=k+1:=⟨Z' a-Z' P,by omega⟩;have H:(aO (P++bhU (k+1) 0))[Z' P]?=some [.int .u32 ((0:Nat):Int)]:=by rw[cI _ bH];simp
  have i:Z' a+1-(Z' P+1)=k:=Om;have B:(Z' P:Int)<((Z' a+1:Nat):Int):=Om;have fin:∀(t:Nat)(p:PF)(H':PH),t<2*4294967296->val P+4294967296^P.length*t=val (a.take (Z' P+1))+val (b.take (Z' P+1)) ->
    p 0=some (aN a)->p 1=some (aN b)->p 6=some (.osl q 1 0 (Z' a+1))->p 7=some (.int .u64 (t:Nat))->p 8=some (.int .i64 P.length)->p 34=some (aN a)->p 35=some (.int .i64 (Z' a:Nat))->p 36=some (.int .i64 P.length) ->
    H' q=some (.rows 1 (aO (P++bhU (k+1) 0)))->∀K:cF,(∀u y R H2,Z' u=Z' P+1->Lim u->y<=1->val u+4294967296^u.length*y=val (a.take (Z' P+1))+val (b.take (Z' P+1))->(Fv a b q u.length y).le R->H2 q=some (.rows 1 (aO (u++bhU k 0)))->K .normal R H2) ->
    aC.wp C (.seq (.region xe) (.region xf)) (fS 1 (kB C (aC.wp C (.region xg)) K)) p H':=by
   intro t p H' ht hv g0 g1 g6 g7 g8 γ δ ε gH K hK;have l:(aO (P++bhU (k+1) 0)).set P.length [.int .u32 ((t%4294967296:Nat):Int)]=aO ((P++[t%4294967296])++bhU k 0):=by rw[jS,IR]
   simp only[go_sem,xe,g6,g8,g7,dH,B,gH,H,l,xf,HE,xg,ε,dZ (Om:Z' P<9223372036854775807)];refine hK (P++[t%4294967296]) (t/4294967296) _ _ bH (d.app λx U=>by simp at U;subst U;exact bjR _ aS) Om ?_ ?_ Sq
   ·rw[mZ,bhW,biC,bjU,biT,bkL,<-biH,Nat.mod_add_div];exact hv
   ·unfold Fv;rw[bhW,biC];refine d_ (d_ (d_ (d_ (d_ (d_ (d_ c_ ?_) ?_) ?_) ?_) ?_) ?_) ?_<;>simp only[go_sem,g0,g1,g6,γ,δ]
  have Q:=dA a V;have ea:u_.wrap ((a[Z' P]:Nat):Int)=((a[Z' P]:Nat):Int):=bS Om;have es:u_.wrap ((c:Nat)+((a[Z' P]:Nat):Int))=((c+a[Z' P]:Nat):Int):=iV Om;simp only[go_sem,A,ahD,ahE,cI a V,ea,es,ahF];by_cases W:Z' P<Z' b
  ·have E:(Z' P:Int)<(Z' b:Nat):=Om;have κ:=hb _ (bhS W);have J:=dA b W;have eb:u_.wrap ((b[Z' P]:Nat):Int)=((b[Z' P]:Nat):Int):=bS Om;have β:u_.wrap (((c+a[Z' P]:Nat):Int)+((b[Z' P]:Nat):Int))=((c+a[Z' P]+b[Z' P]:Nat):Int):=iV Om;simp only[go_sem,E,ahG,cI b W,eb,β];refine fin (c+a[Z' P]+b[Z' P]) _ _ Om ?_ ?_ ?_ ?_ ?_ ?_ ?_ ?_ ?_ ?_ _ ?_
   ·rw[Q,J,biH,biH];omega
   any_goals simp only[go_sem,S]
   intro u y R H2 M e2 X N Y Z;rw[<-M]at N;refine aJ (u,y,q) ⟨by simp only;omega,e2,X,N⟩ (by simp only;omega) Y (e_ a_ ?_);simp only;rw[M,i];exact Z
  ·have E:¬(Z' P:Int)<(Z' b:Nat):=Om;have J:val (b.take (Z' P+1))=val (b.take P.length):=by rw[biK Om,biK Om]
   simp only[go_sem,E];refine fin (c+a[Z' P]) _ _ Om ?_ ?_ ?_ ?_ ?_ ?_ ?_ ?_ ?_ ?_ _ ?_
   ·rw[Q,J,biH];omega
   any_goals simp only[go_sem,S]
   intro u y R H2 M e2 X N Y Z;rw[<-M]at N;refine aJ (u,y,q) ⟨by simp only;omega,e2,X,N⟩ (by simp only;omega) Y (e_ a_ ?_);simp only;rw[M,i];exact Z
 ·have e:Z' P=Z' a:=Om;have A:¬(Z' P:Int)<(Z' a:Nat):=Om;have S:bhU (Z' a+1-Z' P) 0=[0]:=by rw[show a.length+1-Z' P=1 by omega];rfl
  have H:(aO (P++[0]))[Z' a]?=some [.int .u32 ((0:Nat):Int)]:=by rw[cI _ (by simp;omega)];simp[e]
  have l:(aO (P++[0])).set a.length [.int .u32 ((c%4294967296:Nat):Int)]=aO (P++[c]):=by have:=IR P 0 (c%4294967296);simp only[List.replicate_zero,bjI,biN,List.replicate_one]at this;rw[<-e,jS,this,bjM Om]
  have B:(Z' a:Int)<((Z' a+1:Nat):Int):=Om;have hV:val (P++[c])=val a+val b:=by rw[mZ,w,e,biS,biK hl]
  have ζ:Lim (P++[c]):=d.app λx U=>by simp at U;omega
  simp only[go_sem,A,xh,dH,S,H,B,l,xi];have hs:=L.sized _ ζ (by simp;omega);rw[hV]at hs;refine xK (o:=q) (s:=1) (k:=Z' a+1) (rs:=aO (P++[c])) (v:=szV (val a+val b)) ?_ rfl Sq (by rw[cR];simp;omega) ?_
  ·rw[biK (by rw[cR];simp;omega)];exact hs
  ·simp only[go_sem,szV];exact bE (.inr rfl) .nil rfl a_ ⟨.refl _,rfl⟩
def opV(big:Bool)(n:Nat):PV:=if big then .tup [aN [],.int .i64 2]else szV n
def fJ(a b:Nat):Bool:=decide (nl a>512)||decide (nl b>512)
theorem gQ{res:List eE}{F:PF}{H:PH}{e:Int}(h:eE.evs F H res=some [.aK,.int .i64 e]):aZ res (cM (.tup [aN [],.int .i64 e])) .ret F H:=by
 refine bE (.inr rfl) .nil h a_ ⟨?_,rfl⟩;refine .tup rfl λj p q hp d=>?_
 match j with
 |0=>simp at hp d;subst hp;subst d;exact .nil 1
 |1=>simp at hp d;subst hp;subst d;exact .refl _
 |j+2=>simp at hp
theorem bF(n:Nat):(aL n).length=nl n:=rfl
theorem mU{xs:List Nat}(h:Lim xs):(xs.map λ(n:Nat)=>[PV.int .u32 (n:Int)]).take (nl (val xs))=(aL (val xs)).map λ(n:Nat)=>[PV.int .u32 (n:Int)]:=by
 rw[<-bkY,pM h]
theorem a3E(L:yL C)(a b:List Nat)(p:Lim a)(hb:Lim b)(x:Z' a<=35184372087808)(y:Z' b<=35184372087808) :
  gh.wp C (aZ aVZ.res (cM (opV (fJ (val a) (val b)) (val a+val b)))) (g_ [aN a,aN b]) .nil:=by
 simp only[go_sem,gh,ayC,ayD,aVZ];refine aB (L.large a p x) rfl ?_;by_cases i:nl (val a)>512
 ·simp only[go_sem,i,Ln];rw[show opV (fJ (val a) (val b)) (val a+val b)=.tup [aN [],.int .i64 2] by simp[opV,fJ,i]];exact gQ rfl
 simp only[go_sem,i];refine aB (L.large b hb y) rfl ?_;by_cases l:nl (val b)>512
 ·simp only[go_sem,l,Ln];rw[show opV (fJ (val a) (val b)) (val a+val b)=.tup [aN [],.int .i64 2] by simp[opV,fJ,l]];exact gQ rfl
 have e:opV (fJ (val a) (val b)) (val a+val b)=szV (val a+val b):=by simp[opV,fJ,i,l]
 rw[e];simp only[go_sem,l];refine bV .nil aIC a_ ?_;simp only[go_sem,ayE];have F:=jR p;have H:=jR hb;have u:((nl (val a):Nat):Int)<=(Z' a:Nat):=Om;have w:((nl (val b):Nat):Int)<=(Z' b:Nat):=Om;refine bX (uJ a) (L.length a p x) rfl a_ ?_;simp only[go_sem,u,or_true,bjG,mU p];refine bX (uJ b) (L.length b hb y) rfl a_ ?_;simp only[go_sem,w,or_true,bjG,mU hb,ayF,bF];have A:=aV (val a);have B:=aV (val b);by_cases E:nl (val a)<nl (val b)
 ·have d:((nl (val a):Nat):Int)<(nl (val b):Nat):=Om;simp only[go_sem,d,ayG];have:=Rv L (aL (val b)) (aL (val a)) (aX _) (aX _) (by rw[bF,bF];omega) (by rw[bF];omega);rw[A,B,Nat.add_comm]at this;exact this _ rfl rfl
 ·have d:¬((nl (val a):Nat):Int)<(nl (val b):Nat):=Om;simp only[go_sem,d];have:=Rv L (aL (val a)) (aL (val b)) (aX _) (aX _) (by rw[bF,bF];omega) (by rw[bF];omega);rw[A,B]at this;exact this _ rfl rfl
theorem kD(n:Int):u_.wrap n=n%18446744073709551616:=by simp[IntKind.wrap,IntKind.bits,IntKind.signed]
theorem tu(n:Int):IntKind.u32.wrap n=n%4294967296:=by simp[IntKind.wrap,IntKind.bits,IntKind.signed]
theorem aJL{v:Int}:shift .shr .u64 v 63=some (.int .u64 (v/9223372036854775808)):=by
 unfold shift;rw[aE aS];simp only;have:min (bjA 63) IntKind.u64.bits=63:=by decide
 rw[this,show(2:Int)^63=9223372036854775808 by decide,Int.fdiv_eq_ediv_of_nonneg _ aS]
def jk(a bor b:Nat):Nat:=(a+4294967296-bor-b)%4294967296
def yx(a bor b:Nat):Nat:=if a<bor+b then 1 else 0
theorem amD{a bor b:Nat}(d:a<4294967296)(hb:b<4294967296)(e:bor<=1)(v:Int)(i:v=((a:Int)-bor-b)%18446744073709551616) :
  IntKind.u32.wrap v=((jk a bor b:Nat):Int)/\v/9223372036854775808=((yx a bor b:Nat):Int)/\a+4294967296*yx a bor b=jk a bor b+b+bor/\jk a bor b<4294967296:=by
 rw[tu];unfold jk yx;split<;>omega
def Gg(a b:List Nat)(o i c:Nat):PF:=(((((((n_.set 0 (aN a)).set 1 (aN b)).set 6 (.osl o 1 0 a.length)).set 7 (.int .u64 c)).set 33 (aN a)).set 34 (.int .i64 (Z' a:Nat))).set 35 (.int .i64 i))
theorem aOB(L:yL C)(a b:List Nat)(ha:Lim a)(hb:Lim b)(ζ:val b<=val a)(hl:Z' b<=Z' a)(h1:Z' a<=1000)(F:PF)(f0:F 0=some (aN a))(f1:F 1=some (aN b)) :
  aC.wp C (.seq (.region L7) (.seq (.region L8) (.seq (.seq (.region L9) (.block 1 (.loop xr))) (.seq (.region xw) .ret)))) (aZ [.tmp 4,.tmp 5] (cM (szV (val a-val b)))) F .nil:=by
 have γ:(Z' a:Int)*((4:Nat):Int)<=140737488355328:=Om;have δ:(Z' a:Int)<=9223372036854775807:=Om;have hz:bhU a.length [PV.int .u32 0]=aO ([]++bhU a.length 0):=by simp[aO]
 simp only[go_sem,L7,f0,γ,δ,hz];refine aQ λo ho=>?_;simp only[go_sem,L8,L9,f0];refine wp_loop (α:=List Nat × Nat × Nat) (λs=>Gg a b s.2.2 s.1.length s.2.1) (λs=>h_.set s.2.2 (.rows 1 (aO (s.1++bhU (Z' a-s.1.length) 0))))
  (λs=>s.1.length<=Z' a/\Lim s.1/\s.2.1<=1/\val (a.take s.1.length)+4294967296^s.1.length*s.2.1=val s.1+val (b.take s.1.length)) (λs=>Z' a-s.1.length) ([],0,o) ⟨by simp,by simp[Lim],by simp,by simp[val]⟩ ?_ ?_ ?_
 ·unfold Gg;exact Lq
 ·exact e_ a_ (by simp only[go_sem,bkK])
 rintro⟨P,c,q⟩ ⟨hP,d,hc,y⟩;simp only at hP d hc y;simp only[go_sem,xr,azP,Gg];by_cases Q:Z' P<Z' a
 ·have w:(Z' P:Int)<(Z' a:Nat):=Om;have Y:=ha _ (bhS Q);obtain⟨k,O⟩:∃k,Z' a-Z' P=k+1:=⟨Z' a-Z' P-1,by omega⟩;have β:(aO (P++bhU (k+1) 0))[Z' P]?=some [.int .u32 ((0:Nat):Int)]:=by rw[cI _ bH];simp
  have i:Z' a-(Z' P+1)=k:=Om;have ε:=dA a Q;have fin:∀(t:Nat)(v:Int)(p:PF)(H':PH),t<4294967296->v=((a[Z' P]:Int)-c-t)%18446744073709551616->val (b.take (Z' P+1))=val (b.take P.length)+4294967296^P.length*t ->
    p 0=some (aN a)->p 1=some (aN b)->p 6=some (.osl q 1 0 a.length)->p 9=some (.int .u64 v)->p 8=some (.int .i64 P.length)->p 33=some (aN a)->p 34=some (.int .i64 (Z' a:Nat))->p 35=some (.int .i64 P.length) ->
    H' q=some (.rows 1 (aO (P++bhU (k+1) 0)))->∀K:cF,(∀u A N H2,Z' u=Z' P+1->Lim u->A<=1->val (a.take (Z' P+1))+4294967296^u.length*A=val u+val (b.take (Z' P+1))->(Gg a b q u.length A).le N->H2 q=some (.rows 1 (aO (u++bhU k 0)))->K .normal N H2) ->
    aC.wp C (.seq (.region xt) (.region xu)) (fS 2 (kB C (aC.wp C (.region xv)) K)) p H':=by
   intro t v p H' ht hv l g0 g1 g6 g9 g8 V W X gH K hK;obtain⟨E,e2,J,H⟩:=amD Y ht hc v hv;have M:(aO (P++bhU (k+1) 0)).set P.length [.int .u32 ((jk a[Z' P] c t:Nat):Int)]=aO ((P++[jk a[Z' P] c t])++bhU k 0):=by rw[jS,IR]
   simp only[go_sem,xt,g6,g8,g9,E,w,gH,β,M,xu,aJL,e2,xv,X,dZ (Om:Z' P<9223372036854775807)];refine hK (P++[jk a[Z' P] c t]) (yx a[Z' P] c t) _ _ bH (d.app λx hx=>by simp at hx;subst hx;exact H) (by unfold yx;split<;>omega) ?_ ?_ Sq
   ·rw[mZ,bhW,biC,bjU,biT,ε,l,bkL,<-biH,J,biH,biH];omega
   ·unfold Gg;rw[bhW,biC];refine d_ (d_ (d_ (d_ (d_ (d_ (d_ c_ ?_) ?_) ?_) ?_) ?_) ?_) ?_<;>simp only[go_sem,g0,g1,g6,V,W]
  have ea:u_.wrap ((a[Z' P]:Nat):Int)=((a[Z' P]:Nat):Int):=bS Om;simp only[go_sem,w,aiQ,aiR,cI a Q,ea,aiS];by_cases R:Z' P<Z' b
  ·have B:(Z' P:Int)<(Z' b:Nat):=Om;have Z:=hb _ (bhS R);have l:=dA b R;have eb:u_.wrap ((b[Z' P]:Nat):Int)=((b[Z' P]:Nat):Int):=bS Om;simp only[go_sem,B,aiT,cI b R,eb];refine fin b[Z' P] (u_.wrap (u_.wrap ((a[Z' P]:Int)-(c:Int))-(b[Z' P]:Int))) _ _ Z (by rw[kD,kD];omega) l ?_ ?_ ?_ ?_ ?_ ?_ ?_ ?_ ?_ _ ?_
   any_goals simp only[go_sem,O]
   intro u A N H2 E e2 J H S U;rw[<-E]at H;refine aJ (u,A,q) ⟨by simp only;omega,e2,J,H⟩ (by simp only;omega) S (e_ a_ ?_);simp only;rw[E,i];exact U
  ·have B:¬(Z' P:Int)<(Z' b:Nat):=Om;have l:val (b.take (Z' P+1))=val (b.take P.length)+4294967296^P.length*0:=by rw[biK Om,biK Om];simp
   simp only[go_sem,B];refine fin 0 (u_.wrap ((a[Z' P]:Int)-(c:Int))) _ _ aS (by rw[kD];omega) l ?_ ?_ ?_ ?_ ?_ ?_ ?_ ?_ ?_ _ ?_
   any_goals simp only[go_sem,O]
   intro u A N H2 E e2 J H S U;rw[<-E]at H;refine aJ (u,A,q) ⟨by simp only;omega,e2,J,H⟩ (by simp only;omega) S (e_ a_ ?_);simp only;rw[E,i];exact U
 ·have e:Z' P=Z' a:=Om;have w:¬(Z' P:Int)<(Z' a:Nat):=Om;have O:bhU (Z' a-Z' P) 0=[]:=by rw[show a.length-Z' P=0 by omega];rfl
  have hV:val P=val a-val b:=by
   rw[e,biS,biK hl]at y;have hlt:=iU d;rw[e]at hlt;rcases bkM c with h|h
   ·subst h;omega
   ·have:c=1:=Om;subst this;omega
  simp only[go_sem,w,O,bjI,xw];have hs:=L.sized _ d Om;rw[hV]at hs;refine xK (o:=q) (s:=1) (k:=Z' a) (rs:=aO P) (v:=szV (val a-val b)) ?_ rfl Sq (by rw[cR];omega) ?_
  ·rw[biK (by rw[cR];omega)];exact hs
  ·simp only[go_sem,szV];exact bE (.inr rfl) .nil rfl a_ ⟨.refl _,rfl⟩
def zH(a b:Nat):PV:=if fJ a b then .tup [aN [],.int .i64 2]else if a<b then .tup [aN [],.int .i64 4]else szV (a-b)
theorem a3M(L:yL C)(a b:List Nat)(i:Lim a)(hb:Lim b)(x:Z' a<=35184372087808)(y:Z' b<=35184372087808) :
  gt.wp C (aZ aWJ.res (cM (zH (val a) (val b)))) (g_ [aN a,aN b]) .nil:=by
 simp only[go_sem,gt,azK,azL,aWJ];refine aB (L.large a i x) rfl ?_;by_cases d:nl (val a)>512
 ·simp only[go_sem,d,L6];rw[show zH (val a) (val b)=.tup [aN [],.int .i64 2] by simp[zH,fJ,d]];exact gQ rfl
 simp only[go_sem,d];refine aB (L.large b hb y) rfl ?_;by_cases e:nl (val b)>512
 ·simp only[go_sem,e,L6];rw[show zH (val a) (val b)=.tup [aN [],.int .i64 2] by simp[zH,fJ,e]];exact gQ rfl
 simp only[go_sem,e,azM];refine aB (L.cmp a b i hb x y) rfl ?_;by_cases l:val a<val b
 ·have w:eI (val a) (val b)<0:=by simp[eI,l]
  simp only[go_sem,w,azN];rw[show zH (val a) (val b)=.tup [aN [],.int .i64 4] by simp[zH,fJ,d,e,l]];exact gQ rfl
 have w:¬eI (val a) (val b)<0:=by unfold eI;rw[aE l];split<;>decide
 rw[show zH (val a) (val b)=szV (val a-val b) by simp[zH,fJ,d,e,l]];simp only[go_sem,w];refine bV .nil aIC a_ ?_;simp only[go_sem,azO];have E:=jR i;have F:=jR hb;have p:((nl (val a):Nat):Int)<=(Z' a:Nat):=Om;have u:((nl (val b):Nat):Int)<=(Z' b:Nat):=Om;refine bX (uJ a) (L.length a i x) rfl a_ ?_;simp only[go_sem,p,or_true,bjG,mU i];refine bX (uJ b) (L.length b hb y) rfl a_ ?_;simp only[go_sem,u,or_true,bjG,mU hb];have A:=aV (val a);have B:=aV (val b);have H:=jL (Om:val b<=val a);have:=aOB L (aL (val a)) (aL (val b)) (aX _) (aX _) Om (by rw[bF,bF];omega) (by rw[bF];omega);rw[A,B]at this;exact this _ rfl rfl
end Go.PM
namespace Go.Na
def fH:Nat->Nat->List Nat
 |0,_=>[]
 |k+1,n=>(n%4294967296)::fH k (n/4294967296)
theorem qP:∀k n,(fH k n).length=k
 |0,_=>rfl
 |k+1,n=>by simp[fH,qP k]
theorem UG{xs:List Nat}(h:Lim xs):fH xs.length (val xs)=xs:=by
 induction xs with
 |nil=>rfl
 |cons x xs i =>have l:=h x bH;have d:(x+4294967296*val xs)%4294967296=x:=Om;have e2:(x+4294967296*val xs)/4294967296=val xs:=Om;simp only[bjL,fH,val];rw[d,e2,i λy e=>h y (by simp[e])]
theorem sD:∀k n,Lim (fH k n)
 |0,_=>λx hx=>by cases hx
 |k+1,n=>λx hx=>by
  simp only[fH,biG]at hx;rcases hx with rfl|hx
  ·exact bjR _ aS
  ·exact sD k _ x hx
theorem LC:∀k n,val (fH k n)=n%4294967296^k
 |0,n=>by simp[fH,val,Nat.mod_one]
 |k+1,n=>by simp only[fH,val,LC k];rw[bjU,biW (4294967296^k) 4294967296,Nat.mod_mul]
theorem uN{k n:Nat}(h:n<4294967296^k):val (fH k n)=n:=by rw[LC,bjM h]
end Go.Na
namespace Go.PM
open Go Go.Na
theorem a9S{a b:Nat}(d:a<18446744073709551616)(hb:b<18446744073709551616):(BitVec.ofInt 64 (a:Int) ||| BitVec.ofInt 64 (b:Int)).toNat=a ||| b:=by
 rw[BitVec.ofInt_natCast,BitVec.ofInt_natCast,BitVec.toNat_or,BitVec.toNat_ofNat,BitVec.toNat_ofNat,bjM (by simpa using d),bjM (by simpa using hb)]
theorem ajG{c x s:Nat}(d:c<2^s)(h:c+2^s*x<18446744073709551616):c ||| (2^s*x)=c+2^s*x:=by
 rw[Nat.or_comm,<-Nat.two_pow_add_eq_or_of_lt d,Nat.add_comm]
theorem orI{a b n:Nat}(d:a<18446744073709551616)(hb:b<18446744073709551616)(h:a ||| b=n)(e:n<18446744073709551616):pP .or .u64 (a:Int) (b:Int)=some (.int .u64 (n:Int)):=by
 show some (PV.int .u64 (u_.wrap (((BitVec.ofInt 64 (a:Int) ||| BitVec.ofInt 64 (b:Int)).toNat:Nat):Int)))=_;rw[a9S d hb,h,bS e]
theorem YC{x s:Nat}(d:s<=64)(h:x*2^s<18446744073709551616):shift .shl .u64 (x:Int) (s:Int)=some (.int .u64 ((2^s*x:Nat):Int)):=by
 unfold shift;rw[aE Om];simp only;have:min (bjA (s:Int)) IntKind.u64.bits=s:=by rw[show IntKind.u64.bits=64 from rfl];omega
 rw[this,show(x:Int)*2^s=((x*2^s:Nat):Int) by simp,bS h,biW]
def aWL(a:List Nat)(s o i c:Nat):PF:=(((((((n_.set 0 (aN a)).set 1 (.int .u64 s)).set 5 (.osl o 1 0 (Z' a+1))).set 6 (.int .u64 c)).set 13 (aN a)).set 14 (.int .i64 (Z' a:Nat))).set 15 (.int .i64 i))
def upR(a:List Nat)(s:Nat)(r:PV)(H:PH):Prop:=∃o,r=.osl o 1 0 (Z' a+1)/\H=h_.set o (.rows 1 (aO (fH (Z' a+1) (val a*2^s))))
variable{C:Ctx}
theorem a6W(a:List Nat)(s:Nat)(ha:Lim a)(hs:s<32)(h1:Z' a<=1000):xx.wp C (aZ nup.res (upR a s)) (g_ [aN a,.int .u64 s]) .nil:=by
 have F:i_.wrap ((Z' a:Int)+1)=((Z' a+1:Nat):Int):=dZ Om;have S:((Z' a+1:Nat):Int)*((4:Nat):Int)<=140737488355328:=Om;have U:((Z' a+1:Nat):Int)<=9223372036854775807:=Om;have hz:bhU (Z' a+1) [PV.int .u32 0]=aO ([]++bhU (Z' a+1) 0):=by simp[aO]
 have N:2^s<=2147483648:=blS (show 0<2 by decide) (Om:s<=31);have B:0<2^s:=bkW aS;simp only[go_sem,xx,aOC,aOD,nup,F,S,U,hz];refine aQ λo ho=>?_;simp only[go_sem,aOE,aOF];refine wp_loop (α:=List Nat × Nat × Nat) (λt=>aWL a s t.2.2 t.1.length t.2.1) (λt=>h_.set t.2.2 (.rows 1 (aO (t.1++bhU (Z' a+1-t.1.length) 0))))
  (λt=>t.1.length<=Z' a/\Lim t.1/\t.2.1<2^s/\val t.1+4294967296^t.1.length*t.2.1=val (a.take t.1.length)*2^s) (λt=>Z' a-t.1.length) ([],0,o) ⟨by simp,by simp[Lim],B,by simp[val]⟩ ?_ ?_ ?_
 ·unfold aWL;exact Lq
 ·exact e_ a_ (by simp only[go_sem,bkK])
 rintro⟨P,c,q⟩ ⟨Z,d,X,l⟩;simp only at Z d X l;simp only[go_sem,azQ,aOG,aWL];by_cases J:Z' P<Z' a
 ·have p:(Z' P:Int)<(Z' a:Nat):=Om;have β:=ha _ (bhS J);obtain⟨k,R⟩:∃k,Z' a+1-Z' P=k+1:=⟨Z' a-Z' P,by omega⟩;have w:(aO (P++bhU (k+1) 0))[Z' P]?=some [.int .u32 ((0:Nat):Int)]:=by rw[cI _ bH];simp
  have A:Z' a+1-(Z' P+1)=k:=Om;have u:(Z' P:Int)<((Z' a+1:Nat):Int):=Om;have V:=dA a J;generalize W:a[Z' P]=x at *
  have γ:x*2^s<=4294967295*2147483648:=blA Om N;have ex:u_.wrap ((x:Nat):Int)=((x:Nat):Int):=bS Om;have H:2^s*x=x*2^s:=biW _ _;have M:shift .shl .u64 (x:Int) (s:Int)=some (.int .u64 ((2^s*x:Nat):Int)):=YC Om Om;have K:=orI (a:=c) (b:=2^s*x) (n:=c+2^s*x) Om Om (ajG X Om) Om;have E:(c+2^s*x)/4294967296<2^s:=by rw[blD aS];have:2^s*(x+1)<=2^s*4294967296:=bkH _ Om;rw[biH,blB]at this;omega
  have i:(aO (P++bhU (k+1) 0)).set P.length [.int .u32 (((c+2^s*x)%4294967296:Nat):Int)]=aO ((P++[(c+2^s*x)%4294967296])++bhU k 0):=by rw[jS,IR]
  have Q:(aO a)[Z' P]?=some [.int .u32 ((x:Nat):Int)]:=by rw[cI a J,W]
  simp only[go_sem,p,aOH,aOI,Q,ex,M,K,aOJ,dH,R,u,w,i,aOK,HE,aOL,dZ (Om:Z' P<9223372036854775807)];refine aJ (P++[(c+2^s*x)%4294967296],(c+2^s*x)/4294967296,q) ⟨by simp;omega,d.app λy Y=>by simp at Y;subst Y;exact bjR _ aS,E,?_⟩ (by simp;omega) ?_ (e_ a_ ?_)
  ·simp only;rw[mZ,bhW,biC,bjU,biT,bkL,<-biH,Nat.mod_add_div,V,biH,bjC,<-bkL,l,H,biT]
  ·simp only;rw[bhW,biC];exact Lq
  ·simp only;rw[bhW,biC,A];simp only[go_sem]
 ·have e:Z' P=Z' a:=Om;have p:¬(Z' P:Int)<(Z' a:Nat):=Om;have R:bhU (Z' a+1-Z' P) 0=[0]:=by rw[show a.length+1-Z' P=1 by omega];rfl
  have w:(aO (P++[0]))[Z' a]?=some [.int .u32 ((0:Nat):Int)]:=by rw[cI _ (by simp;omega)];simp[e]
  have i:(aO (P++[0])).set a.length [.int .u32 ((c%4294967296:Nat):Int)]=aO (P++[c]):=by have:=IR P 0 (c%4294967296);simp only[List.replicate_zero,bjI,biN,List.replicate_one]at this;rw[<-e,jS,this,bjM Om]
  have u:(Z' a:Int)<((Z' a+1:Nat):Int):=Om;have hV:val (P++[c])=val a*2^s:=by rw[mZ,l,e,biS]
  have O:Lim (P++[c]):=d.app λx W=>by simp at W;omega
  have hD:fH (Z' a+1) (val a*2^s)=P++[c]:=by have:=UG O;rw[hV,bhW,biC,e]at this;exact this
  simp only[go_sem,p,azR,dH,R,w,u,i,azS];exact bE (vs:=[.osl q 1 0 (Z' a+1)]) (.inr rfl) (h_.set q (.rows 1 (aO (P++[c])))) Ev (e_ a_ Sq) ⟨q,rfl,by rw[hD]⟩
def L5(a:List Nat)(d o k r:Nat):PF:=(((((n_.set 0 (aN a)).set 1 (.int .u32 d)).set 6 (.osl o 1 0 a.length)).set 7 (.int .u64 r)).set 8 (.int .i64 ((k:Int)-1)))
theorem aNZ(L:yL C)(a:List Nat)(d:Nat)(ha:Lim a)(l:0<d)(hd:d<4294967296)(h1:Z' a<=1000) :
  PQ.wp C (aZ aiO.res (aI (.tup [aN (aL (val a/d)),.int .u32 ((val a%d:Nat):Int)]))) (g_ [aN a,.int .u32 d]) .nil:=by
 have X:(Z' a:Int)*((4:Nat):Int)<=140737488355328:=Om;have Y:(Z' a:Int)<=9223372036854775807:=Om;have hz:bhU a.length [PV.int .u32 0]=aO (bhU a.length 0++[]):=by simp[aO]
 simp only[go_sem,PQ,R4,R5,aiO,X,Y,hz];refine aQ λo ho=>?_;simp only[go_sem,R6,R7];refine wp_loop (α:=Nat × List Nat × Nat × Nat) (λt=>L5 a d t.2.2.2 t.1 t.2.2.1) (λt=>h_.set t.2.2.2 (.rows 1 (aO (bhU t.1 0++t.2.1))))
  (λt=>t.1+t.2.1.length=Z' a/\Lim t.2.1/\t.2.2.1<d/\val t.2.1*d+t.2.2.1=val (a.drop t.1)) (λt=>t.1) (Z' a,[],0,o) ⟨by simp,by simp[Lim],l,by simp[val]⟩ ?_ ?_ ?_
 ·unfold L5
  (repeat' (first|exact c_|refine d_ ?_ ?_))<;>first|(simp only[go_sem,wrap_i64 (Om:-9223372036854775808<=(Z' a:Int)-1) (Om:(Z' a:Int)-1<=9223372036854775807)]<;>rfl)|rfl
 ·exact e_ a_ Sq
 rintro⟨k,S,r,q⟩ ⟨hk,e,M,i⟩;simp only at hk e M i;simp only[go_sem,R3,R8,L5];by_cases h0:0<k
 ·obtain⟨m,rfl⟩:∃m,k=m+1:=⟨k-1,by omega⟩;have w:((m+1:Nat):Int)-1=(m:Int):=Om;have V:(m:Int)>=0:=Om;have u:m<Z' a:=Om;have hlt:(m:Int)<(Z' a:Nat):=Om;have β:=ha _ (bhS u);have p:val (a.drop m)=a[m]+4294967296*val (a.drop (m+1)):=by rw[bjS u];rfl
  generalize hx:a[m]=x at *
  have O:(aO a)[m]?=some [.int .u32 ((x:Nat):Int)]:=by rw[cI a u,hx]
  have ex:u_.wrap ((x:Nat):Int)=((x:Nat):Int):=bS Om;have ed:u_.wrap ((d:Nat):Int)=((d:Nat):Int):=bS Om;have F:shift .shl .u64 (r:Int) 32=some (.int .u64 ((2^32*r:Nat):Int)):=YC (s:=32) Om Om;have N:(2:Nat)^32=4294967296:=by decide
  have A:=orI (a:=2^32*r) (b:=x) (n:=2^32*r+x) Om Om (Nat.two_pow_add_eq_or_of_lt Om r).symm Om;rw[N]at F A;have K:(4294967296*r+x)/d<4294967296:=by rw[blD l];have:4294967296*(r+1)<=4294967296*d:=bkH _ M;omega
  have Q:¬((d:Nat):Int)=0:=Om;have B:u_.wrap (Int.tdiv ((4294967296*r+x:Nat):Int) ((d:Nat):Int))=(((4294967296*r+x)/d:Nat):Int):=by rw[show Int.tdiv ((4294967296*r+x:Nat):Int) ((d:Nat):Int)=(((4294967296*r+x)/d:Nat):Int)from rfl];exact bS Om
  have E:Int.tmod ((4294967296*r+x:Nat):Int) ((d:Nat):Int)=(((4294967296*r+x)%d:Nat):Int):=rfl;have ec:IntKind.u32.wrap (((4294967296*r+x)/d:Nat):Int)=(((4294967296*r+x)/d:Nat):Int):=by rw[dH,bjM K]
  have H:bhU (m+1) 0++S=bhU m 0++(0::S):=by rw[List.replicate_succ',biY];rfl
  have W:(aO (bhU m 0++(0::S)))[m]?=some [.int .u32 ((0:Nat):Int)]:=by rw[cI _ bH];simp
  have J:(aO (bhU m 0++(0::S))).set m [.int .u32 (((4294967296*r+x)/d:Nat):Int)]=aO (bhU m 0++(((4294967296*r+x)/d)::S)):=by rw[jS,blC _ _ bH];simp
  simp only[go_sem,w,V,R9,F,O,ex,A,Sa,ed,Q,B,ec,hlt,H,W,J,Sb,E,Sd];refine aJ (m,((4294967296*r+x)/d)::S,(4294967296*r+x)%d,q) ⟨by simp only[bjL];omega,λy hy=>?_,bjR _ l,?_⟩ (by simp only;omega) ?_ (e_ a_ Sq)
  ·rw[biG]at hy;rcases hy with rfl|hy
   ·exact K
   ·exact e y hy
  ·simp only[val];rw[p,<-i,bjC,biH,biT];have:=blQ (4294967296*r+x) d;rw[biW d]at this;omega
  ·(repeat' (first|exact c_|refine d_ ?_ ?_))<;>first|(simp only[go_sem,wrap_i64 (Om:-9223372036854775808<=(m:Int)-1) (Om:(m:Int)-1<=9223372036854775807)]<;>rfl)|rfl
 ·have:k=0:=Om;subst this;have w:¬((0:Nat):Int)-1>=0:=by decide
  rw[bjG]at i;have hS:Z' S=Z' a:=Om;have K:val S=val a/d:=by rw[<-i,biW,Nat.mul_add_div l,blR M,bkA]
  have Z:r=val a%d:=by rw[<-i,biW,Nat.mul_add_mod,bjM M]
  have γ:bhU 0 0++S=S:=by simp
  simp only[go_sem,w,Gf,blM];have hl:=L.length S e Om;have δ:=jR e;have hc:((nl (val S):Nat):Int)<=(Z' S:Nat):=Om;refine xK (o:=q) (s:=1) (k:=Z' a) (rs:=aO S) (v:=.int .i64 (nl (val S):Nat)) ?_ Sq Sq (by rw[cR];omega) ?_
  ·rw[biK (by rw[cR];omega)];exact hl
  ·have U:PV.frz q 1 (aO S) (.osl q 1 0 a.length)=aN S:=by
    have:0+Z' a<=(aO S).length:=by rw[cR];omega
    simp only[PV.frz,PV.tO,PV.dV,if_true,true_and,aG this,bjG];rw[biK (by rw[cR];omega)]
   have R:∀n:Int,∀k,PV.frz q 1 (aO S) (.int k n)=.int k n:=λ_ _=>rfl;have er:IntKind.u32.wrap ((r:Nat):Int)=((r:Nat):Int):=by rw[dH,bjM Om]
   simp only[go_sem,U,R,hc,or_true,bjG,mU e,er];refine bE (vs:=[aN (aL (val S)),.int .u32 ((r:Nat):Int)]) (.inr rfl) .nil Ev a_ ⟨?_,rfl⟩;simp only[bN,<-K,<-Z]
end Go.PM
namespace Go.Na
theorem SS{L:List Nat}{i:Nat}(h:i<Z' L)(v:Nat):val (L.set i v)+4294967296^i*L[i]=val L+4294967296^i*v:=by
 have d:i<(L.set i v).length:=by rw[bjO];exact h
 rw[AC L h,AC (L.set i v) d,List.getElem_set_self,List.take_set_of_le (bhV _),List.drop_set_of_lt Om,biH,biH];omega
theorem I5{L:List Nat}{i:Nat}(h:∀(j x:Nat),i<=j->L[j]?=some x->x=0)(k v:Nat)(l:k<i):∀(j x:Nat),i<=j->(L.set k v)[j]?=some x->x=0:=λj x e d=>by
 rw[List.getElem?_set_ne Om]at d;exact h j x e d
end Go.Na
namespace Go.PM
open Go Go.Na
def pY(a b:List Nat)(o i:Nat):PF:=((((((n_.set 0 (aN a)).set 1 (aN b)).set 6 (.osl o 1 0 (Z' a+Z' b))).set 32 (aN a)).set 33 (.int .i64 (Z' a:Nat))).set 34 (.int .i64 i))
def aIM(a b:List Nat)(o i x c j:Nat):PF:=((((((((((((n_.set 0 (aN a)).set 1 (aN b)).set 6 (.osl o 1 0 (Z' a+Z' b))).set 32 (aN a)).set 33 (.int .i64 (Z' a:Nat))).set 34 (.int .i64 i)).set 7 (.int .i64 i)).set 8 (.int .u32 x)).set 9 (.int .u64 c)).set 39 (aN b)).set 40 (.int .i64 (Z' b:Nat))).set 41 (.int .i64 j))
structure RN(a b L:List Nat)(i:Nat):Prop where
 len:Z' L=Z' a+Z' b
 lim:Lim L
 v:val L=val (a.take i)*val b
 z:∀j x,i+Z' b<=j->L[j]?=some x->x=0
theorem ayB{x y:Nat}(d:x<4294967296)(e:y<4294967296):u_.wrap ((x:Int)*(y:Int))=((x*y:Nat):Int):=by
 have:x*y<=4294967295*4294967295:=blA Om Om;rw[show(x:Int)*(y:Int)=((x*y:Nat):Int) by simp];exact bS Om
theorem kS{a b:Nat}(h:a+b<=9223372036854775807):i_.wrap ((a:Int)+(b:Int))=((a+b:Nat):Int):=by
 rw[wrap_i64 Om Om];omega
variable{C:Ctx}
theorem aWI(a b:List Nat)(ha:Lim a)(hb:Lim b)(h1:Z' a<=1000)(h2:Z' b<=1000)(L:List Nat)(i:Nat)(hi:i<Z' a)(N:RN a b L i)(q:Nat)(K:cF)(F:PF)(H:PH)(J:(pY a b q i).le F)(hH:H q=some (.rows 1 (aO L)))
  (hK:∀L' F' H',RN a b L' (i+1)->(pY a b q i).le F'->H' q=some (.rows 1 (aO L'))->K .normal F' H') :
  aC.wp C (.block 1 (.seq (.region L0) (.seq (.region L3) (.seq (.seq (.region L4) (.block 2 (.loop xl))) (.region xn))))) K F H:=by
 have f0:=J 0 _ (by unfold pY;simp only[go_sem];rfl);have f1:=J 1 _ (by unfold pY;simp only[go_sem];rfl);have f6:=J 6 _ (by unfold pY;simp only[go_sem];rfl);have S:=J 32 _ (by unfold pY;simp only[go_sem];rfl);have η:=J 33 _ (by unfold pY;simp only[go_sem];rfl);have U:=J 34 _ (by unfold pY;simp only[go_sem];rfl);have hx:=ha _ (bhS hi);have β:=dA a hi;generalize δ:a[i]=x at *
 have X:(aO a)[i]?=some [.int .u32 ((x:Nat):Int)]:=by rw[cI a hi,δ]
 simp only[go_sem,L0,L3,L4,S,U,f1,X];refine wp_loop (α:=List Nat × Nat × Nat) (λt=>aIM a b q i x t.2.1 t.2.2) (λt=>h_.set q (.rows 1 (aO t.1)))
  (λt=>t.2.2<=Z' b/\t.1.length=Z' a+Z' b/\Lim t.1/\t.2.1<4294967296/\val t.1+4294967296^(i+t.2.2)*t.2.1=val (a.take i)*val b+4294967296^i*(x*val (b.take t.2.2))/\∀j y,i+Z' b<=j->t.1[j]?=some y->y=0) (λt=>Z' b-t.2.2) (L,0,0)
  ⟨by simp,N.len,N.lim,by simp,by simp[val,N.v],N.z⟩ ?_ (e_ a_ hH) ?_
 ·unfold aIM;exact Lq
 rintro⟨M,c,j⟩ ⟨hj,W,e,Z,u,Q⟩;simp only at hj W e Z u Q;simp only[go_sem,xl,aiG,aIM];by_cases R:j<Z' b
 ·have w:(j:Int)<(Z' b:Nat):=Om;have O:=hb _ (bhS R);have γ:=dA b R;generalize ε:b[j]=y at *
  have Y:(aO b)[j]?=some [.int .u32 ((y:Nat):Int)]:=by rw[cI b R,ε]
  have d:i+j<Z' M:=Om;have E:=e _ (bhS d);have p:=SS d;generalize ζ:M[i+j]=z at *
  have B:(aO M)[i+j]?=some [.int .u32 ((z:Nat):Int)]:=by rw[cI M d,ζ]
  have ex:u_.wrap ((x:Nat):Int)=((x:Nat):Int):=bS Om;have ey:u_.wrap ((y:Nat):Int)=((y:Nat):Int):=bS Om;have ez:u_.wrap ((z:Nat):Int)=((z:Nat):Int):=bS Om;have em:=ayB hx O;have ι:x*y<=4294967295*4294967295:=blA Om Om;have e1:u_.wrap (((x*y:Nat):Int)+(z:Int))=((x*y+z:Nat):Int):=iV Om;have e2:u_.wrap ((c:Int)+((x*y+z:Nat):Int))=((c+(x*y+z):Nat):Int):=iV Om;have A:i_.wrap ((i:Int)+(j:Int))=((i+j:Nat):Int):=kS Om;have hlt:((i+j:Nat):Int)<((Z' a+Z' b:Nat):Int):=Om;generalize ht:c+(x*y+z)=t at *
  have θ:t<4294967296*4294967296:=Om;have l:(aO M).set (i+j) [.int .u32 ((t%4294967296:Nat):Int)]=aO (M.set (i+j) (t%4294967296)):=jS M (i+j) _;simp only[go_sem,w,aiH,Y,aiI,ex,ey,em,A,hlt,B,ez,e1,e2,aiJ,dH,l,aiK,HE,aiL,wZz j];refine aJ (M.set (i+j) (t%4294967296),t/4294967296,j+1) ⟨by simp only;omega,by simp only[bjO];exact W,e.set _ (bjR _ aS),by simp only;omega,?_,I5 Q _ _ Om⟩ (by simp only;omega) ?_ (e_ a_ Sq)
  ·simp only;have V:=p (t%4294967296);have h4:4294967296^(i+(j+1))*(t/4294967296)+4294967296^(i+j)*(t%4294967296)=4294967296^(i+j)*t:=by rw[<-bkL,bjU,biT,<-biH,blQ]
   have h5:4294967296^(i+j)*t=4294967296^(i+j)*c+(4294967296^(i+j)*(x*y)+4294967296^(i+j)*z):=by rw[<-ht,biH,biH]
   have h6:4294967296^i*(x*val (b.take (j+1)))=4294967296^i*(x*val (b.take j))+4294967296^(i+j)*(x*y):=by rw[γ,biH,biH,Nat.pow_add];congr 1;rw[Nat.mul_left_comm x,biT]
   omega
  ·exact Lq
 ·have he:j=Z' b:=Om;have w:¬(j:Int)<(Z' b:Nat):=Om;subst he;have d:i+Z' b<Z' M:=Om;have E:M[i+Z' b]=0:=Q _ _ (bhV _) (biD d);have p:=SS d;have B:(aO M)[i+Z' b]?=some [.int .u32 ((0:Nat):Int)]:=by rw[cI M d,E]
  have A:i_.wrap ((i:Int)+(Z' b:Int))=((i+Z' b:Nat):Int):=kS Om;have hlt:((i+Z' b:Nat):Int)<((Z' a+Z' b:Nat):Int):=Om;have l:(aO M).set (i+Z' b) [.int .u32 ((c%4294967296:Nat):Int)]=aO (M.set (i+Z' b) c):=by rw[bjM Z];exact jS M _ _
  simp only[go_sem,w,xn,A,dH,hlt,B,l];refine hK (M.set (i+Z' b) c) _ _ ⟨by rw[bjO];exact W,e.set _ Z,?_,λj y hj O=>?_⟩ (by unfold pY;exact Lq) Sq
  ·have V:=p c;rw[E,Nat.mul_zero,bkA]at V;rw[V,u,biS,β,bjC,biT]
  ·rw[List.getElem?_set_ne Om]at O;exact Q j y Om O
theorem aNY(L:yL C)(a b:List Nat)(S:Lim a)(hb:Lim b)(Q:Z' a<=1000)(R:Z' b<=1000)(F:PF)(f0:F 0=some (aN a))(f1:F 1=some (aN b)) :
  aC.wp C (.seq (.region Ly) (.seq (.seq (.region Lz) (.block 0 (.loop xm))) (.seq (.region xo) .ret))) (aZ [.tmp 4,.tmp 5] (cM (szV (val a*val b)))) F .nil:=by
 have p:i_.wrap ((Z' a:Int)+(Z' b:Int))=((Z' a+Z' b:Nat):Int):=kS Om;have B:((Z' a+Z' b:Nat):Int)*((4:Nat):Int)<=140737488355328:=Om;have E:((Z' a+Z' b:Nat):Int)<=9223372036854775807:=Om;have V:bhU (Z' a+Z' b) [PV.int .u32 0]=aO (bhU (Z' a+Z' b) 0):=by simp[aO]
 simp only[go_sem,Ly,f0,f1,p,B,E,V];refine aQ λo Y=>?_;simp only[go_sem,Lz,f0];refine wp_loop (α:=List Nat × Nat) (λt=>pY a b o t.2) (λt=>h_.set o (.rows 1 (aO t.1))) (λt=>t.2<=Z' a/\RN a b t.1 t.2) (λt=>Z' a-t.2) (bhU (Z' a+Z' b) 0,0)
  ⟨by simp,by simp,EV _,by simp[val,AG],λj x _ J=>by rw[List.getElem?_replicate]at J;split at J<;>simp_all⟩ ?_ (e_ a_ Sq) ?_
 ·unfold pY;exact Lq
 rintro⟨M,i⟩ ⟨hi,e⟩;simp only at hi e;simp only[go_sem,xm,azJ,pY];by_cases K:i<Z' a
 ·have l:(i:Int)<(Z' a:Nat):=Om;have u:=aWI (C:=C) a b S hb Q R M i K e o;simp only[go_sem]at u;simp only[go_sem,l];refine u _ _ _ (by unfold pY;exact Lq) Sq ?_;intro L' W H' A d y;have w:=d 34 _ (by unfold pY;simp only[go_sem];rfl);have g0:=d 0 _ (by unfold pY;simp only[go_sem];rfl);have g1:=d 1 _ (by unfold pY;simp only[go_sem];rfl);have X:=d 6 _ (by unfold pY;simp only[go_sem];rfl);have N:=d 32 _ (by unfold pY;simp only[go_sem];rfl);have O:=d 33 _ (by unfold pY;simp only[go_sem];rfl);simp only[go_sem,aiM,w,wZz i];refine aJ (L',i+1) ⟨by simp only;omega,A⟩ (by simp only;omega) ?_ (e_ a_ y);exact Lq
 ·have U:i=Z' a:=Om;subst U;have l:¬(Z' a:Int)<(Z' a:Nat):=Om;have hV:val M=val a*val b:=by rw[e.v,biS]
  simp only[go_sem,xo];have H:=L.sized _ e.lim (by rw[e.len];omega);rw[hV]at H;refine xK (o:=o) (s:=1) (k:=Z' a+Z' b) (rs:=aO M) (v:=szV (val a*val b)) ?_ rfl Sq (by rw[cR,e.len];exact bhV _) ?_
  ·rw[biK (by rw[cR,e.len];exact bhV _)];exact H
  ·simp only[go_sem,szV];exact bE (.inr rfl) .nil rfl a_ ⟨.refl _,rfl⟩
theorem a3L(L:yL C)(a b:List Nat)(l:Lim a)(hb:Lim b)(w:Z' a<=35184372087808)(x:Z' b<=35184372087808) :
  gn.wp C (aZ aWH.res (cM (opV (fJ (val a) (val b)) (val a*val b)))) (g_ [aN a,aN b]) .nil:=by
 simp only[go_sem,gn,azG,azH,aWH];refine aB (L.large a l w) rfl ?_;by_cases d:nl (val a)>512
 ·simp only[go_sem,d,Lx];rw[show opV (fJ (val a) (val b)) (val a*val b)=.tup [aN [],.int .i64 2] by simp[opV,fJ,d]];exact gQ rfl
 simp only[go_sem,d];refine aB (L.large b hb x) rfl ?_;by_cases i:nl (val b)>512
 ·simp only[go_sem,i,Lx];rw[show opV (fJ (val a) (val b)) (val a*val b)=.tup [aN [],.int .i64 2] by simp[opV,fJ,i]];exact gQ rfl
 have e:opV (fJ (val a) (val b)) (val a*val b)=szV (val a*val b):=by simp[opV,fJ,d,i]
 rw[e];simp only[go_sem,i];refine bV .nil aIC a_ ?_;simp only[go_sem,azI];have B:=jR l;have E:=jR hb;have p:((nl (val a):Nat):Int)<=(Z' a:Nat):=Om;have u:((nl (val b):Nat):Int)<=(Z' b:Nat):=Om;refine bX (uJ a) (L.length a l w) rfl a_ ?_;simp only[go_sem,p,or_true,bjG,mU l];refine bX (uJ b) (L.length b hb x) rfl a_ ?_;simp only[go_sem,u,or_true,bjG,mU hb];have y:=aV (val a);have A:=aV (val b);have:=aNY L (aL (val a)) (aL (val b)) (aX _) (aX _) (by rw[bF];omega) (by rw[bF];omega);rw[y,A]at this;have:=λF f0 f1=>this F f0 f1;simp only[go_sem]at this;exact this _ rfl rfl
open Go Go.Na
theorem G2{A P W Z:List Nat}{i:Nat}(e:Z' P=i)(hi:i<Z' W):(aO (A++(P++W.drop i)++Z))[Z' A+i]?=some [.int .u32 ((W[i]:Nat):Int)]:=by
 have d:Z' A+i<(A++(P++W.drop i)++Z).length:=by simp;omega
 rw[cI _ d];congr 4;rw[bmC (by simp;omega),bmA Om,bmA Om,List.getElem_drop];congr 1;omega
theorem SP{A P W Z:List Nat}{i:Nat}(d:Z' P=i)(hi:i<Z' W)(v:Nat):(aO (A++(P++W.drop i)++Z)).set (Z' A+i) [.int .u32 (v:Int)]=aO (A++((P++[v])++W.drop (i+1))++Z):=by
 rw[jS];congr 1;rw[List.set_append_left _ _ (by simp;omega),blC _ _ Om,blC _ _ Om,bjS hi];rw[show A.length+i-Z' A-Z' P=0 by omega,blP];simp
theorem aSG{t:Nat}(h:t<18446744073709551616):pP .and .u64 (t:Int) 4294967295=some (.int .u64 ((t%4294967296:Nat):Int)):=by
 show some (PV.int .u64 (u_.wrap (((BitVec.ofInt 64 (t:Int) &&& BitVec.ofInt 64 (4294967295:Int)).toNat:Nat):Int)))=_;have e:BitVec.ofInt 64 (4294967295:Int)=BitVec.ofNat 64 4294967295:=by rfl
 rw[e,BitVec.ofInt_natCast,BitVec.toNat_and,BitVec.toNat_ofNat,BitVec.toNat_ofNat,bjM (by simpa using h)];have e2:(4294967295:Nat)%2^64=2^32-1:=by decide
 rw[e2,Nat.and_two_pow_sub_one_eq_mod];rw[bS (Nat.lt_of_lt_of_le (bjR _ aS) aS)]
theorem aSM{c f x:Nat}(e:c<4294967296)(d:f<=4294967296)(i:x<4294967296):c+f*x<18446744073709551616/\(c+f*x)/4294967296<4294967296/\f*x<=4294967296*4294967295:=by
 have:f*x<=4294967296*4294967295:=blA d Om;refine⟨by omega,?_,this⟩;omega
def aiU(v:List Nat)(j o i c b:Nat)(f:Nat):PF:=((((((((n_.set 0 (.osl o 1 j (Z' v+1))).set 1 (aN v)).set 2 (.int .u64 f)).set 7 (.int .u64 c)).set 8 (.int .u64 b)).set 13 (aN v)).set 14 (.int .i64 (Z' v:Nat))).set 15 (.int .i64 i))
def YJ(n w m:Nat):Nat:=if w<m then w+4294967296^n-m else w-m
theorem aiV(A W Z v:List Nat)(f:Nat)(hW:Lim W)(hv:Lim v)(hl:Z' W=Z' v+1)(h1:Z' A+Z' v<=100000)(hf:f<=4294967296)(ν:val v*f<=val W+4294967296^(Z' v+1))(o:Nat) :
  DE.wp C (aZ gv.res (λr H'=>r=.bool (decide (val W<val v*f))/\H'=h_.set o (.rows 1 (aO (A++fH (Z' v+1) (YJ (Z' v+1) (val W) (val v*f))++Z)))))
   (g_ [.osl o 1 A.length (Z' v+1),aN v,.int .u64 f]) (h_.set o (.rows 1 (aO (A++W++Z)))):=by
 simp only[go_sem,DE,gw,gx,gy,gv];refine wp_loop (α:=List Nat × Nat × Nat) (λt=>aiU v A.length o t.1.length t.2.1 t.2.2 f) (λt=>h_.set o (.rows 1 (aO (A++(t.1++W.drop t.1.length)++Z))))
  (λt=>t.1.length<=Z' v/\Lim t.1/\t.2.1<4294967296/\t.2.2<=1/\val (W.take t.1.length)+4294967296^t.1.length*t.2.2+4294967296^t.1.length*t.2.1=val t.1+val (v.take t.1.length)*f) (λt=>Z' v-t.1.length) ([],0,0)
  ⟨by simp,by simp[Lim],by simp,by simp,by simp[val]⟩ ?_ (e_ a_ (by simp only[go_sem,bkK,bjG,blM])) ?_
 ·unfold aiU;exact Lq
 rintro⟨P,c,b⟩ ⟨hP,i,hc,hb,u⟩;simp only at hP i hc hb u;simp only[go_sem,bj,gz,aiU];by_cases X:Z' P<Z' v
 ·have F:(Z' P:Int)<(Z' v:Nat):=Om;have B:Z' P<Z' W:=Om;have H:(Z' P:Int)<((Z' v+1:Nat):Int):=Om;have hx:=hv _ (bhS X);have hw:=hW _ (bhS B);have η:=dA v X;have E:=dA W B;have K:=G2 (A:=A) (Z:=Z) (P:=P) rfl B;have p:=SP (A:=A) (Z:=Z) (P:=P) rfl B;generalize μ:v[Z' P]=x at *
  generalize κ:W[Z' P]=y at *
  have ι:(aO v)[Z' P]?=some [.int .u32 ((x:Nat):Int)]:=by rw[cI v X,μ]
  obtain⟨k1,k2,k3⟩:=aSM hc hf hx;have ex:u_.wrap ((x:Nat):Int)=((x:Nat):Int):=bS Om;have Y:u_.wrap ((y:Nat):Int)=((y:Nat):Int):=bS Om;have em:u_.wrap ((f:Int)*(x:Int))=((f*x:Nat):Int):=by rw[show(f:Int)*(x:Int)=((f*x:Nat):Int) by simp];exact bS Om
  have l:c+f*x<18446744073709551616:=k1;have ea:u_.wrap ((c:Int)+((f*x:Nat):Int))=((c+f*x:Nat):Int):=iV l;have Q:=aSG l;have θ:val (v.take (Z' P+1))*f=val (v.take P.length)*f+4294967296^P.length*(f*x):=by rw[η,bjC,biT,biW x f]
  generalize f*x=w at *
  have S:(c+w)%4294967296<4294967296:=bjR _ aS;obtain⟨s1,s2,s3,s4⟩:=amD (a:=y) (bor:=b) (b:=(c+w)%4294967296) hw S hb (u_.wrap (u_.wrap ((y:Int)-(((c+w)%4294967296:Nat):Int))-(b:Int))) (by rw[kD,kD];omega);generalize hd:jk y b ((c+w)%4294967296)=d at *
  generalize δ:yx y b ((c+w)%4294967296)=V at *
  have γ:V<=1:=by rw[<-δ];unfold yx;split<;>omega
  have hs:=p d;simp only[go_sem,F,ia,ι,ib,ex,em,ea,ic,H,K,Y,Q,ie,s1,hs,ig,aJL,s2,ii,HE,bn,dZ (Om:Z' P<9223372036854775807)];refine aJ (P++[d],(c+w)/4294967296,V) ⟨by simp;omega,i.app λz hz=>by simp at hz;omega,k2,γ,?_⟩ (by simp;omega) ?_ (e_ a_ ?_)
  ·simp only;rw[bhW,biC,mZ,E,θ,bjU,biT,biT];have h4:4294967296^P.length*y+4294967296^P.length*(4294967296*V)=4294967296^P.length*d+4294967296^P.length*((c+w)%4294967296)+4294967296^P.length*b:=by rw[<-biH,s3,biH,biH]
   have h5:4294967296^P.length*(4294967296*((c+w)/4294967296))+4294967296^P.length*((c+w)%4294967296)=4294967296^P.length*c+4294967296^P.length*w:=by rw[<-biH,blQ,biH]
   omega
  ·simp only;rw[bhW,biC];exact Lq
  ·simp only;rw[bhW,biC];simp only[go_sem]
 ·have e:Z' P=Z' v:=Om;have F:¬(Z' P:Int)<(Z' v:Nat):=Om;have B:Z' v<Z' W:=Om;have H:(Z' v:Int)<((Z' v+1:Nat):Int):=Om;have hw:=hW _ (bhS B);have E:=dA W B;have K:=G2 (A:=A) (Z:=Z) (P:=P) e B;have p:=SP (A:=A) (Z:=Z) (P:=P) e B;have J:val (W.take (Z' v+1))=val W:=by rw[biK Om]
  generalize κ:W[Z' v]=y at *
  have Y:u_.wrap ((y:Nat):Int)=((y:Nat):Int):=bS Om;have β:=iU i;rw[e]at u β;rw[biS]at u;rw[J]at E;have U:4294967296^(Z' v+1)=4294967296^v.length*4294967296:=bjU _ _;have ο:val W+4294967296^v.length*(b+c)=val P+val v*f+4294967296^v.length*y:=by rw[E,biH];omega
  have ξ:b+c<=y+4294967296:=by
   rcases biR (y+4294967296) (b+c)with h|h
   ·exfalso;have:4294967296^v.length*(y+4294967296+1)<=4294967296^v.length*(b+c):=bkH _ h;rw[biH,biH,blB]at this;omega
   ·exact h
  have N:∃d k:Nat,d<4294967296/\k<=1/\y+4294967296*k=d+(b+c)/\IntKind.u32.wrap (u_.wrap (u_.wrap ((y:Int)-(c:Int))-(b:Int)))=(d:Int)/\((u_.wrap (u_.wrap ((y:Int)-(c:Int))-(b:Int))/9223372036854775808==1)=decide (k=1)):=by
   rw[tu,kD,kD];by_cases h:y<b+c
   ·refine⟨y+4294967296-(b+c),1,by omega,by omega,by omega,by omega,?_⟩;simp only[decide_true];exact bY Om
   ·refine⟨y-(b+c),0,by omega,by omega,by omega,by omega,?_⟩;exact bL Om
  obtain⟨d,k,hd,hk,hy,w1,w2⟩:=N;have hs:=p d;have hN:val (P++[d])+val v*f=val W+4294967296^(Z' v+1)*k:=by
   have:4294967296^v.length*y+4294967296^v.length*(4294967296*k)=4294967296^v.length*d+4294967296^v.length*(b+c):=by rw[<-biH,hy,biH]
   rw[mZ,e,U,biT];omega
  have R:Lim (P++[d]):=i.app λz hz=>by simp at hz;omega
  have ε:=iU R;rw[bhW,biC,e]at ε;have M:decide (k=1)=decide (val W<val v*f):=by
   congr 1;apply propext;constructor
   ·intro h;subst h;omega
   ·intro h;rcases bkM k with h0|h0
    ·subst h0;omega
    ·omega
  have O:YJ (Z' v+1) (val W) (val v*f)=val (P++[d]):=by
   unfold YJ;split
   ·rename_i h;have:k=1:=by simpa[h]using M
    subst this;omega
   ·rename_i h;have:k=0:=by
     have:¬k=1:=by simpa[h]using M
     omega
    subst this;omega
  have hD:fH (Z' v+1) (YJ (Z' v+1) (val W) (val v*f))=P++[d]:=by have:=UG R;rw[bhW,biC,e]at this;rw[O,this]
  have ζ:W.drop (Z' v+1)=[]:=blV Om;simp only[go_sem,F,bo,e,H,K,Y,br,w1,hs,bs,aJL,w2,M];refine bE (vs:=[.bool (decide (val W<val v*f))]) (.inr rfl) (h_.set o (.rows 1 (aO (A++(P++[d]++W.drop (Z' v+1))++Z)))) rfl (e_ a_ Sq) ⟨rfl,?_⟩;rw[hD,ζ,bjI]
end Go.PM
namespace Go.Na
theorem axC{xs ys:List Nat}(i:Lim xs)(l:Lim ys)(d:Z' xs=Z' ys)(e:val xs=val ys):xs=ys:=by
 rw[<-UG i,<-UG l,d,e]
theorem a0Z{k n:Nat}{xs:List Nat}(i:Lim xs)(d:Z' xs=k)(e:val xs=n%4294967296^k):fH k n=xs:=
 axC (sD k n) i (by rw[qP,d]) (by rw[LC,e])
end Go.Na
namespace Go.PM
open Go Go.Na
def aiN(v:List Nat)(j o i c:Nat):PF:=((((((n_.set 0 (.osl o 1 j (Z' v+1))).set 1 (aN v)).set 4 (.int .u64 c)).set 7 (aN v)).set 8 (.int .i64 (Z' v:Nat))).set 9 (.int .i64 i))
variable{C:Ctx}
theorem arT(A W Z v:List Nat)(hW:Lim W)(hv:Lim v)(hl:Z' W=Z' v+1)(h1:Z' A+Z' v<=100000)(o:Nat) :
  FN.wp C (aZ xq.res (λr H'=>r=.tup []/\H'=h_.set o (.rows 1 (aO (A++fH (Z' v+1) (val W+val v)++Z)))))
   (g_ [.osl o 1 A.length (Z' v+1),aN v]) (h_.set o (.rows 1 (aO (A++W++Z)))):=by
 simp only[go_sem,FN,rk,rp,xq];refine wp_loop (α:=List Nat × Nat) (λt=>aiN v A.length o t.1.length t.2) (λt=>h_.set o (.rows 1 (aO (A++(t.1++W.drop t.1.length)++Z))))
  (λt=>t.1.length<=Z' v/\Lim t.1/\t.2<=1/\val (W.take t.1.length)+val (v.take t.1.length)=val t.1+4294967296^t.1.length*t.2) (λt=>Z' v-t.1.length) ([],0)
  ⟨by simp,by simp[Lim],by simp,by simp[val]⟩ ?_ (e_ a_ (by simp only[go_sem,bkK,bjG,blM])) ?_
 ·unfold aiN;exact Lq
 rintro⟨P,c⟩ ⟨hP,d,hc,l⟩;simp only at hP d hc l;simp only[go_sem,rj,rt,aiN];by_cases M:Z' P<Z' v
 ·have u:(Z' P:Int)<(Z' v:Nat):=Om;have p:Z' P<Z' W:=Om;have w:(Z' P:Int)<((Z' v+1:Nat):Int):=Om;have hx:=hv _ (bhS M);have hw:=hW _ (bhS p);have S:=dA v M;have F:=dA W p;have E:=G2 (A:=A) (Z:=Z) (P:=P) rfl p;have i:=SP (A:=A) (Z:=Z) (P:=P) rfl p;generalize X:v[Z' P]=x at *
  generalize V:W[Z' P]=y at *
  have U:(aO v)[Z' P]?=some [.int .u32 ((x:Nat):Int)]:=by rw[cI v M,X]
  have ex:u_.wrap ((x:Nat):Int)=((x:Nat):Int):=bS Om;have N:u_.wrap ((y:Nat):Int)=((y:Nat):Int):=bS Om;have Y:u_.wrap ((y:Int)+(x:Int))=((y+x:Nat):Int):=iV Om;have e2:u_.wrap ((c:Int)+((y+x:Nat):Int))=((c+(y+x):Nat):Int):=iV Om;have R:=i ((c+(y+x))%4294967296);simp only[go_sem,u,ru,U,rx,w,E,ex,N,Y,e2,ry,dH,R,rz,HE,r8,dZ (Om:Z' P<9223372036854775807)];refine aJ (P++[(c+(y+x))%4294967296],(c+(y+x))/4294967296) ⟨by simp;omega,d.app λz K=>by simp at K;subst K;exact bjR _ aS,by simp only;omega,?_⟩ (by simp;omega) ?_ (e_ a_ ?_)
  ·simp only;rw[bhW,biC,mZ,F,S,bjU,biT];have h5:4294967296^P.length*(4294967296*((c+(y+x))/4294967296))+4294967296^P.length*((c+(y+x))%4294967296)=4294967296^P.length*c+(4294967296^P.length*y+4294967296^P.length*x):=by rw[<-biH,blQ,biH,biH]
   omega
  ·simp only;rw[bhW,biC];exact Lq
  ·simp only;rw[bhW,biC];simp only[go_sem]
 ·have e:Z' P=Z' v:=Om;have u:¬(Z' P:Int)<(Z' v:Nat):=Om;have p:Z' v<Z' W:=Om;have w:(Z' v:Int)<((Z' v+1:Nat):Int):=Om;have hw:=hW _ (bhS p);have F:=dA W p;have E:=G2 (A:=A) (Z:=Z) (P:=P) e p;have i:=SP (A:=A) (Z:=Z) (P:=P) e p;have B:val (W.take (Z' v+1))=val W:=by rw[biK Om]
  generalize V:W[Z' v]=y at *
  have O:=iU d;rw[e]at l O;rw[biS]at l;rw[B]at F;have ec:IntKind.u32.wrap ((c:Nat):Int)=((c:Nat):Int):=by rw[dH,bjM Om]
  have N:IntKind.u32.wrap ((y:Int)+(c:Int))=(((y+c)%4294967296:Nat):Int):=by rw[show(y:Int)+(c:Int)=((y+c:Nat):Int) by omega,dH]
  have R:=i ((y+c)%4294967296);have H:Lim (P++[(y+c)%4294967296]):=d.app λz K=>by simp at K;subst K;exact bjR _ aS
  have J:=iU H;rw[bhW,biC,e]at J;have hD:fH (Z' v+1) (val W+val v)=P++[(y+c)%4294967296]:=by
   refine a0Z H (by rw[bhW,biC,e]) ?_;have:val W+val v=val (P++[(y+c)%4294967296])+4294967296^(Z' v+1)*((y+c)/4294967296):=by rw[mZ,e,bjU,biT,bkL,<-biH,Nat.mod_add_div,biH];omega
   rw[this,Nat.add_mul_mod_self_left,bjM J]
  have Q:W.drop (Z' v+1)=[]:=blV Om;simp only[go_sem,u,r9,e,w,E,ec,N,R];refine bE (vs:=[]) (.inl rfl) (h_.set o (.rows 1 (aO (A++(P++[(y+c)%4294967296]++W.drop (Z' v+1))++Z)))) rfl (e_ a_ Sq) ⟨rfl,?_⟩;rw[hD,Q,bjI]
def aIJ(o n:Nat)(len:Nat):PF:=((n_.set 0 (.osl o 1 0 len)).set 3 (.int .i64 n))
theorem arS(xs:List Nat)(w:Lim xs)(A:Z' xs<=35184372087808)(o:Nat):vS.wp C (aZ SI.res (λr H'=>r=.int .i64 (nl (val xs):Nat)/\H'=h_.set o (.rows 1 (aO xs)))) (g_ [.osl o 1 0 xs.length]) (h_.set o (.rows 1 (aO xs))):=by
 simp only[go_sem,vS,WV,WW,SI];refine wp_loop (α:=Nat) (λn=>aIJ o n xs.length) (λ_=>h_.set o (.rows 1 (aO xs))) (λn=>n<=Z' xs/\∀j x,n<=j->xs[j]?=some x->x=0) (λn=>n) xs.length ⟨bhV _,λj x h e=>by rw[bjJ h]at e;cases e⟩ ?_ b_ ?_
 ·unfold aIJ;exact Lq
 rintro n ⟨u,p⟩;have out:(∀x,0<n->xs[n-1]?=some x->x≠0)->nl (val xs)=n:=λh=>aAW w u p h;simp only[go_sem,WU,WX,aIJ];by_cases l:(n:Int)>0
 ·have hp:0<n:=Om;have hi:=cI xs (Om:n-1<Z' xs);have hlt:((n-1:Nat):Int)<(Z' xs:Nat):=Om;simp only[go_sem,l,FG (Om:n<=9223372036854775807) hp,hi,hlt];by_cases i:xs[n-1]=0
  ·simp only[go_sem,bY (Om:((xs[n-1]:Nat):Int)=0),WY,FG (Om:n<=9223372036854775807) hp];refine aJ (n-1) ⟨by omega,λj x y d=>?_⟩ Om ?_ b_
   ·rcases biR j n with h|h
    ·have:j=n-1:=Om;subst this;rw[biD Om]at d;cases d;exact i
    ·exact p j x h d
   ·exact Lq
  ·simp only[go_sem,bL (Om:((xs[n-1]:Nat):Int)≠0),BL];refine bE (.inr rfl) _ rfl b_ ⟨?_,rfl⟩;rw[out λx _ d=>by rw[biD Om]at d;cases d;exact i];rfl
 ·simp only[go_sem,l,BL];refine bE (.inr rfl) _ rfl b_ ⟨?_,rfl⟩;rw[out λx h=>by omega];rfl
end Go.PM
namespace Go.Na
structure Kn(V W top next Vr head u2 Wr p:Nat):Prop where
 hV:V=top*(4294967296*p)+next*p+Vr
 hW:W=head*(4294967296*p)+u2*p+Wr
 hVr:Vr<p
 hWr:Wr<p
 htop:2147483648<=top
 bgZ:next<4294967296
 hu2:u2<4294967296
 hlt:W<V*4294967296
section
variable {V W top next Vr head u2 Wr p:Nat}
theorem Kn.low(K:Kn V W top next Vr head u2 Wr p):next*p+Vr<4294967296*p/\u2*p+Wr<4294967296*p:=by
 have d:(next+1)*p<=4294967296*p:=biX _ K.bgZ;have e:(u2+1)*p<=4294967296*p:=biX _ K.hu2;rw[bjC,Nat.one_mul]at d e;have:=K.hVr;have:=K.hWr;omega
theorem Kn.X0(K:Kn V W top next Vr head u2 Wr p):0<V/\4294967296*p<=V/\0<p:=by
 have:=K.hVr;have h:1*(4294967296*p)<=top*(4294967296*p):=biX _ (by have:=K.htop;omega);have:=K.hV;omega
theorem Kn.a7G(K:Kn V W top next Vr head u2 Wr p):W/V<4294967296:=by
 rw[blD K.X0.1,biW];exact K.hlt
theorem Kn.g0(K:Kn V W top next Vr head u2 Wr p):W/V<=head/top:=by
 have d:0<top:=by have:=K.htop;omega
 rw[Nat.le_div_iff_mul_le d];have e:W/V*V<=W:=Nat.div_mul_le_self W V;have i:W/V*(top*(4294967296*p))<=W/V*V:=bkH _ (by have:=K.hV;omega);have l:=K.low.2;have u:=K.hW;have h5:(W/V*top)*(4294967296*p)<(head+1)*(4294967296*p):=by rw[biT,bjC,Nat.one_mul];omega
 have:=Nat.lt_of_mul_lt_mul_right h5;omega
theorem Kn.g1(K:Kn V W top next Vr head u2 Wr p){g r:Nat}(l:g*top+r=head)(B:W/V<=g)(h:g>=4294967296\/g*next>r*4294967296+u2):1<=g/\W/V<=g-1:=by
 have w:=K.a7G;have d:=Nat.div_mul_le_self W V;generalize W/V=Q at *
 rcases h with h|h
 ·omega
 ·have u:Q≠g:=by
   intro e;have x:g*V<=W:=by rw[<-e];exact d
   have y:g*V=g*top*(4294967296*p)+g*next*p+g*Vr:=by rw[K.hV,biH,biH,biT,biT]
   have i:(r*4294967296+u2+1)*p<=g*next*p:=biX _ h
   rw[bjC,bjC,Nat.one_mul,biT r]at i;have A:g*top*(4294967296*p)+r*(4294967296*p)=head*(4294967296*p):=by rw[<-bjC,l]
   have:=K.hW;have:=K.hWr;omega
  omega
theorem Kn.g2(K:Kn V W top next Vr head u2 Wr p){g r:Nat}(u:g*top+r=head)(w:g<=4294967296)(h:g*next<=r*4294967296+u2):g<=W/V+1:=by
 rcases bkM g with e|e
 ·rw[e];exact bhT _
 have i:g*V=g*top*(4294967296*p)+g*next*p+g*Vr:=by rw[K.hV,biH,biH,biT,biT]
 have d:g*next*p<=(r*4294967296+u2)*p:=biX _ h
 rw[bjC,biT r]at d;have l:g*top*(4294967296*p)+r*(4294967296*p)=head*(4294967296*p):=by rw[<-bjC,u]
 have h5:g*Vr<=4294967296*Vr:=biX _ w;have x:4294967296*(Vr+1)<=4294967296*p:=bkH _ K.hVr;have hV:=K.X0;have hW:=K.hW;have h7:(g-1)*V<=W:=by
  have:g*V=(g-1)*V+V:=by obtain⟨k,rfl⟩:∃k,g=k+1:=⟨g-1,by omega⟩;rw[bjC,Nat.one_mul];rfl
  omega
 have:=(Nat.le_div_iff_mul_le hV.1).2 h7;generalize W/V=Q at *
 clear i d l h5 h7;omega
theorem Kn.g3(K:Kn V W top next Vr head u2 Wr p){g r:Nat}(u:g*top+r=head)(w:g<=4294967296)(x:4294967296<=r):g<=W/V+1:=by
 have d:=K.low.1;have hV:=K.X0;have e:g*V=g*top*(4294967296*p)+g*(next*p+Vr):=by rw[K.hV,bkL,biH,biT]
 have i:g*(next*p+Vr)<=4294967296*(4294967296*p):=blA w Om;have l:g*top*(4294967296*p)+r*(4294967296*p)=head*(4294967296*p):=by rw[<-bjC,u]
 have h5:4294967296*(4294967296*p)<=r*(4294967296*p):=biX _ x;have hW:=K.hW;have h7:g*V<=W:=Om;have:=(Nat.le_div_iff_mul_le hV.1).2 h7;generalize W/V=Q at *
 clear e i l h5 h7;omega
theorem Kn.g4(K:Kn V W top next Vr head u2 Wr p):head/top<=4294967296+1:=by
 have d:=K.low.1;have hV:=K.X0;have hW:=K.hW;have hlt:=K.hlt;have w:=K.htop;have l:head<(top+1)*4294967296:=by
  have e:V<(top+1)*(4294967296*p):=by rw[K.hV,bjC,Nat.one_mul];omega
  have u:V*4294967296<=(top+1)*(4294967296*p)*4294967296:=biX _ (Nat.le_of_lt e);have i:head*(4294967296*p)<(top+1)*4294967296*(4294967296*p):=by
   have:(top+1)*(4294967296*p)*4294967296=(top+1)*4294967296*(4294967296*p):=by rw[biT,biW (4294967296*p) 4294967296,<-biT]
   omega
  exact Nat.lt_of_mul_lt_mul_right i
 have h5:head/top<4294967296+2:=by rw[blD Om];omega
 omega
end
theorem EN:∀(k n:Nat),fH (k+1) n=fH k n++[n/4294967296^k%4294967296]
 |0,n=>by simp[fH]
 |k+1,n=>by show(n%4294967296)::fH (k+1) (n/4294967296)=(n%4294967296)::fH k (n/4294967296)++[n/4294967296^(k+1)%4294967296];rw[EN k (n/4294967296),Nat.div_div_eq_div_mul,bjU,biW 4294967296];rfl
theorem DO{xs:List Nat}(h:Lim xs):∀{k:Nat},k<=Z' xs->val (xs.drop k)=val xs/4294967296^k:=by
 intro k d;have e:val xs=val (xs.take k)+4294967296^k*val (xs.drop k):=by
  conv=>lhs;rw[<-bkQ k xs,kL,biI,bkG d]
 have i:=iU (h.take k);rw[biI,bkG d]at i;rw[e,Nat.add_mul_div_left _ _ (bkW aS),blR i,biN]
theorem sn{R s i d l X:Nat}(u:s<32)(h:R/4294967296^i=d+4294967296*(l+4294967296*X)):(R/2^s)/4294967296^i%4294967296=(4294967296*l+d)/2^s%4294967296:=by
 rw[Nat.div_div_eq_div_mul,biW (2^s),<-Nat.div_div_eq_div_mul,h];have hp:4294967296*4294967296=2^s*(2^(32-s)*4294967296):=by rw[<-biT,<-Nat.pow_add,show s+(32-s)=32 by omega]
 have e:d+4294967296*(l+4294967296*X)=(4294967296*l+d)+2^s*(2^(32-s)*X*4294967296):=by
  have:4294967296*(4294967296*X)=2^s*(2^(32-s)*X*4294967296):=by rw[<-biT,hp,biT,biT,biT,biW 4294967296 X]
  rw[biH,this];omega
 rw[e,Nat.add_mul_div_left _ _ (bkW aS),Nat.add_mul_mod_self_right]
end Go.Na
namespace Go.PM
open Go Go.Na
theorem a4I{A W Z:List Nat}{i:Nat}(hi:i<Z' W):(aO (A++W++Z))[Z' A+i]?=some [.int .u32 ((W[i]:Nat):Int)]:=by
 have d:Z' A+i<(A++W++Z).length:=by simp;omega
 rw[cI _ d];congr 4;rw[bmC (by simp;omega),bmA Om];congr 1;omega
def dF(u v:PV)(n:Nat)(q:PV)(top next j s:Nat):PF:=((((((((n_.set 8 (.int .u64 s)).set 9 (u)).set 10 (v)).set 11 (.int .i64 n)).set 12 (q)).set 13 (.int .u64 top)).set 14 (.int .u64 next)).set 15 (.int .i64 j))
def dG(u v:PV)(n:Nat)(q:PV)(top next j s g r:Nat):PF:=((((((((((n_.set 8 (.int .u64 s)).set 9 (u)).set 10 (v)).set 11 (.int .i64 n)).set 12 (q)).set 13 (.int .u64 top)).set 14 (.int .u64 next)).set 15 (.int .i64 j)).set 17 (.int .u64 g)).set 18 (.int .u64 r))
variable{C:Ctx}
theorem Wb{V y top next Z head e Wr p:Nat}(i:Kn V y top next Z head e Wr p)(htop:top<4294967296)(o l m j s:Nat)(v q:PV)(ζ:j+m+2<l)(η:l<=100000)(U:List Nat)(hU:(aO U)[j+m]?=some [.int .u32 (e:Nat)])(K:cF)(F:PF)(H:PH)
  (hF:(dG (.osl o 1 0 l) v (m+2) q top next j s (head/top) (head%top)).le F) (hH:H o=some (.rows 1 (aO U)))
  (Y:∀g r x,y/V<=g->g<=y/V+1->g<=4294967296->(dG (.osl o 1 0 l) v (m+2) q top next j s g r).le x->K .normal x H) :
  aC.wp C (.block 4 (.loop DY)) K F H:=by
 have X:0<top:=by have:=i.htop;omega
 have hn:=i.bgZ;have hu2:=i.hu2;simp only[go_sem];refine wp_loop (α:=Nat × Nat) (λt=>dG (.osl o 1 0 l) v (m+2) q top next j s t.1 t.2) (λ_=>H) (λt=>t.1*top+t.2=head/\y/V<=t.1/\t.1<=4294967296+1/\t.2<4294967296) (λt=>t.1) (head/top,head%top)
  ⟨by simp only;rw[biW];exact blQ head top,i.g0,i.g4,Nat.lt_trans (bjR _ X) htop⟩ hF b_ ?_
 rintro⟨g,r⟩ ⟨J,W,S,hr⟩;simp only at J W S hr;have e1:i_.wrap ((j:Int)+((m+2:Nat):Int))=((j+(m+2):Nat):Int):=kS Om;have e2:i_.wrap (((j+(m+2):Nat):Int)-2)=((j+m:Nat):Int):=by rw[wrap_i64 Om Om];omega
 have hlt:((j+m:Nat):Int)<(l:Nat):=Om;have O:u_.wrap ((e:Nat):Int)=((e:Nat):Int):=bS Om;have B:shift .shl .u64 (r:Int) 32=some (.int .u64 ((2^32*r:Nat):Int)):=YC (s:=32) Om Om;have N:(2:Nat)^32=4294967296:=by decide
 have A:=orI (a:=2^32*r) (b:=e) (n:=2^32*r+e) Om Om (Nat.two_pow_add_eq_or_of_lt Om r).symm Om;rw[N]at B A;have more:(g>=4294967296\/g*next>r*4294967296+e)->∀x:PF,(dG (.osl o 1 0 l) v (m+2) q top next j s g r).le x->aC.wp C (.block 5 (.seq (.region PE) (.seq (.region PG) (.seq (.region PI) (.cond (.tmp 136) (.exit 4) .skip)))))
   (gG (λt:Nat × Nat=>dG (.osl o 1 0 l) v (m+2) q top next j s t.1 t.2) (λ_=>H) (λt=>t.1*top+t.2=head/\y/V<=t.1/\t.1<=4294967296+1/\t.2<4294967296) (λt=>t.1) g (fS 4 K)) x H:=by
  intro hc x d;obtain⟨g1,g2⟩:=i.g1 J W hc;have f8:=d 8 _ (by unfold dG;simp only[go_sem];rfl);have f9:=d 9 _ (by unfold dG;simp only[go_sem];rfl);have β:=d 10 _ (by unfold dG;simp only[go_sem];rfl);have f11:=d 11 _ (by unfold dG;simp only[go_sem];rfl);have γ:=d 12 _ (by unfold dG;simp only[go_sem];rfl);have f13:=d 13 _ (by unfold dG;simp only[go_sem];rfl);have f14:=d 14 _ (by unfold dG;simp only[go_sem];rfl);have δ:=d 15 _ (by unfold dG;simp only[go_sem];rfl);have Q:=d 17 _ (by unfold dG;simp only[go_sem];rfl);have R:=d 18 _ (by unfold dG;simp only[go_sem];rfl);have w1:u_.wrap ((g:Int)-1)=((g-1:Nat):Int):=by rw[wrap_u64 Om Om];omega
  have w2:u_.wrap ((r:Int)+(top:Int))=((r+top:Nat):Int):=iV Om;have E:(g-1)*top+(r+top)=head:=by obtain⟨k,rfl⟩:∃k,g=k+1:=⟨g-1,by omega⟩;rw[bjC,Nat.one_mul]at J;simp only[Nat.add_sub_cancel];omega
  simp only[go_sem,PE,PG,PI,Q,R,f13,w1,w2];by_cases c:r+top>=4294967296
  ·have M:((r+top:Nat):Int)>=4294967296:=Om;simp only[go_sem,M];refine Y (g-1) (r+top) _ g2 (i.g3 E Om c) Om ?_;unfold dG;exact Lq
  ·have M:¬((r+top:Nat):Int)>=4294967296:=Om;simp only[go_sem,M];refine aJ (g-1,r+top) ⟨E,g2,by simp only;omega,by simp only;omega⟩ (by simp only;omega) ?_ b_;unfold dG;exact Lq
 simp only[go_sem,DY,qy,dG];by_cases c1:g>=4294967296
 ·have u:(g:Int)>=4294967296:=Om;simp only[go_sem,u];have:=more (.inl c1);simp only[go_sem,dG]at this;refine this _ ?_;exact Lq
 ·have u:¬(g:Int)>=4294967296:=Om;have ε:g*next<=4294967295*4294967295:=blA Om Om
  have em:u_.wrap ((g:Int)*(next:Int))=((g*next:Nat):Int):=by rw[show(g:Int)*(next:Int)=((g*next:Nat):Int) by simp];exact bS Om
  simp only[go_sem,u,em,B,e1,e2,hlt,hH,hU,O,A];by_cases c2:g*next>r*4294967296+e
  ·have w:((g*next:Nat):Int)>((4294967296*r+e:Nat):Int):=Om;simp only[go_sem,w];have:=more (.inr c2);simp only[go_sem,dG]at this;refine this _ ?_;exact Lq
  ·have w:¬((g*next:Nat):Int)>((4294967296*r+e:Nat):Int):=Om;simp only[go_sem,w];refine Y g r _ W (i.g2 J Om Om) Om ?_;unfold dG;exact Lq
end Go.PM
namespace Go.Na
theorem baK{W v:List Nat}{m:Nat}(hW:Lim W)(d:Lim v)(u:Z' v=m+2)(p:Z' W=m+3)(w:2147483648<=v[m+1])(hlt:val W<val v*4294967296) :
  Kn (val v) (val W) (v[m+1]) (v[m]) (val (v.take m)) (W[m+2]*4294967296+W[m+1]) (W[m]) (val (W.take m)) (4294967296^m):=by
 have l:val v=val (v.take m)+4294967296^m*(v[m]+4294967296*v[m+1]):=by
  rw[AC v (Om:m<Z' v)];congr 4;have:v.drop (m+1)=[v[m+1]]:=by rw[bjS Om,blV Om]
  rw[this];simp[val]
 have e2:val W=val (W.take m)+4294967296^m*(W[m]+4294967296*(W[m+1]+4294967296*W[m+2])):=by
  rw[AC W (Om:m<Z' W)];congr 4;have:W.drop (m+1)=[W[m+1],W[m+2]]:=by rw[bjS Om,bjS Om,blV Om]
  rw[this];simp[val]
 have e:=iU (d.take m);have i:=iU (hW.take m);rw[biI,bkG Om]at e i;refine⟨?_,?_,e,i,w,d _ (bhS _),hW _ (bhS _),hlt⟩
 ·rw[l,biH,biW (4294967296^m) (v[m]),<-biT (4294967296^m),biW (4294967296^m*4294967296),biW (4294967296^m) 4294967296];omega
 ·rw[e2,biH,biW (4294967296^m) (W[m]),<-biT (4294967296^m),biW (4294967296^m*4294967296),biW (4294967296^m) 4294967296,biW (W[m+2]),Nat.add_comm (4294967296*W[m+2])];omega
end Go.Na
namespace Go.PM
open Go Go.Na
structure Wo(C:Ctx):Prop where
 subtract:∀(A W Z v:List Nat)(f o:Nat),Lim W->Lim v->Z' W=Z' v+1->Z' A+Z' v<=100000->f<=4294967296->val v*f<=val W+4294967296^(Z' v+1) ->
  aH C 142 [.osl o 1 A.length (Z' v+1),aN v,.int .u64 f] (h_.set o (.rows 1 (aO (A++W++Z)))) (λr H'=>r=.bool (decide (val W<val v*f))/\H'=h_.set o (.rows 1 (aO (A++fH (Z' v+1) (YJ (Z' v+1) (val W) (val v*f))++Z))))
 restore:∀(A W Z v:List Nat)(o:Nat),Lim W->Lim v->Z' W=Z' v+1->Z' A+Z' v<=100000 ->
  aH C 139 [.osl o 1 A.length (Z' v+1),aN v] (h_.set o (.rows 1 (aO (A++W++Z)))) (λr H'=>r=.tup []/\H'=h_.set o (.rows 1 (aO (A++fH (Z' v+1) (val W+val v)++Z))))
theorem Zz(k n:Nat):fH k (n%4294967296^k)=fH k n:=
 axC (sD _ _) (sD _ _) (by rw[qP,qP]) (by rw[LC,LC,Nat.mod_mod])
variable{C:Ctx}
theorem Wa(D:Wo C)(A W Z v Q:List Nat)(m o O N s:Nat)(Y:O≠o)(hW:Lim W)(hv:Lim v)(ν:Z' v=m+2)(μ:Z' W=m+3)(ht:2147483648<=v[m+1])(hlt:val W<val v*4294967296)
  (n':N=Z' A+(m+3)+Z' Z) (i':N<=10000) (Ψ:Z' A<Z' Q) (K:cF) (F:PF) (H:PH) (R:(dF (.osl o 1 0 N) (aN v) (m+2) (.osl O 1 0 Q.length) (v[m+1]) (v[m]) A.length s).le F)
  (hH:H o=some (.rows 1 (aO (A++W++Z)))) (θ:H O=some (.rows 1 (aO Q)))
  (hK:∀F' H',(dF (.osl o 1 0 N) (aN v) (m+2) (.osl O 1 0 Q.length) (v[m+1]) (v[m]) A.length s).le F'->H' o=some (.rows 1 (aO (A++fH (m+3) (val W%val v)++Z)))->H' O=some (.rows 1 (aO (Q.set A.length (val W/val v))))->K .normal F' H') :
  aC.wp C (.block 3 (.seq (.draw PC) (.seq (.draw PD) (.seq (.block 4 (.loop DY)) (.seq (.seq (.region PJ) (.cond (.tmp 146) (.seq (.region PK) (.region PL)) .skip)) (.region DZ)))))) K F H:=by
 have Kk:=baK hW hv ν μ ht hlt;have p:∀i (h:i<Z' W),(aO (A++W++Z))[Z' A+i]?=some [.int .u32 ((W[i]:Nat):Int)]:=λi h=>a4I h;have g0:=p (m+2) Om;have g1:=p (m+1) Om;have g2:=p m Om;have hq:=Kk.a7G;have htop:v[m+1]<4294967296:=hv _ (bhS _);have r':=hW _ (bhS (Om:m+2<Z' W));have s':=hW _ (bhS (Om:m+1<Z' W));have X:=Kk.X0.1;generalize q':v[m+1]=top at *
 generalize o':v[m]=next at *
 generalize t':W[m+2]=y at *
 generalize u':W[m+1]=u1 at *
 generalize v':W[m]=u2 at *
 have f8:=R 8 _ (by unfold dF;simp only[go_sem];rfl);have f9:=R 9 _ (by unfold dF;simp only[go_sem];rfl);have Γ:=R 10 _ (by unfold dF;simp only[go_sem];rfl);have f11:=R 11 _ (by unfold dF;simp only[go_sem];rfl);have Δ:=R 12 _ (by unfold dF;simp only[go_sem];rfl);have f13:=R 13 _ (by unfold dF;simp only[go_sem];rfl);have f14:=R 14 _ (by unfold dF;simp only[go_sem];rfl);have δ:=R 15 _ (by unfold dF;simp only[go_sem];rfl);have e1:i_.wrap ((Z' A:Int)+((m+2:Nat):Int))=((Z' A+(m+2):Nat):Int):=kS Om;have e2:i_.wrap (((Z' A+(m+2):Nat):Int)-1)=((Z' A+(m+1):Nat):Int):=by rw[wrap_i64 Om Om];omega
 have c0:((Z' A+(m+2):Nat):Int)<(N:Nat):=Om;have c1:((Z' A+(m+1):Nat):Int)<(N:Nat):=Om;have ψ:u_.wrap ((y:Nat):Int)=((y:Nat):Int):=bS Om;have ω:u_.wrap ((u1:Nat):Int)=((u1:Nat):Int):=bS Om;have γ:shift .shl .u64 (y:Int) 32=some (.int .u64 ((2^32*y:Nat):Int)):=YC (s:=32) Om Om;have χ:(2:Nat)^32=4294967296:=by decide
 have U:=orI (a:=2^32*y) (b:=u1) (n:=2^32*y+u1) Om Om (Nat.two_pow_add_eq_or_of_lt Om y).symm Om;rw[χ]at γ U;have Λ:4294967296*y+u1=y*4294967296+u1:=Om;rw[Λ]at U;simp only[go_sem];refine bV H eW b_ ?_;simp only[go_sem,PC,f9,δ,f11,e1,e2,c0,c1,hH,g0,g1,ψ,ω,γ,U];refine bV H eW b_ ?_;have p':0<top:=Om;have c':¬((top:Nat):Int)=0:=Om;generalize m':y*4294967296+u1=head at *
 have α:u_.wrap (Int.tdiv ((head:Nat):Int) ((top:Nat):Int))=((head/top:Nat):Int):=by rw[show Int.tdiv ((head:Nat):Int) ((top:Nat):Int)=((head/top:Nat):Int)from rfl];exact bS (by have:=Kk.g4;omega)
 have β:Int.tmod ((head:Nat):Int) ((top:Nat):Int)=((head%top:Nat):Int):=rfl;simp only[go_sem,PD,f13,c',α,β];have l:=Wb (C:=C) Kk htop o N m A.length s (aN v) (.osl O 1 0 Q.length) Om Om (A++W++Z) g2;simp only[go_sem]at l;refine l _ _ H ?_ hH ?_
 ·unfold dG;refine d_ (d_ (d_ (d_ (d_ (d_ (d_ (d_ (d_ (d_ c_ ?_) ?_) ?_) ?_) ?_) ?_) ?_) ?_) ?_) ?_<;>simp only[go_sem,f8,f9,Γ,f11,Δ,f13,f14,δ]
 clear l;intro g r F' q1 q2 q3 d;have h8:=d 8 _ (by unfold dG;simp only[go_sem];rfl);have h9:=d 9 _ (by unfold dG;simp only[go_sem];rfl);have B:=d 10 _ (by unfold dG;simp only[go_sem];rfl);have E:=d 11 _ (by unfold dG;simp only[go_sem];rfl);have ε:=d 12 _ (by unfold dG;simp only[go_sem];rfl);have ζ:=d 13 _ (by unfold dG;simp only[go_sem];rfl);have η:=d 14 _ (by unfold dG;simp only[go_sem];rfl);have J:=d 15 _ (by unfold dG;simp only[go_sem];rfl);have V:=d 17 _ (by unfold dG;simp only[go_sem];rfl);have e3:i_.wrap (((Z' A+(m+2):Nat):Int)+1)=((Z' A+(m+3):Nat):Int):=by rw[wrap_i64 Om Om];omega
 have c3:(Z' A:Int)<=((Z' A+(m+3):Nat):Int):=Om;have c4:((Z' A+(m+3):Nat):Int)<=(N:Nat):=Om;have e4:Z' A+(m+3)-Z' A=Z' v+1:=Om;have w:Z' v+1=m+3:=Om;have l':val v*(val W/val v)+val W%val v=val W:=blQ _ _;have ι:=iU hW;rw[μ]at ι;have φ:val W%val v<val v:=bjR _ X;have σ:=iU hv;rw[ν]at σ;have ο:4294967296^(m+3)=4294967296^(m+2)*4294967296:=bjU _ _;generalize j':val W/val v=x at *
 generalize k':val W%val v=rd at *
 have S:∀(u:PF)(H2:PH),u 8=some (.int .u64 s)->u 9=some (.osl o 1 0 N)->u 10=some (aN v)->u 11=some (.int .i64 ((m+2:Nat):Int))->u 12=some (.osl O 1 0 Q.length)->u 13=some (.int .u64 top)->u 14=some (.int .u64 next)->u 15=some (.int .i64 A.length)->u 17=some (.int .u64 x) ->
   H2 o=some (.rows 1 (aO (A++fH (m+3) rd++Z)))->H2 O=some (.rows 1 (aO Q))->aC.wp C (.region DZ) (fS 3 K) u H2:=by
  intro u H2 k8 k9 d' e' τ f' g' υ h' kH kQ;have b':(aO Q)[Z' A]?=some [.int .u32 ((Q[Z' A]:Nat):Int)]:=cI Q Ψ;have a':(Z' A:Int)<(Z' Q:Nat):=Om;have eq:IntKind.u32.wrap ((x:Nat):Int)=((x:Nat):Int):=by rw[dH,bjM hq]
  have ρ:=jS Q A.length x;have ξ:¬o=O:=λh=>Y h.symm;simp only[go_sem,DZ,τ,υ,h',eq,a',kQ,b',ρ];refine hK _ _ ?_ (by simp only[go_sem,ξ,kH]) Sq;unfold dF;refine d_ (d_ (d_ (d_ (d_ (d_ (d_ (d_ c_ ?_) ?_) ?_) ?_) ?_) ?_) ?_) ?_<;>simp only[go_sem,k8,k9,d',e',τ,f',g',υ]
 have Ω:(h_.set o (.rows 1 (aO (A++W++Z)))).le H:=e_ a_ hH;have κ:val v*g<=val W+4294967296^(Z' v+1):=by have:val v*g<=val v*(x+1):=bkH _ q2;rw[biH,blB]at this;rw[w,ο];omega
 simp only[go_sem,PJ,h9,J,E,e1,e3,c3,c4,e4,B,V];refine nE (D.subtract A W Z v g o hW hv Om Om q3 κ) rfl Ω ?_;rintro rr H' ⟨rfl,rfl⟩ -;rw[PH.BO];by_cases Φ:g=x
 ·subst Φ;have e:¬val W<val v*g:=Om;have hN:YJ (Z' v+1) (val W) (val v*g)=rd:=by unfold YJ;rw[aE e];omega
  rw[hN,w];simp only[go_sem,e];have:=S;simp only[go_sem]at this;refine this _ _ ?_ ?_ ?_ ?_ ?_ ?_ ?_ ?_ ?_ ?_ ?_<;>simp only[go_sem,h8,h9,B,E,ε,ζ,η,J,V,Y,θ]
 ·have Ξ:g=x+1:=Om;subst Ξ;rw[biH,blB];have e:val W<val v*x+val v:=Om;have hN:YJ (Z' v+1) (val W) (val v*x+val v)=rd+4294967296^(m+3)-val v:=by unfold YJ;rw[aG e,w];omega
  rw[hN];have w1:u_.wrap (((x+1:Nat):Int)-1)=((x:Nat):Int):=by rw[wrap_u64 Om Om];omega
  simp only[go_sem,e,PK,V,w1,PL,h9,J,E,e1,e3,c3,c4,e4,B];have Θ:val (fH (Z' v+1) (rd+4294967296^(m+3)-val v))=rd+4294967296^(m+3)-val v:=uN (by rw[w];omega);refine nE (D.restore A (fH (Z' v+1) (rd+4294967296^(m+3)-val v)) Z v o (sD _ _) hv (qP _ _) Om) rfl (e_ a_ Sq) ?_;rintro rr H' ⟨rfl,rfl⟩ -;rw[PH.BO,PH.set_set,Θ];have M:fH (Z' v+1) (rd+4294967296^(m+3)-val v+val v)=fH (m+3) rd:=by rw[w,<-Zz (m+3) (rd+4294967296^(m+3)-val v+val v)];rw[show rd+4294967296^(m+3)-val v+val v=rd+4294967296^(m+3) by omega,Nat.add_mod_right,Zz]
  rw[M];simp only[go_sem];have:=S;simp only[go_sem]at this;refine this _ _ ?_ ?_ ?_ ?_ ?_ ?_ ?_ ?_ ?_ ?_ ?_<;>simp only[go_sem,h8,h9,B,E,ε,ζ,η,J,Y,θ]
open Go
section
variable {C:Ctx} {K:cF} {F:PF} {H Hs:PH} {S:Spec}
theorem atX{name:Nat}{vs:List PV}{R:PV->PH->Prop}{args:List aP}{st:Bool}{d:Option Nat}{K:PF->PH->Prop}(u:S name vs=some ([],λ_=>R))(h:aH C name vs .nil R)(e:aP.evs F args=some vs)
  (i:∀G:PH,∃r H',R r H'/\qW G .nil H') (w:∀r H',R r H'->qW H .nil H'->Hs.le (H.over .nil H')/\K (F.put d r) (H.over .nil H')):dOp C Hs S st (.call name args) d K F H:=by
 refine⟨vs,[],λ_=>R,e,u,λo y=>by simp at y,by rw[XF];exact h,λG=>?_,λr H' A e=>?_⟩
 ·obtain⟨r,H',l,p⟩:=i G;exact⟨r,H',l,λo x B E=>p o x B (by simp[h_])⟩
 ·rw[XF]at e ⊢;exact w r H' A e
theorem PH.over_self(d:PH)(h:d.le H):H.over d d=H:=PH.ext λq=>by
 rw[lO];cases e:d q with
 |none=>rfl
 |some x=>exact(h q x e).symm
theorem XG{o:Nat}{x:aY}(h:H o=some x):H.only [o]=h_.set o x:=PH.ext λq=>by
 rw[zT,bC];by_cases e:q=o
 ·subst e;simp[h]
 ·simp[e,mf]
theorem uy{name o:Nat}{x:aY}{vs:List PV}{v:PV}{R:PH->PV->PH->Prop}{args:List aP}{st:Bool}{d:Option Nat}{K:PF->PH->Prop}(E:S name vs=some ([o],R))(A:H o=some x)
  (h:aH C name vs (h_.set o x) (λr H'=>r=v/\H'=h_.set o x)) (i:R (h_.set o x) v (h_.set o x)) (p:∀r H',R (h_.set o x) r H'->r=v/\H'=h_.set o x) (J:aP.evs F args=some vs) (u:Hs.le H) (M:K (F.put d v) H) :
  dOp C Hs S st (.call name args) d K F H:=by
 have e:=XG A;refine⟨vs,[o],_,J,E,λq B=>?_,?_,λG=>⟨v,_,by rw[e];exact i,λq y N w=>?_⟩,λr H' l _=>?_⟩
 ·simp at B;subst B;exact⟨x,A⟩
 ·rw[e];exact h.post λr H' l=>⟨r,.refl _,by rw[l.1,l.2];exact i⟩
 ·rw[e]at w;rw[N]at w;cases w
 ·rw[e]at l;obtain⟨rfl,rfl⟩:=p r H' l;rw[e,PH.over_self _ (by rw[<-e];exact SK H [o])];exact⟨u,M⟩
theorem asQ{c:aC}{α:Type}(d:α->PF)(Hs:α->PH)(e:α->Prop)(m:α->Nat)(i:α)(o:Nat){s:Nat}{rs:P2_}(w:H o=some (.rows s rs))(l:e i)(p:(d i).le (F.frz o s rs))(u:(Hs i).le (H.frz o s rs))
  (hb:∀a,e a->c.wp C (gG d Hs e m (m a) K) (d a) (Hs a)):aC.wp C (.loop c) K F H:=
 ⟨α,d,Hs,e,m,i,_,_,.step o w (.refl _ _),l,p,u,hb⟩
@[go_sem] theorem IG(o s:Nat)(rs:P2_)(q:Nat):(H.frz o s rs) q=if q=o then none else(H q).map (aY.frz o s rs):=(rfl)
theorem aPK{t u o1 o2 s1 s2 k1 k2:Nat}{rs1 rs2:P2_}{R:PV->PH->Prop}{e:oH}(N:e=.normal\/e=.ret)(i:o1≠o2)(E:F t=some (.osl o1 s1 0 k1))(J:F u=some (.osl o2 s2 0 k2))(l:H o1=some (.rows s1 rs1))(p:H o2=some (.rows s2 rs2))
  (O:k1<=Z' rs1) (Q:k2<=Z' rs2) (x:rs2.map (λr=>r.map (PV.dV o1 s1 rs1))=rs2) (U:(rs1.take k1)=rs1.take k1) (M:R (.tup [.sl s1 (rs1.take k1),.sl s2 (rs2.take k2)]) .nil):aZ [.tmp t,.tmp u] R e F H:=by
 have y:∃vs,eE.evs F H [.tmp t,.tmp u]=some vs/\∃A B H2,kN (n_.set 0 (bN vs)) H A B/\H2.le B/\∃w,A 0=some w/\R w H2:=by
  have d:o2≠o1:=λh=>i h.symm;have e2:(H.frz o1 s1 rs1) o2=some (.rows s2 rs2):=by rw[IG,aE d,p];simp only[biP,aY.frz,x]
  refine⟨[.osl o1 s1 0 k1,.osl o2 s2 0 k2],by rw[pJ,sW,E,pJ,sW,J,uL],_,_,.nil,.step o1 l (.step o2 e2 (.refl _ _)),a_,_,?_,M⟩;have a1:0+k1<=Z' rs1:=Om;have a2:0+k2<=Z' rs2:=Om;simp only[PF.frz,pR,if_true,bN,biP,PV.frz,PV.tO,PV.dV,biU,bjP,true_and,aG a1,aG a2,bjG,aE d]
 rcases N with rfl|rfl<;>exact y
end
end Go.PM
namespace Go.Na
structure vC(U0 V n lu lq:Nat)(k:Nat)(U Q:List Nat):Prop where
 lu':Z' U=lu
 lq':Z' Q=lq
 limU:Lim U
 limQ:Lim Q
 v:val U+val Q*V=U0
 r:val (U.drop k)<V
 z:∀i x,i<k->Q[i]?=some x->x=0
theorem Z1{K V n J w j:Nat}{U Q:List Nat}(h:vC K V n J w (j+1) U Q)(hV:V<4294967296^n)(hj:j<w)(hl:J=w+n) :
  val ((U.drop j).take (n+1))<V*4294967296/\vC K V n J w j (U.take j++fH (n+1) (val ((U.drop j).take (n+1))%V)++U.drop (j+(n+1))) (Q.set j (val ((U.drop j).take (n+1))/V)):=by
 have S:=h.lu';have F:=h.lq';have d:0<V:=by have:=h.r;omega
 have l:j<Z' U:=Om;have X:val (U.drop j)=U[j]+4294967296*val (U.drop (j+1)):=by rw[bjS l];rfl
 have O:=h.limU _ (bhS l);have hlt:val (U.drop j)<V*4294967296:=by have:=h.r;omega
 have E:((U.drop j).take (n+1)).length=n+1:=by rw[biI,bjZ];omega
 have e2:val (U.drop j)=val ((U.drop j).take (n+1))+4294967296^(n+1)*val (U.drop (j+(n+1))):=by
  conv=>lhs;rw[<-bkQ (n+1) (U.drop j),kL,E,List.drop_drop]
 have M:4294967296^(n+1)=4294967296^n*4294967296:=bjU _ _;have R:V*4294967296<=4294967296^n*4294967296:=biX _ (Nat.le_of_lt hV);have A:val (U.drop (j+(n+1)))=0:=by
  rcases bkM (val (U.drop (j+(n+1))))with h0|h0
  ·exact h0
  ·have:=bkH (4294967296^(n+1)) h0;omega
 rw[A,Nat.mul_zero,bkA]at e2;generalize hW:val ((U.drop j).take (n+1))=W at *
 have Y:val U=val (U.take j)+4294967296^j*W:=by
  conv=>lhs;rw[<-bkQ j U,kL,biI,bkG Om,e2]
 have u:W%V<V:=bjR _ d;have B:V*(W/V)+W%V=W:=blQ _ _;have H:W/V<4294967296:=by rw[blD d,biW];omega
 have hD:val (fH (n+1) (W%V))=W%V:=uN Om;have y:Q[j]=0:=h.z j _ Om (biD Om);have e:=SS (Om:j<Z' Q) (W/V);rw[y,Nat.mul_zero,bkA]at e;have p:(U.take j).length=j:=by rw[biI];omega
 refine⟨by omega,?_,?_,?_,?_,?_,?_,?_⟩
 ·simp only[bhW,qP,bjZ,biI];omega
 ·rw[bjO];exact F
 ·exact((h.limU.take j).app (sD _ _)).app (h.limU.drop _)
 ·exact h.limQ.set _ H
 ·rw[biY,kL,kL,p,hD,qP,A,Nat.mul_zero,bkA,e];have:=h.v;have h5:(val Q+4294967296^j*(W/V))*V=val Q*V+4294967296^j*(V*(W/V)):=by rw[bjC,biT,biW (W/V) V]
  have Z:4294967296^j*W=4294967296^j*(V*(W/V))+4294967296^j*(W%V):=by rw[<-biH,B]
  omega
 ·rw[biY,List.drop_append_of_le_length Om,blV Om,blM,kL,hD,A,Nat.mul_zero,bkA];exact u
 ·intro i x hi N;rw[List.getElem?_set_ne Om]at N;exact h.z i x Om N
end Go.Na
namespace Go.PM
open Go Go.Na
def dI(u v:PV)(n:Nat)(q:PV)(top next s:Nat)(j:Int):PF:=((((((((n_.set 8 (.int .u64 s)).set 9 (u)).set 10 (v)).set 11 (.int .i64 n)).set 12 (q)).set 13 (.int .u64 top)).set 14 (.int .u64 next)).set 15 (.int .i64 j))
theorem zP(o s:Nat)(rs:P2_)(L:List Nat):(aO L).map (λr=>r.map (PV.dV o s rs))=aO L:=by
 unfold aO;rw[bkT];rfl
variable{C:Ctx}
theorem ahY(D:Wo C)(V m u i o o2 p s:Nat)(v d:List Nat)(h2:o2≠o)(h3:p≠o)(h4:p≠o2)(hv:Lim v)(N:Z' v=m+2)(ω:(aO d).take (m+2)=aO v)(Γ:m+2<=Z' d)(ht:2147483648<=v[m+1])
  (ψ:u=i+(m+2)) (O:u<=10000) (U:List Nat) (y:vC V (val v) (m+2) u i i U (bhU i 0)) (K:cF) (F:PF) (H:PH)
  (x:(dI (.osl o 1 0 u) (.osl o2 1 0 (m+2)) (m+2) (.osl p 1 0 i) (v[m+1]) (v[m]) s ((i:Int)-1)).le F) (hH:H o=some (.rows 1 (aO U))) (κ:H o2=some (.rows 1 (aO d))) (ι:H p=some (.rows 1 (aO (bhU i 0))))
  (hK:∀U' Q' S,vC V (val v) (m+2) u i 0 U' Q'->(dI (.osl o 1 0 u) (aN v) (m+2) (.osl p 1 0 i) (v[m+1]) (v[m]) s (-1)).le S->K .normal S ((h_.set o (.rows 1 (aO U'))).set p (.rows 1 (aO Q')))) :
  aC.wp C (.block 2 (.loop PA)) K F H:=by
 have f8:=x 8 _ (by unfold dI;simp only[go_sem];rfl);have f9:=x 9 _ (by unfold dI;simp only[go_sem];rfl);have X:=x 10 _ (by unfold dI;simp only[go_sem];rfl);have f11:=x 11 _ (by unfold dI;simp only[go_sem];rfl);have Y:=x 12 _ (by unfold dI;simp only[go_sem];rfl);have f13:=x 13 _ (by unfold dI;simp only[go_sem];rfl);have f14:=x 14 _ (by unfold dI;simp only[go_sem];rfl);have Z:=x 15 _ (by unfold dI;simp only[go_sem];rfl);have A:¬o=o2:=λh=>h2 h.symm;have B:¬p=o2:=h4;have R:¬o=p:=λh=>h3 h.symm;have σ:∀(k:IntKind)(n:Int),PV.frz o2 1 (aO d) (.int k n)=.int k n:=λ_ _=>rfl;have υ:∀l,PV.frz o2 1 (aO d) (.osl o 1 0 l)=.osl o 1 0 l:=λl=>by simp only[PV.frz,PV.tO,PV.dV,aE A]
 have τ:∀l,PV.frz o2 1 (aO d) (.osl p 1 0 l)=.osl p 1 0 l:=λl=>by simp only[PV.frz,PV.tO,PV.dV,aE B]
 have φ:PV.frz o2 1 (aO d) (.osl o2 1 0 (m+2))=aN v:=by
  have:0+(m+2)<=(aO d).length:=by rw[cR];omega
  simp only[PV.frz,PV.tO,PV.dV,if_true,true_and,aG this,bjG,ω]
 simp only[go_sem];refine asQ (α:=Nat × List Nat × List Nat) (λt=>dI (.osl o 1 0 u) (aN v) (m+2) (.osl p 1 0 i) (v[m+1]) (v[m]) s ((t.1:Int)-1)) (λt=>(h_.set o (.rows 1 (aO t.2.1))).set p (.rows 1 (aO t.2.2)))
  (λt=>t.1<=i/\vC V (val v) (m+2) u i t.1 t.2.1 t.2.2) (λt=>t.1) (i,U,bhU i 0) o2 κ ⟨bhV _,y⟩ ?_ ?_ ?_
 ·unfold dI;refine d_ (d_ (d_ (d_ (d_ (d_ (d_ (d_ c_ ?_) ?_) ?_) ?_) ?_) ?_) ?_) ?_<;>simp only[go_sem,f8,f9,X,f11,Y,f13,f14,Z,σ,υ,τ,φ]
 ·refine e_ (e_ a_ ?_) ?_
  ·simp only[go_sem,A,hH,aY.frz,zP]
  ·simp only[go_sem,B,ι,aY.frz,zP]
 rintro⟨k,U,Q⟩ ⟨hk,y⟩;simp only at hk y;simp only[go_sem,PA,qx,dI];by_cases h0:0<k
 ·obtain⟨j,rfl⟩:∃j,k=j+1:=⟨k-1,by omega⟩;have hz:((j+1:Nat):Int)-1=(j:Int):=Om;have χ:(j:Int)>=0:=Om;have M:val v<4294967296^(m+2):=by have:=iU hv;rw[N]at this;exact this
  obtain⟨hlt,μ⟩:=Z1 y M Om ψ;have ξ:=y.lu';have ν:=y.lq';have hA:(U.take j).length=j:=by rw[biI];omega
  have ο:((U.drop j).take (m+3)).length=m+3:=by rw[biI,bjZ];omega
  have w:U.take j++(U.drop j).take (m+3)++U.drop (j+(m+3))=U:=by rw[biY,<-List.drop_drop,bkQ,bkQ]
  have ρ:(U.drop (j+(m+3))).length=u-(j+(m+3)):=by rw[bjZ,ξ]
  have E:=Wa (C:=C) D (U.take j) ((U.drop j).take (m+3)) (U.drop (j+(m+3))) v Q m o p u s h3 ((y.limU.drop _).take _) hv N ο ht hlt (by rw[hA,ρ];omega) O (by rw[hA];omega);rw[hA,w,ν]at E;have W:i_.wrap ((j:Int)-1)=(j:Int)-1:=wrap_i64 Om Om;simp only[go_sem,hz,χ];simp only[go_sem]at E;refine E _ _ _ ?_ (by simp only[go_sem,R]) Sq ?_
  ·unfold dF;exact Lq
  ·intro S H' e θ J;have g8:=e 8 _ (by unfold dF;simp only[go_sem];rfl);have g9:=e 9 _ (by unfold dF;simp only[go_sem];rfl);have β:=e 10 _ (by unfold dF;simp only[go_sem];rfl);have γ:=e 11 _ (by unfold dF;simp only[go_sem];rfl);have δ:=e 12 _ (by unfold dF;simp only[go_sem];rfl);have ε:=e 13 _ (by unfold dF;simp only[go_sem];rfl);have ζ:=e 14 _ (by unfold dF;simp only[go_sem];rfl);have η:=e 15 _ (by unfold dF;simp only[go_sem];rfl);simp only[go_sem,qz,η,W];refine aJ (j,_,_) ⟨by simp only;omega,μ⟩ (by simp only;omega) ?_ (e_ (e_ a_ θ) J);refine d_ (d_ (d_ (d_ (d_ (d_ (d_ (d_ c_ ?_) ?_) ?_) ?_) ?_) ?_) ?_) ?_<;>simp only[go_sem,g8,g9,β,γ,δ,ε,ζ]
 ·have:k=0:=Om;subst this;have hz:¬((0:Nat):Int)-1>=0:=by decide
  simp only[go_sem,hz];refine hK U Q _ y ?_;unfold dI
  (repeat' (first|exact c_|refine d_ ?_ ?_))<;>first|(simp only[go_sem,show((0:Nat):Int)-1=-1 from rfl]<;>rfl)|rfl
open Go Go.Na
def rFr(o e l d or n s i:Nat):PF:=((((((n_.set 8 (.int .u64 s)).set 9 (.osl o 1 0 e)).set 12 (.osl l 1 0 d)).set 19 (.osl or 1 0 n)).set 166 (.int .i64 n)).set 167 (.int .i64 i))
theorem a7T{x s:Nat}(d:s<=64):shift .shr .u64 (x:Int) (s:Int)=some (.int .u64 ((x/2^s:Nat):Int)):=by
 unfold shift;rw[aE Om];simp only;have:min (bjA (s:Int)) IntKind.u64.bits=s:=by rw[show IntKind.u64.bits=64 from rfl];omega
 rw[this,Int.fdiv_eq_ediv_of_nonneg _ (by exact_mod_cast bhT _)]
 norm_cast
theorem ahZ(o p d lq n s:Nat)(U Q:List Nat)(hs:s<32)(h3:d≠o)(X:Lim U)(hl:Z' U=p)(hn:n<p)(γ:p<=10000)(K:cF)(F:PF)
  (f8:F 8=some (.int .u64 s)) (f9:F 9=some (.osl o 1 0 p)) (f11:F 11=some (.int .i64 n)) (δ:F 12=some (.osl d 1 0 lq))
  (hK:∀or F' H',or≠o->or≠d->(rFr o p d lq or n s n).le F'->H' d=some (.rows 1 (aO Q))->H' or=some (.rows 1 (aO (fH n (val U/2^s))))->K .normal F' H') :
  aC.wp C (.seq (.region PN) (.seq (.region PO) (.block 6 (.loop PB)))) K F ((h_.set o (.rows 1 (aO U))).set d (.rows 1 (aO Q))):=by
 have Z:((n:Nat):Int)*((4:Nat):Int)<=140737488355328:=Om;have β:((n:Nat):Int)<=9223372036854775807:=Om;have hz:bhU n [PV.int .u32 0]=aO ([]++bhU n 0):=by simp[aO]
 simp only[go_sem,PN,f11,Z,β,hz];refine aQ λor M=>?_;have n1:¬or=d:=(kP.1 M).1;have n2:¬or=o:=(kP.1 (kP.1 M).2).1;have w:¬d=or:=λh=>n1 h.symm;have y:¬o=or:=λh=>n2 h.symm;have n3:¬d=o:=h3;have A:¬o=d:=λh=>n3 h.symm;simp only[go_sem,PO];refine wp_loop (α:=List Nat) (λP=>rFr o p d lq or n s P.length) (λP=>((h_.set o (.rows 1 (aO U))).set d (.rows 1 (aO Q))).set or (.rows 1 (aO (P++bhU (n-Z' P) 0)))) (λP=>Z' P<=n/\P=fH P.length (val U/2^s)) (λP=>n-Z' P) []
  ⟨by simp,rfl⟩ ?_ ?_ ?_
 ·unfold rFr;exact Lq
 ·refine e_ (e_ (e_ a_ ?_) ?_) ?_<;>simp only[go_sem,n1,w,n2,y,n3,A,bkK]
 rintro P ⟨hP,hD⟩;simp only[go_sem,PB,q9,rFr];by_cases c1:Z' P<n
 ·have l:(Z' P:Int)<(n:Nat):=Om;obtain⟨k,hk⟩:∃k,n-Z' P=k+1:=⟨n-Z' P-1,by omega⟩;have Y:(aO (P++bhU (k+1) 0))[Z' P]?=some [.int .u32 ((0:Nat):Int)]:=by rw[cI _ bH];simp
  have R:Z' P<Z' U:=Om;have a1:Z' P+1<Z' U:=Om;have b0:(Z' P:Int)<(p:Nat):=Om;have b1:((Z' P+1:Nat):Int)<(p:Nat):=Om;have ε:=X _ (bhS R);have ζ:=X _ (bhS a1);have e:val U/4294967296^P.length=U[Z' P]+4294967296*(U[Z' P+1]+4294967296*val (U.drop (Z' P+2))):=by rw[<-DO X Om,bjS R,bjS a1];rfl
  have J:=sn hs e;have g0:=cI U R;have g1:=cI U a1;generalize η:U[Z' P]=u at *
  generalize θ:U[Z' P+1]=i at *
  have e1:i_.wrap ((Z' P:Int)+1)=((Z' P+1:Nat):Int):=dZ Om;have V:u_.wrap ((u:Nat):Int)=((u:Nat):Int):=bS Om;have W:u_.wrap ((i:Nat):Int)=((i:Nat):Int):=bS Om;have E:shift .shl .u64 (i:Int) 32=some (.int .u64 ((2^32*i:Nat):Int)):=YC (s:=32) Om Om;have S:(2:Nat)^32=4294967296:=by decide
  have B:=orI (a:=2^32*i) (b:=u) (n:=2^32*i+u) Om Om (Nat.two_pow_add_eq_or_of_lt Om i).symm Om;rw[S]at E B;have H:=a7T (x:=4294967296*i+u) (s:=s) Om;have O:(aO (P++bhU (k+1) 0)).set P.length [.int .u32 (((4294967296*i+u)/2^s%4294967296:Nat):Int)]=aO ((P++[(4294967296*i+u)/2^s%4294967296])++bhU k 0):=by rw[jS,IR]
  simp only[go_sem,l,rc];refine bV .nil eW a_ ?_;simp only[go_sem,re,l,e1,b0,b1,y,A,g0,g1,V,W,E,B,H,dH,hk,Y,O];refine⟨a_,?_⟩;simp only[go_sem,rg,e1];refine aJ (P++[(4294967296*i+u)/2^s%4294967296]) ⟨by simp;omega,?_⟩ (by simp;omega) ?_ (e_ (e_ (e_ a_ ?_) ?_) ?_)
  ·rw[bhW,biC,EN,<-hD,J]
  ·rw[bhW,biC];exact Lq
  ·simp only[go_sem,y,A]
  ·simp only[go_sem,w]
  ·rw[bhW,biC,show n-(Z' P+1)=k by omega];simp only[go_sem]
 ·have e:Z' P=n:=Om;have l:¬(Z' P:Int)<(n:Nat):=Om;have N:bhU (n-Z' P) 0=[]:=by rw[show n-Z' P=0 by omega];rfl
  rw[e]at hD;simp only[go_sem,l,N,bjI];refine hK or _ _ n2 n1 ?_ (by simp only[go_sem,w]) (by simp only[go_sem];rw[<-hD]);unfold rFr;rw[e];exact Lq
structure Xt(C:Ctx):Prop where
 L:yL C
 D:Wo C
 up:∀(a:List Nat)(s:Nat),Lim a->s<32->Z' a<=1000->aH C 143 [aN a,.int .u64 s] .nil (upR a s)
 short:∀(a:List Nat)(d:Nat),Lim a->0<d->d<4294967296->Z' a<=1000->aH C 140 [aN a,.int .u32 d] .nil (aI (.tup [aN (aL (val a/d)),.int .u32 ((val a%d:Nat):Int)]))
 lengthO:∀(xs:List Nat)(o:Nat),Lim xs->Z' xs<=35184372087808->aH C 138 [.osl o 1 0 xs.length] (h_.set o (.rows 1 (aO xs))) (λr H'=>r=.int .i64 (nl (val xs):Nat)/\H'=h_.set o (.rows 1 (aO xs)))
def aTG:Spec:=λname vs=>match name,vs with
 |143,[x,.int _ s]=>some ([],λ_=>upR (lE x) s.toNat)
 |138,[.osl q _ _ _]=>some ([q],λd r H'=>H'=d/\∀xs,Lim xs->d q=some (.rows 1 (aO xs))->r=.int .i64 (nl (val xs):Nat))
 |_,_=>none
theorem atY(a:List Nat)(s:Nat):aTG 143 [aN a,.int .u64 s]=some ([],λ_=>upR a s):=by
 show some _=_;rw[fA,bjN]
theorem aoJ(a:List Nat)(s:Nat):∀G:PH,∃r H',upR a s r H'/\qW G .nil H':=λG=>by
 obtain⟨o,i⟩:=G.fresh;refine⟨_,_,⟨o,rfl,rfl⟩,λq x d _=>?_⟩;rw[bC]at d;split at d
 ·rename_i e;subst e;exact i
 ·cases d
theorem gs{xs ys:List Nat}(h:aO xs=aO ys):xs=ys:=by
 have:=congrArg lE (show aN xs=aN ys by show PV.sl 1 (aO xs)=PV.sl 1 (aO ys);rw[h])
 rwa[fA,fA]at this
theorem S0(q:Nat)(L:List Nat):(h_.set q (.rows 1 (aO L)))=(h_.set q (.rows 1 (aO L)))/\∀xs,Lim xs->(h_.set q (.rows 1 (aO L))) q=some (.rows 1 (aO xs))->(PV.int .i64 (nl (val L):Nat))=.int .i64 (nl (val xs):Nat):=by
 refine⟨rfl,λxs d e=>?_⟩;rw[cZ]at e;have:aO L=aO xs:=(aY.rows.inj (bjV.inj e)).2;rw[gs this]
def xM(A B:Nat):PV:=.tup [aN (aL (A/B)),aN (aL (A%B))]
def aIF(a b:List Nat)(s:Nat):PF:=(((n_.set 0 (aN a)).set 1 (aN b)).set 8 (.int .u64 s))
theorem a4M{x s:Nat}(d:s<=31)(h:x*2^s<4294967296):shift .shl .u32 (x:Int) (s:Int)=some (.int .u32 ((x*2^s:Nat):Int)):=by
 unfold shift;rw[aE Om];simp only;have:min (bjA (s:Int)) IntKind.u32.bits=s:=by rw[show IntKind.u32.bits=32 from rfl];omega
 rw[this,show(x:Int)*2^s=((x*2^s:Nat):Int) by simp,dH,bjM h]
theorem aqG{n i x:Nat}(d:(bhU n 0)[i]?=some x):x=0:=by
 have:=bjQ d;rw[List.mem_replicate]at this;exact this.2
theorem aIH(H:Xt C)(A B:Nat)(hB:B≠0)(hA:nl A<=900)(j':nl B<=900) :
  KI.wp C (aZ Lu.res (cM (xM A B))) (g_ [aN (aL A),aN (aL B)]) .nil:=by
 have LA:=aX A;have Z:=aX B;have vA:=aV A;have vB:=aV B;have lA:(aL A).length=nl A:=rfl;have lB:(aL B).length=nl B:=rfl;simp only[go_sem,KI,F0,F6,Lu];refine aB (H.L.cmp _ _ LA Z Om Om) rfl ?_;rw[vA,vB];by_cases c1:A<B
 ·have hc:eI A B<0:=by simp[eI,c1]
  simp only[go_sem,hc,F7];refine aB (H.L.trim _ LA Om) rfl ?_;rw[vA];simp only[go_sem];refine bE (vs:=[.aK,aN (aL A)]) (.inr rfl) .nil rfl a_ ⟨?_,rfl⟩;rw[xM,blR c1,bjM c1,fG];refine .tup rfl λj p q hp hq=>?_
  match j with
  |0=>simp at hp hq;subst hp;subst hq;exact .nil 1
  |1=>simp at hp hq;subst hp;subst hq;exact .refl _
  |j+2=>simp at hp
 have hc:¬eI A B<0:=by unfold eI;rw[aE c1];split<;>decide
 have S:0<B:=bkN hB;have m':nl B≠0:=λh=>hB (lZ.1 h);simp only[go_sem,hc,F8];by_cases c2:nl B=1
 ·have δ:B<4294967296:=by have:=(mO B 1).1 Om;simpa using this
  have Φ:aL B=[B]:=uI hB δ;have Y:A%B<B:=bjR _ S;have ew:u_.wrap ((A%B:Nat):Int)=((A%B:Nat):Int):=bS Om;rw[Φ];have ο:=H.short (aL A) B LA S δ Om;rw[vA]at ο;simp only[go_sem,show(((1:Nat):Int)==1)=true from rfl,F9];refine aB ο rfl ?_;simp only[go_sem,Ga,ew];refine aB (H.L.make (A%B) Om) rfl ?_;simp only[go_sem];exact bE (vs:=[aN (aL (A/B)),aN (aL (A%B))]) (.inr rfl) .nil rfl a_ ⟨.refl _,rfl⟩
 obtain⟨m,hm⟩:∃m,nl B=m+2:=⟨nl B-2,by omega⟩;have i':nl B<=nl A:=jL Om;obtain⟨bt,w,f'⟩:=amS Z (n:=m+1) (by rw[vB];exact hm);have M:m+1<(aL B).length:=Om;have κ:bt<4294967296:=Z bt (bjQ w);have k':B=val ((aL B).take (m+1))+4294967296^(m+1)*bt:=by have l:=dA (aL B) M;rw[biK Om,vB]at l;rw[biD M]at w;rw[bjV.inj w]at l;exact l
 have U:=iU (Z.take (m+1));rw[biI,bkG Om]at U;have ξ:(aO (aL B))[m+1]?=some [.int .u32 ((bt:Nat):Int)]:=by rw[cI _ M];rw[biD M]at w;rw[bjV.inj w]
 have i1:i_.wrap ((((aL B).length:Nat):Int)-1)=((m+1:Nat):Int):=by rw[wrap_i64 Om Om];omega
 have μ:¬(((aL B).length:Nat):Int)=1:=Om;simp only[go_sem,bL μ,Gb];refine wp_loop (α:=Nat) (λs=>aIF (aL A) (aL B) s) (λ_=>.nil) (λs=>s<=31/\bt*2^s<4294967296) (λs=>32-s) 0 ⟨by omega,by simpa using κ⟩ ?_ a_ ?_
 ·unfold aIF;exact Lq
 rintro s ⟨hs,Λ⟩;have φ:=a4M hs Λ;simp only[go_sem,Fy,Gc,aIF,i1,ξ,φ];refine aSW ?_ ?_
 ·intro c3;have υ:=of_decide_eq_true c3;have g':s<31:=by
   rcases biR s 31 with h|h
   ·exact h
   ·exfalso;have l:2147483648<=2^s:=blS (show 0<2 by decide) h;have J:1*2^s<=bt*2^s:=biX _ Om;omega
  have es:u_.wrap ((s:Int)+1)=((s+1:Nat):Int):=by rw[wrap_u64 Om Om];omega
  simp only[go_sem,Gd,es];refine aJ (s+1) ⟨by omega,by rw[bjU,<-biT];omega⟩ Om ?_ a_;exact Lq
 intro c3;have υ:=of_decide_eq_false c3;have E:s<32:=Om;have y:0<2^s:=bkW aS;have Q:2147483648*4294967296^(m+1)<=B*2^s:=by
  have l:2147483648*4294967296^(m+1)<=(bt*2^s)*4294967296^(m+1):=biX _ Om;have J:(4294967296^(m+1)*bt)*2^s<=B*2^s:=biX _ Om;have h3:(4294967296^(m+1)*bt)*2^s=(bt*2^s)*4294967296^(m+1):=by rw[biT,biW]
  omega
 have ι:B*2^s<4294967296^(m+2):=by
  have h0:(bt+1)*2^s<=4294967296:=by
   have h':(4294967296:Nat)=2^(32-s)*2^s:=by rw[<-Nat.pow_add,show 32-s+s=32 by omega]
   have:bt<2^(32-s):=by
    rcases biR bt (2^(32-s))with h|h
    ·exact h
    ·have:=biX (2^s) h;omega
   have:=biX (2^s) (show bt+1<=2^(32-s)from this);omega
  have l:B<(bt+1)*4294967296^(m+1):=by rw[bjC,Nat.one_mul,biW bt];omega
  have J:B*2^s<(bt+1)*4294967296^(m+1)*2^s:=Nat.mul_lt_mul_of_pos_right l y;have h3:(bt+1)*4294967296^(m+1)*2^s=(bt+1)*2^s*4294967296^(m+1):=Nat.mul_right_comm _ _ _;have h4:(bt+1)*2^s*4294967296^(m+1)<=4294967296*4294967296^(m+1):=biX _ h0;have h5:4294967296^(m+2)=4294967296*4294967296^(m+1):=by rw[bjU,biW]
  omega
 have O:A<4294967296^nl A:=(mO A _).1 (bhV _);simp only[go_sem];refine bV .nil aTG a_ ?_;simp only[go_sem,qr];have ua:=H.up (aL A) s LA E Om;have ub:=H.up (aL B) s Z E Om;refine atX (atY (aL A) s) ua rfl (aoJ _ _) ?_;rintro r H' ⟨o,rfl,rfl⟩ -;rw[PH.qV,lA,vA];refine⟨a_,?_⟩;simp only[go_sem];refine atX (atY (aL B) s) ub rfl (aoJ _ _) ?_;rintro r H' ⟨o2,rfl,rfl⟩ Θ;rw[PH.qV,lB,vB,hm];refine⟨a_,?_⟩;have Ξ:=Θ o2 _ (by rw[bC,aG rfl]) (by rfl);have σ:¬o2=o:=(kP.1 Ξ).1;have d':¬o=o2:=λh=>σ h.symm;have k1:((m+2:Nat):Int)<=((m+2+1:Nat):Int):=Om;have k2:i_.wrap (((nl A+1:Nat):Int)-((m+2:Nat):Int))=((nl A+1-(m+2):Nat):Int):=by rw[wrap_i64 Om Om];omega
 obtain⟨d,Ψ⟩:∃d,nl A+1-(m+2)=d:=⟨_,rfl⟩;have Ω:nl A+1=d+(m+2):=Om;rw[Ψ]at k2;have k3:((d:Nat):Int)*((4:Nat):Int)<=140737488355328:=Om;have k4:((d:Nat):Int)<=9223372036854775807:=Om;have hz:bhU d [PV.int .u32 0]=aO (bhU d 0):=by simp[aO]
 have k5:m+2-0=m+2:=Om;simp only[go_sem,lB,hm,k1,k5,qt,qu,k2,k3,k4,hz];refine aQ λF ν=>?_;have q2:¬F=o2:=(kP.1 ν).1;have q1:¬F=o:=(kP.1 (kP.1 ν).2).1;have τ:¬o2=F:=λh=>q2 h.symm;have e':¬o=F:=λh=>q1 h.symm;have a':fH (m+2+1) (B*2^s)=fH (m+2) (B*2^s)++[B*2^s/4294967296^(m+2)%4294967296]:=EN _ _;have Lv:=sD (m+2) (B*2^s);have lv:=qP (m+2) (B*2^s);have vv:val (fH (m+2) (B*2^s))=B*2^s:=uN ι;have ρ:(aO (fH (m+2+1) (B*2^s))).take (m+2)=aO (fH (m+2) (B*2^s)):=by unfold aO;rw[<-bkY,a',List.take_append_of_le_length Om,biK Om]
 generalize p':fH (m+2) (B*2^s)=v at *
 have q':(fH (m+2+1) (B*2^s)).length=m+2+1:=qP _ _;have N:∀i (h:i<Z' v),(aO (fH (m+2+1) (B*2^s)))[i]?=some [.int .u32 ((v[i]:Nat):Int)]:=by intro i h;have l:(aO v)[i]?=some [.int .u32 ((v[i]:Nat):Int)]:=cI v h;rw[<-ρ,List.getElem?_take_of_lt Om]at l;exact l
 have g1:=N (m+1) Om;have g0:=N m Om;have htop:2147483648<=v[m+1]:=by
  have l:=dA v (Om:m+1<Z' v);rw[biK Om,vv]at l;have J:=iU (Lv.take (m+1));rw[biI,bkG Om]at J;rcases biR v[m+1] 2147483648 with h|h
  ·exfalso;have h3:4294967296^(m+1)*(v[m+1]+1)<=4294967296^(m+1)*2147483648:=bkH _ h;rw[biH,blB]at h3;rw[biW 2147483648]at Q;omega
  ·exact h
 have o':=Lv _ (bhS (Om:m+1<Z' v));have n':=Lv _ (bhS (Om:m<Z' v));have w1:u_.wrap ((v[m+1]:Nat):Int)=((v[m+1]:Nat):Int):=bS Om;have w0:u_.wrap ((v[m]:Nat):Int)=((v[m]:Nat):Int):=bS Om;have j1:i_.wrap (((m+2:Nat):Int)-1)=((m+1:Nat):Int):=by rw[wrap_i64 Om Om];omega
 have j0:i_.wrap (((m+2:Nat):Int)-2)=((m:Nat):Int):=by rw[wrap_i64 Om Om];omega
 have d1:((m+1:Nat):Int)<((m+2:Nat):Int):=Om;have d0:((m:Nat):Int)<((m+2:Nat):Int):=Om;have jq:i_.wrap ((d:Int)-1)=(d:Int)-1:=wrap_i64 Om Om;simp only[go_sem];refine bV .nil eW a_ ?_;simp only[go_sem,qv,j1,j0,d1,d0,τ,g1,g0,w1,w0,qw,jq];have θ:A*2^s<4294967296^(nl A+1):=by
  have h0:2^s<=4294967296:=by have:(2:Nat)^s<=2^32:=blS aS Om;simpa using this
  have l:A*2^s<4294967296^nl A*2^s:=Nat.mul_lt_mul_of_pos_right O y;have J:4294967296^nl A*2^s<=4294967296^nl A*4294967296:=bkH _ h0;rw[bjU];omega
 have LU:=sD (nl A+1) (A*2^s);have lU:=qP (nl A+1) (A*2^s);have vU:val (fH (nl A+1) (A*2^s))=A*2^s:=uN θ;have hI:vC (A*2^s) (val v) (m+2) (nl A+1) d d (fH (nl A+1) (A*2^s)) (bhU d 0):=by
  refine⟨lU,List.length_replicate,LU,EV _,by rw[vU,AG];omega,?_,λi x _ hx=>aqG hx⟩
  ·rw[DO LU Om,vU,vv,blD (bkW aS)];have l:A*2^s<4294967296^nl A*2^s:=Nat.mul_lt_mul_of_pos_right O y;have hx:nl A=m+1+d:=Om;have J:4294967296^nl A=4294967296^(m+1)*4294967296^d:=by rw[hx,Nat.pow_add]
   have h3:2^s<=2147483648:=by have:(2:Nat)^s<=2^31:=blS aS hs;simpa using this
   have h4:4294967296^nl A*2^s<=(2147483648*4294967296^(m+1))*4294967296^d:=by rw[J,biW (4294967296^(m+1)*4294967296^d),<-biT];exact biX _ (biX _ h3)
   have h5:(2147483648*4294967296^(m+1))*4294967296^d<=B*2^s*4294967296^d:=biX _ Q;omega
 have X:=ahY (C:=C) H.D (A*2^s) m (nl A+1) d o o2 F s v (fH (m+2+1) (B*2^s)) σ q1 q2 Lv lv ρ Om htop Ω Om _ hI;simp only[go_sem]at X;refine X _ _ _ ?_ (by simp only[go_sem,d',e']) (by simp only[go_sem,τ]) Sq ?_
 ·unfold dI;exact Lq
 clear X;intro U' u F' e K;have hu:val U'<val v:=by have:=e.r;rwa[bjG]at this
 have W:=e.v;rw[vv]at hu W;have Δ:0<B*2^s:=Om;have ω:val u=A/B:=by
  have:A*2^s/(B*2^s)=val u:=by rw[<-W,Nat.add_mul_div_right _ _ Δ,blR hu,biN]
  rw[<-this,Nat.mul_div_mul_right _ _ y]
 have Γ:val U'/2^s=A%B:=by
  have:A*2^s%(B*2^s)=val U':=by rw[<-W,Nat.add_mul_mod_self_right,bjM hu]
  rw[<-this,Nat.mul_mod_mul_right,Nat.mul_div_cancel _ y]
 have g8:=K 8 _ (by unfold dI;simp only[go_sem];rfl);have g9:=K 9 _ (by unfold dI;simp only[go_sem];rfl);have χ:=K 11 _ (by unfold dI;simp only[go_sem];rfl);have ψ:=K 12 _ (by unfold dI;simp only[go_sem];rfl);have rest:=ahZ (C:=C) o (nl A+1) F d (m+2) s U' u E q1 e.limU e.lu' Om Om;simp only[go_sem]at rest;simp only[go_sem];refine rest _ _ g8 g9 χ ψ ?_;clear rest;intro or F2 H2 r1 r2 ε ζ V;rw[Γ]at V;have b':=ε 12 _ (by unfold rFr;simp only[go_sem];rfl);have c':=ε 19 _ (by unfold rFr;simp only[go_sem];rfl);have η:A%B<4294967296^(m+2):=by have l:A%B<B:=bjR _ S;have J:B<4294967296^nl B:=(mO B _).1 (bhV _);rw[hm]at J;omega
 have LR:=sD (m+2) (A%B);have lR:=qP (m+2) (A%B);have vR:val (fH (m+2) (A%B))=A%B:=uN η;have nQ:=jR e.limQ;have nR:=jR LR;have e1:=e.lq';generalize l':fH (m+2) (A%B)=R at *
 simp only[go_sem];refine bV .nil aTG a_ ?_;simp only[go_sem,rh,b'];have β:=H.lengthO u F e.limQ Om;rw[e1]at β;have γ:=H.lengthO R or LR Om;rw[lR]at γ;refine uy (o:=F) (x:=.rows 1 (aO u)) (v:=.int .i64 (nl (val u):Nat)) rfl ζ β (S0 F u) (λr H' Y=>⟨Y.2 u e.limQ (by rw[cZ]),Y.1⟩) rfl a_ ?_;have c4:((nl (val u):Nat):Int)<=(d:Nat):=Om;simp only[go_sem,c4,c',Nat.sub_zero];refine uy (o:=or) (x:=.rows 1 (aO R)) (v:=.int .i64 (nl (val R):Nat)) rfl V γ (S0 or R) (λr H' Y=>⟨Y.2 R LR (by rw[cZ]),Y.1⟩) rfl a_ ?_;have c5:((nl (val R):Nat):Int)<=((m+2:Nat):Int):=Om;simp only[go_sem,c5];refine aPK (o1:=F) (o2:=or) (s1:=1) (s2:=1) (k1:=nl (val u)) (k2:=nl (val R)) (rs1:=aO u) (rs2:=aO R) (.inr rfl) (λh=>r2 h.symm) rfl rfl ζ V (by rw[cR];exact nQ) (by rw[cR];exact nR) (zP _ _ _ _) rfl ⟨?_,rfl⟩;have t1:(aO u).take (nl (val u))=aO (aL (A/B)):=by have:=mU e.limQ;rw[ω]at this ⊢;exact this
 have t2:(aO R).take (nl (val R))=aO (aL (A%B)):=by have:=mU LR;rw[vR]at this ⊢;exact this
 rw[t1,t2];exact .refl _
def aUC(a b:Nat):PF:=((n_.set 0 (aN (aL a))).set 1 (aN (aL b)))
theorem a3K(L:yL C)(d:∀A B:Nat,B≠0->nl A<=900->nl B<=900->aH C 136 [aN (aL A),aN (aL B)] .nil (aI (xM A B)))(a b:List Nat)(u:Lim a)(hb:Lim b)(E:Z' a<=35184372087808)(F:Z' b<=35184372087808) :
  gm.wp C (aZ aWF.res (cM (if fJ (val a) (val b)then .tup [aN [],.int .i64 2]else .tup [aN (aL (bhR (val a) (val b))),.int .i64 0]))) (g_ [aN a,aN b]) .nil:=by
 simp only[go_sem,gm,ayZ,azA,aWF];refine aB (L.large a u E) rfl ?_;by_cases e:nl (val a)>512
 ·simp only[go_sem,e,Lw];rw[aG (by simp[fJ,e])];exact gQ rfl
 simp only[go_sem,e];refine aB (L.large b hb F) rfl ?_;by_cases i:nl (val b)>512
 ·simp only[go_sem,i,Lw];rw[aG (by simp[fJ,i])];exact gQ rfl
 rw[aE (by simp[fJ,e,i])];simp only[go_sem,i,azB];refine aB (L.trim a u E) rfl ?_;simp only[go_sem];refine aB (L.trim b hb F) rfl ?_;simp only[go_sem];refine wp_loop (α:=Nat × Nat) (λt=>aUC t.1 t.2) (λ_=>.nil) (λt=>bhR t.1 t.2=bhR (val a) (val b)/\nl t.1<=512/\nl t.2<=512) (λt=>t.2) (val a,val b) ⟨rfl,by simp only;omega,by simp only;omega⟩ ?_ a_ ?_
 ·unfold aUC;exact Lq
 rintro⟨x,y⟩ ⟨p,H,w⟩;simp only at p H w;simp only[go_sem,ayY,azC,aUC,bF];by_cases l:y=0
 ·subst l;have:¬((nl 0:Nat):Int)>0:=by rw[IN];decide
  simp only[go_sem,this,azF];refine bE (vs:=[aN (aL x),.int .i64 0]) (.inr rfl) .nil rfl a_ ⟨?_,rfl⟩;rw[<-p,Nat.gcd_zero_right];exact .refl _
 ·have J:nl y≠0:=λh=>l (lZ.1 h);have:((nl y:Nat):Int)>0:=Om;simp only[go_sem,this,azD];refine aB (d x y l Om Om) rfl ?_;simp only[go_sem,xM,azE];have hlt:x%y<y:=bjR _ (bkN l);refine aJ (y,x%y) ⟨?_,w,?_⟩ hlt ?_ a_
  ·simp only;rw[<-p,Nat.gcd_comm y,<-Nat.gcd_rec y x,Nat.gcd_comm]
  ·have:=jL (Nat.le_of_lt hlt);simp only;omega
  ·exact Lq
def sK(A B:Nat):PV:=if fJ A B then .tup [aN [],aN [],.int .i64 2]else if B=0 then .tup [aN [],aN [],.int .i64 3]else .tup [aN (aL (A/B)),aN (aL (A%B)),.int .i64 0]
def aIG:Spec:=λname vs=>match name,vs with
 |138,[x]=>some ([],λ_=>aI (.int .i64 (nl (val (lE x)):Nat)))
 |136,[x,y]=>some ([],λ_=>aI (xM (val (lE x)) (val (lE y))))
 |_,_=>none
theorem gj(xs:List Nat):aIG 138 [aN xs]=some ([],λ_=>aI (.int .i64 (nl (val xs):Nat))):=by
 show some _=_;rw[fA]
theorem ahX(A B:Nat):aIG 136 [aN (aL A),aN (aL B)]=some ([],λ_=>aI (xM A B)):=by
 show some _=_;rw[fA,fA,aV,aV]
theorem zS{res:List eE}{F:PF}{H:PH}{e:Int}(h:eE.evs F H res=some [.aK,.aK,.int .i64 e]):aZ res (cM (.tup [aN [],aN [],.int .i64 e])) .ret F H:=by
 refine bE (.inr rfl) .nil h a_ ⟨?_,rfl⟩;refine .tup rfl λj p q hp d=>?_
 match j with
 |0=>simp at hp d;subst hp;subst d;exact .nil 1
 |1=>simp at hp d;subst hp;subst d;exact .nil 1
 |2=>simp at hp d;subst hp;subst d;exact .refl _
 |j+3=>simp at hp
theorem a3H(L:yL C)(i:∀A B:Nat,B≠0->nl A<=900->nl B<=900->aH C 136 [aN (aL A),aN (aL B)] .nil (aI (xM A B)))(a b:List Nat)(p:Lim a)(hb:Lim b)(y:Z' a<=35184372087808)(x:Z' b<=35184372087808) :
  gk.wp C (aZ aWD.res (cM (sK (val a) (val b)))) (g_ [aN a,aN b]) .nil:=by
 simp only[go_sem,gk,ayS,ayT,aWD];refine aB (L.large a p y) rfl ?_;by_cases d:nl (val a)>512
 ·simp only[go_sem,d,Lt];rw[show sK (val a) (val b)=.tup [aN [],aN [],.int .i64 2] by simp[sK,fJ,d]];exact zS rfl
 simp only[go_sem,d];refine aB (L.large b hb x) rfl ?_;by_cases l:nl (val b)>512
 ·simp only[go_sem,l,Lt];rw[show sK (val a) (val b)=.tup [aN [],aN [],.int .i64 2] by simp[sK,fJ,l]];exact zS rfl
 simp only[go_sem,l,ayU];refine aB (L.length b hb x) rfl ?_;by_cases e:val b=0
 ·have:((nl (val b):Nat):Int)=0:=by rw[e,IN];rfl
  simp only[go_sem,bY this,ayV];rw[show sK (val a) (val b)=.tup [aN [],aN [],.int .i64 3] by simp[sK,fJ,d,e,IN]];exact zS rfl
 have E:nl (val b)≠0:=λh=>e (lZ.1 h);rw[show sK (val a) (val b)=.tup [aN (aL (val a/val b)),aN (aL (val a%val b)),.int .i64 0] by simp[sK,fJ,d,l,e]];simp only[go_sem,bL (show((nl (val b):Nat):Int)≠0 by omega)];refine bV .nil aIG a_ ?_;simp only[go_sem,ayW];have F:=jR p;have H:=jR hb;have u:((nl (val a):Nat):Int)<=(Z' a:Nat):=Om;have w:((nl (val b):Nat):Int)<=(Z' b:Nat):=Om;refine bX (gj a) (L.length a p y) rfl a_ ?_;simp only[go_sem,u,or_true,bjG,mU p];refine bX (gj b) (L.length b hb x) rfl a_ ?_;simp only[go_sem,w,or_true,bjG,mU hb];refine bX (ahX (val a) (val b)) (i _ _ e Om Om) rfl a_ ?_;simp only[go_sem,xM,ayX];exact bE (.inr rfl) .nil rfl a_ ⟨.refl _,rfl⟩
def oT:=bT [] Proofs.Tryz.f98
def Dk:=aA oT 0
def Dl:=aA oT 1
def Dm:=aA oT 2
def Dn:=aA oT 3
def Do:=aA oT 4
def UM:=aA oT 5
def GJ:=aA oT 6
def UN:=aA oT 7
def JQ:aC:=(sq Dk (.seq (sq Dl (sq Dm (.cond (Tm 18) (sq Dn (.region Do)) .skip))) (dP UM 40 GJ (sq UN .ret))))
def CU:bD:=⟨3,53,JQ,[.cell 6 (some 3),.tmp 7]⟩
def OJ:=bT [] Proofs.Tryz.f52
def P3:=aA OJ 0
def P4:=aA OJ 1
def P5:=aA OJ 2
def OI:aC:=(sq P3 (sq P4 (sq P5 .ret)))
def aaV:bD:=⟨2,14,OI,[.tmp 4]⟩
def D1:=bT [1] Proofs.Tryz.f53
def aaX:=aA D1 0
def aaY:=aA D1 1
def UR:aC:=(sq aaX (sq aaY .ret))
def aGH:bD:=⟨1,7,UR,[.tmp 2]⟩
def GK:=bT [] Proofs.Tryz.f54
def aaL:=aA GK 0
def aaM:=aA GK 1
def aaN:=aA GK 2
def aaO:=aA GK 3
def UO:aC:=(sq aaL (dP aaM 7 aaN (sq aaO .ret)))
def Wz:bD:=⟨2,21,UO,[.cell 4 (some 3),.tmp 5]⟩
def MG:=bT [] Proofs.Tryz.f99
def auE:=aA MG 0
def auF:=aA MG 1
def auG:=aA MG 2
def auH:=aA MG 3
def du:aC:=(sq auE (dP auF 4 auG (sq auH .ret)))
def aTQ:bD:=⟨1,12,du,[.tmp 2]⟩
def OL:=bT [1] Proofs.Tryz.f50
def P6:=aA OL 0
def P7:=aA OL 1
def MI:=aA OL 2
def OK:aC:=(sq P6 (sq P7 (sq MI .ret)))
def aaW:bD:=⟨1,19,OK,[.tmp 2]⟩
def BA:=bT [1] Proofs.Tryz.f94
def Ds:=aA BA 0
def Dt:=aA BA 1
def Du:=aA BA 2
def Dv:=aA BA 3
def JR:aC:=(sq Ds (dP Dt 6 Du (sq Dv .ret)))
def l9:bD:=⟨1,17,JR,[.cell 2 (some 3),.tmp 3]⟩
def nN:=bT [2,3] Proofs.Tryz.f22
def auR:=aA nN 0
def auS:=aA nN 1
def Ks:=aA nN 2
def auT:=cV nN 0
def auU:=cV nN 1
def IA:=aA nN 3
def Kt:=aA nN 4
def RZ:=aA nN 5
def Ku:=aA nN 6
def l7:=aA nN 7
def u0:=aA nN 8
def u5:=aA nN 9
def dx:aC:=(sq auR (dP auS 16 Ks (dq auT (dq auU (.seq (.block 0 (sq IA (.cond (Tm 42) (sq Kt .ret) (sq RZ (.cond (Tm 49) (sq Ku .ret) (sq l7 (.cond (Tm 51) (sq u0 .ret) .skip))))))) (sq u5 .ret))))))
def aTR:bD:=⟨2,54,dx,[.tmp 4,.tmp 5]⟩
def nM:=bT [2,3] Proofs.Tryz.f82
def auI:=aA nM 0
def auJ:=aA nM 1
def Kr:=aA nM 2
def auK:=cV nM 0
def auL:=aA nM 3
def auM:=aA nM 4
def auN:=aA nM 5
def auO:=aA nM 6
def auP:=aA nM 7
def auQ:=aA nM 8
def aaD:=aA nM 9
def aaE:=aA nM 10
def dw:aC:=(sq auI (dP auJ 22 Kr (dq auK (jB auL 43 (sq auM (sq auN .ret)) (jB auO 60 (sq auP (sq auQ .ret)) (sq aaD (sq aaE .ret)))))))
def Kq:bD:=⟨2,87,dw,[.cell 4 (some 3),.tmp 5]⟩
def oU:=bT [] Proofs.Tryz.f122
def avE:=aA oU 0
def avF:=aA oU 1
def avG:=aA oU 2
def avH:=aA oU 3
def avI:=aA oU 4
def avJ:=aA oU 5
def Ky:=aA oU 6
def avK:=aA oU 7
def avL:=aA oU 8
def avM:=aA oU 9
def aaU:aC:=(fI avH 14 0 avM (sq avI (sq avJ (dP Ky 24 avK (.region avL)))))
def va:=aA oU 10
def ef:aC:=(sq avE (sq avF (.seq (cH avG 0 aaU) (sq va .ret))))
def aaT:bD:=⟨1,30,ef,[.cell 2 (some 3),.tmp 3]⟩
theorem CoL.nil:CoL [] []:=.refl _
theorem CoL.cons{p q:PV}{ps i:List PV}(h:Co p q)(e:CoL ps i):CoL (p::ps) (q::i):=
 ⟨by simp[e.len],λj a b d hb=>by
  cases j with
  |zero=>simp at d hb;subst d;subst hb;exact h
  |succ j=>exact e.at_ j a b (by simpa using d) (by simpa using hb)⟩
theorem CoL.agg{ps d:List PV}(h:CoL ps d):Co (.agg ps) (.agg d):=.agg h.len h.at_
theorem CoL.tup{ps d:List PV}(h:CoL ps d):Co (.tup ps) (.tup d):=.tup h.len h.at_
structure AO(C:Ctx):Prop extends yL C where
 bits:∀xs,Lim xs->Z' xs<=35184372087808->aH C 128 [aN xs] .nil (aI (.int .i64 (cX (val xs):Nat)))
 add:∀xs ys,Lim xs->Lim ys->Z' xs<=35184372087808->Z' ys<=35184372087808->aH C 127 [aN xs,aN ys] .nil (aI (opV (fJ (val xs) (val ys)) (val xs+val ys)))
 sub:∀xs ys,Lim xs->Lim ys->Z' xs<=35184372087808->Z' ys<=35184372087808->aH C 134 [aN xs,aN ys] .nil (aI (zH (val xs) (val ys)))
 mul:∀xs ys,Lim xs->Lim ys->Z' xs<=35184372087808->Z' ys<=35184372087808->aH C 133 [aN xs,aN ys] .nil (aI (opV (fJ (val xs) (val ys)) (val xs*val ys)))
 gcd:∀xs ys,Lim xs->Lim ys->Z' xs<=35184372087808->Z' ys<=35184372087808->aH C 131 [aN xs,aN ys] .nil (aI (if fJ (val xs) (val ys)then .tup [aN [],.int .i64 2]else .tup [aN (aL (bhR (val xs) (val ys))),.int .i64 0]))
 div:∀xs ys,Lim xs->Lim ys->Z' xs<=35184372087808->Z' ys<=35184372087808->aH C 130 [aN xs,aN ys] .nil (aI (sK (val xs) (val ys)))
theorem lY{a b:Nat}(d:nl a<=512)(hb:nl b<=512):fJ a b=false:=by
 simp[fJ];omega
theorem mJ{a b m n:Nat}(d:nl a<=m)(hb:nl b<=n):nl (a*b)<=m+n:=by
 rw[mO]at d hb ⊢;rw[Nat.pow_add];by_cases h:b=0
 ·subst h;exact Nat.mul_pos (bkW aS) (bkW aS)
 ·calc a*b<4294967296^m*b:=Nat.mul_lt_mul_of_pos_right d (bkN h)
   _<=4294967296^m*4294967296^n:=bkH _ (Nat.le_of_lt hb)
theorem KX{n:Nat}(h:nl n<=512):szV n=.tup [aN (aL n),.int .i64 0]:=by
 have:¬nl n>512:=Om;simp[szV,szL,szE,this]
theorem aMX(L:AO C)(a b:List Nat)(d:Lim a)(hb:Lim b)(e:Z' a<=35184372087808)(i:Z' b<=35184372087808)(l:nl (val a)<=256)(p:nl (val b)<=256) :
  OI.wp C (aZ aaV.res (aI (aN (aL (val a*val b))))) (g_ [aN a,aN b]) .nil:=by
 simp only[go_sem,OI,P3,P4,aaV];refine aB (L.mul a b d hb e i) rfl ?_;have:=mJ l p;rw[lY Om Om,opV,KX Om];simp only[go_sem,P5];refine aT (.inr rfl) rfl ?_;rfl
abbrev eZ(neg:Bool)(a b:List Nat):List PV:=[.bool neg,aN a,aN b]
theorem aTY(L:AO C)(neg:Bool)(a b:List Nat)(d:Lim a)(e:Z' a<=35184372087808) :
  UR.wp C (aZ aGH.res (aI (.bool (decide (val a=0))))) (g_ [.agg (eZ neg a b)]) .nil:=by
 simp only[go_sem,UR,aaX,aaY,aGH];refine aB (L.bits a d e) rfl ?_;simp only[go_sem];refine aT (.inr rfl) rfl ?_;have:=@oP (val a);by_cases c:val a=0
 ·rw[bY Om,bA c];rfl
 ·rw[bL Om,bG c];rfl
def cC(a b:Nat):Bool:=decide (0<cX b)&&decide (cX b<=4096)&&decide (cX a<=4096)
theorem aMY(L:AO C)(neg:Bool)(a b:List Nat)(p:Lim a)(hb:Lim b)(u:Z' a<=35184372087808)(w:Z' b<=35184372087808) :
  OK.wp C (aZ aaW.res (aI (.bool (cC (val a) (val b))))) (g_ [.agg (eZ neg a b)]) .nil:=by
 simp only[go_sem,OK,P6,P7,aaW];refine aB (L.bits b hb w) rfl ?_;by_cases i:0<cX (val b)
 ·have d:((cX (val b):Nat):Int)>0:=Om;by_cases l:cX (val b)<=4096
  ·have e:((cX (val b):Nat):Int)<=4096:=Om;simp only[go_sem,MI,d,e];refine aB (L.bits a p u) rfl ?_;simp only[go_sem];refine aT (.inr rfl) rfl ?_;show PV.bool (decide _)=_;rw[cC,bA i,bA l,biA,biA];congr 1;rw[decide_eq_decide];omega
  ·have e:¬((cX (val b):Nat):Int)<=4096:=Om;simp only[go_sem,MI,d,e];refine aT (.inr rfl) rfl ?_;show PV.bool _=_;simp[cC,i,l]
 ·have d:¬((cX (val b):Nat):Int)>0:=Om;simp only[go_sem,MI,d];refine aT (.inr rfl) rfl ?_;show PV.bool _=_;simp[cC,i]
theorem a1H(L:AO C)(v:Int)(d:-9223372036854775808<=v)(i:v<=9223372036854775807) :
  du.wp C (aZ aTQ.res (aI (aN (aL v.natAbs)))) (g_ [.int .i64 v]) .nil:=by
 simp only[go_sem,du,auE,auF,aTQ];by_cases c:v<0
 ·have e:u_.wrap (0-u_.wrap v)=(v.natAbs:Int):=by rw[kD,kD];omega
  simp only[go_sem,c,auG,e];refine aB (L.make v.natAbs Om) rfl ?_;simp only[go_sem];refine aT (.inr rfl) rfl ?_;rfl
 ·have e:u_.wrap v=(v.natAbs:Int):=by rw[kD];omega
  simp only[go_sem,c,auH,e];refine aB (L.make v.natAbs Om) rfl ?_;simp only[go_sem];refine aT (.inr rfl) rfl ?_;rfl
abbrev GL(e:Int):PV:=.tup [.agg (eZ false [] []),.int .i64 e]
abbrev aGF(neg:Bool)(a b:Nat):PV:=.tup [.agg (eZ neg (aL a) (aL b)),.int .i64 0]
def DC(neg:Bool)(a b:Nat):PV:=
 if cX (a/bhR a b)>4096\/cX (b/bhR a b)>4096 then GL 2 else aGF (neg&&decide (a/bhR a b≠0)) (a/bhR a b) (b/bhR a b)
theorem jV{res:List eE}{F:PF}{H:PH}{e:Int}(h:eE.evs F H res=some [.agg [.bool false,.aK,.aK],.int .i64 e]):aZ res (cM (GL e)) .ret F H:=
 bE (.inr rfl) .nil h a_ ⟨CoL.tup (.cons (CoL.agg (.cons (.refl _) (.cons (.nil 1) (.cons (.nil 1) .nil)))) (.cons (.refl _) .nil)),rfl⟩
theorem Yb{n:Nat}:cX n>1↔n>1:=by
 have:=rF n 1;omega
theorem yC{a n:Nat}(g:Nat)(h:nl a<=n):nl (a/g)<=n:=biQ (jL (bkZ _ _)) h
theorem d6(L:AO C)(neg:Bool)(a b:List Nat)(p:Lim a)(hb:Lim b)(u:Z' a<=35184372087808)(w:Z' b<=35184372087808)(o:Nat)(F:PF)(H:PH)
  (f0:F 0=some (.bool neg)) (f1:F 1=some (aN a)) (f2:F 2=some (aN b)) (f6:F 6=some (.ptr o 3 0 0)) (f7:F 7=some (.int .i64 0)) (d:H o=some (.rows 3 [[.bool false,.aK,.aK]])) :
  aC.wp C (.seq (.seq (.region UM) (.cond (.tmp 40) (.seq (.region GJ) .ret) .skip)) (.seq (.region UN) .ret)) (aZ CU.res (cM (if cX (val a)>4096\/cX (val b)>4096 then GL 2 else aGF (neg&&decide (val a≠0)) (val a) (val b)))) F H:=by
 have fin:∀(r:P2_) F H,F 6=some (.ptr o 3 0 0)->F 7=some (.int .i64 2)->H o=some (.rows 3 [[.bool false,.aK,.aK]])->aZ CU.res (cM (GL 2)) .ret F H:=by intro r F H A h7 h;refine jV ?_;simp only[go_sem,CU,A,h7,h]
 simp only[go_sem,UM,f1];refine aB (L.bits a p u) rfl ?_;by_cases x:cX (val a)>4096
 ·have i:((cX (val a):Nat):Int)>4096:=Om;rw[aG (.inl x)];simp only[go_sem,i,GJ,f6,d];exact fin [] _ _ (by simp only[go_sem,f6]) rfl Sq
 ·have i:¬((cX (val a):Nat):Int)>4096:=Om;simp only[go_sem,i,f2];refine aB (L.bits b hb w) rfl ?_;by_cases y:cX (val b)>4096
  ·have l:((cX (val b):Nat):Int)>4096:=Om;rw[aG (.inr y)];simp only[go_sem,l,GJ,f6,d];exact fin [] _ _ (by simp only[go_sem,f6]) rfl Sq
  ·have l:¬((cX (val b):Nat):Int)>4096:=Om;rw[aE Om];have last:∀F:PF,F 1=some (aN a)->F 2=some (aN b)->F 6=some (.ptr o 3 0 0)->∀(q:Bool),q=(neg&&decide (val a≠0))->F 47=some (.bool q) ->
     True:=λ_ _ _ _ _ _ _=>trivial
   simp only[go_sem,l,UN,f0,f1,f2,f6,d];cases neg with
   |false =>simp only[go_sem,f0,f1,f2,f6,d];refine aB (L.trim a p u) rfl ?_;simp only[go_sem,f0,f1,f2,f6,d];refine aB (L.trim b hb w) rfl ?_;simp only[go_sem,f0,f1,f2,f6,d,bhY];refine bE (.inr rfl) .nil (vs:=[.agg (eZ false (aL (val a)) (aL (val b))),.int .i64 0]) ?_ a_ ⟨.refl _,rfl⟩;simp only[go_sem,CU,f6,d]
   |true=>
    simp only[go_sem,f0,f1,f2,f6,d];refine aB (L.bits a p u) rfl ?_;have e:decide (((cX (val a):Nat):Int)>0)=decide (val a≠0):=by have:=@oP (val a);rw[decide_eq_decide];omega
    simp only[go_sem,f0,f1,f2,f6,d,e];refine aB (L.trim a p u) rfl ?_;simp only[go_sem,f0,f1,f2,f6,d];refine aB (L.trim b hb w) rfl ?_;simp only[go_sem,f0,f1,f2,f6,d,biA];refine bE (.inr rfl) .nil (vs:=[.agg (eZ (decide (val a≠0)) (aL (val a)) (aL (val b))),.int .i64 0]) ?_ a_ ⟨.refl _,rfl⟩;simp only[go_sem,CU,f6,d]
theorem aGD(L:AO C)(neg:Bool)(a b:List Nat)(u:Lim a)(hb:Lim b)(w:Z' a<=35184372087808)(x:Z' b<=35184372087808)(y:nl (val a)<=512)(l:nl (val b)<=512)(A:val b≠0) :
  JQ.wp C (aZ CU.res (cM (DC neg (val a) (val b)))) (g_ [.bool neg,aN a,aN b]) .nil:=by
 simp only[go_sem,JQ,Dk,Dl];refine aQ λo E=>?_;simp only[go_sem];refine aB (L.gcd a b u hb w x) rfl ?_;rw[lY y l];simp only[go_sem,Dm];have e:bhR (val a) (val b)≠0:=by intro h;exact A (Nat.gcd_eq_zero_iff.1 h).2
 have i:nl (bhR (val a) (val b))<=512:=biQ (jL (Nat.gcd_le_right _ (bkN A))) l;have d:(aL (bhR (val a) (val b))).length<=35184372087808:=by rw[bF];omega
 refine aB (L.bits _ (aX _) d) rfl ?_;rw[aV];by_cases c:bhR (val a) (val b)>1
 ·have p:((cX (bhR (val a) (val b)):Nat):Int)>1:=by have:=Yb.2 c;omega
  simp only[go_sem,p,Dn];refine aB (L.div a _ u (aX _) w d) rfl ?_;rw[aV,sK,lY y i,aE aS,aE e];simp only[go_sem,Do];refine aB (L.div b _ hb (aX _) x d) rfl ?_;rw[aV,sK,lY l i,aE aS,aE e];simp only[go_sem];have:=d6 L neg (aL (val a/bhR (val a) (val b))) (aL (val b/bhR (val a) (val b))) (aX _) (aX _) (by rw[bF];have:=yC (bhR (val a) (val b)) y;omega) (by rw[bF];have:=yC (bhR (val a) (val b)) l;omega) o;rw[aV,aV]at this;have:=λF H=>this F H;simp only[aC.wp,go_sem]at this;exact this _ _ rfl rfl rfl rfl rfl Sq
 ·have p:¬((cX (bhR (val a) (val b)):Nat):Int)>1:=by have:=(@Yb (bhR (val a) (val b)));omega
  have B:bhR (val a) (val b)=1:=Om;simp only[go_sem,p];rw[DC,B,Nat.div_one,Nat.div_one];have:=d6 L neg a b u hb w x o;simp only[aC.wp,go_sem]at this;exact this _ _ rfl rfl rfl rfl rfl Sq
structure LO(C:Ctx):Prop extends AO C where
 times:∀a b,Lim a->Lim b->Z' a<=35184372087808->Z' b<=35184372087808->nl (val a)<=256->nl (val b)<=256->aH C 121 [aN a,aN b] .nil (aI (aN (aL (val a*val b))))
 zero:∀neg a b,Lim a->Z' a<=35184372087808->aH C 122 [.agg (eZ neg a b)] .nil (aI (.bool (decide (val a=0))))
 valid:∀neg a b,Lim a->Lim b->Z' a<=35184372087808->Z' b<=35184372087808->aH C 118 [.agg (eZ neg a b)] .nil (aI (.bool (cC (val a) (val b))))
 abs:∀v:Int,-9223372036854775808<=v->v<=9223372036854775807->aH C 119 [.int .i64 v] .nil (aI (aN (aL v.natAbs)))
 lowest:∀neg a b,Lim a->Lim b->Z' a<=35184372087808->Z' b<=35184372087808->nl (val a)<=512->nl (val b)<=512->val b≠0->aH C 120 [.bool neg,aN a,aN b] .nil (aI (DC neg (val a) (val b)))
def MS(n d:Int):PV:=if d=0 then GL 3 else DC (decide (n<0) != decide (d<0)) n.natAbs d.natAbs
theorem jM{n k:Nat}(h:n<4294967296^k):nl n<=k:=(mO _ _).2 h
theorem wg(neg:Bool)(a b:Nat):∃d x y e,DC neg a b=.tup [.agg (eZ d x y),.int .i64 e]:=by
 unfold DC;split
 ·exact⟨_,_,_,_,rfl⟩
 ·exact⟨_,_,_,_,rfl⟩
theorem aTU(L:LO C)(n d:Int)(l:-9223372036854775808<=n)(p:n<=9223372036854775807)(u:-9223372036854775808<=d)(w:d<=9223372036854775807) :
  UO.wp C (aZ Wz.res (cM (MS n d))) (g_ [.int .i64 n,.int .i64 d]) .nil:=by
 simp only[go_sem,UO,aaL,aaM];refine aQ λo B=>?_;unfold MS;by_cases c:d=0
 ·subst c;simp only[go_sem,aaN];refine jV ?_;simp only[go_sem,Wz]
 ·rw[aE c];simp only[go_sem,bL c,aaO];refine aB (L.abs n l p) rfl ?_;simp only[go_sem];refine aB (L.abs d u w) rfl ?_;simp only[go_sem];have E:nl n.natAbs<=2:=jM Om;have F:nl d.natAbs<=2:=jM Om;have low:=L.lowest (decide (n<0) != decide (d<0)) (aL n.natAbs) (aL d.natAbs) (aX _) (aX _) (by rw[bF];omega) (by rw[bF];omega);rw[aV,aV]at low;have low:=low Om Om Om;refine aB low rfl ?_;obtain⟨i,x,y,e,A⟩:=wg (decide (n<0) != decide (d<0)) n.natAbs d.natAbs;rw[A];simp only[go_sem];exact bE (.inr rfl) .nil (vs:=[.agg (eZ i x y),.int .i64 e]) (by simp only[go_sem,Wz]) a_ ⟨.refl _,rfl⟩
theorem eY{a b:Nat}:cC a b=true↔b≠0/\nl b<=128/\nl a<=128:=by
 have d:=jT b 128;have e:=jT a 128;have i:=@oP b;simp only[cC,bhQ,dT_];omega
def mw(neg:Bool)(a b:Nat):PV:=if cC a b then DC neg a b else GL 1
theorem aGE(L:LO C)(neg:Bool)(a b:List Nat)(i:Lim a)(hb:Lim b)(l:Z' a<=35184372087808)(p:Z' b<=35184372087808) :
  JR.wp C (aZ l9.res (cM (mw neg (val a) (val b)))) (g_ [.agg (eZ neg a b)]) .nil:=by
 simp only[go_sem,JR,Ds,Dt];refine aQ λo B=>?_;simp only[go_sem];refine aB (L.valid neg a b i hb l p) rfl ?_;unfold mw;cases w:cC (val a) (val b)with
 |false =>simp only[go_sem,Du,biF];refine jV ?_;simp only[go_sem,l9]
 |true =>obtain⟨A,E,F⟩:=eY.1 w;simp only[go_sem,Dv,bhZ];refine aB (L.lowest neg a b i hb l p Om Om A) rfl ?_;obtain⟨d,x,y,e,u⟩:=wg neg (val a) (val b);rw[u];simp only[go_sem];exact bE (.inr rfl) .nil (vs:=[.agg (eZ d x y),.int .i64 e]) (by simp only[go_sem,l9]) a_ ⟨.refl _,rfl⟩
def sU(d:Bool)(a1 b1:Nat)(e:Bool)(a2 b2:Nat):Int:=
 match d&&decide (a1≠0),e&&decide (a2≠0)with
 |true,true=>- eI (a1*b2) (a2*b1)
 |true,false=>-1
 |false,true=>1
 |false,false=>eI (a1*b2) (a2*b1)
def wQ(d:Bool)(a1 b1:Nat)(e:Bool)(a2 b2:Nat):PV:=
 if cC a1 b1&&cC a2 b2 then .tup [.int .i64 (sU d a1 b1 e a2 b2),.int .i64 0]else .tup [.int .i64 0,.int .i64 1]
def fr1:PV->List Nat
 | .agg [_,a,_]=>lE a
 |_=>[]
def frS:Spec:=λname vs=>match name,vs with
 |121,[x,y]=>some ([],λ_=>aI (aN (aL (val (lE x)*val (lE y)))))
 |129,[x,y]=>some ([],λ_=>aI (.int .i64 (eI (val (lE x)) (val (lE y)))))
 |122,[x]=>some ([],λ_=>aI (.bool (decide (val (fr1 x)=0))))
 |_,_=>none
theorem EQ(a b:List Nat):frS 121 [aN a,aN b]=some ([],λ_=>aI (aN (aL (val a*val b)))):=by
 show some _=_;rw[fA,fA]
theorem a1N(a b:List Nat):frS 129 [aN a,aN b]=some ([],λ_=>aI (.int .i64 (eI (val a) (val b)))):=by
 show some _=_;rw[fA,fA]
theorem u7(neg:Bool)(a b:List Nat):frS 122 [.agg (eZ neg a b)]=some ([],λ_=>aI (.bool (decide (val a=0)))):=by
 show some _=_;rw[fr1,fA]
theorem aST(a b:Nat):i_.wrap (0-eI a b)=- eI a b:=by
 unfold eI;split
 ·rfl
 ·split<;>rfl
theorem a1J(L:LO C)(u p:Bool)(a1 b1 a2 b2:List Nat)(i:Lim a1)(w:Lim b1)(d:Lim a2)(x:Lim b2)
  (l:Z' a1<=35184372087808) (y:Z' b1<=35184372087808) (e:Z' a2<=35184372087808) (E:Z' b2<=35184372087808) :
  dx.wp C (aZ aTR.res (cM (wQ u (val a1) (val b1) p (val a2) (val b2)))) (g_ [.agg (eZ u a1 b1),.agg (eZ p a2 b2)]) .nil:=by
 simp only[go_sem,dx,auR,auS];refine aB (L.valid u a1 b1 i w l y) rfl ?_;unfold wQ;cases O:cC (val a1) (val b1)with
 |false =>simp only[go_sem,biF,Ks,bhY];exact bE (.inr rfl) .nil (vs:=[.int .i64 0,.int .i64 1]) rfl a_ ⟨.refl _,rfl⟩
 |true=>
  obtain⟨Z,R,S⟩:=eY.1 O;simp only[go_sem,bhZ];refine aB (L.valid p a2 b2 d x e E) rfl ?_;cases Q:cC (val a2) (val b2)with
  |false =>simp only[go_sem,biF,Ks,bjE];exact bE (.inr rfl) .nil (vs:=[.int .i64 0,.int .i64 1]) rfl a_ ⟨.refl _,rfl⟩
  |true=>
   obtain⟨w1,U,V⟩:=eY.1 Q;simp only[go_sem,bhZ,bjY];refine bV .nil frS a_ ?_;simp only[go_sem,auT];refine bX (EQ a1 b2) (L.times a1 b2 i x l E Om Om) rfl a_ ?_;simp only[go_sem];refine bX (EQ a2 b1) (L.times a2 b1 d w e y Om Om) rfl a_ ?_;simp only[go_sem];have X:=mJ S U;have Y:=mJ V R;have J:=L.cmp (aL (val a1*val b2)) (aL (val a2*val b1)) (aX _) (aX _) (by rw[bF];omega) (by rw[bF];omega);have K:=a1N (aL (val a1*val b2)) (aL (val a2*val b1));rw[aV,aV]at J K;refine bX K J rfl a_ ?_;simp only[go_sem];refine bV .nil frS a_ ?_;have W:(!decide (val a1=0))=decide (val a1≠0):=by by_cases h:val a1=0<;>simp[h]
   have M:(!decide (val a2=0))=decide (val a2≠0):=by by_cases h:val a2=0<;>simp[h]
   have fin:∀(F:PF)(A B:Bool),F 6=some (.int .i64 (eI (val a1*val b2) (val a2*val b1)))->F 7=some (.bool A)->F 8=some (.bool B)->A=(u&&decide (val a1≠0))->B=(p&&decide (val a2≠0)) ->
     aC.wp C (.seq (.block 0 (.seq (.region IA) (.cond (.tmp 42) (.seq (.region Kt) .ret) (.seq (.region RZ) (.cond (.tmp 49) (.seq (.region Ku) .ret) (.seq (.region l7) (.cond (.tmp 51) (.seq (.region u0) .ret) .skip))))))) (.seq (.region u5) .ret)) (aZ aTR.res (cM (.tup [.int .i64 (sU u (val a1) (val b1) p (val a2) (val b2)),.int .i64 0]))) F .nil:=by
    intro F A B f6 f7 H N hB;rw[sU,<-N,<-hB];cases A<;>cases B
    ·simp only[go_sem,IA,RZ,l7,u5,f6,f7,H];exact bE (.inr rfl) .nil rfl a_ ⟨.refl _,rfl⟩
    ·simp only[go_sem,IA,RZ,l7,u0,f6,f7,H];exact bE (.inr rfl) .nil rfl a_ ⟨.refl _,rfl⟩
    ·simp only[go_sem,IA,RZ,Ku,f6,f7,H];exact bE (.inr rfl) .nil rfl a_ ⟨.refl _,rfl⟩
    ·simp only[go_sem,IA,Kt,f6,f7,H,aST];exact bE (.inr rfl) .nil rfl a_ ⟨.refl _,rfl⟩
   simp only[aC.wp,go_sem]at fin;simp only[go_sem,auU];cases u with
   |false=>
    simp only[go_sem];cases p with
    |false =>simp only[go_sem];exact fin _ false false rfl rfl rfl rfl rfl
    |true =>simp only[go_sem];refine bX (u7 true a2 b2) (L.zero true a2 b2 d e) rfl a_ ?_;simp only[go_sem,M];exact fin _ false (decide (val a2≠0)) rfl rfl rfl rfl (by rw[biA])
   |true=>
    simp only[go_sem];refine bX (u7 true a1 b1) (L.zero true a1 b1 i l) rfl a_ ?_;simp only[go_sem,W];cases p with
    |false =>simp only[go_sem];exact fin _ (decide (val a1≠0)) false rfl rfl rfl (by rw[biA]) rfl
    |true =>simp only[go_sem];refine bX (u7 true a2 b2) (L.zero true a2 b2 d e) rfl a_ ?_;simp only[go_sem,M];exact fin _ (decide (val a1≠0)) (decide (val a2≠0)) rfl rfl rfl (by rw[biA]) (by rw[biA])
abbrev FV:=Bool × Nat × Nat
abbrev FR:=Except Int FV
def jP(neg:Bool)(a b:Nat):FR:=
 if cX (a/bhR a b)>4096\/cX (b/bhR a b)>4096 then .error 2 else .ok (neg&&decide (a/bhR a b≠0),a/bhR a b,b/bhR a b)
def frV:FR->PV
 | .ok (n,a,b)=>aGF n a b
 | .error e=>GL e
theorem SF(neg:Bool)(a b:Nat):DC neg a b=frV (jP neg a b):=by
 unfold DC jP;split<;>rfl
def gY:FV->FV->FR
 |(d,a1,b1),(e,a2,b2)=>if cC a1 b1&&cC a2 b2 then
   (if d=e then jP d (a1*b2+a2*b1) (b1*b2)else if a2*b1<=a1*b2 then jP d (a1*b2-a2*b1) (b1*b2)else jP e (a2*b1-a1*b2) (b1*b2))
  else .error 1
theorem Ge{a b m:Nat}(d:nl a<=m)(hb:nl b<=m):nl (a+b)<=m+1:=by
 rw[mO]at d hb ⊢;rw[bjU];omega
theorem ll(a b:Nat):(eI a b>=0)↔b<=a:=by
 unfold eI;split
 ·constructor
  ·intro h;exact absurd h aS
  ·intro h;omega
 ·split
  ·constructor
   ·intro h;omega
   ·intro h;decide
  ·constructor
   ·intro h;omega
   ·intro h;decide
theorem CV(r:FR):∃d x y e,frV r=.tup [.agg (eZ d x y),.int .i64 e]:=by
 rcases r with e|⟨n,a,b⟩
 ·exact⟨_,_,_,_,rfl⟩
 ·exact⟨_,_,_,_,rfl⟩
theorem a1I(L:LO C)(i p:Bool)(a1 b1 a2 b2:List Nat)(N:Lim a1)(E:Lim b1)(O:Lim a2)(J:Lim b2)
  (Q:Z' a1<=35184372087808) (K:Z' b1<=35184372087808) (R:Z' a2<=35184372087808) (M:Z' b2<=35184372087808) :
  dw.wp C (aZ Kq.res (cM (frV (gY (i,val a1,val b1) (p,val a2,val b2))))) (g_ [.agg (eZ i a1 b1),.agg (eZ p a2 b2)]) .nil:=by
 simp only[go_sem,dw,auI];refine aQ λo ho=>?_;simp only[go_sem,auJ];refine aB (L.valid i a1 b1 N E Q K) rfl ?_;simp only[gY];cases hv:cC (val a1) (val b1)with
 |false =>simp only[go_sem,biF,Kr,bhY];refine jV ?_;simp only[go_sem,Kq]
 |true=>
  obtain⟨v1,v2,v3⟩:=eY.1 hv;simp only[go_sem,bhZ];refine aB (L.valid p a2 b2 O J R M) rfl ?_;cases hw:cC (val a2) (val b2)with
  |false =>simp only[go_sem,biF,Kr,bjE];refine jV ?_;simp only[go_sem,Kq]
  |true=>
   obtain⟨w1,w2,w3⟩:=eY.1 hw;simp only[go_sem,bhZ,bjY];refine bV .nil frS a_ ?_;simp only[go_sem,auK];refine bX (EQ a1 b2) (L.times a1 b2 N J Q M Om Om) rfl a_ ?_;simp only[go_sem];refine bX (EQ a2 b1) (L.times a2 b1 O E R K Om Om) rfl a_ ?_;simp only[go_sem];refine bX (EQ b1 b2) (L.times b1 b2 E J K M Om Om) rfl a_ ?_;simp only[go_sem];have m1:=mJ v3 w2;have m2:=mJ w3 v2;have m3:=mJ v2 w2;have d0:val b1*val b2≠0:=Nat.mul_ne_zero v1 w1;generalize hA:val a1*val b2=A at *
   generalize hB:val a2*val b1=B at *
   generalize hD:val b1*val b2=D at *
   have fin:∀(F:PF)(H:PH)(r:FR),(∃d x y e,frV r=.tup [.agg (eZ d x y),.int .i64 e]/\F 4=some (.ptr o 3 0 0)/\F 5=some (.int .i64 e)/\H o=some (.rows 3 [eZ d x y]))->aZ Kq.res (cM (frV r)) .ret F H:=by rintro F H r ⟨d,x,y,e,he,f4,f5,hH⟩;rw[he];exact bE (.inr rfl) .nil (vs:=[.agg (eZ d x y),.int .i64 e]) (by simp only[go_sem,Kq,f4,f5,hH]) a_ ⟨.refl _,rfl⟩
   have V:(i==p)=decide (i=p):=by cases i<;>cases p<;>rfl
   have low:∀neg x,nl x<=257->aH C 120 [.bool neg,aN (aL x),aN (aL D)] .nil (aI (frV (jP neg x D))):=by
    intro neg x hx;have W:(aL x).length<=35184372087808:=by rw[bF];omega
    have Z:(aL D).length<=35184372087808:=by rw[bF];omega
    have:=L.lowest neg (aL x) (aL D) (aX _) (aX _) W Z;rw[aV,aV,SF]at this;exact this Om Om d0
   have lA:(aL A).length<=35184372087808:=by rw[bF];omega
   have lB:(aL B).length<=35184372087808:=by rw[bF];omega
   simp only[go_sem,auL];by_cases c:i=p
   ·rw[aG c];have S:(i==p)=true:=by rw[V,bA c]
    simp only[go_sem,S,auM];have u:=L.add (aL A) (aL B) (aX _) (aX _) lA lB;have α:=Ge m1 m2;rw[aV,aV,lY Om Om,opV,KX Om]at u;refine aB u rfl ?_;simp only[go_sem,auN];refine aB (low i _ Om) rfl ?_;obtain⟨d,x,y,e,l⟩:=CV (jP i (A+B) D);rw[l];simp only[go_sem];rw[<-l];exact fin _ _ _ ⟨d,x,y,e,l,s_,s_,s_⟩
   ·rw[aE c];have S:(i==p)=false:=by rw[V,bG c]
    simp only[go_sem,S,auO];have hc:=L.cmp (aL A) (aL B) (aX _) (aX _) lA lB;rw[aV,aV]at hc;refine aB hc rfl ?_;have w:∀X Y:Nat,nl X<=256->nl Y<=256->Y<=X->aH C 134 [aN (aL X),aN (aL Y)] .nil (aI (.tup [aN (aL (X-Y)),.int .i64 0])):=by intro X Y W Z h;have:=L.sub (aL X) (aL Y) (aX _) (aX _) (by rw[bF];omega) (by rw[bF];omega);have h3:=jL (Om:X-Y<=X);rw[aV,aV,zH,lY Om Om,aE aS,aE Om,KX Om]at this;exact this
    by_cases g:B<=A
    ·have U:eI A B>=0:=(ll A B).2 g;rw[aG g];simp only[go_sem,U,auP];refine aB (w A B Om Om g) rfl ?_;simp only[go_sem,auQ];have h3:=jL (Om:A-B<=A);refine aB (low i (A-B) Om) rfl ?_;obtain⟨d,x,y,e,l⟩:=CV (jP i (A-B) D);rw[l];simp only[go_sem];rw[<-l];exact fin _ _ _ ⟨d,x,y,e,l,s_,s_,s_⟩
    ·have U:¬eI A B>=0:=λh=>g ((ll A B).1 h);rw[aE g];simp only[go_sem,U,aaD];refine aB (w B A Om Om Om) rfl ?_;simp only[go_sem,aaE];have h3:=jL (Om:B-A<=B);refine aB (low p (B-A) Om) rfl ?_;obtain⟨d,x,y,e,l⟩:=CV (jP p (B-A) D);rw[l];simp only[go_sem];rw[<-l];exact fin _ _ _ ⟨d,x,y,e,l,s_,s_,s_⟩
structure RF where
 neg:Bool
 num:List Nat
 den:List Nat
abbrev RF.cells(x:RF):List PV:=eZ x.neg x.num x.den
def RF.Ok(x:RF):Prop:=Lim x.num/\Lim x.den/\Z' x.num<=35184372087808/\Z' x.den<=35184372087808
def RF.v(x:RF):FV:=(x.neg,val x.num,val x.den)
abbrev frs(l:List RF):PV:=.sl 3 (l.map RF.cells)
def FV.rf:FV->RF
 |(n,a,b)=>⟨n,aL a,aL b⟩
def FV.Small:FV->Prop
 |(_,a,b)=>nl a<=900000/\nl b<=900000
theorem FV.PW(x:FV):x.rf.v=x:=by
 obtain⟨n,a,b⟩:=x;show(n,val (aL a),val (aL b))=_;rw[aV,aV]
def tA(l:List FV):FR:=l.foldlM gY (false,0,1)
theorem wY{neg:Bool}{a b:Nat}{r:FV}(h:jP neg a b=.ok r):r.Small/\r.rf.Ok:=by
 unfold jP at h;split at h
 ·cases h
 ·rename_i i;have d:=(jT (a/bhR a b) 128).1 Om;have e:=(jT (b/bhR a b) 128).1 Om;injection h with h
  subst h;refine⟨⟨by omega,by omega⟩,aX _,aX _,?_,?_⟩
  ·show(aL _).length<=_;rw[bF];omega
  ·show(aL _).length<=_;rw[bF];omega
theorem lg{x y r:FV}(h:gY x y=.ok r):r.rf.Ok:=by
 obtain⟨d,a1,b1⟩:=x;obtain⟨e,a2,b2⟩:=y;simp only[gY]at h;split at h
 ·split at h
  ·exact(wY h).2
  ·split at h
   ·exact(wY h).2
   ·exact(wY h).2
 ·cases h
theorem p8{α β:Type}{f:β->α->Except Int β}(l:List α)(b:β){k:Nat}(h:k<Z' l):(l.take (k+1)).foldlM f b=((l.take k).foldlM f b).bind λx=>f x l[k]:=by
 rw[bjF h,List.foldlM_append];cases(l.take k).foldlM f b with
 |error e=>rfl
 |ok x =>show([l[k]]:List α).foldlM f x=f x l[k];rw[List.foldlM_cons];cases f x l[k]<;>rfl
theorem Dp{α β:Type}{f:β->α->Except Int β}(l:List α)(b:β){k:Nat}{e:Int}(h:(l.take k).foldlM f b=.error e):l.foldlM f b=.error e:=by
 conv=>lhs;rw[<-bkQ k l,List.foldlM_append,h]
 rfl
def aXR(l:List RF)(o2 o4:Nat)(k:Nat):PF:=((((((n_.set 2 (.ptr o2 3 0 0)).set 3 (.int .i64 0)).set 4 (.ptr o4 3 0 0)).set 11 (frs l)).set 12 (.int .i64 (Z' l:Nat))).set 13 (.int .i64 k))
def yy(o2 o4:Nat)(c:List PV):PH:=(h_.set o2 (.rows 3 [[.bool false,.aK,.aK]])).set o4 (.rows 3 [c])
theorem a1R(L:LO C)(R:∀x y:RF,x.Ok->y.Ok->aH C 113 [.agg x.cells,.agg y.cells] .nil (aI (frV (gY x.v y.v))))(l:List RF)(hl:∀x∈l,x.Ok)(Z:Z' l<=9223372036854775807) :
  ef.wp C (aZ aaT.res (cM (frV (tA (l.map RF.v))))) (g_ [frs l]) .nil:=by
 simp only[go_sem,ef,avE];refine aQ λo2 β=>?_;simp only[go_sem,avF];refine aB (L.make 1 aS) rfl ?_;simp only[go_sem];refine aQ λo4 S=>?_;have p:o4≠o2:=by rintro rfl;simp only[bC,if_true]at S;cases S
 have d:o2≠o4:=Ne.symm p;simp only[go_sem,avG];refine wp_loop (α:=Nat × FV × PV) (λt=>aXR l o2 o4 t.1) (λt=>yy o2 o4 [.bool t.2.1.1,t.2.2,aN (aL t.2.1.2.2)]) (λt=>t.1<=Z' l/\((l.map RF.v).take t.1).foldlM gY (false,0,1)=.ok t.2.1/\(t.2.2=.aK/\t.2.1.2.1=0\/t.2.2=aN (aL t.2.1.2.1))/\(FV.rf t.2.1).Ok) (λt=>Z' l-t.1)
  (0,(false,0,1),.aK) ⟨bhT _,rfl,.inl ⟨rfl,rfl⟩,⟨aX _,aX _,?_,?_⟩⟩ ?_ ?_ ?_
 ·show(aL 0).length<=_;rw[fG];simp
 ·show(aL 1).length<=_;rw[uI aS aS];simp
 ·unfold aXR
  (repeat' (first|exact c_|refine d_ ?_ ?_))<;>first|(simp only[go_sem,bhO]<;>rfl)|rfl
 ·unfold yy;exact e_ (e_ a_ (by simp only[go_sem,d,p])) (by simp only[go_sem,d,p])
 rintro⟨k,⟨Q,U,O⟩,Y⟩ ⟨hk,W,N,J⟩;simp only at hk W N J ⊢;have K:CoL [.bool Q,Y,aN (aL O)] (FV.rf (Q,U,O)).cells:=by
  refine .cons (.refl _) (.cons ?_ (.cons (.refl _) .nil));rcases N with⟨rfl,rfl⟩|rfl
  ·show Co .aK (aN (aL 0));rw[fG];exact .nil 1
  ·exact .refl _
 simp only[go_sem,aaU,avH,aXR];by_cases hlt:k<Z' l
 ·have A:(k:Int)<(Z' l:Nat):=Om;have hr:(l.map RF.cells)[k]?=some (l[k]).cells:=by simp[hlt]
  simp only[go_sem,A,avI,hr];refine aQ λo6 F=>?_;have B:o4≠o6:=by rintro rfl;simp only[yy,bC,if_true]at F;cases F
  have w:o2≠o6:=by rintro rfl;simp only[yy,bC,if_true,aE d]at F;cases F
  simp only[go_sem,avJ,yy,B,w,p,d];refine aB ((R (FV.rf (Q,U,O)) l[k] J (hl _ (bhS hlt))).args (.cons (CoL.agg K) (.cons (.refl _) .nil))) rfl ?_;rw[FV.PW];have i:=p8 (f:=gY) (l.map RF.v) (false,0,1) (k:=k) (by simpa using hlt);rw[W]at i;simp only[Except.bind,bjK]at i;cases V:gY (Q,U,O) (l[k]).v with
  |error e=>
   simp only[go_sem,frV];refine aQ λo7 u=>?_;have X:e≠0:=by
    revert V;obtain⟨n2,a2,b2⟩:=(l[k]).v;simp only[gY,jP]
    repeat' split
    all_goals (intro h;first|(injection h with h;subst h;decide)|cases h)
   have E:o2≠o7:=by rintro rfl;simp only[bC,w,d,if_true,if_false]at u;cases u
   simp only[go_sem,Ky,dX X,avK,E,w,d];rw[V]at i;rw[tA,Dp _ _ i];refine jV ?_;simp only[go_sem,aaT]
  |ok r=>
   obtain⟨rn,ra,rb⟩:=r;simp only[go_sem,frV];refine aQ λo7 u=>?_;have H:o4≠o7:=by rintro rfl;simp only[bC,B,if_true,if_false]at u;cases u
   have E:o2≠o7:=by rintro rfl;simp only[bC,w,d,if_true,if_false]at u;cases u
   simp only[go_sem,Ky,avL,H,E,B,w,p,d,Ne.symm H,avM,wZz k];rw[V]at i;refine aJ (k+1,(rn,ra,rb),aN (aL ra)) ⟨hlt,i,.inr rfl,lg V⟩ (by simp only;omega) ?_ ?_
   ·exact Lq
   ·refine e_ (e_ a_ ?_) ?_
    ·simp only[go_sem,d,p,H,E,B,w]
    ·simp only[go_sem,d,p,H,E,B,w]
 ·have A:¬(k:Int)<(Z' l:Nat):=Om;have:k=Z' l:=Om;subst this;rw[biK bH]at W;rw[tA,W];have M:cM (frV (.ok (Q,U,O))) (bN [.agg [.bool Q,Y,aN (aL O)],.int .i64 0]) .nil:=⟨CoL.tup (.cons (CoL.agg K) (.cons (.refl _) .nil)),rfl⟩;rcases N with⟨rfl,rfl⟩|rfl
  ·simp only[go_sem,A,va,yy,p,d];refine bE (.inr rfl) .nil ?_ a_ M;simp only[go_sem,aaT,p,d]
  ·simp only[go_sem,A,va,yy,p,d];refine bE (.inr rfl) .nil ?_ a_ M;simp only[go_sem,aaT,p,d]
def fm:=bT [] Proofs.Tryz.f152
def wW:=aA fm 0
def wX:=aA fm 1
def qS:aC:=(sq wW (sq wX .ret))
def mi:bD:=⟨1,17,qS,[.tmp 2]⟩
def qd:=bT [] Proofs.Tryz.f165
def MP:=aA qd 0
def MQ:=aA qd 1
def yA:aC:=(sq MP (sq MQ .ret))
def Ee:bD:=⟨1,9,yA,[.tmp 2]⟩
def qe:=bT [] Proofs.Tryz.f153
def Qp:=aA qe 0
def Qq:=aA qe 1
def OP:aC:=(sq Qp (sq Qq .ret))
def Ef:bD:=⟨1,17,OP,[.tmp 2]⟩
def pV:=bT [] Proofs.Tryz.f126
def VQ:=aA pV 0
def VR:=aA pV 1
def VS:=aA pV 2
def aeM:=aA pV 3
def aeN:=aA pV 4
def aeO:=aA pV 5
def aeP:=aA pV 6
def aeQ:=aA pV 7
def aeL:aC:=(dK aeN 20 0 aeQ (sq aeO (.cond (Tm 27) (sq aeP .ret) .skip)))
def aeR:=aA pV 8
def BE:aC:=(sq VQ (dP VR 16 VS (.seq (cH aeM 0 aeL) (sq aeR .ret))))
def W2:bD:=⟨1,28,BE,[.tmp 2]⟩
def acM:=bT [] Proofs.Tryz.f76
def D2:=aA acM 0
def D3:=aA acM 1
def JS:aC:=(sq D2 (sq D3 .ret))
def gin:bD:=⟨3,15,JS,[.tmp 6]⟩
def p9:=bT [1] Proofs.Tryz.f120
def P8:=aA p9 0
def P9:=aA p9 1
def OM:aC:=(sq P8 (sq P9 .ret))
def aaZ:bD:=⟨1,7,OM,[.tmp 2]⟩
def fe:=bT [1] Proofs.Tryz.f119
def awB:=aA fe 0
def awC:=aA fe 1
def mb:=aA fe 2
def fc:aC:=(sq awB (sq awC (sq mb .ret)))
def aUF:bD:=⟨1,29,fc,[.tmp 2]⟩
def MO:=bT [1] Proofs.Tryz.f151
def awG:=aA MO 0
def awH:=aA MO 1
def awI:=aA MO 2
def K3:=aA MO 3
def fg:aC:=(sq awG (sq awH (sq awI (sq K3 .ret))))
def gone:bD:=⟨1,23,fg,[.tmp 2]⟩
def rR:=bT [] Proofs.Tryz.f121
def abK:=aA rR 0
def abL:=aA rR 1
def abM:=aA rR 2
def abN:=aA rR 3
def abO:=aA rR 4
def abP:=aA rR 5
def abQ:=aA rR 6
def abJ:aC:=(fI abM 10 0 abQ (sq abN (sq abO (.cond (Tm 16) (sq abP .ret) .skip))))
def abR:=aA rR 7
def UT:aC:=(sq abK (.seq (cH abL 0 abJ) (sq abR .ret)))
def aGK:bD:=⟨2,18,UT,[.tmp 4]⟩
def rS:=bT [] Proofs.Tryz.f148
def abT:=aA rS 0
def abU:=aA rS 1
def abV:=aA rS 2
def abW:=aA rS 3
def abX:=aA rS 4
def abY:=aA rS 5
def abZ:=aA rS 6
def abS:aC:=(fI abV 10 0 abZ (sq abW (sq abX (.cond (Tm 16) (sq abY .ret) .skip))))
def acA:=aA rS 7
def UU:aC:=(sq abT (.seq (cH abU 0 abS) (sq acA .ret)))
def aGL:bD:=⟨2,18,UU,[.tmp 4]⟩
def rQ:=bT [] Proofs.Tryz.f146
def abB:=aA rQ 0
def abC:=aA rQ 1
def abD:=aA rQ 2
def abE:=aA rQ 3
def abF:=aA rQ 4
def abG:=aA rQ 5
def abH:=aA rQ 6
def abA:aC:=(fI abD 10 0 abH (sq abE (sq abF (.cond (Tm 16) (sq abG .ret) .skip))))
def abI:=aA rQ 7
def US:aC:=(sq abB (.seq (cH abC 0 abA) (sq abI .ret)))
def aGJ:bD:=⟨2,18,US,[.tmp 4]⟩
def qa:=bT [] Proofs.Tryz.f147
def Qa:=aA qa 0
def Qb:=aA qa 1
def ON:aC:=(sq Qa (sq Qb .ret))
def acE:bD:=⟨1,4,ON,[.tmp 2]⟩
def jH:=bT [1] Proofs.Tryz.f123
def acF:=aA jH 0
def acG:=aA jH 1
def acH:=aA jH 2
def acI:=aA jH 3
def acJ:=aA jH 4
def vb:=aA jH 5
def acK:=aA jH 6
def vd:=aA jH 7
def ve:=aA jH 8
def acL:=aA jH 9
def Qd:=aA jH 10
def el:=aA jH 11
def MM:=aA jH 12
def MK:aC:=(fI acL 45 4 MM (sq Qd (.region el)))
def ep:=aA jH 13
def ML:aC:=(fI vb 21 2 ep (sq acK (sq vd (cH ve 4 MK))))
def Qe:=aA jH 14
def Qc:aC:=(dK acI 15 0 Qe (cH acJ 2 ML))
def Qf:=aA jH 15
def UV:aC:=(sq acF (sq acG (.seq (cH acH 0 Qc) (sq Qf .ret))))
def aGP:bD:=⟨1,70,UV,[.tmp 2]⟩
def lI:=bT [1] Proofs.Tryz.f78
def avT:=aA lI 0
def avU:=aA lI 1
def avV:=aA lI 2
def IE:=aA lI 3
def avW:=aA lI 4
def avX:=aA lI 5
def avY:=aA lI 6
def avZ:=aA lI 7
def ma:=aA lI 8
def awA:=aA lI 9
def acN:aC:=(fI avX 48 0 awA (sq avY (sq avZ (.cond (Tm 67) (sq ma .ret) .skip))))
def vf:=aA lI 10
def UW:=aA lI 11
def UX:=aA lI 12
def CZ:=aA lI 13
def fa:aC:=(sq avT (sq avU (dP avV 43 IE (.seq (cH avW 0 acN) (sq vf (sq UW (sq UX (sq CZ .ret))))))))
def aUE:bD:=⟨1,95,fa,[.tmp 2]⟩
def oJ:=bT [] Proofs.Tryz.f80
def adB:=aA oJ 0
def adC:=aA oJ 1
def adD:=aA oJ 2
def adE:=aA oJ 3
def adF:=aA oJ 4
def adG:=aA oJ 5
def vk:=aA oJ 6
def adH:=aA oJ 7
def adI:=aA oJ 8
def adA:aC:=(fI adE 10 0 adI (sq adF (dP adG 20 vk (.region adH))))
def Qi:=aA oJ 9
def VB:aC:=(sq adB (sq adC (.seq (cH adD 0 adA) (sq Qi .ret))))
def aGU:bD:=⟨1,24,VB,[.tmp 2]⟩
def mI:=bT [1] Proofs.Tryz.f77
def Kz:=aA mI 0
def K0:=aA mI 1
def avN:=aA mI 2
def avO:=aA mI 3
def ID:=aA mI 4
def CY:=aA mI 5
def avP:=aA mI 6
def avQ:=aA mI 7
def avR:=aA mI 8
def avS:=cV mI 0
def CX:=aA mI 9
def acC:=aA mI 10
def acB:aC:=(fI avQ 48 0 acC (sq avR (dq avS (.cond (Tm 87) (sq CX .ret) .skip))))
def acD:=aA mI 11
def MJ:aC:=(sq Kz (dP K0 9 avN (sq avO (dP ID 42 CY (.seq (cH avP 0 acB) (sq acD .ret))))))
def aGN:bD:=⟨1,89,MJ,[.tmp 2]⟩
def D4:=bT [] Proofs.Tryz.f149
def acO:=aA D4 0
def acP:=aA D4 1
def UY:aC:=(sq acO (sq acP .ret))
def aGQ:bD:=⟨1,5,UY,[.tmp 2]⟩
def MN:=bT [7] Proofs.Tryz.f124
def awD:=aA MN 0
def awE:=aA MN 1
def IF:=aA MN 2
def awF:=aA MN 3
def ff:aC:=(sq awD (dP awE 36 IF (sq awF .ret)))
def aUG:bD:=⟨4,39,ff,[.tmp 8]⟩
def qb:=bT [1] Proofs.Tryz.f150
def Qg:=aA qb 0
def Qh:=aA qb 1
def OO:aC:=(sq Qg (sq Qh .ret))
def acT:bD:=⟨1,9,OO,[.tmp 2]⟩
def D5:=bT [6,7] Proofs.Tryz.f125
def acU:=aA D5 0
def acV:=aA D5 1
def UZ:aC:=(sq acU (sq acV .ret))
def aGR:bD:=⟨4,30,UZ,[.tmp 8]⟩
def nO:=bT [2] Proofs.Tryz.f79
def awJ:=aA nO 0
def awK:=aA nO 1
def me:=aA nO 2
def awL:=aA nO 3
def awM:=aA nO 4
def awN:=aA nO 5
def awO:=aA nO 6
def awP:=aA nO 7
def K4:=aA nO 8
def awQ:=aA nO 9
def acR:=aA nO 10
def acQ:aC:=(fI awN 42 0 acR (sq awO (dP awP 55 K4 (.region awQ))))
def acS:=aA nO 11
def fh:aC:=(sq awJ (dP awK 35 me (sq awL (.seq (cH awM 0 acQ) (sq acS .ret)))))
def aUI:bD:=⟨2,60,fh,[.tmp 4]⟩
def cQ:=bT [1,76,94,128,141,183,204] Proofs.Tryz.f33
def awR:=aA cQ 0
def awS:=aA cQ 1
def wT:=aA cQ 2
def awT:=aA cQ 3
def awU:=aA cQ 4
def K5:=aA cQ 5
def awV:=aA cQ 6
def awW:=aA cQ 7
def awX:=aA cQ 8
def K6:=aA cQ 9
def vm:=aA cQ 10
def VC:aC:=(fI awV 70 0 vm (sq awW (sq awX (.region K6))))
def vn:=aA cQ 11
def adJ:=aA cQ 12
def adK:=aA cQ 13
def adL:=aA cQ 14
def vp:=aA cQ 15
def JV:=aA cQ 16
def VD:aC:=(fI adJ 88 2 JV (sq adK (sq adL (.region vp))))
def vq:=aA cQ 17
def adM:=aA cQ 18
def adN:=aA cQ 19
def adO:=aA cQ 20
def adP:=aA cQ 21
def VE:aC:=(fI adM 122 4 adP (sq adN (.region adO)))
def vr:=aA cQ 22
def adQ:=aA cQ 23
def adR:=aA cQ 24
def adS:=aA cQ 25
def vt:=aA cQ 26
def DA:=aA cQ 27
def VG:aC:=(fI adQ 135 6 DA (sq adR (sq adS (.region vt))))
def vu:=aA cQ 28
def adT:=aA cQ 29
def adU:=aA cQ 30
def adV:=aA cQ 31
def vw:=aA cQ 32
def vz:=aA cQ 33
def VH:aC:=(fI adT 177 8 vz (sq adU (sq adV (.region vw))))
def v6:=aA cQ 34
def adW:=aA cQ 35
def adX:=aA cQ 36
def adY:=aA cQ 37
def v7:=aA cQ 38
def v8:=aA cQ 39
def VI:aC:=(fI adW 198 10 v8 (sq adX (sq adY (.region v7))))
def JW:=aA cQ 40
def tP:=aA cQ 41
def VJ:=aA cQ 42
def fi:aC:=(sq awR (dP awS 65 wT (sq awT (sq awU (.seq (cH K5 0 VC) (.seq (cH vn 2 VD) (.seq (cH vq 4 VE) (.seq (cH vr 6 VG) (.seq (cH vu 8 VH) (.seq (cH v6 10 VI) (dP JW 243 tP (sq VJ .ret))))))))))))
def aUO:bD:=⟨1,244,fi,[.tmp 2]⟩
@[go_sem] theorem a9P(a b:List UInt8):RS .eql a b=some (.bool (a==b)):=(rfl)
@[go_sem] theorem a9Q(a b:List UInt8):RS .neq a b=some (.bool !(a==b)):=(rfl)
@[go_sem] theorem aEY(a b:List UInt8):RS .add a b=if((Z' a+Z' b:Nat):Int)>9223372036854775807 then none else some (.str (a++b)):=(rfl)
@[go_sem] theorem a5N:(([]:List UInt8)==[])=true:=(rfl)
@[go_sem] theorem a0P(c:UInt8)(t:List UInt8):((c::t)==[])=false:=(rfl)
theorem wN{a b:List UInt8}(h:a=b):(a==b)=true:=by simp[h]
theorem Ak{a b:List UInt8}(h:a≠b):(a==b)=false:=by simp[h]
section
variable {C:Ctx} {F:PF} {H:PH}
theorem yI{name o s:Nat}{rs:P2_}{vs:List PV}{v:PV}{args:List aP}{d:Option Nat}{K:PF->PH->Prop}(h:aH C name vs .nil (aI v))(l:H o=some (.rows s rs))
  (i:aP.evs (F.frz o s rs) args=some vs) (e:K ((F.frz o s rs).put d v) (H.frz o s rs)):lD C name args [] d K F H:=by
 refine .inr ⟨_,_,.step o l (.refl _ _),vs,.nil,aI v,?_,a_,h,?_⟩
 ·rw[i];simp
 ·rintro r H' ⟨rfl,rfl⟩ -;rw[PH.KL];exact e
theorem kN.trans{d e i:PF}{l H2 p:PH}(h:kN d l e H2)(k:kN e H2 i p):kN d l i p:=by
 induction h with
 |refl=>exact k
 |step o u h w=>exact .step o u (w k)
theorem xL{c:aC}{K:cF}{s:Nat}{v:PV}{rows:P2_}(M:cA H s v rows)
  (h:∀e,Seen s e rows->∀d l,(∀t,F t=some v->d t=some e)->(∀i u,F i=some u->Pure u->d i=some u)->aC.wp C (.loop c) K d l):aC.wp C (.loop c) K F H:=by
 obtain⟨e,N,J⟩:=M.frz;obtain⟨d,l,O,B,E⟩:=J F;obtain⟨α,x,Hs,y,m,A,w,H2,p,rest⟩:=h e N d l B E;exact⟨α,x,Hs,y,m,A,w,H2,O.trans p,rest⟩
theorem aH.aJJ{name s:Nat}{v:PV}{rows:P2_}{d:PH}{R:PV->PH->Prop}(h:aH C name [.sl s rows] d R)(i:Seen s v rows):aH C name [v] d R:=by
 rcases i with⟨rfl,rfl⟩|rfl
 ·refine h.args ⟨rfl,λj p q hp e=>?_⟩;cases j with
  |zero=>simp at hp e;subst hp;subst e;exact .nil s
  |succ j=>simp at hp
 ·exact h
theorem cA.fresh{s:Nat}{v:PV}{rows:P2_}{o:Nat}(h:cA H s v rows)(p:H o=none)(x:aY):cA (H.set o x) s v rows/\∀l,v≠.osl o s 0 l:=by
 refine⟨h.ext λq y i=>?_,λl e=>?_⟩
 ·have:q≠o:=by rintro rfl;rw[p]at i;cases i
  simp only[bC,aE this,i]
 ·rcases h with⟨_,d⟩|⟨q,rs,h1,d,_⟩
  ·rw[d]at e;cases e
  ·rw[h1]at e;injection e with u
   subst u;rw[p]at d;cases d
theorem sQ{s b:Nat}{v:PV}{rows:P2_}{r:List PV}{o:Nat}{x:aY}{K:PV->PH->Prop}(h:cA H s v rows)(p:H o=none)(u:roomFor rows.length 1 b)
  (l:∀v' H',cA H' s v' (rows++[r])->H' o=some x->K v' H'):sG (H.set o x) s b v (.sl s [r]) K:=by
 obtain⟨d,e⟩:=h.fresh p x;refine fL (src:=[r]) d (by simp[eA]) u λv' H' i hp=>l v' H' i (hp o x (by simp only[bC,if_true]) e)
theorem zQ{o s k:Nat}{rs:P2_}(d:k<=Z' rs):PV.frz o s rs (.osl o s 0 k)=.sl s (rs.take k):=by
 have:0+k<=Z' rs:=Om;simp only[PV.frz,PV.tO,PV.dV,if_true,true_and,aG this,bjG]
end
def gV(n:Nat):Bool:=decide (97<=n)&&decide (n<=122)||decide (65<=n)&&decide (n<=90)
def rK(n:Nat):Bool:=decide (48<=n)&&decide (n<=57)
def jQ(n:Nat):Bool:=gV n||rK n||decide (n=45)||decide (n=46)
theorem aHO(n:Nat):qS.wp C (aZ mi.res (aI (.bool (gV n)))) (g_ [.int .u8 n]) .nil:=by
 have fin:∀(F:PF)(b:Bool),F 2=some (.bool b)->b=gV n->aZ mi.res (aI (.bool (gV n))) .ret F .nil:=by intro F b h e;subst e;refine aT (.inr rfl) (vs:=[.bool (gV n)]) (by simp only[go_sem,mi,h]) rfl
 unfold gV at *
 by_cases a:97<=n
 ·have i:(n:Int)>=97:=Om;by_cases b:n<=122
  ·have p:(n:Int)<=122:=Om;simp only[go_sem,qS,wW,wX,i,p];exact fin _ _ rfl (by simp[a,b])
  ·have p:¬(n:Int)<=122:=Om;by_cases c:65<=n
   ·have l:(n:Int)>=65:=Om;have d:¬(n:Int)<=90:=Om;simp only[go_sem,qS,wW,wX,i,p,l,d];exact fin _ _ rfl (by simp[a,b,c];omega)
   ·omega
 ·have i:¬(n:Int)>=97:=Om;by_cases c:65<=n
  ·have l:(n:Int)>=65:=Om;by_cases d:n<=90
   ·have u:(n:Int)<=90:=Om;simp only[go_sem,qS,wW,wX,i,l,u];exact fin _ _ rfl (by simp[a,c,d])
   ·have u:¬(n:Int)<=90:=Om;simp only[go_sem,qS,wW,wX,i,l,u];exact fin _ _ rfl (by simp[a,c,d])
  ·have l:¬(n:Int)>=65:=Om;simp only[go_sem,qS,wW,wX,i,l];exact fin _ _ rfl (by simp[a,c])
theorem aNG(n:Nat):yA.wp C (aZ Ee.res (aI (.bool (rK n)))) (g_ [.int .u8 n]) .nil:=by
 have fin:∀(F:PF)(b:Bool),F 2=some (.bool b)->b=rK n->aZ Ee.res (aI (.bool (rK n))) .ret F .nil:=by intro F b h e;subst e;refine aT (.inr rfl) (vs:=[.bool (rK n)]) (by simp only[go_sem,Ee,h]) rfl
 unfold rK at *
 by_cases a:48<=n
 ·have d:(n:Int)>=48:=Om;by_cases b:n<=57
  ·have i:(n:Int)<=57:=Om;simp only[go_sem,yA,MP,MQ,d,i];exact fin _ _ rfl (by simp[a,b])
  ·have i:¬(n:Int)<=57:=Om;simp only[go_sem,yA,MP,MQ,d,i];exact fin _ _ rfl (by simp[a,b])
 ·have d:¬(n:Int)>=48:=Om;simp only[go_sem,yA,MP,MQ,d];exact fin _ _ rfl (by simp[a])
theorem aNK(p:∀n:Nat,aH C 126 [.int .u8 n] .nil (aI (.bool (gV n))))(u:∀n:Nat,aH C 124 [.int .u8 n] .nil (aI (.bool (rK n))))(n:Nat) :
  OP.wp C (aZ Ef.res (aI (.bool (jQ n)))) (g_ [.int .u8 n]) .nil:=by
 have fin:∀(F:PF)(b:Bool),F 2=some (.bool b)->b=jQ n->aZ Ef.res (aI (.bool (jQ n))) .ret F .nil:=by intro F b h e;subst e;refine aT (.inr rfl) (vs:=[.bool (jQ n)]) (by simp only[go_sem,Ef,h]) rfl
 simp only[go_sem,OP,Qp,Qq];refine aB (p n) rfl ?_;cases l:gV n with
 |true =>simp only[go_sem];exact fin _ _ rfl (by simp[jQ,l])
 |false=>
  simp only[go_sem];refine aB (u n) rfl ?_;cases i:rK n with
  |true =>simp only[go_sem];exact fin _ _ rfl (by simp[jQ,i])
  |false=>
   by_cases c:n=45
   ·simp only[go_sem,bY (Om:(n:Int)=45)];exact fin _ _ rfl (by simp[jQ,c])
   ·by_cases d:n=46
    ·simp only[go_sem,bL (Om:(n:Int)≠45),bY (Om:(n:Int)=46)];exact fin _ _ rfl (by simp[jQ,d])
    ·simp only[go_sem,bL (Om:(n:Int)≠45),bL (Om:(n:Int)≠46)];exact fin _ _ rfl (by simp[jQ,c,d,l,i])
def isName(s:List UInt8):Bool:=match s with
 |[]=>false
 |c::_=>decide (Z' s<=16)&&gV c.toNat&&s.all λc=>jQ c.toNat
theorem vE{α:Type}{p:α->Bool}{l:List α}{k:Nat}(d:k<Z' l)(h:(l.take k).all p=true)(hp:p l[k]=true):(l.take (k+1)).all p=true:=by
 rw[bjF d,List.all_append,h];simp[hp]
theorem vF{α:Type}{p:α->Bool}{l:List α}{k:Nat}(d:k<Z' l)(hp:p l[k]=false):l.all p=false:=by
 rw[List.all_eq_false];exact⟨l[k],bhS d,by simp[hp]⟩
def aeK(s:List UInt8)(k:Nat):PF:=((n_.set 0 (.str s)).set 3 (.int .i64 k))
theorem aVE(y:∀n:Nat,aH C 126 [.int .u8 n] .nil (aI (.bool (gV n))))(A:∀n:Nat,aH C 125 [.int .u8 n] .nil (aI (.bool (jQ n))))(s:List UInt8) :
  BE.wp C (aZ W2.res (aI (.bool (isName s)))) (g_ [.str s]) .nil:=by
 have fin:∀(F:PF)(b:Bool),F 2=some (.bool b)->b=isName s->aZ W2.res (aI (.bool (isName s))) .ret F .nil:=by intro F b h e;subst e;refine aT (.inr rfl) (vs:=[.bool (isName s)]) (by simp only[go_sem,W2,h]) rfl
 cases s with
 |nil =>simp only[go_sem,BE,VQ,VR,VS];exact fin _ _ rfl rfl
 |cons c t=>
  have E:(c::t)[0]?=some c:=rfl;have p:(c::t==[])=false:=rfl;have l:isName (c::t)=(decide ((c::t).length<=16)&&gV c.toNat&&(c::t).all λc=>jQ c.toNat):=rfl;generalize c::t=s at *
  by_cases x:Z' s<=16
  ·have i:¬(Z' s:Int)>16:=Om;rw[bA x,biA]at l;simp only[go_sem,BE,VQ,VR,p,i,E,biP];refine aB (y c.toNat) rfl ?_;cases w:gV c.toNat with
   |false =>simp only[go_sem,biF,VS];exact fin _ _ rfl (by rw[l,w];rfl)
   |true=>
    rw[w,biA]at l;simp only[go_sem,bhZ,aeM];refine wp_loop (α:=Nat) (λk=>aeK s k) (λ_=>.nil) (λk=>k<=Z' s/\(s.take k).all (λc=>jQ c.toNat)=true) (λk=>Z' s-k) 0 ⟨bhT _,rfl⟩ ?_ a_ ?_
    ·unfold aeK;exact Lq
    rintro k ⟨H,u⟩;simp only[go_sem,aeL,aeN,aeK];by_cases hlt:k<Z' s
    ·have d:(k:Int)<(Z' s:Nat):=Om;have B:s[k]?=some s[k]:=biD hlt;simp only[go_sem,d,aeO,B,biP];refine aB (A (s[k]).toNat) rfl ?_;cases hi:jQ (s[k]).toNat with
     |false =>simp only[go_sem,biF,aeP];refine fin _ false rfl ?_;rw[l,vF hlt hi]
     |true =>simp only[go_sem,bhZ,aeQ,wZz k];refine aJ (k+1) ⟨hlt,biB.1 (vE hlt u hi)⟩ Om ?_ a_;exact Lq
    ·have d:¬(k:Int)<(Z' s:Nat):=Om;simp only[go_sem,d,aeR];have:k=Z' s:=Om;subst this;rw[biK (bhV _)]at u;exact fin _ true rfl (by rw[l,u])
  ·have i:(Z' s:Int)>16:=Om;simp only[go_sem,BE,VQ,VR,VS,p,i];exact fin _ _ rfl (by rw[l,bG x];rfl)
abbrev dL(x:Int):Prop:=-9223372036854775808<=x/\x<=9223372036854775807
structure cW where
 name:List UInt8
 start:List RF
 bgI:List (List RF)
 exit:List RF
structure dS where
 name:List UInt8
 bgT:Int
 port:Int
 law:Int
structure cS where
 name:List UInt8
 level:Int
 parent:Int
 bgX:Int
 bgS:RF
structure eJ where
 name:List UInt8
 model:Int
 machine:Int
structure cE where
 name:List UInt8
 k:Int
 m:Int
 bhB:Int
 s0:Int
 s1:Int
 s2:Int
 s3:Int
 s4:Int
 bgE:List Int
 repair:List RF
 target:RF
 bgN:RF
structure eG where
 name:List UInt8
 bgP:Int
structure aD where
 bhH:Int
 bgK:List cW
 bgE:List dS
 bgG:List cS
 bgD:List eJ
 bgH:List cE
 bgF:List eG
abbrev I(x:Int):PV:=.int .i64 x
abbrev aJE(l:List (List RF)):PV:=.sl 1 (l.map λr=>[frs r])
abbrev cW.cells(x:cW):List PV:=[.str x.name,frs x.start,aJE x.bgI,frs x.exit]
abbrev dS.cells(x:dS):List PV:=[.str x.name,.int .i64 x.bgT,.int .i64 x.port,.int .i64 x.law]
abbrev cS.cells(x:cS):List PV:=[.str x.name,.int .i64 x.level,.int .i64 x.parent,.int .i64 x.bgX,.bool x.bgS.neg,aN x.bgS.num,aN x.bgS.den]
abbrev eJ.cells(x:eJ):List PV:=[.str x.name,.int .i64 x.model,.int .i64 x.machine]
abbrev cE.cells(x:cE):List PV:=[.str x.name,.int .i64 x.k,.int .i64 x.m,.int .i64 x.bhB,.int .i64 x.s0,.int .i64 x.s1,.int .i64 x.s2,.int .i64 x.s3,.int .i64 x.s4,ints x.bgE,frs x.repair,
 .bool x.target.neg,aN x.target.num,aN x.target.den,.bool x.bgN.neg,aN x.bgN.num,aN x.bgN.den]
abbrev eG.cells(x:eG):List PV:=[.str x.name,.int .i64 x.bgP]
abbrev aD.cells(f:aD):List PV:=[.int .i64 f.bhH,.sl 4 (f.bgK.map cW.cells),.sl 4 (f.bgE.map dS.cells),.sl 7 (f.bgG.map cS.cells),.sl 3 (f.bgD.map eJ.cells),.sl 17 (f.bgH.map cE.cells),.sl 2 (f.bgF.map eG.cells)]
def cE.spread(p:cE)(level:Nat):Int:=match level with
 |0=>p.s0
 |1=>p.s1
 |2=>p.s2
 |3=>p.s3
 |_=>p.s4
abbrev Fits{α:Type}(l:List α):Prop:=Z' l<=9223372036854775807
structure oC(l:List RF):Prop where
 fits:Fits l
 all:∀x∈l,x.Ok
structure cW.Ok(x:cW):Prop where
 start:oC x.start
 exit:oC x.exit
 bgI:Fits x.bgI
 row:∀r∈x.bgI,oC r
structure cE.Ok(x:cE):Prop where
 k:dL x.k
 m:dL x.m
 bhB:dL x.bhB
 bgE:Fits x.bgE
 each:∀m∈x.bgE,dL m
 repair:oC x.repair
 target:x.target.Ok
 bgN:x.bgN.Ok
structure aD.Ok(f:aD):Prop where
 bgK:Fits f.bgK
 bgE:Fits f.bgE
 bgG:Fits f.bgG
 bgD:Fits f.bgD
 bgH:Fits f.bgH
 bgF:Fits f.bgF
 law:∀x∈f.bgK,x.Ok
 dom:∀x∈f.bgG,x.bgS.Ok/\dL x.level/\dL x.parent
 drive:∀x∈f.bgD,dL x.model/\dL x.machine
 bgP:∀x∈f.bgH,x.Ok
 volume:∀x∈f.bgF,dL x.bgP
def oZ(x:RF):FR:=if cC (val x.num) (val x.den)then jP x.neg (val x.num) (val x.den)else .error 1
theorem aJA(x:RF):mw x.neg (val x.num) (val x.den)=frV (oZ x):=by
 unfold mw oZ;split
 ·exact SF _ _ _
 ·rfl
def dT(x:RF):Bool:=match oZ x with
 | .ok (n,a,b)=>!n&&(decide (cX a<=32)&&decide (cX b<=32))
 | .error _=>false
def bZ(x:RF):Bool:=decide (val x.num≠0)
def FO(x:RF):Bool:=cC (val x.num) (val x.den)&&decide (sU x.neg (val x.num) (val x.den) false 1 1<=0)
def within(n lo hi:Int):Bool:=decide (lo<=n)&&decide (n<=hi)
def dD(R:List Bool)(i:Nat)(row:List RF):Nat->List Bool
 |0=>R
 |k+1=>let d:=dD R i row k
  d.set i (d.getD i false||(row.map bZ).getD k false&&d.getD k false)
def pI(l:cW)(R:List Bool)(i:Nat):List Bool:=
 dD (R.set i (R.getD i false||(l.exit.map bZ).getD i false)) i (l.bgI.getD i []) (l.bgI.getD i []).length
def dY(l:cW)(R:List Bool):Nat->List Bool
 |0=>R
 |i+1=>pI l (dY l R i) i
def eC(l:cW):Nat->List Bool
 |0=>bhU l.exit.length false
 |r+1=>dY l (eC l r) l.exit.length
def uS(l:cW):Bool:=(eC l (Z' l.exit+1)).all id
def oV(l:cW):Bool:=
 within l.start.length 1 4&&decide (Z' l.exit=Z' l.start)&&decide (Z' l.bgI=Z' l.start)&&l.start.all dT&&l.exit.all dT
 && (bhP l.bgI.length).all (λi=>decide ((l.bgI.getD i []).length=Z' l.start)&&(l.bgI.getD i []).all dT&&!((l.bgI.getD i []).map bZ).getD i false)
 && (match tA (l.start.map RF.v)with
  | .ok (n,a,b)=>decide (sU n a b false 1 1=0)
  | .error _=>false)&&uS l
def distinct(l:List (List UInt8)):Bool:=(bhP l.length).all λi=>isName (l.getD i [])&&!(l.take i).contains (l.getD i [])
def UH(f:aD)(i:Nat)(d:cS):Bool:=
 within d.parent 0 i&&decide ((f.bgG.map cS.level).getD d.parent.toNat 0=i_.wrap (d.level-1))&&within d.level 1 4&&within d.bgX 1 64&&dT d.bgS
def MD(f:aD)(r:cS)(t:List cS):Bool:=
 decide (r.name=[])&&decide (r.level=0)&&decide (r.parent=-1)&&decide (r.bgX=0)&&dT r.bgS&&!bZ r.bgS
  && (bhP t.length).all λi=>match t[i]? with
   |some d=>UH f i d
   |none=>false
def tL(f:aD):Bool:=match f.bgG with
 |[]=>false
 |r::t=>MD f r t
def XC(p:cE):Bool:=
 within p.k 1 6&&within p.m 0 4&&decide (p.k+p.m<=8)&&within p.bhB p.k (p.k+p.m)&&decide (p.s0=0)&&([p.s0,p.s1,p.s2,p.s3,p.s4].all λn=>within n 0 8)
def MY(p:cE):Bool:=
 decide ((Z' p.repair:Int)=max p.m 1)&&(p.repair.all λx=>dT x&&bZ x)&&dT p.target&&FO p.target&&dT p.bgN
def mW(bgE:Nat)(p:cE):Bool:=
 XC p&&decide (Z' p.bgE≠0)&&MY p&&(bhP p.bgE.length).all λj=>within (p.bgE.getD j 0) 0 ((bgE:Int)-1)&&!(p.bgE.take j).contains (p.bgE.getD j 0)
def oY(f:aD)(m:dS):Bool:=within m.bgT 1 16&&within m.port 1 64&&within m.law 0 ((Z' f.bgK:Int)-1)
def mH(f:aD)(d:eJ):Bool:=within d.model 0 ((Z' f.bgE:Int)-1)&&within d.machine 0 ((Z' f.bgG:Int)-1)&&decide ((f.bgG.map cS.level).getD d.machine.toNat 0=4)
def tY(f:aD)(v:eG):Bool:=within v.bgP 0 ((Z' f.bgH:Int)-1)
def sY(f:aD):Bool:=within f.bhH 1 4&&decide (Z' f.bgK<=4)&&decide (Z' f.bgE<=4)&&decide (Z' f.bgG<=40)&&decide (Z' f.bgD<=24)&&decide (Z' f.bgH<=4)&&decide (Z' f.bgF<=12)
def dC(f:aD):Bool:=
 sY f&&tL f&&(f.bgK.all oV&&f.bgE.all (oY f)&&f.bgD.all (mH f)&&f.bgH.all (mW f.bgE.length)&&f.bgF.all (tY f))
 && (distinct (f.bgK.map cW.name)&&distinct (f.bgE.map dS.name)&&distinct ((f.bgG.drop 1).map cS.name++f.bgD.map eJ.name)&&distinct (f.bgH.map cE.name)&&distinct (f.bgF.map eG.name))
theorem bQ{t:Nat}{b d:Bool}{F:PF}{H:PH}(h:F t=some (.bool b))(e:b=d):aZ [.tmp t] (cM (.bool d)) .ret F H:=by
 subst e;exact bE (.inr rfl) .nil (vs:=[.bool b]) (by rw[pJ,sW,h,uL]) a_ ⟨.refl _,rfl⟩
theorem a6G(n lo hi:Int):JS.wp C (aZ gin.res (cM (.bool (within n lo hi)))) (g_ [.int .i64 n,.int .i64 lo,.int .i64 hi]) .nil:=by
 by_cases a:lo<=n
 ·by_cases b:n<=hi
  ·simp only[go_sem,JS,D2,D3,gin,show n>=lo from a,b];exact bQ Ev (by simp[within,a,b])
  ·simp only[go_sem,JS,D2,D3,gin,show n>=lo from a,b];exact bQ Ev (by simp[within,a,b])
 ·have d:¬n>=lo:=a;simp only[go_sem,JS,D2,D3,gin,d];exact bQ Ev (by simp[within,a])
theorem aMZ(L:AO C)(x:RF)(d:x.Ok):OM.wp C (aZ aaZ.res (cM (.bool (bZ x)))) (g_ [.agg x.cells]) .nil:=by
 simp only[go_sem,OM,P8,P9,aaZ];refine aB (L.bits x.num d.1 d.2.2.1) Ev ?_;simp only[go_sem];refine bQ Ev ?_;have:=@oP (val x.num);rw[bZ,decide_eq_decide];omega
structure AJ(C:Ctx):Prop extends LO C where
 frac:∀n d:Int,dL n->dL d->aH C 115 [.int .i64 n,.int .i64 d] .nil (aI (MS n d))
 red:∀x:RF,x.Ok->aH C 116 [.agg x.cells] .nil (aI (frV (oZ x)))
 ord:∀x y:RF,x.Ok->y.Ok->aH C 114 [.agg x.cells,.agg y.cells] .nil (aI (wQ x.neg (val x.num) (val x.den) y.neg (val y.num) (val y.den)))
 plus:∀x y:RF,x.Ok->y.Ok->aH C 113 [.agg x.cells,.agg y.cells] .nil (aI (frV (gY x.v y.v)))
 tot:∀l:List RF,oC l->aH C 117 [frs l] .nil (aI (frV (tA (l.map RF.v))))
theorem VT{neg:Bool}{a b:Nat}{e:Int}(h:jP neg a b=.error e):e=2:=by
 unfold jP at h;split at h
 ·injection h with h;exact h.symm
 ·cases h
theorem XP{x:RF}{e:Int}(h:oZ x=.error e):e≠0:=by
 unfold oZ at h;split at h
 ·rw[VT h];decide
 ·injection h with h;subst h;decide
theorem Mg{x:RF}{r:FV}(h:oZ x=.ok r):r.rf.Ok:=by
 unfold oZ at h;split at h
 ·exact(wY h).2
 ·cases h
theorem a1U(L:AJ C)(x:RF)(u:x.Ok):fc.wp C (aZ aUF.res (cM (.bool (dT x)))) (g_ [.agg x.cells]) .nil:=by
 simp only[go_sem,fc,awB,awC,aUF];refine aB (L.red x u) Ev ?_;unfold dT;cases l:oZ x with
 |error e =>have:=bL (XP l);simp only[go_sem,frV];refine aQ λo p=>?_;simp only[go_sem,mb,this];exact bQ Ev rfl
 |ok r=>
  obtain⟨n,a,b⟩:=r;obtain⟨w,y,A,B⟩:=Mg l;simp only[go_sem,frV];refine aQ λo p=>?_;cases n with
  |true =>simp only[go_sem,mb];exact bQ Ev rfl
  |false=>
   simp only[go_sem,mb];refine aB (L.bits _ w A) Ev ?_;rw[show val (FV.rf (false,a,b)).num=a from aV a];by_cases i:cX a<=32
   ·have d:((cX a:Nat):Int)<=32:=Om;simp only[go_sem,d];refine aB (L.bits _ y B) Ev ?_;rw[show val (FV.rf (false,a,b)).den=b from aV b];simp only[go_sem];refine bQ Ev ?_;rw[bA i];simp;omega
   ·have d:¬((cX a:Nat):Int)<=32:=Om;simp only[go_sem,d];refine bQ Ev ?_;rw[bG i];rfl
theorem aeV:jP false 1 1=.ok (false,1,1):=by
 have:cX 1=1:=by rw[vH aS,nK]
 simp[jP,this]
theorem afH:MS 1 1=frV (.ok (false,1,1)):=by
 rw[MS,aE aS,SF];show frV (jP false 1 1)=_;rw[aeV]
theorem aOT:(FV.rf (false,1,1)).Ok:=(wY aeV).2
theorem Ux:cC 1 1=true:=by
 have:cX 1=1:=by rw[vH aS,nK]
 simp[cC,this]
theorem a1W(L:AJ C)(x:RF)(d:x.Ok):fg.wp C (aZ gone.res (cM (.bool (FO x)))) (g_ [.agg x.cells]) .nil:=by
 simp only[go_sem,fg,awG,awH,gone];refine aB (L.frac 1 1 aS aS) Ev ?_;rw[afH];simp only[go_sem,frV];refine aQ λo e=>?_;simp only[go_sem,awI];refine aB (L.ord x (FV.rf (false,1,1)) d aOT) Ev ?_;rw[show val (FV.rf (false,1,1)).num=1 from aV 1,show val (FV.rf (false,1,1)).den=1 from aV 1,show(FV.rf (false,1,1)).neg=false from rfl];unfold wQ FO;rw[Ux,bjY];cases i:cC (val x.num) (val x.den)with
 |false =>simp only[go_sem,K3];exact bQ Ev rfl
 |true =>simp only[go_sem,K3];exact bQ Ev rfl
theorem aUA(p:RF->Bool)(fn:Nat)(l:List RF)(u:Fits l)(h:∀x∈l,aH C fn [.agg x.cells] .nil (aI (.bool (p x)))) :
  UT.wp C (aZ aGK.res (cM (.bool (l.all p)))) (g_ [frs l,.fn fn []]) .nil:=by
 simp only[go_sem,UT,abK,abL,aGK];refine wp_loop (α:=Nat) (λk=>((((n_.set 1 (.fn fn [])).set 7 (frs l)).set 8 (.int .i64 (Z' l:Nat))).set 9 (.int .i64 k))) (λ_=>.nil) (λk=>k<=Z' l/\(l.take k).all p=true) (λk=>Z' l-k) 0 ⟨bhT _,rfl⟩ ?_ a_ ?_
 ·(repeat' (first|exact c_|refine d_ ?_ ?_))<;>first|(simp only[go_sem,bhO]<;>rfl)|rfl
 rintro k ⟨w,e⟩;simp only[go_sem,abJ,abM];by_cases hlt:k<Z' l
 ·have d:(k:Int)<(Z' l:Nat):=Om;have i:(l.map RF.cells)[k]?=some (l[k]).cells:=by simp[hlt]
  simp only[go_sem,d,abN,i];refine aQ λo y=>?_;simp only[go_sem,abO];refine aB (h _ (bhS hlt)) Ev ?_;cases hp:p l[k]with
  |false =>simp only[go_sem,abP];exact bQ (b:=false) Ev (vF (p:=p) hlt hp).symm
  |true =>simp only[go_sem,abQ,wZz k];refine aJ (k+1) ⟨hlt,biB.1 (vE hlt e hp)⟩ Om ?_ a_;exact Lq
 ·have d:¬(k:Int)<(Z' l:Nat):=Om;simp only[go_sem,d,abR];have:k=Z' l:=Om;subst this;rw[biK (bhV _)]at e;exact bQ Ev e.symm
theorem aUB(p:Int->Bool)(fn:Nat)(l:List Int)(u:Fits l)(h:∀x∈l,aH C fn [.int .i64 x] .nil (aI (.bool (p x)))) :
  UU.wp C (aZ aGL.res (cM (.bool (l.all p)))) (g_ [ints l,.fn fn []]) .nil:=by
 simp only[go_sem,UU,abT,abU,aGL];refine wp_loop (α:=Nat) (λk=>((((n_.set 1 (.fn fn [])).set 7 (ints l)).set 8 (.int .i64 (Z' l:Nat))).set 9 (.int .i64 k))) (λ_=>.nil) (λk=>k<=Z' l/\(l.take k).all p=true) (λk=>Z' l-k) 0 ⟨bhT _,rfl⟩ ?_ a_ ?_
 ·(repeat' (first|exact c_|refine d_ ?_ ?_))<;>first|(simp only[go_sem,bhO]<;>rfl)|rfl
 rintro k ⟨w,e⟩;simp only[go_sem,abS,abV];by_cases hlt:k<Z' l
 ·have d:(k:Int)<(Z' l:Nat):=Om;have i:(l.map λn=>[PV.int .i64 n])[k]?=some [.int .i64 l[k]]:=by simp[hlt]
  simp only[go_sem,d,abW,i,abX];refine aB (h _ (bhS hlt)) Ev ?_;cases hp:p l[k]with
  |false =>simp only[go_sem,abY];exact bQ (b:=false) Ev (vF (p:=p) hlt hp).symm
  |true =>simp only[go_sem,abZ,wZz k];refine aJ (k+1) ⟨hlt,biB.1 (vE hlt e hp)⟩ Om ?_ a_;exact Lq
 ·have d:¬(k:Int)<(Z' l:Nat):=Om;simp only[go_sem,d,acA];have:k=Z' l:=Om;subst this;rw[biK (bhV _)]at e;exact bQ Ev e.symm
abbrev aEZ(l:List Bool):PV:=.sl 1 (l.map λb=>[PV.bool b])
theorem aTZ(p:Bool->Bool)(fn:Nat)(l:List Bool)(u:Fits l)(h:∀x∈l,aH C fn [.bool x] .nil (aI (.bool (p x)))) :
  US.wp C (aZ aGJ.res (cM (.bool (l.all p)))) (g_ [aEZ l,.fn fn []]) .nil:=by
 simp only[go_sem,US,abB,abC,aGJ];refine wp_loop (α:=Nat) (λk=>((((n_.set 1 (.fn fn [])).set 7 (aEZ l)).set 8 (.int .i64 (Z' l:Nat))).set 9 (.int .i64 k))) (λ_=>.nil) (λk=>k<=Z' l/\(l.take k).all p=true) (λk=>Z' l-k) 0 ⟨bhT _,rfl⟩ ?_ a_ ?_
 ·(repeat' (first|exact c_|refine d_ ?_ ?_))<;>first|(simp only[go_sem,bhO]<;>rfl)|rfl
 rintro k ⟨w,e⟩;simp only[go_sem,abA,abD];by_cases hlt:k<Z' l
 ·have d:(k:Int)<(Z' l:Nat):=Om;have i:(l.map λb=>[PV.bool b])[k]?=some [.bool l[k]]:=by simp[hlt]
  simp only[go_sem,d,abE,i,abF];refine aB (h _ (bhS hlt)) Ev ?_;cases hp:p l[k]with
  |false =>simp only[go_sem,abG];exact bQ (b:=false) Ev (vF (p:=p) hlt hp).symm
  |true =>simp only[go_sem,abH,wZz k];refine aJ (k+1) ⟨hlt,biB.1 (vE hlt e hp)⟩ Om ?_ a_;exact Lq
 ·have d:¬(k:Int)<(Z' l:Nat):=Om;simp only[go_sem,d,abI];have:k=Z' l:=Om;subst this;rw[biK (bhV _)]at e;exact bQ Ev e.symm
theorem aNA(b:Bool):ON.wp C (aZ acE.res (cM (.bool b))) (g_ [.bool b]) .nil:=by
 simp only[go_sem,ON,Qa,Qb,acE];exact bQ Ev rfl
theorem aUH(d:∀n lo hi:Int,aH C 104 [.int .i64 n,.int .i64 lo,.int .i64 hi] .nil (aI (.bool (within n lo hi))))(n:Int):UY.wp C (aZ aGQ.res (cM (.bool (within n 0 8)))) (g_ [.int .i64 n]) .nil:=by
 simp only[go_sem,UY,acO,acP,aGQ];refine aB (d n 0 8) Ev ?_;simp only[go_sem];exact bQ Ev rfl
theorem aNC(e:∀x:RF,x.Ok->aH C 105 [.agg x.cells] .nil (aI (.bool (dT x))))(i:∀x:RF,x.Ok->aH C 97 [.agg x.cells] .nil (aI (.bool (bZ x))))(x:RF)(d:x.Ok) :
  OO.wp C (aZ acT.res (cM (.bool (dT x&&bZ x)))) (g_ [.agg x.cells]) .nil:=by
 simp only[go_sem,OO,Qg,Qh,acT];refine aB (e x d) Ev ?_;cases l:dT x with
 |false =>simp only[go_sem];exact bQ Ev rfl
 |true =>simp only[go_sem];refine aB (i x d) Ev ?_;simp only[go_sem];exact bQ Ev rfl
structure AI(C:Ctx):Prop extends AJ C where
 inn:∀n lo hi:Int,aH C 104 [.int .i64 n,.int .i64 lo,.int .i64 hi] .nil (aI (.bool (within n lo hi)))
 wL:∀x:RF,x.Ok->aH C 97 [.agg x.cells] .nil (aI (.bool (bZ x)))
 lim:∀x:RF,x.Ok->aH C 105 [.agg x.cells] .nil (aI (.bool (dT x)))
 one:∀x:RF,x.Ok->aH C 101 [.agg x.cells] .nil (aI (.bool (FO x)))
 allf:∀(p:RF->Bool)(fn:Nat)(l:List RF),Fits l->(∀x∈l,aH C fn [.agg x.cells] .nil (aI (.bool (p x))))->aH C 99 [frs l,.fn fn []] .nil (aI (.bool (l.all p)))
 alli:∀(p:Int->Bool)(fn:Nat)(l:List Int),Fits l->(∀x∈l,aH C fn [.int .i64 x] .nil (aI (.bool (p x))))->aH C 100 [ints l,.fn fn []] .nil (aI (.bool (l.all p)))
 allb:∀(p:Bool->Bool)(fn:Nat)(l:List Bool),Fits l->(∀x∈l,aH C fn [.bool x] .nil (aI (.bool (p x))))->aH C 98 [aEZ l,.fn fn []] .nil (aI (.bool (l.all p)))
 ends1:∀b:Bool,aH C 103 [.bool b] .nil (aI (.bool b))
 num1:∀n:Int,aH C 107 [.int .i64 n] .nil (aI (.bool (within n 0 8)))
 rate1:∀x:RF,x.Ok->aH C 109 [.agg x.cells] .nil (aI (.bool (dT x&&bZ x)))
 name:∀s:List UInt8,aH C 123 [.str s] .nil (aI (.bool (isName s)))
theorem AI.aVD(L:AI C)(l:List RF)(h:oC l):aH C 99 [frs l,.fn 105 []] .nil (aI (.bool (l.all dT))):=
 L.allf dT 105 l h.fits λx d=>L.lim x (h.all x d)
theorem within_iff{n lo hi:Int}:within n lo hi=true↔lo<=n/\n<=hi:=by simp[within]
theorem a1V(L:AI C)(p:cE)(hp:p.Ok) :
  ff.wp C (aZ aUG.res (cM (.bool (XC p)))) (g_ [.int .i64 p.k,.int .i64 p.m,.int .i64 p.bhB,.agg [.int .i64 p.s0,.int .i64 p.s1,.int .i64 p.s2,.int .i64 p.s3,.int .i64 p.s4]]) .nil:=by
 simp only[go_sem,ff,awD,awE,aUG];refine aB (L.inn p.k 1 6) rfl ?_;unfold XC;cases w:within p.k 1 6 with
 |false =>simp only[go_sem,biF,IF];exact bQ rfl (by simp only[bhY])
 |true=>
  obtain⟨k1,k2⟩:=within_iff.1 w;simp only[go_sem,bhZ];refine aB (L.inn p.m 0 4) rfl ?_;cases y:within p.m 0 4 with
  |false =>simp only[go_sem,biF,IF];exact bQ rfl (by simp only[bhY,bjE])
  |true=>
   obtain⟨E,F⟩:=within_iff.1 y;have u:i_.wrap (p.k+p.m)=p.k+p.m:=wrap_i64 Om Om;by_cases l:p.k+p.m<=8
   ·have d:¬p.k+p.m>8:=Om;simp only[go_sem,bhZ,u,d];refine aB (L.inn p.bhB p.k (p.k+p.m)) rfl ?_;cases B:within p.bhB p.k (p.k+p.m)with
    |false =>simp only[go_sem,biF,IF];exact bQ rfl (by simp only[bhY,bjE])
    |true=>
     have e:(0:Int)<((5:Nat):Int):=by decide
     by_cases h5:p.s0=0
     ·have i:chunks 1 5 [PV.int .i64 p.s0,.int .i64 p.s1,.int .i64 p.s2,.int .i64 p.s3,.int .i64 p.s4]=([p.s0,p.s1,p.s2,p.s3,p.s4].map λn=>[PV.int .i64 n]):=rfl;have A:5<=maxLen:=by decide
      simp only[go_sem,bhZ,e,cN h5,awF,i,A];refine aB (L.alli (λn=>within n 0 8) 107 [p.s0,p.s1,p.s2,p.s3,p.s4] (show 5<=9223372036854775807 by decide) λx _=>L.num1 x) rfl ?_;simp only[go_sem];exact bQ rfl (by rw[bA l,bA h5];simp only[biA])
     ·simp only[go_sem,bhZ,e,dX h5,IF];exact bQ rfl (by rw[bG h5];simp only[bhY,bjE])
   ·have d:p.k+p.m>8:=Om;simp only[go_sem,bhZ,u,d,IF];exact bQ rfl (by rw[bG l];simp only[bhY,bjE])
theorem max_eq(a b:Int):(if a<b then b else a)=max a b:=by
 rw[Int.max_def];by_cases h:a<b
 ·rw[aG h,aG Om]
 ·by_cases d:a<=b
  ·rw[aE h,aG d];omega
  ·rw[aE h,aE d]
theorem aUJ(L:AI C)(p:cE)(hp:p.Ok) :
  UZ.wp C (aZ aGR.res (cM (.bool (MY p)))) (g_ [.int .i64 p.m,frs p.repair,.agg p.target.cells,.agg p.bgN.cells]) .nil:=by
 simp only[go_sem,UZ,acU,acV,aGR,max_eq,bhO];unfold MY;by_cases d:(Z' p.repair:Int)=max p.m 1
 ·simp only[go_sem,bY d];refine aB (L.allf (λx=>dT x&&bZ x) 109 p.repair hp.repair.fits λx e=>L.rate1 x (hp.repair.all x e)) rfl ?_;rw[bA d,biA];cases i:p.repair.all λx=>dT x&&bZ x with
  |false =>simp only[go_sem];exact bQ rfl rfl
  |true=>
   simp only[go_sem];refine aB (L.lim _ hp.target) rfl ?_;cases l:dT p.target with
   |false =>simp only[go_sem];exact bQ rfl rfl
   |true=>
    simp only[go_sem];refine aB (L.one _ hp.target) rfl ?_;cases u:FO p.target with
    |false =>simp only[go_sem];exact bQ rfl rfl
    |true =>simp only[go_sem];refine aB (L.lim _ hp.bgN) rfl ?_;simp only[go_sem];exact bQ rfl rfl
 ·simp only[go_sem,bL d];exact bQ rfl (by rw[bG d];rfl)
def xI(l:List (List UInt8))(k:List KS):Option PV:=match k with
 |[.str s]=>if l.contains s then some (.bool true)else none
 |_=>none
theorem aPW(l:List (List UInt8))(s:List UInt8):(λk=>if k=[KS.str s]then some (PV.bool true)else xI l k)=xI (l++[s]):=by
 funext k
 match k with
 |[]=>rfl
 |[.int a b]=>simp[xI]
 |[.bool a]=>simp[xI]
 |[.str t]=>
  by_cases h:t=s
  ·subst h;simp[xI]
  ·simp[xI,h]
 |a::b::c=>simp[xI]
abbrev texts(l:List (List UInt8)):PV:=.sl 1 (l.map λs=>[PV.str s])
theorem aPV:xI []=(λ_=>none:nS):=by
 funext k
 match k with
 |[]=>rfl
 |[.int a b]=>rfl
 |[.bool a]=>rfl
 |[.str t]=>rfl
 |a::b::c=>cases a<;>rfl
theorem aPX(l:List (List UInt8))(s:List UInt8):nS.upd (xI l) [KS.str s] (.bool true)=xI (l++[s]):=aPW l s
theorem akM(l:List (List UInt8))(s:List UInt8):(xI l [KS.str s]).getD (.bool false)=.bool (l.contains s):=by
 show(if l.contains s then some (PV.bool true)else none).getD (.bool false)=_;cases l.contains s<;>rfl
theorem Mf{p:Nat->Bool}{k:Nat}(h:(bhP k).all p=true)(hp:p k=true):(bhP (k+1)).all p=true:=by
 rw[List.range_succ,List.all_append,h];simp[hp]
theorem gX{p:Nat->Bool}{n k:Nat}(d:k<n)(hp:p k=false):(bhP n).all p=false:=by
 rw[List.all_eq_false];exact⟨k,biM.2 d,by simp[hp]⟩
def yK(p:Nat->Bool)(k:Nat):Prop:=(bhP k).all p=true
theorem yK.zero{p:Nat->Bool}:yK p 0:=rfl
theorem yK.step{p:Nat->Bool}{k:Nat}(h:yK p k)(hp:p k=true):yK p (k+1):=Mf h hp
def aKB(l:List (List UInt8))(o k:Nat):PF:=((((n_.set 3 (.map o)).set 7 (texts l)).set 8 (.int .i64 (Z' l:Nat))).set 9 (.int .i64 k))
theorem aUN(L:AI C)(l:List (List UInt8))(E:Fits l):VB.wp C (aZ aGU.res (cM (.bool (distinct l)))) (g_ [texts l]) .nil:=by
 simp only[go_sem,VB,adB,adC,aGU];refine aQ λo H=>?_;simp only[go_sem,adD];have A:(h_.set o (.map (false,[.str]) (λ_=>none)))=h_.set o (.map (false,[.str]) (xI (l.take 0))):=by rw[blF,aPV]
 unfold distinct;generalize hp:(λi=>isName (l.getD i [])&&!(l.take i).contains (l.getD i []))=p;have w:∀k (h:k<Z' l),p k=(isName l[k]&&!(l.take k).contains l[k]):=by intro k h;rw[<-hp];simp only[bhX,biD h,bkC]
 refine wp_loop (α:=Nat) (λk=>aKB l o k) (λk=>h_.set o (.map (false,[.str]) (xI (l.take k)))) (λk=>k<=Z' l/\yK p k) (λk=>Z' l-k) 0 ⟨bhT _,.zero⟩ ?_ ?_ ?_
 ·unfold aKB
  (repeat' (first|exact c_|refine d_ ?_ ?_))<;>first|(simp only[go_sem,bhO]<;>rfl)|rfl
 ·rw[A];exact b_
 rintro k ⟨F,y⟩;simp only[go_sem,adA,adE,aKB];by_cases hlt:k<Z' l
 ·have e:(k:Int)<(Z' l:Nat):=Om;have B:(l.map λs=>[PV.str s])[k]?=some [.str l[k]]:=by simp[hlt]
  simp only[go_sem,e,adF,B,adG];refine aB (L.name l[k]) rfl ?_;have d:=w k hlt;cases x:isName l[k]with
  |false =>rw[x,bhY]at d;simp only[go_sem,biF,vk];exact bQ (b:=false) rfl (gX hlt d).symm
  |true=>
   rw[x,biA]at d;cases u:(l.take k).contains l[k]with
   |true =>rw[u]at d;simp only[go_sem,bhZ,akM,u,vk];exact bQ (b:=false) rfl (gX hlt d).symm
   |false=>
    rw[u]at d;simp only[go_sem,bhZ,akM,u,adH,aPX,adI,wZz k];refine aJ (k+1) ⟨hlt,y.step d⟩ Om ?_ ?_
    ·exact Lq
    ·rw[bjF hlt];exact e_ a_ Sq
 ·have e:¬(k:Int)<(Z' l:Nat):=Om;simp only[go_sem,e,Qi];have:k=Z' l:=Om;subst this;exact bQ (b:=true) rfl (show yK p l.length from y).symm
def marks(n:Nat)(l:List Int):List Bool:=(bhP n).map λ(i:Nat)=>l.contains (i:Int)
theorem fw(n:Nat)(l:List Int):(marks n l).length=n:=by simp[marks]
theorem Rb(n:Nat):marks n []=bhU n false:=by
 refine bkS (by simp[marks]) λi d e=>by simp[marks]
theorem KF{n:Nat}{l:List Int}{m:Int}(d:0<=m)(e:m<n):(marks n l)[m.toNat]?=some (l.contains m):=by
 have:m.toNat<n:=Om;simp only[marks,biL,blX this,biP];rw[Int.toNat_of_nonneg d]
theorem fx{n:Nat}{l:List Int}{m:Int}(e:0<=m)(p:m<n):(marks n l).set m.toNat true=marks n (l++[m]):=by
 refine bkS (by simp[marks]) λi u w=>?_;simp only[marks,bjK,List.getElem_range,List.getElem_set,List.contains_append];by_cases h:m.toNat=i
 ·subst h;rw[aG rfl,Int.toNat_of_nonneg e];simp
 ·have d:((i:Nat):Int)≠m:=Om;rw[aE h];simp[d]
abbrev eK(l:List Bool):P2_:=l.map λb=>[PV.bool b]
theorem oQ(l:List Bool)(i:Nat)(b:Bool):(eK l).set i [.bool b]=eK (l.set i b):=by unfold eK;rw[List.map_set]
structure Xo(C:Ctx):Prop extends AI C where
 num:∀p:cE,p.Ok->aH C 106 [.int .i64 p.k,.int .i64 p.m,.int .i64 p.bhB,.agg [.int .i64 p.s0,.int .i64 p.s1,.int .i64 p.s2,.int .i64 p.s3,.int .i64 p.s4]] .nil (aI (.bool (XC p)))
 rate:∀p:cE,p.Ok->aH C 108 [.int .i64 p.m,frs p.repair,.agg p.target.cells,.agg p.bgN.cells] .nil (aI (.bool (MY p)))
 uniq:∀l:List (List UInt8),Fits l->aH C 110 [texts l] .nil (aI (.bool (distinct l)))
def aWS(p:cE)(bgE:Nat)(o k:Nat):PF:=(((((n_.set 1 (.int .i64 bgE)).set 5 (.osl o 1 0 bgE)).set 39 (ints p.bgE)).set 40 (.int .i64 (Z' p.bgE:Nat))).set 41 (.int .i64 k))
theorem a1X(L:Xo C)(p:cE)(hp:p.Ok)(bgE:Nat)(R:bgE<=4):fh.wp C (aZ aUI.res (cM (.bool (mW bgE p)))) (g_ [.agg p.cells,.int .i64 bgE]) .nil:=by
 simp only[go_sem,fh,awJ,awK,aUI];refine aB (L.num p hp) rfl ?_;unfold mW;cases u:XC p with
 |false =>simp only[go_sem,biF,me];exact bQ rfl (by simp only[bhY])
 |true=>
  by_cases l:Z' p.bgE=0
  ·simp only[go_sem,bhZ,bhO,bY (Om:(Z' p.bgE:Int)=0),me];refine bQ rfl ?_;have:decide (Z' p.bgE≠0)=false:=by simp[l]
   rw[this];simp only[bhY,bjE]
  ·have y:decide (Z' p.bgE≠0)=true:=by simp[l]
   simp only[go_sem,bhZ,bhO,bL (Om:(Z' p.bgE:Int)≠0)];refine aB (L.rate p hp) rfl ?_;rw[y];cases O:MY p with
   |false =>simp only[go_sem,biF,me];exact bQ rfl (by simp only[bhY,bjE])
   |true=>
    have A:((bgE:Nat):Int)*((1:Nat):Int)<=140737488355328:=Om;have B:((bgE:Nat):Int)<=9223372036854775807:=Om;simp only[biA];simp only[go_sem,bhZ,awL,A,B];refine aQ λo S=>?_;simp only[go_sem,awM];have J:bhU bgE [PV.bool false]=eK (marks bgE (p.bgE.take 0)):=by rw[blF,Rb];simp[eK]
    rw[J];generalize K:(λj=>within (p.bgE.getD j 0) 0 ((bgE:Int)-1)&&!(p.bgE.take j).contains (p.bgE.getD j 0))=q;have E:∀k (h:k<Z' p.bgE),q k=(within p.bgE[k] 0 ((bgE:Int)-1)&&!(p.bgE.take k).contains p.bgE[k]):=by intro k h;rw[<-K];simp only[bhX,biD h,bkC]
    refine wp_loop (α:=Nat) (λk=>aWS p bgE o k) (λk=>h_.set o (.rows 1 (eK (marks bgE (p.bgE.take k))))) (λk=>k<=Z' p.bgE/\yK q k) (λk=>Z' p.bgE-k) 0 ⟨bhT _,.zero⟩ ?_ (b_) ?_
    ·unfold aWS
     (repeat' (first|exact c_|refine d_ ?_ ?_))<;>first|(simp only[go_sem,bhO]<;>rfl)|rfl
    rintro k ⟨Q,F⟩;simp only[go_sem,acQ,awN,aWS];have H:=hp.bgE;by_cases hlt:k<Z' p.bgE
    ·have e:(k:Int)<(Z' p.bgE:Nat):=Om;have M:(p.bgE.map λn=>[PV.int .i64 n])[k]?=some [.int .i64 p.bgE[k]]:=by simp[hlt]
     have N:i_.wrap ((bgE:Int)-1)=(bgE:Int)-1:=wrap_i64 Om Om;simp only[go_sem,e,awO,M,awP,N];refine aB (L.inn p.bgE[k] 0 ((bgE:Int)-1)) rfl ?_;have d:=E k hlt;cases u:within p.bgE[k] 0 ((bgE:Int)-1)with
     |false =>rw[u,bhY]at d;simp only[go_sem,biF,K4];exact bQ (b:=false) rfl (gX hlt d).symm
     |true=>
      rw[u,biA]at d;obtain⟨w,U⟩:=within_iff.1 u;have x:p.bgE[k]<(bgE:Nat):=Om;have i:(eK (marks bgE (p.bgE.take k)))[p.bgE[k].toNat]?=some [.bool ((p.bgE.take k).contains p.bgE[k])]:=by unfold eK;rw[biL,KF w x];rfl
      cases l:(p.bgE.take k).contains p.bgE[k]with
      |true =>rw[l]at d i;simp only[go_sem,bhZ,w,x,biN,i,K4];exact bQ (b:=false) rfl (gX hlt d).symm
      |false=>
       rw[l]at d i;simp only[go_sem,bhZ,w,x,biN,i,awQ,oQ,fx w x,acR,wZz k];refine aJ (k+1) ⟨hlt,F.step d⟩ Om ?_ ?_
       ·exact Lq
       ·rw[bjF hlt];exact e_ a_ Sq
    ·have e:¬(k:Int)<(Z' p.bgE:Nat):=Om;simp only[go_sem,e,acS];have:k=Z' p.bgE:=Om;subst this;exact bQ (b:=true) rfl (show yK q p.bgE.length from F).symm
def aTF:PV->RF
 | .agg [.bool n,a,b]=>⟨n,lE a,lE b⟩
 |_=>⟨false,[],[]⟩
theorem aFT(x:RF):aTF (.agg x.cells)=x:=by
 show(⟨x.neg,lE (aN x.num),lE (aN x.den)⟩:RF)=x;rw[fA,fA]
def flS:Spec:=λname vs=>match name,vs with
 |104,[.int _ n,.int _ lo,.int _ hi]=>some ([],λ_=>aI (.bool (within n lo hi)))
 |105,[x]=>some ([],λ_=>aI (.bool (dT (aTF x))))
 |97,[x]=>some ([],λ_=>aI (.bool (bZ (aTF x))))
 |_,_=>none
theorem aaJ(n lo hi:Int):flS 104 [.int .i64 n,.int .i64 lo,.int .i64 hi]=some ([],λ_=>aI (.bool (within n lo hi))):=rfl
theorem a1L(x:RF):flS 105 [.agg x.cells]=some ([],λ_=>aI (.bool (dT x))):=by
 show some _=_;rw[aFT]
def aGO(f:aD)(t:List cS)(k:Nat):PF:=((((n_.set 1 (.bK f.cells)).set 45 (.sl 7 (t.map cS.cells))).set 46 (.int .i64 (Z' t:Nat))).set 47 (.int .i64 k))
theorem a1S(L:AI C)(f:aD)(Y:f.Ok):MJ.wp C (aZ aGN.res (cM (.bool (tL f)))) (g_ [.agg f.cells]) .nil:=by
 obtain⟨bhH,bgK,bgE,bgG,bgD,bgH,bgF⟩:=f;cases bgG with
 |nil =>rw[show tL ⟨bhH,bgK,bgE,[],bgD,bgH,bgF⟩=false from rfl];simp only[go_sem,MJ,Kz,K0,aGN,bjP,bkK];have:(((0:Nat):Int)==0)=true:=rfl;simp only[go_sem,this,avN];exact bQ rfl rfl
 |cons r t=>
  generalize hF:(⟨bhH,bgK,bgE,r::t,bgD,bgH,bgF⟩:aD)=f at *
  have B:f.bgG=r::t:=by rw[<-hF]
  have hP:tL f=MD f r t:=by unfold tL;rw[B]
  rw[hP];unfold MD;have l:Z' f.bgG=Z' t+1:=by rw[B];rfl
  have Z:=Y.bgG;have J:(f.bgG.map cS.cells)[0]?=some r.cells:=by rw[B];rfl
  have β:(f.bgG.map cS.cells)[bjA 0]?=some r.cells:=J;have F:=Y.dom;have w:=F r (by rw[B];exact List.mem_cons_self ..);simp only[go_sem,MJ,Kz,K0,aGN,bhO,l,bL (Om:((Z' t+1:Nat):Int)≠0),avO,J];refine aQ λo ho=>?_;by_cases x:r.name=[]
  ·rw[bA x];by_cases A:r.level=0
   ·rw[bA A];by_cases E:r.parent=-1
    ·rw[bA E];by_cases K:r.bgX=0
     ·rw[bA K];simp only[go_sem,ID,wN x,bhZ,cN A,cN E,cN K];refine aB (L.lim r.bgS w.1) rfl ?_;cases c5:dT r.bgS with
      |false =>simp only[go_sem,biF,CY];exact bQ rfl (by simp only[bjE,bhY])
      |true=>
       simp only[go_sem,bhZ];refine aB (L.wL r.bgS w.1) rfl ?_;cases c6:bZ r.bgS with
       |true =>simp only[go_sem,CY];exact bQ rfl (by simp only[bhZ,bjE,bhY])
       |false=>
        have S:(0:Int)<=1/\(1:Int)<=((Z' t+1:Nat):Int):=Om;have y:((f.bgG.map cS.cells).take (Z' t+1)).drop (bjA 1)=t.map cS.cells:=by rw[biK (by simp[l]),B];rfl
        have u:((f.bgG.map cS.cells).take (Z' t+1)).drop 1=t.map cS.cells:=y;simp only[go_sem,avP,bhO,l,S,u,bjN];generalize hq:(λi=>match t[i]? with|some d=>UH f i d|none=>false)=q;have Q:∀k (h:k<Z' t),q k=UH f k t[k]:=by intro k h;rw[<-hq];simp only[biD h]
        refine wp_loop (α:=Nat) (λk=>aGO f t k) (λk=>.nil) (λk=>k<=Z' t/\yK q k) (λk=>Z' t-k) 0 ⟨bhT _,.zero⟩ ?_ a_ ?_
        ·unfold aGO
         (repeat' (first|exact c_|refine d_ ?_ ?_))<;>first|(simp only[go_sem,bhO]<;>rfl)|rfl
        rintro k ⟨hk,X⟩;simp only[go_sem,acB,avQ,aGO];by_cases hlt:k<Z' t
        ·have p:(k:Int)<(Z' t:Nat):=Om;have R:(t.map cS.cells)[k]?=some (t[k]).cells:=by simp[hlt]
         have N:=F t[k] (by rw[B];exact List.mem_cons_of_mem _ (bhS hlt));have e:=Q k hlt;unfold UH at e;simp only[go_sem,p,avR,R];refine aQ λo2 γ=>?_;simp only[go_sem];refine bV .nil flS a_ ?_;simp only[go_sem,avS];refine bX (aaJ _ 0 k) (L.inn (t[k]).parent 0 k) rfl a_ ?_;cases M:within (t[k]).parent 0 k with
         |false =>simp only[M,bhY]at e;simp only[go_sem,biF,CX];exact bQ (b:=false) rfl (gX hlt e).symm
         |true=>
          obtain⟨i1,i2⟩:=within_iff.1 M;have i3:(t[k]).parent.toNat<Z' f.bgG:=Om;have H:(f.bgG.map cS.cells)[(t[k]).parent.toNat]?=some (f.bgG[(t[k]).parent.toNat]).cells:=by simp[i3]
          have O:(f.bgG.map cS.level).getD (t[k]).parent.toNat 0=(f.bgG[(t[k]).parent.toNat]).level:=by simp[i3]
          rw[O,M,biA]at e;by_cases e2:(f.bgG[(t[k]).parent.toNat]).level=i_.wrap ((t[k]).level-1)
          ·rw[bA e2,biA]at e;simp only[go_sem,bhZ,i1,H,cN e2];refine bX (aaJ _ 1 4) (L.inn (t[k]).level 1 4) rfl a_ ?_;cases U:within (t[k]).level 1 4 with
           |false =>simp only[U,bhY]at e;simp only[go_sem,biF,CX];exact bQ (b:=false) rfl (gX hlt e).symm
           |true=>
            rw[U,biA]at e;simp only[go_sem,bhZ];refine bX (aaJ _ 1 64) (L.inn (t[k]).bgX 1 64) rfl a_ ?_;cases V:within (t[k]).bgX 1 64 with
            |false =>simp only[V,bhY]at e;simp only[go_sem,biF,CX];exact bQ (b:=false) rfl (gX hlt e).symm
            |true=>
             rw[V,biA]at e;simp only[go_sem,bhZ];refine bX (a1L (t[k]).bgS) (L.lim _ N.1) rfl a_ ?_;cases W:dT (t[k]).bgS with
             |false =>rw[W]at e;simp only[go_sem,biF,CX];exact bQ (b:=false) rfl (gX hlt e).symm
             |true =>rw[W]at e;simp only[go_sem,bhZ,acC,wZz k];refine aJ (k+1) ⟨hlt,X.step e⟩ Om ?_ a_;exact Lq
          ·simp only[bG e2,bhY]at e;simp only[go_sem,bhZ,i1,H,dX e2,CX];exact bQ (b:=false) rfl (gX hlt e).symm
        ·have p:¬(k:Int)<(Z' t:Nat):=Om;simp only[go_sem,p,acD];have:k=Z' t:=Om;subst this;exact bQ (b:=true) rfl (show yK q t.length from X).symm
     ·simp only[go_sem,ID,wN x,bhZ,cN A,cN E,dX K,CY];exact bQ rfl (by rw[bG K];simp only[bjE,bhY])
    ·simp only[go_sem,ID,wN x,bhZ,cN A,dX E,CY];exact bQ rfl (by rw[bG E];simp only[bjE,bhY])
   ·simp only[go_sem,ID,wN x,bhZ,dX A,CY];exact bQ rfl (by rw[bG A];simp only[bjE,bhY])
  ·simp only[go_sem,ID,Ak x,biF,CY];exact bQ rfl (by rw[bG x];simp only[bjE,bhY])
theorem BS(R:List Bool)(i:Nat)(row:List RF):∀k,(dD R i row k).length=Z' R
 |0=>rfl
 |k+1=>by simp only[dD,bjO,BS R i row k]
theorem ajY(l:cW)(R:List Bool)(i:Nat):(pI l R i).length=Z' R:=by
 unfold pI;rw[BS,bjO]
theorem xF(l:cW)(R:List Bool):∀i,(dY l R i).length=Z' R
 |0=>rfl
 |i+1=>by simp only[dY,ajY,xF l R i]
theorem xE(l:cW):∀r,(eC l r).length=Z' l.exit
 |0=>by simp[eC]
 |r+1=>by simp only[eC,xF,xE l r]
theorem yT{R:List Bool}{i:Nat}(h:i<Z' R):(eK R)[i]?=some [.bool (R.getD i false)]:=by
 unfold eK;rw[biL,biD h,bhX,biD h];rfl
theorem LS(R:List Bool):(eK R).length=Z' R:=by simp[eK]
def lz(l:cW)(o r:Nat):PF:=(((n_.set 1 (.bK l.cells)).set 3 (.osl o 1 0 l.exit.length)).set 4 (.int .i64 r))
def UI(l:cW)(o r i:Nat):PF:=(((((n_.set 1 (.bK l.cells)).set 3 (.osl o 1 0 l.exit.length)).set 4 (.int .i64 r)).set 19 (.int .i64 (Z' l.exit:Nat))).set 20 (.int .i64 i))
def AZ(l:cW)(o r i:Nat)(row:List RF)(k:Nat):PF:=(((((((((n_.set 1 (.bK l.cells)).set 3 (.osl o 1 0 l.exit.length)).set 4 (.int .i64 r)).set 19 (.int .i64 (Z' l.exit:Nat))).set 20 (.int .i64 i)).set 5 (.int .i64 i)).set 42 (frs row)).set 43 (.int .i64 (Z' row:Nat))).set 44 (.int .i64 k))
def lS(o:Nat)(R:List Bool):PH:=h_.set o (.rows 1 (eK R))
theorem arK(L:AI C)(l:cW)(o r i:Nat)(row:List RF)(E:oC row)(V:Z' row=Z' l.exit)(hi:i<Z' l.exit)(Z:Z' l.exit<=4)(d:List Bool)(W:Z' d=Z' l.exit)(K:cF)(F:PF)(H:PH)
  (N:(AZ l o r i row 0).le F) (J:(lS o d).le H)
  (S:∀F H,(AZ l o r i row row.length).le F->(lS o (dD d i row row.length)).le H->K .normal F H) :
  aC.wp C (.block 4 (.loop MK)) K F H:=by
 simp only[go_sem];refine wp_loop (α:=Nat) (λk=>AZ l o r i row k) (λk=>lS o (dD d i row k)) (λk=>k<=Z' row) (λk=>Z' row-k) 0 (bhT _) N J ?_;intro k Y;simp only[go_sem,MK,acL,AZ,lS];have O:=BS d i row k;by_cases hlt:k<Z' row
 ·have e:(k:Int)<(Z' row:Nat):=Om;have U:(row.map RF.cells)[k]?=some (row[k]).cells:=by simp[hlt]
  simp only[go_sem,e,Qd,U];refine aQ λo7 B=>?_;have M:o≠o7:=by rintro rfl;simp only[bC,if_true]at B;cases B
  have u:(i:Int)<(Z' l.exit:Nat):=Om;have y:(k:Int)<(Z' l.exit:Nat):=Om;have p:=yT (R:=dD d i row k) (i:=i) Om;have w:=yT (R:=dD d i row k) (i:=k) Om;have x:dD d i row (k+1)=(dD d i row k).set i ((dD d i row k).getD i false||bZ row[k]&&(dD d i row k).getD k false):=by simp only[dD,bhX,biL,biD hlt,biP,bkC]
  have fin:∀(b:Bool)(F:PF)(H:PH),b=((dD d i row k).getD i false||bZ row[k]&&(dD d i row k).getD k false)->(AZ l o r i row (k+1)).le F->H o=some (.rows 1 ((eK (dD d i row k)).set i [.bool b])) ->
    gG (λk=>AZ l o r i row k) (λk=>lS o (dD d i row k)) (λk=>k<=Z' row) (λk=>Z' row-k) (Z' row-k) (fS 4 K) .normal F H:=by
   intro b F H hb N J;refine aJ (k+1) hlt Om N ?_;rw[oQ,hb,<-x]at J;exact e_ a_ J
  unfold AZ lS at fin;generalize hb:(dD d i row k).getD i false=b at *
  generalize X:(dD d i row k).getD k false=c at *
  generalize Q:bZ row[k]=A at *
  cases b with
  |true =>simp only[go_sem,el,M,u,biN,p,MM,wZz k];exact fin true _ _ bH Lq Sq
  |false=>
   simp only[go_sem,el,M,u,biN,p];refine aB (L.wL _ (E.all _ (bhS hlt))) rfl ?_;rw[Q];cases A with
   |false =>simp only[go_sem,u,y,M,biN,p,w,MM,wZz k];exact fin false _ _ bH Lq Sq
   |true =>simp only[go_sem,u,y,M,biN,p,w,MM,wZz k];exact fin c _ _ bH Lq Sq
 ·have e:¬(k:Int)<(Z' row:Nat):=Om;simp only[go_sem,e];have:k=Z' row:=Om;subst this;exact S _ _ (by unfold AZ;exact Lq) (b_)
structure LN(l:cW):Prop where
 n:Z' l.exit<=4
 bgI:Z' l.bgI=Z' l.exit
 row:∀r∈l.bgI,Z' r=Z' l.exit
theorem arL(L:AI C)(l:cW)(S:l.Ok)(O:LN l)(o r:Nat)(R:List Bool)(hR:Z' R=Z' l.exit)(K:cF)(F:PF)(H:PH)
  (u:(UI l o r 0).le F) (M:(lS o R).le H)
  (hK:∀F H,(lz l o r).le F->(lS o (dY l R l.exit.length)).le H->K .normal F H) :
  aC.wp C (.block 2 (.loop ML)) K F H:=by
 simp only[go_sem];refine wp_loop (α:=Nat) (λi=>UI l o r i) (λi=>lS o (dY l R i)) (λi=>i<=Z' l.exit) (λi=>Z' l.exit-i) 0 (bhT _) u M ?_;intro i hi;have U:=xF l R i;have hn:=O.n;by_cases hlt:i<Z' l.exit
 ·have d:(i:Int)<(Z' l.exit:Nat):=Om;have p:i<Z' l.bgI:=by rw[O.bgI];exact hlt
  have w:=yT (R:=dY l R i) (i:=i) Om;have hx:(l.exit.map RF.cells)[i]?=some (l.exit[i]).cells:=by simp[hlt]
  have B:(l.bgI.map λr=>[frs r])[i]?=some [frs l.bgI[i]]:=by simp[p]
  have Q:(l.bgI[i]).length=Z' l.exit:=O.row _ (bhS p);generalize e:(dY l R i).set i ((dY l R i).getD i false||bZ l.exit[i])=E;have A:Z' E=Z' l.exit:=by rw[<-e,bjO];omega
  have x:dY l R (i+1)=dD E i l.bgI[i] (l.bgI[i]).length:=by
   simp only[dY,pI];have W:(l.exit.map bZ).getD i false=bZ l.exit[i]:=by simp[bhX,hlt]
   have e2:l.bgI.getD i []=l.bgI[i]:=by simp[bhX,p]
   rw[W,e2,e]
  have rest:∀(F:PF)(H:PH),(((((((n_.set 1 (.bK l.cells)).set 3 (.osl o 1 0 l.exit.length)).set 4 (.int .i64 r)).set 19 (.int .i64 (Z' l.exit:Nat))).set 20 (.int .i64 i)).set 5 (.int .i64 i)):PF).le F->H o=some (.rows 1 (eK E)) ->
    aC.wp C (.seq (.region ve) (.block 4 (.loop MK))) (fS 3 (kB C (aC.wp C (.region ep)) (gG (λi=>UI l o r i) (λi=>lS o (dY l R i)) (λi=>i<=Z' l.exit) (λi=>Z' l.exit-i) (Z' l.exit-i) (fS 2 K)))) F H:=by
   intro F H u M;have f1:F 1=some (.bK l.cells):=u 1 _ rfl;have f3:F 3=some (.osl o 1 0 l.exit.length):=u 3 _ rfl;have f4:F 4=some (.int .i64 r):=u 4 _ rfl;have X:F 19=some (.int .i64 (Z' l.exit:Nat)):=u 19 _ rfl;have Y:F 20=some (.int .i64 i):=u 20 _ rfl;have Z:F 5=some (.int .i64 i):=u 5 _ rfl;rw[Nd];simp only[go_sem,ve,f1,Z,B,bhO];have inner:=arK L l o r i l.bgI[i] (S.row _ (bhS p)) Q hlt hn E A;simp only[aC.wp,go_sem]at inner;refine inner _ _ _ ?_ (e_ a_ M) ?_
   ·unfold AZ;exact Lq
   ·intro V H' y N;have J:V 20=some (.int .i64 i):=y 20 _ (by unfold AZ;simp only[go_sem]);simp only[go_sem,ep,J,wZz i];refine aJ (i+1) hlt Om ?_ (by rw[x];exact N);have g:=λ(q:Nat) v h=>y q v h;unfold UI;unfold AZ at g;refine d_ (d_ (d_ (d_ (d_ c_ ?_) ?_) ?_) ?_) ?_
    ·simp only[go_sem];exact g 1 _ rfl
    ·simp only[go_sem];exact g 3 _ rfl
    ·simp only[go_sem];exact g 4 _ rfl
    ·simp only[go_sem];exact g 19 _ rfl
    ·simp only[go_sem]
  simp only[aC.wp,go_sem]at rest;simp only[go_sem,ML,vb,UI,lS,d,acK];generalize hb:(dY l R i).getD i false=b at *
  cases b with
  |true =>simp only[go_sem,vd,d,biN,w];refine rest _ _ Lq ?_;rw[<-e];simp only[go_sem,oQ,Bool.true_or]
  |false =>simp only[go_sem,vd,d,biN,w,hx];refine aB (L.wL _ (S.exit.all _ (bhS hlt))) rfl ?_;simp only[go_sem,d,biN,w];refine rest _ _ Lq ?_;rw[<-e];simp only[go_sem,oQ,Bool.false_or]
 ·have d:¬(i:Int)<(Z' l.exit:Nat):=Om;simp only[go_sem,ML,vb,UI,lS,d];have:i=Z' l.exit:=Om;subst this;exact hK _ _ (by unfold lz;exact Lq) b_
theorem aUD(L:AI C)(l:cW)(F:l.Ok)(A:LN l):UV.wp C (aZ aGP.res (cM (.bool (uS l)))) (g_ [.agg l.cells]) .nil:=by
 have H:=A.n;have w:(Z' l.exit:Int)*((1:Nat):Int)<=140737488355328:=Om;have y:(Z' l.exit:Int)<=9223372036854775807:=Om;simp only[go_sem,UV,acF,acG,aGP,bhO,w,y];refine aQ λo J=>?_;simp only[go_sem,acH];refine wp_loop (α:=Nat) (λr=>lz l o r) (λr=>lS o (eC l r)) (λr=>r<=Z' l.exit+1) (λr=>Z' l.exit+1-r) 0 (bhT _) ?_ ?_ ?_
 ·unfold lz;exact Lq
 ·refine e_ a_ ?_;simp only[go_sem,eC];simp[eK]
 intro r K;have e:=xE l r;simp only[go_sem,Qc,acI,lz,lS];by_cases hlt:r<=Z' l.exit
 ·have d:(r:Int)<=(Z' l.exit:Nat):=Om;simp only[go_sem,d,acJ];have inner:=arL L l F A o r (eC l r) e;simp only[aC.wp,go_sem]at inner;refine inner _ _ _ ?_ b_ ?_
  ·unfold UI;exact Lq
  ·intro B H' p u;have g:=λ(q:Nat) v h=>p q v h;unfold lz at g;have g4:B 4=some (.int .i64 r):=g 4 _ rfl;simp only[go_sem,Qe,g4,wZz r];refine aJ (r+1) Om Om ?_ u;refine d_ (d_ (d_ c_ ?_) ?_) ?_
   ·simp only[go_sem];exact g 1 _ rfl
   ·simp only[go_sem];exact g 3 _ rfl
   ·simp only[go_sem]
 ·have d:¬(r:Int)<=(Z' l.exit:Nat):=Om;have:r=Z' l.exit+1:=Om;subst this;simp only[go_sem,d,Qf];have i:=L.allb id 103 (eC l (Z' l.exit+1)) (Om:(eC l (Z' l.exit+1)).length<=_) λx _=>L.ends1 x;have E:(eK (eC l (Z' l.exit+1))).length=Z' l.exit:=by rw[LS,e]
  refine yI i (rs:=eK (eC l (Z' l.exit+1))) (o:=o) (s:=1) Sq ?_ ?_
  ·simp only[go_sem,zQ (show l.exit.length<=(eK (eC l (Z' l.exit+1))).length by omega),biK (show(eK (eC l (Z' l.exit+1))).length<=l.exit.length by omega)]
  ·simp only[go_sem];exact bQ rfl rfl
end Go.PM
