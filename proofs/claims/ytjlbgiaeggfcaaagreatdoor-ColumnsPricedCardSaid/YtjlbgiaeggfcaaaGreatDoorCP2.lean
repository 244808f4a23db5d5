/-Lemmas for the law. No condition.-/
import Derived.Test.YtjlbgiaeggfcaaaGreatDoorCP1
import Derived.Shelf.Strconv.Itoa3
import Derived.Test.YtjlbgiaeggfcaaaGreatDoorProg
import Derived.ProofKit
import Derived.OpenShut
set_option linter.unusedSimpArgs false
set_option linter.unusedVariables false
open Nat renaming reduceEqDiff->γ,reduceAdd->δ,reduceSub->ε,reduceMul->ζ,reduceLT->η,reduceLeDiff->θ,reduceBEq->τ
open Int renaming reduceLT->ι,reduceLE->κ,reduceEq->μ,reduceToNat->ν,reduceAdd->ξ,reduceNeg->ο,reduceBEq->ρ,reduceBNe->σ
open List renaming reduceReplicate->υ
open List renaming length_map->bkG,range->bkH,getElem_mem->bkK,replicate->bkM,length_append->bkQ,all_eq_true->bkS,getElem?_eq_getElem->bkT,length_singleton->bkV,mem_cons->bkX,length_take->bkY,take_of_length_le->bkZ,getD_eq_getElem?_getD->blB,getElem?_map->blC,take_length->blE,mem_map->blF,map_cons->blM,mem_range->blN,take_succ_eq_append_getElem->blO,getElem?_eq_some_iff->blQ,mem_append->blV,append_assoc->blW,getElem_map->blX,drop_zero->blY,getElem_of_mem->blZ,getElem?_eq_none->bmA,length_cons->bmB,length_set->bmD,map_nil->bmE,mem_singleton->bmF,append_nil->bmJ,mem_of_getElem?->bmK,drop_eq_getElem_cons->bmP,length_drop->bmQ,getElem?_append_left->bmU,getElem?_append_right->bmY,length_nil->bnB,set_append_right->bnJ,ext_getElem->bnM,map_map->bnN,map_take->bnO,take_append_drop->bnP,all_append->bnX,all_cons->bnY,mem_of_mem_take->boC,nil_append->boD,range_succ->boE,set_cons_zero->boF,drop_of_length_le->boK,getElem?_drop->boL,mem_or_eq_of_mem_set->boN,getElem_append_right->boQ
open Bool renaming and_eq_true->bkI,not_true->bkO,false_and->bkP,true_and->bkR,not_false->bkW,and_false->blR,and_true->bmO,and_self->bmV
open Nat renaming gcd->bkJ,zero_le->bkL,le_refl->bkN,mul_add->blA,zero_add->blG,le_trans->blH,lt_or_ge->blI,mul_assoc->blL,mul_comm->blP,add_mul->blT,mul_le_mul_right->blU,mod_eq_of_lt->bmC,mod_lt->bmG,pow_succ->bmM,add_zero->bmS,eq_zero_or_pos->bmZ,min_eq_left->bnA,add_assoc->bnC,mul_le_mul_left->bnD,pos_of_ne_zero->bnE,sub_self->bnF,pow_pos->bnK,div_le_self->bnQ,pow_le_pow_right->bnR,succ_mul->bnS,div_lt_iff_lt_mul->bnU,mul_le_mul->bnV,div_add_mod->boG,div_eq_of_lt->boH
open Option renaming map_eq_some_iff->bkU,map_some->blJ,some->bmH,getD_some->bnG,bind_some->bnW,bind_eq_some_iff->boI
open Int renaming toNat->blS,toNat_natCast->bmI,tdiv->bmX
open Array renaming length_toList->bnL
open List renaming length->Z'
set_option maxRecDepth 100000
set_option maxHeartbeats 800000
open Go.IntKind renaming i64->i_,u64->u_
open Go.PM.PF renaming nil->n_,args->g_
open Go.PM.PH renaming nil->h_
noncomputable section
namespace Go.Proofs
open Go.Shelf
def Tryz.auE:Go.Shelf.Ren:=⟨λ|171=>88|243=>135|246=>170|283=>179|284=>180|285=>181|286=>182|129=>189|317=>188|318=>190|319=>191|320=>192|337=>193|338=>194|n=>n,λ|3=>3|9=>9|2=>2|4=>4|171=>188|0=>0|53=>100|37=>22|5=>5|173=>191|212=>199|51=>111|20=>20|213=>200|46=>145|232=>203|233=>204|n=>n,λ|17=>0|18=>1|19=>2|n=>n⟩
theorem Tryz.a5H:Go.Proofs.Lays.n171 Tryz.prog Tryz.auE:={
 mixed:=by kernel_rfl
 f129:=Tryz.func189.trans (congrArg some (by kernel_rfl))
 f171:=Tryz.func88.trans (congrArg some (by kernel_rfl))
 f243:=Tryz.func135.trans (congrArg some (by kernel_rfl))
 f246:=Tryz.func170.trans (congrArg some (by kernel_rfl))
 f283:=Tryz.func179.trans (congrArg some (by kernel_rfl))
 f284:=Tryz.func180.trans (congrArg some (by kernel_rfl))
 f285:=Tryz.func181.trans (congrArg some (by kernel_rfl))
 f286:=Tryz.func182.trans (congrArg some (by kernel_rfl))
 f317:=Tryz.func188.trans (congrArg some (by kernel_rfl))
 f318:=Tryz.func190.trans (congrArg some (by kernel_rfl))
 f319:=Tryz.func191.trans (congrArg some (by kernel_rfl))
 f320:=Tryz.func192.trans (congrArg some (by kernel_rfl))
 f337:=Tryz.func193.trans (congrArg some (by kernel_rfl))
 f338:=Tryz.func194.trans (congrArg some (by kernel_rfl))
 t0:=Tryz.underlying0
 a0:=Tryz.isAgg0
 z0:=Tryz.sizeOf0
 v0:=Tryz.zeroValue0
 t2:=Tryz.underlying2
 a2:=Tryz.isAgg2
 z2:=Tryz.sizeOf2
 v2:=Tryz.zeroValue2
 t3:=Tryz.underlying3
 a3:=Tryz.isAgg3
 z3:=Tryz.sizeOf3
 v3:=Tryz.zeroValue3
 t4:=Tryz.underlying4
 a4:=Tryz.isAgg4
 z4:=Tryz.sizeOf4
 v4:=Tryz.zeroValue4
 t5:=Tryz.underlying5
 a5:=Tryz.isAgg5
 z5:=Tryz.sizeOf5
 v5:=Tryz.zeroValue5
 t9:=Tryz.underlying9
 a9:=Tryz.isAgg9
 z9:=Tryz.sizeOf9
 v9:=Tryz.zeroValue9
 t20:=Tryz.underlying20
 a20:=Tryz.isAgg20
 z20:=Tryz.sizeOf20
 v20:=Tryz.zeroValue20
 t37:=Tryz.underlying22
 a37:=Tryz.isAgg22
 z37:=Tryz.sizeOf22
 v37:=Tryz.zeroValue22
 t46:=Tryz.underlying145
 a46:=Tryz.isAgg145
 z46:=Tryz.sizeOf145
 v46:=Tryz.zeroValue145
 t51:=Tryz.underlying111
 a51:=Tryz.isAgg111
 z51:=Tryz.sizeOf111
 v51:=Tryz.zeroValue111
 t53:=Tryz.underlying100
 a53:=Tryz.isAgg100
 z53:=Tryz.sizeOf100
 v53:=Tryz.zeroValue100
 t171:=Tryz.underlying188
 a171:=Tryz.isAgg188
 z171:=Tryz.sizeOf188
 v171:=Tryz.zeroValue188
 t173:=Tryz.underlying191
 a173:=Tryz.isAgg191
 z173:=Tryz.sizeOf191
 v173:=Tryz.zeroValue191
 t212:=Tryz.underlying199
 a212:=Tryz.isAgg199
 z212:=Tryz.sizeOf199
 v212:=Tryz.zeroValue199
 t213:=Tryz.underlying200
 a213:=Tryz.isAgg200
 z213:=Tryz.sizeOf200
 t232:=Tryz.underlying203
 a232:=Tryz.isAgg203
 z232:=Tryz.sizeOf203
 v232:=Tryz.zeroValue203
 t233:=Tryz.underlying204
 a233:=Tryz.isAgg204
 z233:=Tryz.sizeOf204
 v233:=Tryz.zeroValue204
 g17:=by kernel_rfl
 g18:=by kernel_rfl
 g19:=by kernel_rfl }
end Go.Proofs
namespace Go.PM
open Go
inductive Co:PV->PV->Prop
 |refl (v:PV):Co v v
 |junk (v:PV):Co v .junk
 |nil (s:Nat):Co .aK (.sl s [])
 |osl0 (o s off s':Nat):Co (.osl o s off 0) (.sl s' [])
 |agg {cs ds:List PV} (hl:Z' ds=Z' cs) (h:∀(j:Nat) p q,cs[j]?=some p->ds[j]?=some q->Co p q):Co (.agg cs) (.agg ds)
 |tup {cs ds:List PV} (hl:Z' ds=Z' cs) (h:∀(j:Nat) p q,cs[j]?=some p->ds[j]?=some q->Co p q):Co (.tup cs) (.tup ds)
 |bO {cs ds:List PV} (hl:Z' ds=Z' cs) (h:∀(j:Nat) p q,cs[j]?=some p->ds[j]?=some q->Co p q):Co (.bO cs) (.bO ds)
 |sl {s:Nat} {rs ts:List (List PV)} (hl:Z' ts=Z' rs) (hr:∀(i:Nat) r t,rs[i]?=some r->ts[i]?=some t->Z' t=Z' r)
   (h:∀(i j:Nat) p q,at2 rs i j=some p->at2 ts i j=some q->Co p q):Co (.sl s rs) (.sl s ts)
structure CoL(ps qs:List PV):Prop where
 len:Z' qs=Z' ps
 at_:∀(j:Nat) p q,ps[j]?=some p->qs[j]?=some q->Co p q
theorem CoL.refl(ps:List PV):CoL ps ps:=⟨rfl,λj p q h k=>by rw[h]at k;cases k;exact .refl p⟩
theorem Co.sound{E:Env}{p q:PV}(h:Co p q):∀{v:Value},bM E p v->bM E q v:=by
 induction h with
 |refl=>intro v r;exact r
 |junk=>intro v _;exact .junk v
 |nil s =>intro v r;cases r;exact .sl (λ_ _=>.bool false) bH aU bH bH (λ_ _=>rfl) (by simp[at2])
 |osl0 o s Z s'=>
  intro v r;cases r with
  |osl hb J V U x hn Q=>exact .sl (λ_ _=>.bool false) bH x bH bH (λ_ _=>rfl) (by simp[at2])
 |agg w h B=>
  intro v r;cases r with
  |agg vs A F y=>
  refine .agg vs (A.trans w.symm) F λj q u d R=>?_;have l:=(blQ.1 d).1;have hp:=bkT (show j<_ by rw[w]at l;exact l);exact B j _ q hp d (y j _ u hp R)
 |tup w h B=>
  intro v r;cases r with
  |tup vs A y=>
  refine .tup vs (A.trans w.symm) λj q u d R=>?_;have l:=(blQ.1 d).1;have hp:=bkT (show j<_ by rw[w]at l;exact l);exact B j _ q hp d (y j _ u hp R)
 |bO w h B=>
  intro v r;cases r with
  |bO u J N F y=>
  refine .bO u J (λj q d=>?_) F λj q d=>?_
  ·have l:=(blQ.1 d).1;exact N j _ (bkT (show j<_ by rw[w]at l;exact l))
  ·have l:=(blQ.1 d).1;have hp:=bkT (show j<_ by rw[w]at l;exact l);exact B j _ q hp d (y j _ hp)
 |@sl s rs ts w H h B=>
  intro v r;have K:∀(i j:Nat) q,at2 ts i j=some q->∃p,at2 rs i j=some p:=by intro i j q d;unfold at2 at d ⊢;rw[boI]at d;obtain⟨t,M,d⟩:=d;have hi:=(blQ.1 M).1;have y:=bkT (Om:i<Z' rs);have:=H i _ t y M;have l:=(blQ.1 d).1;rw[y];exact⟨(rs[i])[j]'Om,by simp⟩
  cases r with
  |sl u S x Y X F y=>
  rw[<-w];refine .sl u Om x (λt M=>?_) (λO=>?_) F λi j q d=>?_
  ·obtain⟨i,hi,rfl⟩:=blZ M;have:=H i rs[i] ts[i] bH bH;rw[this];exact Y _ bH
  ·obtain⟨W,e,sp,N⟩:=X (by rintro rfl;exact O (List.eq_nil_of_length_eq_zero (by simpa using w)));refine⟨W,e,sp,λi j q d=>?_⟩;obtain⟨p,hp⟩:=K i j q d;exact N i j p hp
  ·obtain⟨p,hp⟩:=K i j q d;exact B i j p q hp d (y i j p hp)
theorem CoL.sound{E:Env}:∀{ps d:List PV}{vs:List Value},CoL ps d->fY E ps vs->fY E d vs
 |[],d,vs,h,r=>by cases r;have:d=[]:=List.eq_nil_of_length_eq_zero h.len;subst this;exact .nil
 |p::ps,d,vs,h,r=>by
  cases r with
  |cons r1 r2=>
  cases d with
  |nil=>have:=h.len;simp at this
  |cons q d =>refine .cons ((h.at_ 0 p q rfl rfl).sound r1) (CoL.sound ⟨by simpa using h.len,λj x y a b=>h.at_ (j+1) x y (by simpa using a) (by simpa using b)⟩ r2)
variable{C:Ctx}
theorem aH.args{name:Nat}{args d:List PV}{H:PH}{R:PV->PH->Prop}(h:aH C name d H R)(l:CoL args d):aH C name args H R:=
 ⟨h.1,λE w vs i hW e=>h.2 E w vs i hW (l.sound e)⟩
theorem aH.post{name:Nat}{args:List PV}{H:PH}{R x:PV->PH->Prop}(h:aH C name args H R)(F:∀r H',R r H'->∃r',Co r r'/\x r' H'):aH C name args H x:=
 ⟨h.1,λE w vs B hW p=>(h.2 E w vs B hW p).mono λe M J=>by obtain⟨v,pv,y,H',rfl,d,K,A,hp⟩:=J;obtain⟨u,i,l⟩:=F pv H' hp;exact⟨v,u,y,H',rfl,d,i.sound K,A,l⟩⟩
attribute [go_sem] List.getElem?_cons_succ List.getElem?_cons_zero and_self and_true true_and or_true true_or or_false false_or bkO bkW blJ bnW if_true if_false bmB bnB List.drop_succ_cons blY List.take_succ_cons List.take_zero blM bmE bmH.injEq PV.bool.injEq PV.int.injEq aQ PV.bin
@[go_sem] theorem bbW(k:IntKind)(a b:Int):pL .add k a b=some (.int k (k.wrap (a+b))):=(rfl)
@[go_sem] theorem bcG(k:IntKind)(a b:Int):pL .sub k a b=some (.int k (k.wrap (a-b))):=(rfl)
@[go_sem] theorem bcC(k:IntKind)(a b:Int):pL .mul k a b=some (.int k (k.wrap (a*b))):=(rfl)
@[go_sem] theorem bcE(k:IntKind)(a b:Int):pL .quo k a b=if b=0 then none else some (.int k (k.wrap (a.tdiv b))):=(rfl)
@[go_sem] theorem bcF(k:IntKind)(a b:Int):pL .rem k a b=if b=0 then none else some (.int k (a.tmod b)):=(rfl)
@[go_sem] theorem bbX(k:IntKind)(a b:Int):pL .eql k a b=some (.bool (a==b)):=(rfl)
@[go_sem] theorem bcD(k:IntKind)(a b:Int):pL .neq k a b=some (.bool (a != b)):=(rfl)
@[go_sem] theorem bcB(k:IntKind)(a b:Int):pL .lss k a b=some (.bool (decide (a<b))):=(rfl)
@[go_sem] theorem bcA(k:IntKind)(a b:Int):pL .leq k a b=some (.bool (decide (a<=b))):=(rfl)
@[go_sem] theorem bbZ(k:IntKind)(a b:Int):pL .gtr k a b=some (.bool (decide (a>b))):=(rfl)
@[go_sem] theorem bbY(k:IntKind)(a b:Int):pL .geq k a b=some (.bool (decide (a>=b))):=(rfl)
section
variable {C:Ctx} {K:cH} {F:PF} {H:PH}
@[go_sem] theorem bgX:aC.wp C .skip K F H=K .normal F H:=(rfl)
@[go_sem] theorem bdV(ops:List aZ):aC.wp C (.region ops) K F H=wpOps C ops (K .normal) F H:=(rfl)
@[go_sem] theorem Pd(a b:aC):aC.wp C (.seq a b) K F H=a.wp C (kD C (b.wp C) K) F H:=(rfl)
@[go_sem] theorem bfF(id:Nat)(c:aC):aC.wp C (.block id c) K F H=c.wp C (gE id K) F H:=(rfl)
@[go_sem] theorem bgW(id:Nat):aC.wp C (.exit id) K F H=K (.exit id) F H:=(rfl)
@[go_sem] theorem bhJ:aC.wp C .ret K F H=K .ret F H:=(rfl)
def l7(C:Ctx)(v:Option PV)(a b:aC)(K:cH)(F:PF)(H:PH):Prop:=
 match v with
 |some (.bool t)=>if t then a.wp C K F H else b.wp C K F H
 |_=>False
@[go_sem] theorem a1W(c:aS)(a b:aC):aC.wp C (.cond c a b) K F H=l7 C (c.ev F) a b K F H:=(rfl)
@[go_sem] theorem bcL(a b:aC):l7 C (some (.bool true)) a b K F H=a.wp C K F H:=(rfl)
@[go_sem] theorem baY(a b:aC):l7 C (some (.bool false)) a b K F H=b.wp C K F H:=(rfl)
theorem aWC{t:Bool}{a b:aC}(d:t=true->a.wp C K F H)(e:t=false->b.wp C K F H):l7 C (some (.bool t)) a b K F H:=by
 cases t
 ·exact e rfl
 ·exact d rfl
@[go_sem] theorem bbG(w:cH->PF->PH->Prop):kD C w K .normal F H=w K F H:=(rfl)
@[go_sem] theorem baG(w:cH->PF->PH->Prop):kD C w K .normal=w K:=(rfl)
@[go_sem] theorem beS(w:cH->PF->PH->Prop)(id:Nat):kD C w K (.exit id)=K (.exit id):=(rfl)
@[go_sem] theorem bgN(w:cH->PF->PH->Prop):kD C w K .ret=K .ret:=(rfl)
@[go_sem] theorem a8H(id:Nat):gE id K .normal=K .normal:=(rfl)
@[go_sem] theorem bcJ(id:Nat):gE id K .ret=K .ret:=(rfl)
@[go_sem] theorem NY(id d:Nat):gE id K (.exit d) F H=if d=id then K .normal F H else K (.exit d) F H:=(rfl)
@[go_sem] theorem bdT(K:PF->PH->Prop):wpOps C [] K F H=K F H:=(rfl)
@[go_sem] theorem bdU(d:Option Nat)(op:POp)(rest:List aZ)(K:PF->PH->Prop):wpOps C (⟨d,op,none⟩::rest) K F H=wpOp C op d (wpOps C rest K) F H:=(rfl)
def ES(C:Ctx)(v:Option PV)(e:Bool)(op:POp)(d:Option Nat)(rest:List aZ)(K:PF->PH->Prop)(F:PF)(H:PH):Prop:=
 match v with
 |some (.bool b)=>if b=e then wpOp C op d (wpOps C rest K) F H else wpOps C rest K (F.put d (.tup [])) H
 |some (.tup [])=>wpOps C rest K (F.put d (.tup [])) H
 |_=>False
@[go_sem] theorem avI(d:Option Nat)(op:POp)(t:Nat)(e:Bool)(rest:List aZ)(K:PF->PH->Prop) :
  wpOps C (⟨d,op,some (t,e)⟩::rest) K F H=ES C (F t) e op d rest K F H:=(rfl)
@[go_sem] theorem beO(op:POp)(d:Option Nat)(rest:List aZ)(K:PF->PH->Prop):ES C (some (.bool true)) true op d rest K F H=wpOp C op d (wpOps C rest K) F H:=(rfl)
@[go_sem] theorem beL(op:POp)(d:Option Nat)(rest:List aZ)(K:PF->PH->Prop):ES C (some (.bool false)) false op d rest K F H=wpOp C op d (wpOps C rest K) F H:=(rfl)
@[go_sem] theorem beN(op:POp)(d:Option Nat)(rest:List aZ)(K:PF->PH->Prop):ES C (some (.bool true)) false op d rest K F H=wpOps C rest K (F.put d (.tup [])) H:=(rfl)
@[go_sem] theorem beM(op:POp)(d:Option Nat)(rest:List aZ)(K:PF->PH->Prop):ES C (some (.bool false)) true op d rest K F H=wpOps C rest K (F.put d (.tup [])) H:=(rfl)
@[go_sem] theorem bbD(e:Bool)(op:POp)(d:Option Nat)(rest:List aZ)(K:PF->PH->Prop):ES C (some (.tup [])) e op d rest K F H=wpOps C rest K (F.put d (.tup [])) H:=(rfl)
@[go_sem] theorem bgK(d:Nat)(v:PV):F.put (some d) v=F.set d v:=(rfl)
@[go_sem] theorem bgJ(v:PV):F.put none v=F:=(rfl)
@[go_sem] theorem oZ(i j:Nat)(v:PV):(F.set i v) j=if j=i then some v else F j:=(rfl)
@[go_sem] theorem args_at(vs:List PV)(i:Nat):g_ vs i=vs[i]?:=(rfl)
@[go_sem] theorem bhO(i:Nat):n_ i=none:=(rfl)
@[go_sem] theorem Dr(t:Nat):(aS.tmp t).ev F=F t:=(rfl)
@[go_sem] theorem bfX(v:PV):(aS.const v).ev F=some v:=(rfl)
@[go_sem] theorem bD(i j:Nat)(x:bA):(H.set i x) j=if j=i then some x else H j:=(rfl)
@[go_sem] theorem mi(i:Nat):h_ i=none:=(rfl)
@[go_sem] theorem ma:aS.evs F []=some []:=(rfl)
@[go_sem] theorem JU(x:aS)(xs:List aS):aS.evs F (x::xs)=(match x.ev F,aS.evs F xs with|some v,some vs=>some (v::vs)|_,_=>none):=(rfl)
theorem kP{i j:Nat}{x:bA}:(H.set i x) j=none↔j≠i/\H j=none:=by
 rw[bD];split<;>simp_all
@[go_sem] theorem bbH(v:PV)(d:Option Nat)(K:PF->PH->Prop):cP (some v) d K F H=K (F.put d v) H:=by
 simp[cP]
theorem aP{e:Nat->PV}{x:bA}{d:Option Nat}{K:PF->PH->Prop}(h:∀o,H o=none->K (F.put d (e o)) (H.set o x)):pS (some (e,x)) d K F H:=⟨e,x,rfl,h⟩
@[go_sem] theorem bhH(x:aS)(d:Option Nat)(K:PF->PH->Prop):wpOp C (.mv x) d K F H=cP (aQ (.mv x) F H) d K F H:=(rfl)
@[go_sem] theorem bfE(x:aS)(d:Option Nat)(K:PF->PH->Prop):wpOp C (.same x) d K F H=cP (aQ (.same x) F H) d K F H:=(rfl)
@[go_sem] theorem bfD(c a b:aS)(d:Option Nat)(K:PF->PH->Prop):wpOp C (.pick c a b) d K F H=cP (aQ (.pick c a b) F H) d K F H:=(rfl)
@[go_sem] theorem bgR(o:BinOp)(x y:aS)(d:Option Nat)(K:PF->PH->Prop):wpOp C (.bin o x y) d K F H=cP (aQ (.bin o x y) F H) d K F H:=(rfl)
@[go_sem] theorem bgT(n:Bool)(x y:aS)(d:Option Nat)(K:PF->PH->Prop):wpOp C (.eqb n x y) d K F H=cP (aQ (.eqb n x y) F H) d K F H:=(rfl)
@[go_sem] theorem bgU(n:Bool)(e:List Sc)(x y:aS)(d:Option Nat)(K:PF->PH->Prop):wpOp C (.eqs n e x y) d K F H=cP (aQ (.eqs n e x y) F H) d K F H:=(rfl)
@[go_sem] theorem bhI(o:UnOp)(x:aS)(d:Option Nat)(K:PF->PH->Prop):wpOp C (.un o x) d K F H=cP (aQ (.un o x) F H) d K F H:=(rfl)
@[go_sem] theorem beW(k:IntKind)(x:aS)(d:Option Nat)(K:PF->PH->Prop):wpOp C (.conv k x) d K F H=cP (aQ (.conv k x) F H) d K F H:=(rfl)
@[go_sem] theorem bdM(z:List PV)(ps:List (Nat × Nat × aS))(d:Option Nat)(K:PF->PH->Prop):wpOp C (.build z ps) d K F H=cP (aQ (.build z ps) F H) d K F H:=(rfl)
@[go_sem] theorem bfB(n:Option Nat)(p:aS)(d:Option Nat)(K:PF->PH->Prop):wpOp C (.load n p) d K F H=cP (aQ (.load n p) F H) d K F H:=(rfl)
@[go_sem] theorem bbS(x:aS)(d:Option Nat)(K:PF->PH->Prop):wpOp C (.bjI x) d K F H=cP (aQ (.bjI x) F H) d K F H:=(rfl)
@[go_sem] theorem bbL(e:Nat)(x:aS)(d:Option Nat)(K:PF->PH->Prop):wpOp C (.bjY e x) d K F H=cP (aQ (.bjY e x) F H) d K F H:=(rfl)
@[go_sem] theorem bdO(e:Nat)(n:Option Nat)(x:aS)(d:Option Nat)(K:PF->PH->Prop):wpOp C (.field e n x) d K F H=cP (aQ (.field e n x) F H) d K F H:=(rfl)
@[go_sem] theorem beY(s:Nat)(x i:aS)(d:Option Nat)(K:PF->PH->Prop):wpOp C (.bjM s x i) d K F H=cP (aQ (.bjM s x i) F H) d K F H:=(rfl)
@[go_sem] theorem beX(n s:Nat)(x i:aS)(d:Option Nat)(K:PF->PH->Prop):wpOp C (.idxA n s x i) d K F H=cP (aQ (.idxA n s x i) F H) d K F H:=(rfl)
@[go_sem] theorem beZ(n s:Nat)(g:Bool)(x i:aS)(d:Option Nat)(K:PF->PH->Prop):wpOp C (.idxV n s g x i) d K F H=cP (aQ (.idxV n s g x i) F H) d K F H:=(rfl)
@[go_sem] theorem bbM(x i:aS)(d:Option Nat)(K:PF->PH->Prop):wpOp C (.bjW x i) d K F H=cP (aQ (.bjW x i) F H) d K F H:=(rfl)
@[go_sem] theorem bdR(s:Nat)(x:aS)(lo hi mx:Option aS)(d:Option Nat)(K:PF->PH->Prop):wpOp C (.slice s x lo hi mx) d K F H=cP (aQ (.slice s x lo hi mx) F H) d K F H:=(rfl)
@[go_sem] theorem bbT(n s:Nat)(x:aS)(lo hi mx:Option aS)(d:Option Nat)(K:PF->PH->Prop):wpOp C (.sliceA n s x lo hi mx) d K F H=cP (aQ (.sliceA n s x lo hi mx) F H) d K F H:=(rfl)
@[go_sem] theorem a8K(x:aS)(lo hi:Option aS)(d:Option Nat)(K:PF->PH->Prop):wpOp C (.bjS x lo hi) d K F H=cP (aQ (.bjS x lo hi) F H) d K F H:=(rfl)
@[go_sem] theorem beP:PV.uN .aK=some (.int .i64 0):=(rfl)
@[go_sem] theorem bhG(s:Nat)(rows:List (List PV)):PV.uN (.sl s rows)=some (.int .i64 rows.length):=(rfl)
@[go_sem] theorem bgE(o s d n:Nat):PV.uN (.osl o s d n)=some (.int .i64 n):=(rfl)
@[go_sem] theorem bgV(x:aS)(d:Option Nat)(K:PF->PH->Prop):wpOp C (.len x) d K F H=cP (aQ (.len x) F H) d K F H:=(rfl)
@[go_sem] theorem bbO(x:aS)(d:Option Nat)(K:PF->PH->Prop):wpOp C (.bjV x) d K F H=cP (aQ (.bjV x) F H) d K F H:=(rfl)
@[go_sem] theorem bfA(x:aS)(d:Option Nat)(K:PF->PH->Prop):wpOp C (.lenM x) d K F H=cP (aQ (.lenM x) F H) d K F H:=(rfl)
@[go_sem] theorem bdP(n:Bool)(x:aS)(d:Option Nat)(K:PF->PH->Prop):wpOp C (.isNil n x) d K F H=cP (aQ (.isNil n x) F H) d K F H:=(rfl)
@[go_sem] theorem bbF:PV.rT .aK=some true:=(rfl)
@[go_sem] theorem bdA(o s d len:Nat):PV.rT (.osl o s d len)=some false:=(rfl)
@[go_sem] theorem bbE(s:Nat)(r:List PV)(rs:List (List PV)):PV.rT (.sl s (r::rs))=some false:=(rfl)
@[go_sem] theorem bbK(x:aS)(d:Option Nat)(K:PF->PH->Prop):wpOp C (.bkF x) d K F H=cP (aQ (.bkF x) F H) d K F H:=(rfl)
@[go_sem] theorem baS(x:aS)(i:Nat)(d:Option Nat)(K:PF->PH->Prop):wpOp C (.extract x i) d K F H=cP (aQ (.extract x i) F H) d K F H:=(rfl)
@[go_sem] theorem bbR(m:Bool)(x y:aS)(d:Option Nat)(K:PF->PH->Prop):wpOp C (.bjQ m x y) d K F H=cP (aQ (.bjQ m x y) F H) d K F H:=(rfl)
@[go_sem] theorem bfC(n:Nat)(cs:List aS)(d:Option Nat)(K:PF->PH->Prop):wpOp C (.mkfn n cs) d K F H=cP (aQ (.mkfn n cs) F H) d K F H:=(rfl)
@[go_sem] theorem bbP(sh:MSh)(z:PV)(x k:aS)(ok:Bool)(d:Option Nat)(K:PF->PH->Prop):wpOp C (.lookup sh z x k ok) d K F H=cP (aQ (.lookup sh z x k ok) F H) d K F H:=(rfl)
@[go_sem] theorem a7X(x:aS)(d:Option Nat)(K:PF->PH->Prop):wpOp C (.bjJ x) d K F H=cP (aQ (.bjJ x) F H) d K F H:=(rfl)
@[go_sem] theorem beU(x:aS)(d:Option Nat)(K:PF->PH->Prop):wpOp C (.box true x) d K F H=cP (aQ (.box true x) F H) d K F H:=(rfl)
@[go_sem] theorem baR(s l:Nat)(z:List PV)(ps:List (Nat × aS))(d:Option Nat)(K:PF->PH->Prop):wpOp C (.bjB true s l z ps) d K F H=cP (aQ (.bjB true s l z ps) F H) d K F H:=(rfl)
@[go_sem] theorem bdL(cs:List PV)(d:Option Nat)(K:PF->PH->Prop):wpOp C (.alloc cs) d K F H=pS (cZ (.alloc cs) F) d K F H:=(rfl)
@[go_sem] theorem baT(s b:Nat)(z:List PV)(l c:aS)(d:Option Nat)(K:PF->PH->Prop):wpOp C (.bjD s b z l c) d K F H=pS (cZ (.bjD s b z l c) F) d K F H:=(rfl)
@[go_sem] theorem bdQ(sh:MSh)(d:Option Nat)(K:PF->PH->Prop):wpOp C (.bkB sh) d K F H=pS (cZ (.bkB sh) F) d K F H:=(rfl)
@[go_sem] theorem bgS(x:aS)(d:Option Nat)(K:PF->PH->Prop):wpOp C (.box false x) d K F H=pS (cZ (.box false x) F) d K F H:=(rfl)
@[go_sem] theorem bbJ(s l:Nat)(z:List PV)(ps:List (Nat × aS))(d:Option Nat)(K:PF->PH->Prop):wpOp C (.bjB false s l z ps) d K F H=pS (cZ (.bjB false s l z ps) F) d K F H:=(rfl)
@[go_sem] theorem bdS(n:Nat)(p x:aS)(d:Option Nat)(K:PF->PH->Prop):wpOp C (.store n p x) d K F H=cL (.store n p x) F H (λr H'=>K (F.put d r) H'):=(rfl)
@[go_sem] theorem bbI(s b:Nat)(x y:aS)(d:Option Nat)(K:PF->PH->Prop):wpOp C (.append s b x y) d K F H=cL (.append s b x y) F H (λr H'=>K (F.put d r) H'):=(rfl)
@[go_sem] theorem bbQ(sh:MSh)(x k v:aS)(d:Option Nat)(K:PF->PH->Prop):wpOp C (.bjN sh x k v) d K F H=cL (.bjN sh x k v) F H (λr H'=>K (F.put d r) H'):=(rfl)
@[go_sem] theorem bbN(sh:MSh)(x k v:aS)(d:Option Nat)(K:PF->PH->Prop):wpOp C (.insert sh x k v) d K F H=cL (.insert sh x k v) F H (λr H'=>K (F.put d r) H'):=(rfl)
@[go_sem] theorem beV(n:Nat)(e:List aS)(d:Option Nat)(K:PF->PH->Prop):wpOp C (.call n e) d K F H=lC C n e [] d K F H:=(rfl)
@[go_sem] theorem bdN(x:aS)(e:List aS)(d:Option Nat)(K:PF->PH->Prop):wpOp C (.bjX x e) d K F H=xB C (x.ev F) e d K F H:=(rfl)
@[go_sem] theorem bdK(n:Nat)(cs:List PV)(e:List aS)(d:Option Nat)(K:PF->PH->Prop):xB C (some (.fn n cs)) e d K F H=lC C n e cs d K F H:=(rfl)
theorem PF.nil_le:n_.le F:=λ_ _ h=>(by cases h)
abbrev c_:=@PF.nil_le
theorem PF.aL{i:Nat}{v:PV}{G:PF}(l:F.le G)(p:G i=some v):(F.set i v).le G:=by
 intro j u d;rw[oZ]at d;split at d
 ·rename_i e;subst e;cases d;exact p
 ·exact l _ _ d
abbrev d_:=@PF.aL
theorem PF.le_refl:F.le F:=λ_ _ h=>h
theorem PH.nil_le:h_.le H:=λ_ _ h=>(by cases h)
abbrev a_:=@PH.nil_le
theorem PH.aL{i:Nat}{x:bA}{G:PH}(l:H.le G)(p:G i=some x):(H.set i x).le G:=by
 intro j u d;rw[bD]at d;split at d
 ·rename_i e;subst e;cases d;exact p
 ·exact l _ _ d
abbrev e_:=@PH.aL
theorem PH.le_refl:H.le H:=λ_ _ h=>h
abbrev b_:=@PH.le_refl
theorem wp_loop{c:aC}{α:Type}(d:α->PF)(Hs:α->PH)(e:α->Prop)(m:α->Nat)(i:α)(l:e i)(p:(d i).le F)(u:(Hs i).le H)
  (hb:∀a,e a->c.wp C (jM d Hs e m (m a) K) (d a) (Hs a)):aC.wp C (.loop c) K F H:=
 ⟨α,d,Hs,e,m,i,F,H,.refl F H,l,p,u,hb⟩
theorem aG{α:Type}{d:α->PF}{Hs:α->PH}{e:α->Prop}{m:α->Nat}{n:Nat}(a:α)(i:e a)(u:m a<n)(l:(d a).le F)(p:(Hs a).le H):jM d Hs e m n K .normal F H:=
 ⟨a,F,H,.refl F H,i,u,l,p⟩
@[go_sem] theorem bdE{α:Type}{d:α->PF}{Hs:α->PH}{e:α->Prop}{m:α->Nat}{n:Nat}(id:Nat):jM d Hs e m n K (.exit id)=K (.exit id):=(rfl)
@[go_sem] theorem beQ{α:Type}{d:α->PF}{Hs:α->PH}{e:α->Prop}{m:α->Nat}{n:Nat}:jM d Hs e m n K .ret=K .ret:=(rfl)
def aF(v:PV)(r:PV)(H:PH):Prop:=r=v/\H=h_
theorem PH.KN:H.over .nil .nil=H:=PH.ext λo=>rfl
theorem avH{name:Nat}{vs cs:List PV}{v:PV}{args:List aS}{d:Option Nat}{K:PF->PH->Prop}(h:aH C name (vs++cs) .nil (aF v))(e:aS.evs F args=some vs)
  (i:K (F.put d v) H):lC C name args cs d K F H:=by
 refine .inl ⟨vs++cs,.nil,_,by rw[e];rfl,a_,h,?_⟩;rintro r H' ⟨rfl,rfl⟩ _;rw[PH.KN];exact i
theorem aB{name:Nat}{vs:List PV}{v:PV}{args:List aS}{d:Option Nat}{K:PF->PH->Prop}(h:aH C name vs .nil (aF v))(e:aS.evs F args=some vs)
  (i:K (F.put d v) H):lC C name args [] d K F H:=avH (cs:=[]) (by rw[bmJ];exact h) e i
theorem aT{res:List eC}{vs:List PV}{v:PV}{e:nY}(p:e=.normal\/e=.ret)(h:eC.evs F H res=some vs)(w:bN vs=v):aX res (aF v) e F H:=by
 have d:∃vs,eC.evs F H res=some vs/\∃i l H2,kM (n_.set 0 (bN vs)) H i l/\H2.le l/\∃u,i 0=some u/\aF v u H2:=
  ⟨vs,h,_,H,.nil,.refl _ _,a_,v,by rw[oZ,aI rfl,w],rfl,rfl⟩
 rcases p with rfl|rfl<;>exact d
@[go_sem] theorem uK:eC.evs F H []=some []:=(rfl)
@[go_sem] theorem pG(x:eC)(xs:List eC):eC.evs F H (x::xs)=(match x.ev F H,eC.evs F H xs with|some v,some vs=>some (v::vs)|_,_=>none):=(rfl)
@[go_sem] theorem sZ(t:Nat):eC.ev F H (.tmp t)=F t:=(rfl)
@[go_sem] theorem bgL(t:Nat):eC.ev F H (.cell t none)=(match F t with|some p=>(match loadCells H p 1 with|some [v]=>some v|_=>none)|none=>none):=(rfl)
@[go_sem] theorem beR(t k:Nat):eC.ev F H (.cell t (some k))=(match F t with|some p=>(loadCells H p k).map .agg|none=>none):=(rfl)
end
section
variable {C:Ctx} {K:cH} {F:PF} {H Hs:PH} {S:Spec}
theorem bP{ops:List (aZ × Bool)}(Hs:PH)(S:Spec)(d:Hs.le H)(h:wpD C Hs S ops (K .normal) F H):aC.wp C (.draw ops) K F H:=⟨Hs,S,d,h⟩
def eJ:Spec:=λ_ _=>none
def dOp(C:Ctx)(Hs:PH)(S:Spec)(st:Bool)(op:POp)(d:Option Nat)(K:PF->PH->Prop)(F:PF)(H:PH):Prop:=(op.kind F).run C Hs S st (λv H'=>K (F.put d v) H') H
@[go_sem] theorem bgP(K:PF->PH->Prop):wpD C Hs S [] K F H=K F H:=(rfl)
@[go_sem] theorem bgQ(d:Option Nat)(op:POp)(st:Bool)(rest:List (aZ × Bool))(K:PF->PH->Prop):wpD C Hs S ((⟨d,op,none⟩,st)::rest) K F H=dOp C Hs S st op d (wpD C Hs S rest K) F H:=(rfl)
def KB(C:Ctx)(Hs:PH)(S:Spec)(v:Option PV)(e st:Bool)(op:POp)(d:Option Nat)(rest:List (aZ × Bool))(K:PF->PH->Prop)(F:PF)(H:PH):Prop:=
 match v with
 |some (.bool b)=>if b=e then dOp C Hs S st op d (wpD C Hs S rest K) F H else wpD C Hs S rest K (F.put d (.tup [])) H
 |some (.tup [])=>wpD C Hs S rest K (F.put d (.tup [])) H
 |_=>False
@[go_sem] theorem beT(d:Option Nat)(op:POp)(t:Nat)(e st:Bool)(rest:List (aZ × Bool))(K:PF->PH->Prop) :
  wpD C Hs S ((⟨d,op,some (t,e)⟩,st)::rest) K F H=KB C Hs S (F t) e st op d rest K F H:=by
 have i:wpD C Hs S ((⟨d,op,some (t,e)⟩,st)::rest) K F H=((⟨d,op,some (t,e)⟩:aZ).kind F).run C Hs S st (λv H'=>wpD C Hs S rest K (F.put d v) H') H:=(rfl);rw[i];unfold aZ.kind KB;simp only;cases F t with
 |none=>rfl
 |some v=>
  cases v
  case bool b=>
   simp only;by_cases hb:b=e
   ·rw[aI hb,aI hb];rfl
   ·rw[aD hb,aD hb];simp[Kind.run]
  case tup vs=>cases vs<;>simp[Kind.run]
  all_goals rfl
@[go_sem] theorem beK(op:POp)(st:Bool)(d:Option Nat)(rest:List (aZ × Bool))(K:PF->PH->Prop):KB C Hs S (some (.bool true)) true st op d rest K F H=dOp C Hs S st op d (wpD C Hs S rest K) F H:=(rfl)
@[go_sem] theorem beH(op:POp)(st:Bool)(d:Option Nat)(rest:List (aZ × Bool))(K:PF->PH->Prop):KB C Hs S (some (.bool false)) false st op d rest K F H=dOp C Hs S st op d (wpD C Hs S rest K) F H:=(rfl)
@[go_sem] theorem beJ(op:POp)(st:Bool)(d:Option Nat)(rest:List (aZ × Bool))(K:PF->PH->Prop):KB C Hs S (some (.bool true)) false st op d rest K F H=wpD C Hs S rest K (F.put d (.tup [])) H:=(rfl)
@[go_sem] theorem beI(op:POp)(st:Bool)(d:Option Nat)(rest:List (aZ × Bool))(K:PF->PH->Prop):KB C Hs S (some (.bool false)) true st op d rest K F H=wpD C Hs S rest K (F.put d (.tup [])) H:=(rfl)
@[go_sem] theorem bbC(e:Bool)(op:POp)(st:Bool)(d:Option Nat)(rest:List (aZ × Bool))(K:PF->PH->Prop):KB C Hs S (some (.tup [])) e st op d rest K F H=wpD C Hs S rest K (F.put d (.tup [])) H:=(rfl)
@[go_sem] theorem bhK(x:aS)(st:Bool)(d:Option Nat)(K:PF->PH->Prop):dOp C Hs S st (.mv x) d K F H=cP (aQ (.mv x) F (if st then Hs else H)) d K F H:=(rfl)
@[go_sem] theorem bfV(x:aS)(st:Bool)(d:Option Nat)(K:PF->PH->Prop):dOp C Hs S st (.same x) d K F H=cP (aQ (.same x) F (if st then Hs else H)) d K F H:=(rfl)
@[go_sem] theorem bfU(c a b:aS)(st:Bool)(d:Option Nat)(K:PF->PH->Prop):dOp C Hs S st (.pick c a b) d K F H=cP (aQ (.pick c a b) F (if st then Hs else H)) d K F H:=(rfl)
@[go_sem] theorem bgZ(o:BinOp)(x y:aS)(st:Bool)(d:Option Nat)(K:PF->PH->Prop):dOp C Hs S st (.bin o x y) d K F H=cP (aQ (.bin o x y) F (if st then Hs else H)) d K F H:=(rfl)
@[go_sem] theorem bhB(n:Bool)(x y:aS)(st:Bool)(d:Option Nat)(K:PF->PH->Prop):dOp C Hs S st (.eqb n x y) d K F H=cP (aQ (.eqb n x y) F (if st then Hs else H)) d K F H:=(rfl)
@[go_sem] theorem bhC(n:Bool)(e:List Sc)(x y:aS)(st:Bool)(d:Option Nat)(K:PF->PH->Prop):dOp C Hs S st (.eqs n e x y) d K F H=cP (aQ (.eqs n e x y) F (if st then Hs else H)) d K F H:=(rfl)
@[go_sem] theorem bhL(o:UnOp)(x:aS)(st:Bool)(d:Option Nat)(K:PF->PH->Prop):dOp C Hs S st (.un o x) d K F H=cP (aQ (.un o x) F (if st then Hs else H)) d K F H:=(rfl)
@[go_sem] theorem bfN(k:IntKind)(x:aS)(st:Bool)(d:Option Nat)(K:PF->PH->Prop):dOp C Hs S st (.conv k x) d K F H=cP (aQ (.conv k x) F (if st then Hs else H)) d K F H:=(rfl)
@[go_sem] theorem bdY(z:List PV)(ps:List (Nat × Nat × aS))(st:Bool)(d:Option Nat)(K:PF->PH->Prop):dOp C Hs S st (.build z ps) d K F H=cP (aQ (.build z ps) F (if st then Hs else H)) d K F H:=(rfl)
@[go_sem] theorem bfS(n:Option Nat)(p:aS)(st:Bool)(d:Option Nat)(K:PF->PH->Prop):dOp C Hs S st (.load n p) d K F H=cP (aQ (.load n p) F (if st then Hs else H)) d K F H:=(rfl)
@[go_sem] theorem bcV(x:aS)(st:Bool)(d:Option Nat)(K:PF->PH->Prop):dOp C Hs S st (.bjI x) d K F H=cP (aQ (.bjI x) F (if st then Hs else H)) d K F H:=(rfl)
@[go_sem] theorem bcP(e:Nat)(x:aS)(st:Bool)(d:Option Nat)(K:PF->PH->Prop):dOp C Hs S st (.bjY e x) d K F H=cP (aQ (.bjY e x) F (if st then Hs else H)) d K F H:=(rfl)
@[go_sem] theorem bdZ(e:Nat)(n:Option Nat)(x:aS)(st:Bool)(d:Option Nat)(K:PF->PH->Prop):dOp C Hs S st (.field e n x) d K F H=cP (aQ (.field e n x) F (if st then Hs else H)) d K F H:=(rfl)
@[go_sem] theorem bfP(s:Nat)(x i:aS)(st:Bool)(d:Option Nat)(K:PF->PH->Prop):dOp C Hs S st (.bjM s x i) d K F H=cP (aQ (.bjM s x i) F (if st then Hs else H)) d K F H:=(rfl)
@[go_sem] theorem bfO(n s:Nat)(x i:aS)(st:Bool)(d:Option Nat)(K:PF->PH->Prop):dOp C Hs S st (.idxA n s x i) d K F H=cP (aQ (.idxA n s x i) F (if st then Hs else H)) d K F H:=(rfl)
@[go_sem] theorem bfQ(n s:Nat)(g:Bool)(x i:aS)(st:Bool)(d:Option Nat)(K:PF->PH->Prop):dOp C Hs S st (.idxV n s g x i) d K F H=cP (aQ (.idxV n s g x i) F (if st then Hs else H)) d K F H:=(rfl)
@[go_sem] theorem bcQ(x i:aS)(st:Bool)(d:Option Nat)(K:PF->PH->Prop):dOp C Hs S st (.bjW x i) d K F H=cP (aQ (.bjW x i) F (if st then Hs else H)) d K F H:=(rfl)
@[go_sem] theorem beC(s:Nat)(x:aS)(lo hi mx:Option aS)(st:Bool)(d:Option Nat)(K:PF->PH->Prop):dOp C Hs S st (.slice s x lo hi mx) d K F H=cP (aQ (.slice s x lo hi mx) F (if st then Hs else H)) d K F H:=(rfl)
@[go_sem] theorem a8X(x:aS)(lo hi:Option aS)(st:Bool)(d:Option Nat)(K:PF->PH->Prop):dOp C Hs S st (.bjS x lo hi) d K F H=cP (aQ (.bjS x lo hi) F (if st then Hs else H)) d K F H:=(rfl)
@[go_sem] theorem bhD(x:aS)(st:Bool)(d:Option Nat)(K:PF->PH->Prop):dOp C Hs S st (.len x) d K F H=cP (aQ (.len x) F (if st then Hs else H)) d K F H:=(rfl)
@[go_sem] theorem bcR(x:aS)(st:Bool)(d:Option Nat)(K:PF->PH->Prop):dOp C Hs S st (.bjV x) d K F H=cP (aQ (.bjV x) F (if st then Hs else H)) d K F H:=(rfl)
@[go_sem] theorem bfR(x:aS)(st:Bool)(d:Option Nat)(K:PF->PH->Prop):dOp C Hs S st (.lenM x) d K F H=cP (aQ (.lenM x) F (if st then Hs else H)) d K F H:=(rfl)
@[go_sem] theorem beA(n:Bool)(x:aS)(st:Bool)(d:Option Nat)(K:PF->PH->Prop):dOp C Hs S st (.isNil n x) d K F H=cP (aQ (.isNil n x) F (if st then Hs else H)) d K F H:=(rfl)
@[go_sem] theorem bcO(x:aS)(st:Bool)(d:Option Nat)(K:PF->PH->Prop):dOp C Hs S st (.bkF x) d K F H=cP (aQ (.bkF x) F (if st then Hs else H)) d K F H:=(rfl)
@[go_sem] theorem bbA(x:aS)(i:Nat)(st:Bool)(d:Option Nat)(K:PF->PH->Prop):dOp C Hs S st (.extract x i) d K F H=cP (aQ (.extract x i) F (if st then Hs else H)) d K F H:=(rfl)
@[go_sem] theorem bcU(m:Bool)(x y:aS)(st:Bool)(d:Option Nat)(K:PF->PH->Prop):dOp C Hs S st (.bjQ m x y) d K F H=cP (aQ (.bjQ m x y) F (if st then Hs else H)) d K F H:=(rfl)
@[go_sem] theorem bfT(n:Nat)(cs:List aS)(st:Bool)(d:Option Nat)(K:PF->PH->Prop):dOp C Hs S st (.mkfn n cs) d K F H=cP (aQ (.mkfn n cs) F (if st then Hs else H)) d K F H:=(rfl)
@[go_sem] theorem bcS(sh:MSh)(z:PV)(x k:aS)(ok:Bool)(st:Bool)(d:Option Nat)(K:PF->PH->Prop):dOp C Hs S st (.lookup sh z x k ok) d K F H=cP (aQ (.lookup sh z x k ok) F (if st then Hs else H)) d K F H:=(rfl)
@[go_sem] theorem a8J(x:aS)(st:Bool)(d:Option Nat)(K:PF->PH->Prop):dOp C Hs S st (.bjJ x) d K F H=cP (aQ (.bjJ x) F (if st then Hs else H)) d K F H:=(rfl)
@[go_sem] theorem bfM(x:aS)(st:Bool)(d:Option Nat)(K:PF->PH->Prop):dOp C Hs S st (.box true x) d K F H=cP (aQ (.box true x) F (if st then Hs else H)) d K F H:=(rfl)
@[go_sem] theorem baZ(s l:Nat)(z:List PV)(ps:List (Nat × aS))(st:Bool)(d:Option Nat)(K:PF->PH->Prop):dOp C Hs S st (.bjB true s l z ps) d K F H=cP (aQ (.bjB true s l z ps) F (if st then Hs else H)) d K F H:=(rfl)
@[go_sem] theorem bdX(cs:List PV)(st:Bool)(d:Option Nat)(K:PF->PH->Prop):dOp C Hs S st (.alloc cs) d K F H=pS (cZ (.alloc cs) F) d K F H:=(rfl)
@[go_sem] theorem bbB(s b:Nat)(z:List PV)(l c:aS)(st:Bool)(d:Option Nat)(K:PF->PH->Prop):dOp C Hs S st (.bjD s b z l c) d K F H=pS (cZ (.bjD s b z l c) F) d K F H:=(rfl)
@[go_sem] theorem beB(sh:MSh)(st:Bool)(d:Option Nat)(K:PF->PH->Prop):dOp C Hs S st (.bkB sh) d K F H=pS (cZ (.bkB sh) F) d K F H:=(rfl)
@[go_sem] theorem bhA(x:aS)(st:Bool)(d:Option Nat)(K:PF->PH->Prop):dOp C Hs S st (.box false x) d K F H=pS (cZ (.box false x) F) d K F H:=(rfl)
@[go_sem] theorem bcN(s l:Nat)(z:List PV)(ps:List (Nat × aS))(st:Bool)(d:Option Nat)(K:PF->PH->Prop):dOp C Hs S st (.bjB false s l z ps) d K F H=pS (cZ (.bjB false s l z ps) F) d K F H:=(rfl)
@[go_sem] theorem beD(n:Nat)(p x:aS)(st:Bool)(d:Option Nat)(K:PF->PH->Prop):dOp C Hs S st (.store n p x) d K F H=cL (.store n p x) F H (λr H'=>Hs.le H'/\K (F.put d r) H'):=(rfl)
@[go_sem] theorem bcM(s b:Nat)(x y:aS)(st:Bool)(d:Option Nat)(K:PF->PH->Prop):dOp C Hs S st (.append s b x y) d K F H=cL (.append s b x y) F H (λr H'=>Hs.le H'/\K (F.put d r) H'):=(rfl)
@[go_sem] theorem bcT(sh:MSh)(x k v:aS)(st:Bool)(d:Option Nat)(K:PF->PH->Prop):dOp C Hs S st (.bjN sh x k v) d K F H=cL (.bjN sh x k v) F H (λr H'=>Hs.le H'/\K (F.put d r) H'):=(rfl)
theorem WX:H.only []=h_:=PH.ext λo=>by simp[PH.only,h_]
theorem bK{name:Nat}{vs:List PV}{v:PV}{args:List aS}{st:Bool}{d:Option Nat}{K:PF->PH->Prop}(i:S name vs=some ([],λ_=>aF v))(h:aH C name vs .nil (aF v))(l:aS.evs F args=some vs)
  (e:Hs.le H) (p:K (F.put d v) H):dOp C Hs S st (.call name args) d K F H:=by
 refine⟨vs,[],λ_=>aF v,l,i,λo u=>by simp at u,by rw[WX];exact h,λG=>⟨v,.nil,⟨rfl,rfl⟩,λo x w=>by simp[h_]at w⟩,?_⟩;rintro r H' ⟨rfl,rfl⟩ -;rw[WX,PH.KN];exact⟨e,p⟩
end
theorem wrap_i64{n:Int}(d:-9223372036854775808<=n)(i:n<=9223372036854775807):i_.wrap n=n:=by
 have e:i_.wrap n=if decide (n%18446744073709551616>=9223372036854775808)=true then n%18446744073709551616-18446744073709551616 else n%18446744073709551616:=by simp[IntKind.wrap,IntKind.bits,IntKind.signed]
 rw[e];split
 ·rename_i h;simp only[dT_]at h;omega
 ·rename_i h;simp only[dT_]at h;omega
theorem zz{k:Nat}(h:k<=9223372036854775807):i_.wrap (k:Int)=k:=wrap_i64 Om Om
theorem eM{k:Nat}(h:k<9223372036854775807):i_.wrap ((k:Int)+1)=((k+1:Nat):Int):=by
 rw[wrap_i64 Om Om];omega
theorem wZz(k:Nat)(h:k<9223372036854775807:=by omega):i_.wrap ((k:Int)+1)=((k+1:Nat):Int):=eM h
theorem wrap_u64{n:Int}(d:0<=n)(i:n<18446744073709551616):u_.wrap n=n:=by
 have e:u_.wrap n=n%18446744073709551616:=by simp[IntKind.wrap,IntKind.bits,IntKind.signed]
 rw[e];omega
abbrev ints(xs:List Int):PV:=.sl 1 (xs.map λn=>[.int .i64 n])
open Go Go.RowKit
inductive CT where
 |int (k:IntKind)
 |bool
 |str
 |sl (es:List CT)
 deriving Inhabited
def xL(P:Program)(rec:TypeId->Option (List CT)):Nat->List Field->Option (List CT)
 |_,[]=>some []
 |k,f::d=>match rec f.type with
  |some cts=>if f.offset=k/\P.cellsOf f.type=cts.length then(xL P rec (k+Z' cts) d).map (cts++·)else none
  |none=>none
def lL(P:Program):Nat->TypeId->Option (List CT)
 |0,_=>none
 |n+1,t=>match P.underlying t with
  |some .bool=>some [.bool]
  |some (.int k)=>some [.int k]
  |some .string=>some [.str]
  |some (.slice e)=>match lL P n e with
   |some cts=>if P.cellsOf e=Z' cts/\0<cts.length then some [.sl cts]else none
   |none=>none
  |some (.struct d)=>match xL P (lL P n) 0 d.toList with
   |some cts=>if P.cellsOf t=cts.length then some cts else none
   |none=>none
  |some (.array k e)=>match lL P n e with
   |some cts=>if P.cellsOf e=Z' cts/\P.cellsOf t=k*cts.length then some (bkM k cts).flatten else none
   |none=>none
  |_=>none
inductive PV.Ty:CT->PV->Prop
 |int {k:IntKind} {n:Int} (h:(Lit.int k n).wf=true):PV.Ty (.int k) (.int k n)
 |bool (b:Bool):PV.Ty .bool (.bool b)
 |str {s:List UInt8} (h:Z' s<=maxLen):PV.Ty .str (.str s)
 |sl {es:List CT} {rows:List (List PV)} (hr:∀r∈rows,Z' r=Z' es) (hl:Z' rows<=maxLen) (h:∀(i j:Nat) pv ct,at2 rows i j=some pv->es[j]?=some ct->PV.Ty ct pv):PV.Ty (.sl es) (.sl es.length rows)
def Env.of(W:World)(num:Nat->FuncId):Env:=⟨λb=>match W.heap[b]? with|some (.cells cs _ _)=>some cs|_=>none,λ_=>none,num⟩
theorem cC.start(W:World)(num:Nat->FuncId):cC (Env.of W num) h_ W:=by
 refine⟨λb cs hb=>⟨λx d=>(by cases d),?_⟩,λo x d=>(by cases d),λo n h=>(by cases h)⟩;simp only[Env.of]at hb;split at hb
 ·rename_i c ty fr h;cases hb;exact⟨ty,fr,h⟩
 ·cases hb
structure Reads(E:Env)(cts:List CT)(pvs:List PV)(cs:List Value):Prop where
 lp:Z' pvs=Z' cts
 lc:Z' cs=Z' cts
 rep:∀(j:Nat) pv c,pvs[j]?=some pv->cs[j]?=some c->bM E pv c/\c.oneCell'=true
 ty:∀(j:Nat) pv ct,pvs[j]?=some pv->cts[j]?=some ct->PV.Ty ct pv
theorem Reads.one{E:Env}{ct:CT}{pv:PV}{c:Value}(h:bM E pv c)(d:c.oneCell'=true)(e:PV.Ty ct pv):Reads E [ct] [pv] [c]:=by
 refine⟨rfl,rfl,λj p u a b=>?_,λj p u a b=>?_⟩
 ·cases j with
  |zero=>simp at a b;subst a;subst b;exact⟨h,d⟩
  |succ j=>simp at a
 ·cases j with
  |zero=>simp at a b;subst a;subst b;exact e
  |succ j=>simp at a
theorem Reads.append{E:Env}{d i:List CT}{e x:List PV}{l w:List Value}(h:Reads E d e l)(k:Reads E i x w):Reads E (d++i) (e++x) (l++w):=by
 refine⟨by simp[h.lp,k.lp],by simp[h.lc,k.lc],λj p u a b=>?_,λj p u a b=>?_⟩
 ·rcases blI j e.length with hj|hj
  ·rw[bmU hj]at a;rw[bmU (by rw[h.lc,<-h.lp];exact hj)]at b;exact h.rep j p u a b
  ·rw[bmY hj]at a;rw[bmY (by rw[h.lc,<-h.lp];exact hj)]at b;rw[show j-Z' l=j-e.length by rw[h.lc,h.lp]]at b;exact k.rep _ p u a b
 ·rcases blI j e.length with hj|hj
  ·rw[bmU hj]at a;rw[bmU (by rw[<-h.lp];exact hj)]at b;exact h.ty j p u a b
  ·rw[bmY hj]at a;rw[bmY (by rw[<-h.lp];exact hj)]at b;rw[show j-Z' d=j-e.length by rw[h.lp]]at b;exact k.ty _ p u a b
theorem Bm{W:World}{num:Nat->FuncId}{a:Addr}{v:Value}(h:W.cell? a=some v):a.spot=none/\(Env.of W num).cell a.block a.off=some v:=by
 unfold World.cell? at h;split at h
 ·rename_i c ty fr hb;split at h
  ·cases h
  ·rename_i d;refine⟨by simpa using d,?_⟩;simp only[Env.cell,Env.of,hb];exact h
 ·cases h
inductive PV.Len (N:Nat):PV->Prop
 |flat {pv:PV} (h1:∀n rows,pv≠.sl n rows) (h2:∀vs,pv≠.agg vs):PV.Len N pv
 |sl {n:Nat} {rows:List (List PV)} (h:Z' rows<=N) (hr:∀r∈rows,∀v∈r,PV.Len N v):PV.Len N (.sl n rows)
 |agg {vs:List PV} (h:∀v∈vs,PV.Len N v):PV.Len N (.agg vs)
theorem PV.Len.int{N:Nat}(k:IntKind)(n:Int):PV.Len N (.int k n):=.flat (λ_ _ h=>by cases h) λ_ h=>by cases h
theorem PV.Len.bool{N:Nat}(b:Bool):PV.Len N (.bool b):=.flat (λ_ _ h=>by cases h) λ_ h=>by cases h
theorem PV.Len.str{N:Nat}(s:List UInt8):PV.Len N (.str s):=.flat (λ_ _ h=>by cases h) λ_ h=>by cases h
theorem PV.Len.rows{N n:Nat}{rows:List (List PV)}(h:PV.Len N (.sl n rows)):Z' rows<=N/\∀r∈rows,∀v∈r,PV.Len N v:=by
 cases h with
 |flat d _=>exact absurd rfl (d n rows)
 |sl d e=>exact⟨d,e⟩
theorem PV.Len.parts{N:Nat}{vs:List PV}(h:PV.Len N (.agg vs)):∀v∈vs,PV.Len N v:=by
 cases h with
 |flat _ d=>exact absurd rfl (d vs)
 |agg h=>exact h
structure FH{H:Type}(P:Program)(N:Nat)(S:TypeId->DataW H->Prop):Prop where
 sl:∀t e elems spare,P.underlying t=some (.slice e)->S t (.slice elems spare)->Z' elems<=N/\∀d∈elems,S e d
 st:∀t fs parts,P.underlying t=some (.struct fs)->S t (.agg parts)->∀(i:Nat) g d,fs[i]?=some g->parts[i]?=some d->S g.type d
 ar:∀t n e parts,P.underlying t=some (.array n e)->S t (.agg parts)->∀d∈parts,S e d
theorem lm{H:Type}{P:Program}{A:(TypeId->DataW H->Prop)->Prop}{pv:PV}(h:∀{N},PV.Len N pv):∀N S,FH P N S->A S->∀v∈[pv],PV.Len N v:=λN S _ _ v d=>by
 obtain rfl:=bmF.1 d;exact h
theorem Ds{P:Program}{E:Env}{rec:TypeId->Option (List CT)}{H:Type}{f:TypeId->List Value->Option (DataW H × List MemPlace)}
  (F:∀t cs x cts,f t cs=some x->rec t=some cts->∃d,Reads E cts d cs/\∀N S,FH P N S->S t x.1->∀v∈d,PV.Len N v) (cs:List Value) :
  ∀(i:List Field)(k:Nat)(cts:List CT),(∀g∈i,∃x,f g.type ((cs.drop g.offset).take (P.cellsOf g.type))=some x)->xL P rec k i=some cts ->
   ∃d,Reads E cts d ((cs.drop k).take cts.length)/\∀N S,FH P N S->(∀g∈i,∀x,f g.type ((cs.drop g.offset).take (P.cellsOf g.type))=some x->S g.type x.1)->∀v∈d,PV.Len N v
 |[],k,cts,_,h=>by simp[xL]at h;subst h;exact⟨[],⟨rfl,by simp,λj p c a=>by simp at a,λj p c a=>by simp at a⟩,λ_ _ _ _ v hv=>by cases hv⟩
 |g::i,k,cts,A,h=>by
  simp only[xL]at h;split at h
  ·rename_i J M;split at h
   ·rename_i y;simp only[bkU]at h;obtain⟨K,O,rfl⟩:=h;obtain⟨x,B⟩:=A g bH;obtain⟨U,r1,Q⟩:=F _ _ _ _ B M;rw[y.1,y.2]at r1;obtain⟨V,r2,R⟩:=Ds F cs i (k+Z' J) K (λl e=>A l (by simp[e])) O;refine⟨U++V,?_,λN S u w v hv=>?_⟩
    ·have:=r1.append r2;rw[bkQ,List.take_add,List.drop_drop];exact this
    ·rcases blV.1 hv with hv|hv
     ·exact Q N S u (w g bH x B) v hv
     ·exact R N S u (λl e=>w l (by simp[e])) v hv
   ·cases h
  ·cases h
theorem Rn{E:Env}{cts:List CT}{R:List PV->Prop}(e:R [])(l:∀a b,R a->R b->R (a++b))(cs:List Value) :
  ∀n:Nat,(∀i,i<n->∃d,Reads E cts d ((cs.drop (i*Z' cts)).take cts.length)/\R d)->∃d,Reads E (bkM n cts).flatten d (cs.take (n*Z' cts))/\R d
 |0,_=>⟨[],⟨rfl,by simp,λj p c a=>by simp at a,λj p c a=>by simp at a⟩,e⟩
 |n+1,h=>by obtain⟨u,r1,x⟩:=Rn e l cs n λi hi=>h i Om;obtain⟨w,r2,y⟩:=h n Om;refine⟨u++w,?_,l _ _ x y⟩;rw[List.replicate_succ',List.flatten_append,List.flatten_singleton,bnS,List.take_add];exact r1.append r2
theorem apD{H:Type}{enc:TypeId × Value->H}{P:Program}{W:World}{base:Nat}{sp:Nat->Bool}{α:Bool}(num:Nat->FuncId) :
  ∀(fuel m:Nat)(t:TypeId)(cs:List Value)(x:DataW H × List MemPlace)(cts:List CT),DataW.trod enc P W base sp α fuel t cs=some x->lL P m t=some cts->∃l,Reads (Env.of W num) cts l cs/\∀N S,FH P N S->S t x.1->∀v∈l,PV.Len N v:=by
 intro fuel
 induction fuel with
 |zero=>intro m t cs x cts h;simp[DataW.trod]at h
 |succ fuel ih=>
  intro m t cs x cts h u;cases m with
  |zero=>simp[lL]at u
  |succ m=>
   simp only[lL]at u;split at u
   ·rename_i M;cases u;obtain⟨b,rfl,-⟩:=DataW.trod_bool M h;exact⟨[.bool b],.one (.bool b) rfl (.bool b),lm (.bool b)⟩
   ·rename_i k M;cases u;obtain⟨n,rfl,-,hw⟩:=DataW.trod_int M h;exact⟨[.int k n],.one (.int k n) rfl (.int hw),lm (.int k n)⟩
   ·rename_i M;cases u;obtain⟨s,rfl,-,hs⟩:=DataW.trod_string M h;exact⟨[.str s.data.toList],.one (.str s) rfl (.str (by rw[bnL];exact hs)),lm (.str _)⟩
   ·rename_i e M;split at u
    ·rename_i p he;split at u
     ·rename_i A;cases u;rcases DataW.trod_slice M h with⟨rfl,-⟩|⟨a,len,cap,elems,rest,n,hn,rfl,V,-,β,hcap,hel,helem,-⟩
      ·refine⟨[.sl p.length []],.one ?_ rfl (.sl bH bH (by simp[at2])),lm (.sl (bkL _) (λr Q=>by cases Q))⟩;exact .sl (λ_ _=>.bool false) bH aU bH bH (λ_ _=>rfl) (by simp[at2])
      ·cases hn;have each:∀i,i<len->∃l X,(Reads (Env.of W num) p l X/\∀N S,FH P N S->(∀d∈elems.map (·.1),S e d)->∀v∈l,PV.Len N v)/\W.cells? base (a.add (i*Z' p)) p.length=some X:=by intro i hi;have Z:=helem i hi;rw[bkT Om,boI]at Z;obtain⟨X,h2,h3⟩:=Z;obtain⟨l,r,rl⟩:=ih m e X _ p h3 he;rw[A.1]at h2;exact⟨l,X,⟨r,λN S F J=>rl N S F (J _ (blF.2 ⟨_,bkK _,rfl⟩))⟩,h2⟩
       have γ:∀i,∃l,∃X,i<len->(Reads (Env.of W num) p l X/\∀N S,FH P N S->(∀d∈elems.map (·.1),S e d)->∀v∈l,PV.Len N v)/\W.cells? base (a.add (i*Z' p)) p.length=some X:=by
        intro i;by_cases hi:i<len
        ·obtain⟨l,X,Z⟩:=each i hi;exact⟨l,X,λ_=>Z⟩
        ·exact⟨[],[],λh=>(hi h).elim⟩
       obtain⟨pf,ν⟩:=Classical.axiomOfChoice γ;obtain⟨uf,K⟩:=Classical.axiomOfChoice ν;have δ:∀i j pv,at2 ((bkH len).map pf) i j=some pv->i<len/\(pf i)[j]?=some pv:=by
        intro i j pv hp;unfold at2 at hp;rw[blC,boI]at hp;obtain⟨r,Q,hp⟩:=hp;rw[bkU]at Q;obtain⟨i',O,rfl⟩:=Q;have hi:i<len:=by simpa using(blQ.1 O).1
        have:i'=i:=by simp[hi]at O;exact O.symm
        subst this;exact⟨hi,hp⟩
       have hu2:∀i j pv,at2 ((bkH len).map pf) i j=some pv->∃v,(uf i)[j]?=some v/\j<Z' p/\bM (Env.of W num) pv v/\v.oneCell'=true:=by
        intro i j pv hp;obtain⟨hi,U⟩:=δ i j pv hp;obtain⟨⟨r,-⟩,-⟩:=K i hi;have hj:j<Z' p:=by rw[<-r.lp];exact(blQ.1 U).1
        have B:(uf i)[j]?=some ((uf i)[j]'(by rw[r.lc];exact hj)):=bkT _;exact⟨_,B,hj,(r.rep j pv _ U B).1,(r.rep j pv _ U B).2⟩
       have Y:((bkH len).map pf).length=len:=by simp
       refine⟨[.sl p.length ((bkH len).map pf)],.one ?_ rfl (.sl (λr Q=>?_) (by rw[Y];omega) λi j pv ct hp ι=>?_),λN S F J v B=>?_⟩
       ·have ζ:=bM.sl (E:=Env.of W num) (size:=Z' p) (rows:=(bkH len).map pf) (a:=some a) (cap:=cap)
         (λi j=>match at2 ((bkH len).map pf) i j with|some _=>((uf i)[j]?).getD (.bool false)|none=>.bool false) (by rw[Y];exact β) hcap
         (λr Q=>by simp only[blF,blN]at Q;obtain⟨i,hi,rfl⟩:=Q;exact(K i hi).1.1.lp)
         (λμ=>by
          have κ:0<len:=by
           rcases bmZ len with h|h
           ·subst h;exact(μ rfl).elim
           ·exact h
          have ε:a.spot=none:=by obtain⟨⟨r,-⟩,u⟩:=K 0 κ;have h3:=(World.cells?_some u).2.2 0 A.2;rw[Nat.zero_mul,Addr.add_zero',Addr.add_zero',bkT (by rw[r.lc];exact A.2)]at h3;exact(Bm (num:=num) h3).1
          refine⟨a,rfl,ε,λi j pv hp=>?_⟩;obtain⟨hi,-⟩:=δ i j pv hp;obtain⟨v,B,hj,-⟩:=hu2 i j pv hp;have h3:=(World.cells?_some (K i hi).2).2.2 j hj;rw[tK ε,add_plain,add_plain,B]at h3;have h4:=(Bm (num:=num) h3).2;simp only[hp,B,bnG];exact h4)
         (λi j=>by
          split
          ·rename_i pv hp;obtain⟨v,B,-,-,Z⟩:=hu2 i j pv hp;simp[B,Z]
          ·rfl)
         (λi j pv hp=>by obtain⟨v,B,-,Z,-⟩:=hu2 i j pv hp;simp only[hp,B,bnG];exact Z)
        rw[Y]at ζ;exact ζ
       ·simp only[blF,blN]at Q;obtain⟨i,hi,rfl⟩:=Q;exact(K i hi).1.1.lp
       ·obtain⟨hi,U⟩:=δ i j pv hp;exact(K i hi).1.1.ty j pv ct U ι
       ·rw[V]at J;obtain⟨m1,m2⟩:=F.sl t e _ _ M J;obtain rfl:=bmF.1 B;refine .sl (by rw[Y];simpa[hel]using m1) λr Q w hw=>?_;simp only[blF,blN]at Q;obtain⟨i,hi,rfl⟩:=Q;exact(K i hi).1.2 N S F m2 w hw
     ·cases u
    ·cases u
   ·rename_i fs M;split at u
    ·rename_i ο η;split at u
     ·rename_i β;cases u;obtain⟨xs,n,hn,V,θ,ξ,hx⟩:=DataW.trod_struct M h;cases hn;have:=Ds (f:=DataW.trod enc P W base sp α fuel) (λt cs x cts a b=>ih m t cs x cts a b) cs fs.toList 0 cts (λg hg=>by obtain⟨i,hi,rfl⟩:=blZ hg;have:=hx i fs.toList[i] (by simp at hi;simp[hi]);rw[this];exact⟨_,bkT (by simp at hi;omega)⟩) η
      rw[blY,bkZ Om]at this;obtain⟨l,r,rl⟩:=this;refine⟨l,r,λN S F J=>rl N S F λg hg y hy=>?_⟩;rw[V]at J;obtain⟨i,hi,rfl⟩:=blZ hg;have O:i<fs.size:=by simpa using hi
      have:=hx i fs.toList[i] (by simp[O]);rw[hy,bkT Om]at this;refine F.st t fs _ M J i fs.toList[i] y.1 (by simp[O]) ?_;rw[blC,bkT Om,<-this];rfl
     ·cases u
    ·cases u
   ·rename_i k e M;split at u
    ·rename_i p he;split at u
     ·rename_i A;cases u;obtain⟨xs,n,hn,V,θ,ξ,hx⟩:=DataW.trod_array M h;cases hn;obtain⟨l,r,hq⟩:=Rn (E:=Env.of W num) (cts:=p) (R:=λl=>∀N S,FH P N S->(∀d:DataW H,d∈xs.map (λy:DataW H × List MemPlace=>y.1)->S e d)->∀v∈l,PV.Len N v) (λ_ _ _ _ v B=>by cases B)
       (λa b ha hb N S F J v B=>(blV.1 B).elim (ha N S F J v) (hb N S F J v)) cs k λi hi=>by have h2:=hx i hi;rw[bkT Om,A.1]at h2;obtain⟨l,r,rl⟩:=ih m e _ _ p h2 he;exact⟨l,r,λN S F J=>rl N S F (J _ (blF.2 ⟨_,bkK _,rfl⟩))⟩
      rw[bkZ Om]at r;exact⟨l,r,λN S F J=>hq N S F (F.ar t k e _ M (by rw[V]at J;exact J))⟩
     ·cases u
    ·cases u
   ·cases u
open Go Go.RowKit Go.ChangeShapes Go.WideShapes
theorem Ext.below{E e:Env}{H':PH}{w d:World}(h:Ext E h_ w e H' d):Below w.heap.size w d:=
 ⟨h.os,h.tape,h.output,h.size,λk i=>h.block k i rfl⟩
theorem Below.trodAll{H:Type}{enc:TypeId × Value->H}{P:Program}(w:laidOutB P=true){W i:World}(hb:Below W.heap.size W i) :
  ∀{ts:List TypeId}{vs:List Value}{ds:List (DataW H)}{ps:List MemPlace},(∀t∈ts,P.readableRec t=true/\t<P.types.size)->DataW.TrodAll enc P W 0 (λ_=>true) true ts vs ds ps ->
   DataW.TrodAll enc P i 0 (λb=>decide (b<W.heap.size)) true ts vs ds ps
 |[],[],[],ps,_,h=>h
 |[],_::_,_,_,_,h=>h.elim
 |[],[],_::_,_,_,h=>h.elim
 |_::_,[],_,_,_,h=>h.elim
 |_::_,_::_,[],_,_,h=>h.elim
 |t::ts,v::vs,d::ds,ps,e,h=>by obtain⟨p,q,l,y,rfl⟩:=h;have hlt:∀x∈p,x.block<W.heap.size:=λx B=>DataW.TrodAll.lt (ts:=[t]) (vs:=[v]) (ds:=[d]) ⟨p,[],l,rfl,(bmJ p).symm⟩ x B;exact⟨p,q,Below.trod w (e t bH).1 (e t bH).2 l hb hlt,Below.trodAll w hb (λu A=>e u (by simp[A])) y,rfl⟩
theorem aSI{H:Type}{enc:TypeId × Value->H}{P:Program}{f:Func}{s:ChangeSpec}{d apart fresh:Bool}{W A:World}{args:Array Value}{ds i:List (DataW H)}{e:List MemPlace}{bt:TypeId}
  (F:laidOutB P=true) (hW:DataW.Whole enc P f.params.toList s.vars apart W args.toList ds i e) (hb:Below W.heap.size W A) (w:∀t∈f.params.toList,P.readableRec t=true/\t<P.types.size)
  (u:f.resultTypes=#[bt]) (l:P.underlying bt=some .bool) (x:s.vars=[]) (K:(s.fn H (ds++i)).results=[.lit (.bool true)]) (E:(s.fn H (ds++i)).args=ds) (y:(s.fn H (ds++i)).vars=[]) :
  s.post enc P f apart fresh d false W args (.bool true) A:=by
 obtain⟨p,q,B,hV,rfl,M,J⟩:=hW;rw[x]at hV;obtain⟨rfl,rfl⟩:=trodVars_none hV;refine⟨ds,[],p++[],[],p,[],⟨p,[],B,by rw[x];exact hV,rfl,M,J⟩,?_,?_,?_,hb.frame _,λh=>by cases h⟩
 ·rw[K,u];refine⟨[],[],⟨1,?_⟩,rfl,rfl⟩;simp[DataW.trod,l,Value.cells,Value.resultList]
 ·rw[E];exact Below.trodAll F hb w B
 ·rw[x,y];exact rfl
theorem aQM{name:Nat}{W:World}{args:Array Value}{i:List PV}(h:aH C name i h_ (aF (.bool true)))(w:fY (Env.of W C.num) i args.toList) :
  Calls C.P (C.num name) args W λe l=>e=.returned (.bool true)/\Below W.heap.size W l:=
 (h.2 (Env.of W C.num) W args rfl (cC.start W C.num) w).mono λe l u=>by obtain⟨v,pv,x,H',rfl,-,d,p,rfl,-⟩:=u;cases d;exact⟨rfl,p.below⟩
def InK(k:IntKind)(n:Int):Prop:=k.min<=n/\n<=k.max
def aKO(k:IntKind)(xs:List Int):PV:=.sl 1 (xs.map λn=>[.int k n])
theorem Ty.M4{k:IntKind}{pv:PV}(h:PV.Ty (.int k) pv):∃n,pv=.int k n/\InK k n:=by
 cases h with
 |int h=>simp only[Lit.wf,bkI,dT_]at h;exact⟨_,rfl,h⟩
theorem Ty.aVN{pv:PV}(h:PV.Ty .bool pv):∃b,pv=.bool b:=by
 cases h;exact⟨_,rfl⟩
theorem Ty.a7E{ct:CT}{pv:PV}(h:PV.Ty (.sl [ct]) pv):∃vs:List PV,pv=.sl 1 (vs.map λv=>[v])/\Z' vs<=maxLen/\∀v∈vs,PV.Ty ct v:=by
 cases h with
 |@sl A rows y w h=>
 have d:∀r∈rows,r=[r.headD .junk]:=λr l=>by
  have:=y r l
  match r,this with
  |[x],_=>rfl
 have e:rows=(rows.map λr=>r.headD .junk).map λv=>[v]:=by rw[bnN];apply bnM bH;intro n u B;simp only[blX,Function.comp];exact d _ (bkK u)
 refine⟨rows.map λr=>r.headD .junk,by rw[<-e];rfl,by simpa using w,λv p=>?_⟩;rw[blF]at p;obtain⟨r,l,rfl⟩:=p;obtain⟨i,hi,rfl⟩:=blZ l;refine h i 0 _ ct ?_ rfl;have:=d rows[i] l;unfold at2;rw[bkT hi,bnW,this];rfl
theorem Ty.aYD{k:IntKind}{pv:PV}(h:PV.Ty (.sl [.int k]) pv):∃xs:List Int,pv=aKO k xs/\Z' xs<=maxLen/\∀x∈xs,InK k x:=by
 obtain⟨vs,rfl,w,i⟩:=Ty.a7E h;have e:vs=(vs.map λv=>match v with | .int _ n=>n|_=>0).map λn=>PV.int k n:=by rw[bnN];apply bnM bH;intro n p y;simp only[blX,Function.comp];obtain⟨m,d,-⟩:=Ty.M4 (i _ (bkK p));rw[d]
 refine⟨vs.map λv=>match v with | .int _ n=>n|_=>0,?_,by simpa using w,λx l=>?_⟩
 ·unfold aKO
  conv=>lhs;rw[e]
  rw[bnN];rfl
 ·rw[blF]at l;obtain⟨v,d,rfl⟩:=l;obtain⟨m,rfl,u⟩:=Ty.M4 (i v d);exact u
end Go.PM
namespace Go.Proofs.YtjlbgiaeggfcaaaGreatDoor
open Go Go.PM
def a9M:List Nat:=[14,87,41,0,13,44,15,43,0,0,0,0,0,0,0,0,0,0,0,0,0,0,0,0,0,0,0,36,12,42,115,171,116,90,89,46,159,117,85,137,174,136,161,160,173,172,61,24,158,35,16,76,112,39,33,155,38,113,45,47,114,156,152,187,178,177,157,58,108,111,107,153,110,106,109,154,105,163,0,0,164,123,0,0,0,26,0,0,162,0,0,0,0,0,0,50,17,92,139,93,141,144,95,140,48,91,96,142,97,143,52,49,51,56,30,54,99,94,65,102,101,67,68,98,175,146,145,103,100,66,148,147,138,120,104,149,176,150,119,186,183,151,185,184,0,0,0,0,0,0,0,0,22,0,0,0,0,0,0,0,0,57,170,135,190,181,182,191,188,180,179,0,0,0,0,0,0,0,0,0,0,0,0,0,0,0,0,0,0,0,0,0,0,0,0,88,0,0,0,0,0,121,169,165,133,126,62,63,71,0,64,118,0,124,0,74,77,73,75,32,78,0,0,0,0,0,0,0,0,70,29,31,69,34,59,8,28,0,0,0,0,0,0,0,0,0,0,0,0,0,0,0,0,0,0,0,0,0,0,0,0,0,0,0,0,0,0,0,0,0,0,0,0,0,0,0,0,0,72,122,79,125,0,0,0,0,0,0,0,0,0,0,0,0,0,0,0,0,0,0,0,0,0,0,0,0,0,0,0,0,0,0,0,0,0,0,0,0,0,0,0,0,0,3,0,0,4,5,6,7,9,10,11,37,40,18,19,20,21,23,25,27,80,81,82,83,84,86,53,55,60,127,128,129,130,131,132,134,166,167,168,0,0,0,0,0,0,0,0,0,0,0,0,0]
def a5W:List (Option Nat):=[none,none,none,some 323,some 326,some 327,some 328,some 329,some 235,some 330,some 331,some 332,some 28,some 4,some 0,some 6,some 50,some 96,some 335,some 336,some 337,some 338,some 152,some 339,some 47,some 340,some 85,some 341,some 236,some 230,some 114,some 231,some 219,some 54,some 233,some 49,some 27,some 333,some 56,some 53,some 334,some 2,some 29,some 7,some 5,some 58,some 35,some 59,some 104,some 111,some 95,some 112,some 110,some 348,some 115,some 349,some 113,some 161,some 67,some 234,some 350,some 46,some 206,some 207,some 210,some 118,some 129,some 121,some 122,some 232,some 229,some 208,some 278,some 217,some 215,some 218,some 51,some 216,some 220,some 280,some 342,some 343,some 344,some 345,some 346,some 38,some 347,some 1,some 195,some 34,some 33,some 105,some 97,some 99,some 117,some 102,some 106,some 108,some 123,some 116,some 128,some 120,some 119,some 127,some 134,some 76,some 73,some 70,some 68,some 74,some 72,some 69,some 52,some 57,some 60,some 30,some 32,some 37,some 211,some 138,some 133,some 201,some 279,some 81,some 213,some 281,some 205,some 351,some 352,some 353,some 354,some 355,some 356,some 204,some 357,some 163,some 41,some 39,some 132,some 98,some 103,some 100,some 107,some 109,some 101,some 126,some 125,some 131,some 130,some 135,some 137,some 141,some 62,some 71,some 75,some 55,some 61,some 66,some 48,some 36,some 43,some 42,some 88,some 77,some 80,some 203,some 358,some 359,some 360,some 202,some 162,some 31,some 45,some 44,some 40,some 124,some 136,some 65,some 64,some 170,some 169,some 165,some 166,some 140,some 143,some 142,some 139,some 63,some 168,none,some 164,some 167]
def num(n:Nat):FuncId:=a9M.getD n 0
def nameOf(f:FuncId):Option Nat:=a5W.getD f none
noncomputable def T(ro:List Nat):Tbl:={ P:=Tryz.prog,num:=num,name:=nameOf,ro:=ro }
end Go.Proofs.YtjlbgiaeggfcaaaGreatDoor
namespace Go.PM
open Go
abbrev Rg:=List aZ
abbrev Rd:=List (aZ×Bool)
def aC.rs : aC->List Rg
 | .region r=>[r] | .seq a b=>a.rs++b.rs | .cond _ a b=>a.rs++b.rs | .block _ a=>a.rs | .loop a=>a.rs | _=>[]
def aC.ds : aC->List Rd
 | .draw r=>[r] | .seq a b=>a.ds++b.ds | .cond _ a b=>a.ds++b.ds | .block _ a=>a.ds | .loop a=>a.ds | _=>[]
theorem aDT (n:Nat) (h:n<2^8):UInt8.ofBitVec (BitVec.ofFin ⟨n,h⟩)=UInt8.ofNat n:=by
 apply UInt8.toNat_inj.1;have d:n<256:=h;simp [UInt8.toNat_ofNat'];omega
def bR(ro:List Nat)(f:Func)(x:{p:bB//(Go.Proofs.YtjlbgiaeggfcaaaGreatDoor.T ro).func f=some p}:=by refine⟨?p,?h⟩;case h=>conv=>lhs;reduce):bB:=x.1
def aA(q:bB)(k:Nat)(x:{l:Rg//(q.body.rs).getD k []=l}:=by refine⟨?p,?h⟩;case h=>conv=>lhs;reduce;try simp only[aDT,UInt8.reduceOfNat,Int.reduceOfNat,Int.reduceNegSucc]):Rg:=x.1
def cN(q:bB)(k:Nat)(x:{l:Rd//(q.body.ds).getD k []=l}:=by refine⟨?p,?h⟩;case h=>conv=>lhs;reduce;try simp only[aDT,UInt8.reduceOfNat,Int.reduceOfNat,Int.reduceNegSucc]):Rd:=x.1
@[go_sem ↓] theorem bgM(q:bB)(k:Nat)(l:Rg)(h:(q.body.rs).getD k []=l):aA q k ⟨l,h⟩=l:=(rfl)
@[go_sem ↓] theorem bfW(q:bB)(k:Nat)(l:Rd)(h:(q.body.ds).getD k []=l):cN q k ⟨l,h⟩=l:=(rfl)
def iM(d s:Nat):aZ:=⟨some d,.mv (.tmp s),none⟩
def iI(d:Nat)(n:Int):aZ:=⟨some d,.mv (.const (.int .i64 n)),none⟩
def iB(d:Nat)(o:BinOp)(x y:Nat):aZ:=⟨some d,.bin o (.tmp x) (.tmp y),none⟩
def iC(d:Nat)(o:BinOp)(x:Nat)(n:Int):aZ:=⟨some d,.bin o (.tmp x) (.const (.int .i64 n)),none⟩
def iL(d s:Nat):aZ:=⟨some d,.load none (.tmp s),none⟩
def iX(d n x y:Nat):aZ:=⟨some d,.bjM n (.tmp x) (.tmp y),none⟩
def iN(d x:Nat):aZ:=⟨some d,.len (.tmp x),none⟩
def iF(d n x:Nat):aZ:=⟨some d,.bjY n (.tmp x),none⟩
def iS(n p x:Nat):aZ:=⟨none,.store n (.tmp p) (.tmp x),none⟩
def iA(d:Nat)(o:POp):aZ:=⟨some d,o,none⟩
def iG(d:Nat)(o:POp)(g:Nat)(b:Bool):aZ:=⟨some d,o,some (g,b)⟩
def iP(d a b:Nat):aZ:=⟨some d,.pick (.tmp a) (.tmp b) (.const (.bool false)),none⟩
def iQ(d a b:Nat):aZ:=⟨some d,.pick (.tmp a) (.const (.bool true)) (.tmp b),none⟩
def iO(d s a:Nat):aZ:=⟨some d,.load (some s) (.tmp a),none⟩
def iE(d a n:Nat):aZ:=⟨some d,.extract (.tmp a) n,none⟩
def iK(d f a:Nat):aZ:=⟨some d,.call f [.tmp a],none⟩
def iK2(d f a b:Nat):aZ:=⟨some d,.call f [.tmp a,.tmp b],none⟩
def iT(d:Nat)(b:Bool):aZ:=⟨some d,.mv (.const (.bool b)),none⟩
def iZ(d:Nat):aZ:=⟨some d,.mv (.const .aK),none⟩
def gM(d s g:Nat)(b:Bool):aZ:=⟨some d,.mv (.tmp s),some (g,b)⟩
def gL(d s g:Nat)(b:Bool):aZ:=⟨some d,.load none (.tmp s),some (g,b)⟩
def gF(d n s g:Nat)(b:Bool):aZ:=⟨some d,.bjY n (.tmp s),some (g,b)⟩
def gN(d s g:Nat)(b:Bool):aZ:=⟨some d,.len (.tmp s),some (g,b)⟩
def gO(d n s g:Nat)(b:Bool):aZ:=⟨some d,.load (some n) (.tmp s),some (g,b)⟩
def gK(d f a g:Nat)(b:Bool):aZ:=⟨some d,.call f [.tmp a],some (g,b)⟩
def gK2(d f a c g:Nat)(b:Bool):aZ:=⟨some d,.call f [.tmp a,.tmp c],some (g,b)⟩
def gC(d:Nat)(o:BinOp)(x:Nat)(n:Int)(g:Nat)(b:Bool):aZ:=⟨some d,.bin o (.tmp x) (.const (.int .i64 n)),some (g,b)⟩
def gB(d:Nat)(o:BinOp)(x y g:Nat)(b:Bool):aZ:=⟨some d,.bin o (.tmp x) (.tmp y),some (g,b)⟩
def zI:PV:=.int .i64 0
def zB:PV:=.bool false
def sq(r:Rg)(c:aC):aC:=.seq (.region r) c
def dq(r:Rd)(c:aC):aC:=.seq (.draw r) c
def Tm(n:Nat):aS:=.tmp n
def Ci(n:Int):aS:=.const (.int .i64 n)
@[go_sem] theorem biJ(d s:Nat):iM d s=⟨some d,.mv (.tmp s),none⟩:=(rfl)
@[go_sem] theorem biG(d:Nat)(n:Int):iI d n=⟨some d,.mv (.const (.int .i64 n)),none⟩:=(rfl)
@[go_sem] theorem biB(d:Nat)(o:BinOp)(x y:Nat):iB d o x y=⟨some d,.bin o (.tmp x) (.tmp y),none⟩:=(rfl)
@[go_sem] theorem biC(d:Nat)(o:BinOp)(x:Nat)(n:Int):iC d o x n=⟨some d,.bin o (.tmp x) (.const (.int .i64 n)),none⟩:=(rfl)
@[go_sem] theorem biI(d s:Nat):iL d s=⟨some d,.load none (.tmp s),none⟩:=(rfl)
@[go_sem] theorem biQ(d n x y:Nat):iX d n x y=⟨some d,.bjM n (.tmp x) (.tmp y),none⟩:=(rfl)
@[go_sem] theorem biK(d x:Nat):iN d x=⟨some d,.len (.tmp x),none⟩:=(rfl)
@[go_sem] theorem biE(d n x:Nat):iF d n x=⟨some d,.bjY n (.tmp x),none⟩:=(rfl)
@[go_sem] theorem biO(n p x:Nat):iS n p x=⟨none,.store n (.tmp p) (.tmp x),none⟩:=(rfl)
@[go_sem] theorem biA(d:Nat)(o:POp):iA d o=⟨some d,o,none⟩:=(rfl)
@[go_sem] theorem biF(d:Nat)(o:POp)(g:Nat)(b:Bool):iG d o g b=⟨some d,o,some (g,b)⟩:=(rfl)
@[go_sem] theorem biM(d a b:Nat):iP d a b=⟨some d,.pick (.tmp a) (.tmp b) (.const (.bool false)),none⟩:=(rfl)
@[go_sem] theorem biN(d a b:Nat):iQ d a b=⟨some d,.pick (.tmp a) (.const (.bool true)) (.tmp b),none⟩:=(rfl)
@[go_sem] theorem biL(d s a:Nat):iO d s a=⟨some d,.load (some s) (.tmp a),none⟩:=(rfl)
@[go_sem] theorem biD(d a n:Nat):iE d a n=⟨some d,.extract (.tmp a) n,none⟩:=(rfl)
@[go_sem] theorem biH(d f a:Nat):iK d f a=⟨some d,.call f [.tmp a],none⟩:=(rfl)
@[go_sem] theorem bhN(d f a b:Nat):iK2 d f a b=⟨some d,.call f [.tmp a,.tmp b],none⟩:=(rfl)
@[go_sem] theorem biP(d:Nat)(b:Bool):iT d b=⟨some d,.mv (.const (.bool b)),none⟩:=(rfl)
@[go_sem] theorem biR(d:Nat):iZ d=⟨some d,.mv (.const .aK),none⟩:=(rfl)
@[go_sem] theorem bhX(d s g:Nat)(b:Bool):gM d s g b=⟨some d,.mv (.tmp s),some (g,b)⟩:=(rfl)
@[go_sem] theorem bhW(d s g:Nat)(b:Bool):gL d s g b=⟨some d,.load none (.tmp s),some (g,b)⟩:=(rfl)
@[go_sem] theorem bhU(d n s g:Nat)(b:Bool):gF d n s g b=⟨some d,.bjY n (.tmp s),some (g,b)⟩:=(rfl)
@[go_sem] theorem bhY(d s g:Nat)(b:Bool):gN d s g b=⟨some d,.len (.tmp s),some (g,b)⟩:=(rfl)
@[go_sem] theorem bhZ(d n s g:Nat)(b:Bool):gO d n s g b=⟨some d,.load (some n) (.tmp s),some (g,b)⟩:=(rfl)
@[go_sem] theorem bhV(d f a g:Nat)(b:Bool):gK d f a g b=⟨some d,.call f [.tmp a],some (g,b)⟩:=(rfl)
@[go_sem] theorem bhM(d f a c g:Nat)(b:Bool):gK2 d f a c g b=⟨some d,.call f [.tmp a,.tmp c],some (g,b)⟩:=(rfl)
@[go_sem] theorem bhT(d:Nat)(o:BinOp)(x:Nat)(n:Int)(g:Nat)(b:Bool):gC d o x n g b=⟨some d,.bin o (.tmp x) (.const (.int .i64 n)),some (g,b)⟩:=(rfl)
@[go_sem] theorem bhS(d:Nat)(o:BinOp)(x y g:Nat)(b:Bool):gB d o x y g b=⟨some d,.bin o (.tmp x) (.tmp y),some (g,b)⟩:=(rfl)
@[go_sem] theorem biU:zI=.int .i64 0:=(rfl)
@[go_sem] theorem biT:zB=.bool false:=(rfl)
@[go_sem] theorem biS(r:Rg)(c:aC):sq r c=.seq (.region r) c:=(rfl)
@[go_sem] theorem bhR(r:Rd)(c:aC):dq r c=.seq (.draw r) c:=(rfl)
@[go_sem] theorem bhQ(n:Nat):Tm n=.tmp n:=(rfl)
@[go_sem] theorem bhP(n:Int):Ci n=.const (.int .i64 n):=(rfl)
def fP(r:Rg)(t k:Nat)(s:Rg)(b:aC):aC:=sq r (.seq (.cond (Tm t) .skip (.exit k)) (.seq (.block (k+1) b) (.region s)))
@[go_sem] theorem bgF(r:Rg)(t k:Nat)(s:Rg)(b:aC):fP r t k s b=sq r (.seq (.cond (Tm t) .skip (.exit k)) (.seq (.block (k+1) b) (.region s))):=(rfl)
def cT(r:Rg)(t k:Nat)(s:Rg)(b:aC):aC:=.seq (sq r (.cond (Tm t) .skip (.exit k))) (.seq (.block (k+1) b) (.region s))
@[go_sem] theorem bgG(r:Rg)(t k:Nat)(s:Rg)(b:aC):cT r t k s b=.seq (sq r (.cond (Tm t) .skip (.exit k))) (.seq (.block (k+1) b) (.region s)):=(rfl)
def dA(r:Rg)(n:Nat)(y:Rg)(b:aC):aC:=.seq (sq r (.cond (Tm n) (sq y .ret) .skip)) b
@[go_sem] theorem bfL(r:Rg)(n:Nat)(y:Rg)(b:aC):dA r n y b=.seq (sq r (.cond (Tm n) (sq y .ret) .skip)) b:=(rfl)
def hL(r:Rg)(n:Nat)(a b:aC):aC:=.seq (sq r (.cond (Tm n) a .skip)) b
@[go_sem] theorem bfK(r:Rg)(n:Nat)(a b:aC):hL r n a b=.seq (sq r (.cond (Tm n) a .skip)) b:=(rfl)
def cD(r:Rg)(k:Nat)(l:aC):aC:=sq r (.block k (.loop l))
@[go_sem] theorem bgY(r:Rg)(k:Nat)(l:aC):cD r k l=sq r (.block k (.loop l)):=(rfl)
end Go.PM
namespace Go.PM
open Go
open Go
def vO:=bR [] Proofs.Tryz.f119
def WN:=aA vO 0
def WO:=aA vO 1
def WP:=aA vO 2
def WQ:=aA vO 3
def WM:aC:=(.seq (sq WP (.cond (Tm 15) .skip (.exit 0))) (.block 1 (.region WQ)))
def AX:=aA vO 4
def vN:aC:=(sq WN (sq WO (.seq (.block 0 (.loop WM)) (sq AX .ret))))
def SF:bB:=⟨1,19,vN,[.tmp 2]⟩
def rz:=bR [] Proofs.Tryz.f150
def Td:=aA rz 0
def Te:=aA rz 1
def PN:aC:=(sq Td (sq Te .ret))
def akS:bB:=⟨1,6,PN,[.tmp 2]⟩
def xR:=bR [] Proofs.Tryz.f151
def Ts:=aA xR 0
def Tt:=aA xR 1
def Tu:=aA xR 2
def Tv:=aA xR 3
def Tw:=aA xR 4
def PP:aC:=(sq Ts (sq Tt (dA Tu 8 Tv (sq Tw .ret))))
def alF:bB:=⟨1,13,PP,[.tmp 2,.tmp 3]⟩
def WS:=bR [9] Proofs.Tryz.f138
def akT:=aA WS 0
def akU:=aA WS 1
def akV:=aA WS 2
def WR:aC:=(sq akT (sq akU (sq akV .ret)))
def aLU:bB:=⟨1,14,WR,[.tmp 2]⟩
def Gu:=bR [] Proofs.Tryz.f149
def alM:=aA Gu 0
def alN:=aA Gu 1
def WT:aC:=(sq alM (sq alN .ret))
def aLW:bB:=⟨1,8,WT,[.tmp 2]⟩
def lH:=bR [] Proofs.Tryz.f66
def aBD:=aA lH 0
def aBE:=aA lH 1
def aBF:=aA lH 2
def aBG:=aA lH 3
def aBH:=aA lH 4
def aBI:=aA lH 5
def aBJ:=aA lH 6
def aBK:=aA lH 7
def aBL:=cN lH 0
def aBM:=aA lH 8
def akJ:=cN lH 1
def akK:=aA lH 9
def akL:=aA lH 10
def akI:aC:=(cT aBK 23 1 akL (.block 3 (dq aBL (.cond (Tm 26) (sq aBM .ret) (dq akJ (.cond (Tm 36) (sq akK .ret) .skip))))))
def akM:=aA lH 11
def gd:aC:=(sq aBD (sq aBE (.seq (.block 0 (sq aBF (.cond (Tm 12) (sq aBG .ret) (sq aBH (.cond (Tm 16) (sq aBI .ret) .skip))))) (.seq (cD aBJ 1 akI) (sq akM .ret)))))
def aZC:bB:=⟨2,46,gd,[.tmp 4]⟩
def iJ:=bR [] Proofs.Tryz.f103
def aAW:=aA iJ 0
def aAX:=aA iJ 1
def Ni:=aA iJ 2
def aAY:=cN iJ 0
def aAZ:=aA iJ 3
def aBA:=aA iJ 4
def Nj:=aA iJ 5
def Nk:=aA iJ 6
def Nl:=aA iJ 7
def aBB:=aA iJ 8
def ajR:=aA iJ 9
def ajS:=aA iJ 10
def ajT:=aA iJ 11
def ajU:=aA iJ 12
def x6:=aA iJ 13
def x7:=aA iJ 14
def x8:=aA iJ 15
def x5:aC:=(fP aBB 37 0 x8 (sq ajR (sq ajS (hL ajT 49 (.region ajU) (sq x6 (.region x7))))))
def x9:=aA iJ 16
def ya:=aA iJ 17
def gb:aC:=(sq aAW (dA aAX 14 Ni (dq aAY (hL aAZ 27 (.region aBA) (sq Nj (sq Nk (.seq (cD Nl 0 x5) (sq x9 (sq ya .ret)))))))))
def aZA:bB:=⟨2,75,gb,[.tmp 4,.tmp 5]⟩
def jH:=bR [] Proofs.Tryz.f104
def aCF:=aA jH 0
def aCG:=aA jH 1
def Nx:=aA jH 2
def aCH:=aA jH 3
def aCI:=aA jH 4
def aCJ:=cN jH 0
def Ny:=aA jH 5
def Nz:=aA jH 6
def N0:=aA jH 7
def aCK:=aA jH 8
def alG:=aA jH 9
def alH:=aA jH 10
def alI:=aA jH 11
def alJ:=aA jH 12
def yj:=aA jH 13
def yk:=aA jH 14
def yl:=aA jH 15
def yi:aC:=(fP aCK 36 1 yl (sq alG (sq alH (hL alI 48 (.region alJ) (sq yj (.region yk))))))
def ym:=aA jH 16
def gm:aC:=(sq aCF (.seq (.block 0 (sq aCG (.cond (Tm 10) (sq Nx .ret) (sq aCH (.cond (Tm 17) (sq aCI .ret) .skip))))) (dq aCJ (sq Ny (sq Nz (.seq (cD N0 1 yi) (sq ym .ret)))))))
def aZI:bB:=⟨2,68,gm,[.tmp 4,.tmp 5]⟩
def iR:=bR [] Proofs.Tryz.f120
def aCB:=aA iR 0
def aCC:=aA iR 1
def Nq:=aA iR 2
def aCD:=cN iR 0
def Nr:=aA iR 3
def Ns:=aA iR 4
def aCE:=aA iR 5
def Nt:=aA iR 6
def Nu:=aA iR 7
def Nv:=aA iR 8
def akW:=aA iR 9
def akX:=aA iR 10
def akY:=aA iR 11
def akZ:=aA iR 12
def alA:=aA iR 13
def alB:=aA iR 14
def yc:aC:=(fP akW 42 2 alB (sq akX (sq akY (sq akZ (.region alA)))))
def ye:=aA iR 15
def alC:=aA iR 16
def yd:aC:=(fP aCE 35 0 alC (sq Nt (sq Nu (.seq (cD Nv 2 yc) (.region ye)))))
def yf:=aA iR 17
def gi:aC:=(sq aCB (dA aCC 17 Nq (dq aCD (sq Nr (.seq (cD Ns 0 yd) (sq yf .ret))))))
def aZG:bB:=⟨2,84,gi,[.tmp 4,.tmp 5]⟩
def oK:=bR [] Proofs.Tryz.f100
def ajZ:=aA oK 0
def akA:=aA oK 1
def akB:=aA oK 2
def akC:=aA oK 3
def akD:=aA oK 4
def akE:=aA oK 5
def akF:=aA oK 6
def akG:=aA oK 7
def akH:=aA oK 8
def ajY:aC:=(cT akF 19 0 akH (.region akG))
def Tb:=aA oK 9
def WJ:aC:=(sq ajZ (sq akA (dA akB 9 akC (sq akD (.seq (cD akE 0 ajY) (sq Tb .ret))))))
def aLL:bB:=⟨1,25,WJ,[.tmp 2]⟩
def tF:=bR [] Proofs.Tryz.f147
def aBU:=aA tF 0
def aBV:=aA tF 1
def Np:=aA tF 2
def aBW:=aA tF 3
def aBX:=aA tF 4
def aBY:=aA tF 5
def aBZ:=aA tF 6
def aBT:aC:=(.seq (sq aBX (.cond (Tm 20) .skip (.exit 0))) (.block 1 (sq aBY (.region aBZ))))
def aCA:=aA tF 7
def gh:aC:=(sq aBU (dA aBV 13 Np (sq aBW (.seq (.block 0 (.loop aBT)) (sq aCA .ret)))))
def aZE:bB:=⟨2,30,gh,[.tmp 4,.tmp 5]⟩
def vM:=bR [] Proofs.Tryz.f148
def aBN:=aA vM 0
def aBO:=aA vM 1
def Nn:=aA vM 2
def aBP:=aA vM 3
def aBQ:=aA vM 4
def aBR:=cN vM 0
def aBS:=aA vM 5
def gf:aC:=(sq aBN (.seq (.block 0 (sq aBO (.cond (Tm 9) (sq Nn .ret) (sq aBP (.cond (Tm 16) (sq aBQ .ret) .skip))))) (dq aBR (sq aBS .ret))))
def aZD:bB:=⟨2,34,gf,[.tmp 4,.tmp 5,.tmp 6]⟩
def mS:=bR [] Proofs.Tryz.f183
def Th:=aA mS 0
def Ti:=aA mS 1
def Tj:=aA mS 2
def Tk:=aA mS 3
def Tl:=aA mS 4
def Tn:=aA mS 5
def To:=aA mS 6
def Tq:=aA mS 7
def Tr:=aA mS 8
def Tg:aC:=(cT Tl 16 0 Tr (sq Tn (sq To (.region Tq))))
def Gs:=aA mS 9
def PO:aC:=(sq Th (sq Ti (sq Tj (.seq (cD Tk 0 Tg) (sq Gs .ret)))))
def alE:bB:=⟨2,45,PO,[.tmp 4,.tmp 5]⟩
def pE:=bR [] Proofs.Tryz.f184
def aRI:=aA pE 0
def aRJ:=aA pE 1
def aRK:=aA pE 2
def aRL:=aA pE 3
def aRM:=aA pE 4
def aRN:=aA pE 5
def aRO:=aA pE 6
def aRP:=aA pE 7
def aRQ:=aA pE 8
def aRR:=aA pE 9
def aCL:aC:=(fP aRM 16 0 aRR (sq aRN (sq aRO (sq aRP (.region aRQ)))))
def aCM:=aA pE 10
def aCN:=aA pE 11
def yn:aC:=(sq aRI (sq aRJ (sq aRK (.seq (cD aRL 0 aCL) (sq aCM (sq aCN .ret))))))
def nup:bB:=⟨2,41,yn,[.tmp 4]⟩
def cS:=bR [] Proofs.Tryz.f176
def Gh:=aA cS 0
def Gi:=aA cS 1
def Gj:=aA cS 2
def Gk:=aA cS 3
def Gl:=aA cS 4
def Gm:=aA cS 5
def Gn:=aA cS 6
def Gp:=aA cS 7
def Gq:=aA cS 8
def Gg:aC:=(.seq (sq Gp (.cond (Tm 50) .skip (.exit 0))) (.block 1 (.region Gq)))
def qz:=cN cS 0
def q9:=aA cS 9
def re:=aA cS 10
def rg:=cN cS 1
def rh:=aA cS 11
def ri:=aA cS 12
def PA:=cN cS 2
def PB:=cN cS 3
def rj:=aA cS 13
def PC:=aA cS 14
def PD:=aA cS 15
def PE:=aA cS 16
def DW:aC:=(.seq (sq rj (.cond (Tm 129) .skip (.exit 4))) (.block 5 (sq PC (sq PD (sq PE (.cond (Tm 136) (.exit 4) .skip))))))
def PG:=aA cS 17
def PI:=aA cS 18
def PJ:=aA cS 19
def DX:=aA cS 20
def rk:=aA cS 21
def OY:aC:=(cT ri 85 2 rk (dq PA (dq PB (.seq (.block 4 (.loop DW)) (hL PG 146 (sq PI (.region PJ)) (.region DX))))))
def PK:=aA cS 22
def PL:=aA cS 23
def rp:=aA cS 24
def rt:=aA cS 25
def ru:=cN cS 4
def rx:=aA cS 26
def OZ:aC:=(fP rp 168 6 rx (sq rt (.draw ru)))
def ry:=cN cS 5
def KL:aC:=(sq Gh (dA Gi 24 Gj (hL Gk 29 (sq Gl (sq Gm .ret)) (sq Gn (.seq (.block 0 (.loop Gg)) (dq qz (sq q9 (sq re (dq rg (.seq (cD rh 2 OY) (sq PK (.seq (cD PL 6 OZ) (dq ry .ret)))))))))))))
def No:bB:=⟨2,198,KL,[.tmp 4,.tmp 5]⟩
def fT:=bR [] Proofs.Tryz.f185
def gp:=aA fT 0
def gr:=aA fT 1
def gt:=aA fT 2
def gv:=aA fT 3
def gw:=aA fT 4
def gx:=aA fT 5
def gy:=aA fT 6
def gz:=aA fT 7
def ia:=aA fT 8
def ib:=aA fT 9
def bo:=aA fT 10
def bn:aC:=(fP gv 16 0 bo (sq gw (sq gx (sq gy (sq gz (sq ia (.region ib)))))))
def br:=aA fT 11
def bs:=aA fT 12
def bu:=aA fT 13
def CV:aC:=(sq gp (sq gr (.seq (cD gt 0 bn) (sq br (sq bs (sq bu .ret))))))
def gn:bB:=⟨3,65,CV,[.tmp 6]⟩
def mB:=bR [] Proofs.Tryz.f186
def r9:=aA mB 0
def sa:=aA mB 1
def sb:=aA mB 2
def sd:=aA mB 3
def se:=aA mB 4
def sf:=aA mB 5
def sg:=aA mB 6
def sj:=aA mB 7
def r8:aC:=(fP sb 10 0 sj (sq sd (sq se (sq sf (.region sg)))))
def sk:=aA mB 8
def FN:aC:=(sq r9 (.seq (cD sa 0 r8) (.region sk)))
def yh:bB:=⟨2,41,FN,[]⟩
open Go Go.RowKit Go.ChangeShapes Go.WideShapes
inductive AT where
 |one (ct:CT)
 |struct (cts:List CT)
 deriving Inhabited
def aIC(P:Program)(n:Nat)(t:TypeId):Option AT:=
 match P.underlying t with
 |some .bool=>some (.one .bool)
 |some (.int k)=>some (.one (.int k))
 |some .string=>some (.one .str)
 |some (.slice _)=>match lL P n t with
  |some [ct]=>some (.one ct)
  |_=>none
 |some (.struct _)=>(lL P n t).map .struct
 |_=>none
def RM(P:Program)(n:Nat):List TypeId->Option (List AT)
 |[]=>some []
 |t::ts=>match aIC P n t,RM P n ts with
  |some a,some d=>some (a::d)
  |_,_=>none
inductive AT.Ty:AT->PV->Prop
 |one {ct:CT} {pv:PV} (h:PV.Ty ct pv):AT.Ty (.one ct) pv
 |struct {cts:List CT} {pvs:List PV} (hl:Z' pvs=Z' cts) (h:∀(j:Nat) pv ct,pvs[j]?=some pv->cts[j]?=some ct->PV.Ty ct pv):AT.Ty (.struct cts) (.agg pvs)
def AT.TyL:List AT->List PV->Prop
 |[],[]=>True
 |a::d,p::ps=>AT.Ty a p/\AT.TyL d ps
 |_,_=>False
section
variable {H:Type} {enc:TypeId × Value->H} {P:Program} {W:World} {sp:Nat->Bool} {held:Bool}
theorem TrodAll.length:∀{ts:List TypeId}{vs:List Value}{ds:List (DataW H)}{ps:List MemPlace},DataW.TrodAll enc P W 0 sp held ts vs ds ps->Z' ds=Z' ts
 |[],[],[],_,_=>rfl
 |[],[],_::_,_,h=>h.elim
 |[],_::_,_,_,h=>h.elim
 |_::_,[],[],_,h=>h.elim
 |_::_,[],_::_,_,h=>h.elim
 |_::_,_::_,[],_,h=>h.elim
 |t::ts,v::vs,d::ds,ps,h=>by obtain⟨p,q,i,e,rfl⟩:=h;simp[TrodAll.length e]
end
attribute [go_sem] rN jC setCells PV.cells PV.one cL storeAt cZ loadCells eD bnd PV.slice PV.intOf PV.eqs PV.eq1 PV.un keyOf KS.of KS.ofs KS.sh bnY List.all_nil boF List.set_cons_succ bkR bmO bkP blR bkS bmV
attribute [go_sem] Bool.bne_false Bool.bne_true Int.le_refl Int.lt_irrefl decide_true decide_false exists_eq_left exists_eq_left' bkG List.length_replicate bmI Int.natCast_nonneg Option.isSome_some Option.isSome_none bnG Option.getD_none dT_ decide_eq_false_iff_not blG bmS bkN Nat.sub_zero
def bF(xs:List Int):List (List PV):=xs.map λn=>[.int .i64 n]
theorem bL{a b:Int}(h:a≠b):(a==b)=false:=by simp[h]
theorem bW{a b:Int}(h:a=b):(a==b)=true:=by simp[h]
theorem dP{a b:Int}(h:a≠b):(a != b)=true:=by simp[h]
theorem cF{a b:Int}(h:a=b):(a != b)=false:=by simp[h]
section
variable {H:PH}
@[go_sem] theorem PH.set_set(o:Nat)(x y:bA):(H.set o x).set o y=H.set o y:=PH.ext λq=>by
 simp only[bD];split<;>rfl
@[go_sem] theorem cW(o:Nat)(x:bA):(H.set o x) o=some x:=by simp only[bD,if_true]
end
section
variable {C:Ctx} {K:cH} {F:PF} {H:PH}
theorem PH.qN(o:Nat)(x:bA):H.over .nil (h_.set o x)=H.set o x:=PH.ext λq=>by
 rw[lM];simp only[bD,mi];split<;>simp_all
theorem PH.BA(o:Nat)(x y:bA):H.over (h_.set o x) (h_.set o y)=H.set o y:=PH.ext λq=>by
 rw[lM];simp only[bD,mi];split<;>simp_all
theorem nE{name:Nat}{vs:List PV}{e:PH}{R:PV->PH->Prop}{args:List aS}{d:Option Nat}{K:PF->PH->Prop}(h:aH C name vs e R)(l:aS.evs F args=some vs)(i:e.le H)
  (p:∀r H',R r H'->qQ H e H'->K (F.put d r) (H.over e H')):lC C name args [] d K F H:=
 .inl ⟨vs,e,R,by rw[l];simp,i,h,p⟩
theorem bG{res:List eC}{R:PV->PH->Prop}{vs:List PV}{e:nY}(y:e=.normal\/e=.ret)(d:PH)(h:eC.evs F H res=some vs)(i:d.le H)(x:R (bN vs) d):aX res R e F H:=by
 have l:∃vs,eC.evs F H res=some vs/\∃p w H2,kM (n_.set 0 (bN vs)) H p w/\H2.le w/\∃u,p 0=some u/\R u H2:=
  ⟨vs,h,_,H,d,.refl _ _,i,bN vs,by rw[oZ,aI rfl],x⟩
 rcases y with rfl|rfl<;>exact l
theorem zb{t o s k:Nat}{rs:List (List PV)}{R:PV->PH->Prop}{e:nY}(w:e=.normal\/e=.ret)(h:F t=some (.osl o s 0 k))(x:H o=some (.rows s rs))(y:k<=Z' rs)(p:R (.sl s (rs.take k)) .nil) :
  aX [.tmp t] R e F H:=by
 have d:∃vs,eC.evs F H [.tmp t]=some vs/\∃i l H2,kM (n_.set 0 (bN vs)) H i l/\H2.le l/\∃u,i 0=some u/\R u H2:=by refine⟨[.osl o s 0 k],by rw[pG,sZ,h,uK],_,_,.nil,.step o x (.refl _ _),a_,.sl s (rs.take k),?_,p⟩;have:0+k<=Z' rs:=Om;simp only[PF.frz,oZ,if_true,bN,blJ,PV.frz,PV.tO,PV.eF,true_and,aI this,blY]
 rcases w with rfl|rfl<;>exact d
def cI(v:PV)(r:PV)(H:PH):Prop:=Co r v/\H=h_
theorem aH.baF{name:Nat}{args:List PV}{H:PH}{v:PV}(h:aH C name args H (cI v)):aH C name args H (aF v):=
 h.post λr H' ⟨d,e⟩=>⟨v,d,rfl,e⟩
theorem aF.baF{v r:PV}{H:PH}(h:aF v r H):cI v r H:=by
 obtain⟨rfl,rfl⟩:=h;exact⟨.refl _,rfl⟩
theorem BW{s b:Nat}{y:PV}{src:List (List PV)}{K:PV->PH->Prop}(l:eD H s y=some src)(i:roomFor 0 src.length b)(d:src=[]->K .aK H)
  (e:src≠[]->∀o,H o=none->K (.osl o s 0 src.length) (H.set o (.rows s src))):sF H s b .aK y K:=⟨src,l,i,d,e⟩
theorem asM{o s b len:Nat}{rs:List (List PV)}{y:PV}{src:List (List PV)}{K:PV->PH->Prop}(u:eD H s y=some src)(p:roomFor len src.length b)(l:H o=some (.rows s rs))(i:len<=Z' rs)
  (d:K (.osl o s 0 (len+Z' src)) (H.set o (.rows s (rs.take len++src))))
  (e:∀o',H o'=none->K (.osl o' s 0 (len+Z' src)) (H.set o' (.rows s (rs.take len++src)))):sF H s b (.osl o s 0 len) y K:=
 ⟨src,u,rfl,rfl,p,rs,l,i,d,e⟩
end
def cG(H:PH)(s:Nat)(v:PV)(rows:List (List PV)):Prop:=
 (rows=[]/\v=.aK)\/∃q rs,v=.osl q s 0 rows.length/\H q=some (.rows s rs)/\Z' rows<=Z' rs/\rs.take rows.length=rows
def Seen(s:Nat)(v:PV)(rows:List (List PV)):Prop:=(rows=[]/\v=.aK)\/v=.sl s rows
section
variable {C:Ctx} {K:cH} {F:PF} {H:PH} {s b:Nat} {v y:PV} {rows src:List (List PV)}
theorem cG.nil:cG H s .aK []:=.inl ⟨rfl,rfl⟩
theorem cG.view(h:cG H s v rows):eD H s v=some rows:=by
 rcases h with⟨rfl,rfl⟩|⟨q,rs,rfl,h1,h2,h3⟩
 ·rfl
 ·have:0+Z' rows<=Z' rs:=Om;simp only[eD,if_true,h1,true_and,aI this,blY,h3]
theorem Seen.view(h:Seen s v rows):eD H s v=some rows:=by
 rcases h with⟨rfl,rfl⟩|rfl
 ·rfl
 ·simp[eD]
theorem cG.ext{H':PH}(h:cG H s v rows)(d:∀o x,H o=some x->H' o=some x):cG H' s v rows:=by
 rcases h with h|⟨q,rs,h0,h1,h2,h3⟩
 ·exact .inl h
 ·exact .inr ⟨q,rs,h0,d q _ h1,h2,h3⟩
theorem gZ{K:PV->PH->Prop}(h:cG H s v rows)(B:eD H s y=some src)(A:roomFor rows.length src.length b)
  (w:∀v' H',cG H' s v' (rows++src)->(∀o x,H o=some x->(∀l,v≠.osl o s 0 l)->H' o=some x)->K v' H'):sF H s b v y K:=by
 rcases h with⟨rfl,rfl⟩|⟨q,rs,rfl,h1,h2,h3⟩
 ·refine⟨src,B,A,λe=>?_,λe o u=>?_⟩
  ·subst e;exact w _ _ (.inl ⟨rfl,rfl⟩) λo x u _=>u
  ·refine w _ _ (.inr ⟨o,src,rfl,by simp only[bD,if_true],bkN _,by simp⟩) λo' x d _=>?_;have:o'≠o:=by rintro rfl;rw[u]at d;cases d
   simp only[bD,aD this,d]
 ·have i:(rows++src).length=Z' rows+Z' src:=bkQ;refine⟨src,B,rfl,rfl,A,rs,h1,h2,?_,λo u=>?_⟩
  ·rw[h3];refine w _ _ (.inr ⟨q,rows++src,by rw[i],by simp only[bD,if_true],bkN _,blE⟩) λo' x d p=>?_;have:o'≠q:=by rintro rfl;exact p _ rfl
   simp only[bD,aD this,d]
  ·rw[h3];refine w _ _ (.inr ⟨o,rows++src,by rw[i],by simp only[bD,if_true],bkN _,blE⟩) λo' x d p=>?_;have E:o'≠o:=by rintro rfl;rw[u]at d;cases d
   simp only[bD,aD E,d]
def Pure(u:PV):Prop:=∀q s rs,PV.frz q s rs u=u
theorem cG.frz(h:cG H s v rows):∃e,Seen s e rows/\∀F:PF,∃d l,kM F H d l/\(∀t,F t=some v->d t=some e)/\∀i u,F i=some u->Pure u->d i=some u:=by
 rcases h with⟨rfl,rfl⟩|⟨q,rs,rfl,h1,h2,h3⟩
 ·exact⟨.aK,.inl ⟨rfl,rfl⟩,λF=>⟨F,H,.refl _ _,λt h=>h,λi u h _=>h⟩⟩
 ·refine⟨.sl s rows,.inr rfl,λF=>⟨_,_,.step q h1 (.refl _ _),λt p=>?_,λi u hi hp=>?_⟩⟩
  ·have:0+Z' rows<=Z' rs:=Om;simp only[PF.frz,p,blJ,PV.frz,PV.tO,PV.eF,if_true,true_and,aI this,blY,h3]
  ·simp only[PF.frz,hi,blJ];rw[hp]
theorem wY{t:Nat}{e:nY}(d:e=.normal\/e=.ret)(h:cG H s v rows)(i:F t=some v):aX [.tmp t] (cI (.sl s rows)) e F H:=by
 rcases h with⟨rfl,rfl⟩|⟨q,rs,rfl,h1,h2,h3⟩
 ·exact bG (vs:=[.aK]) d .nil (by rw[pG,sZ,i,uK]) a_ ⟨.nil s,rfl⟩
 ·exact zb d i h1 h2 ⟨by rw[h3];exact .refl _,rfl⟩
end
end Go.PM
namespace Go.PM
open Go
section
variable {C:Ctx} {F:PF} {H:PH}
@[go_sem] theorem xM(o s:Nat)(rs:List (List PV))(i:Nat):(F.frz o s rs) i=(F i).map (PV.frz o s rs):=(rfl)
theorem xC{name t o s k:Nat}{rs:List (List PV)}{v:PV}{d:Option Nat}{K:PF->PH->Prop}(h:aH C name [.sl s (rs.take k)] .nil (aF v))(l:F t=some (.osl o s 0 k))(i:H o=some (.rows s rs))(p:k<=Z' rs)
  (e:K ((F.frz o s rs).put d v) (H.frz o s rs)):lC C name [.tmp t] [] d K F H:=by
 refine .inr ⟨_,_,.step o i (.refl _ _),[.sl s (rs.take k)],.nil,aF v,?_,a_,h,?_⟩
 ·have:0+k<=Z' rs:=Om;simp only[JU,ma,Dr,xM,l,blJ,PV.frz,PV.tO,PV.eF,if_true,true_and,aI this,blY,bmJ]
 ·rintro r H' ⟨rfl,rfl⟩ -;rw[PH.KN];exact e
end
end Go.PM
namespace Go.Na
def val:List Nat->Nat
 |[]=>0
 |x::xs=>x+4294967296*val xs
def Lim(xs:List Nat):Prop:=∀x∈xs,x<4294967296
def aM(n:Nat):List Nat:=if h:n=0 then[]else(n%4294967296)::aM (n/4294967296)
termination_by n
decreasing_by exact Nat.div_lt_self (bnE h) aU
def nl(n:Nat):Nat:=(aM n).length
theorem fJ:aM 0=[]:=by rw[aM];simp
theorem zF{n:Nat}(h:n≠0):aM n=(n%4294967296)::aM (n/4294967296):=by rw[aM];simp[h]
theorem uI{n:Nat}(h:n≠0)(hb:n<4294967296):aM n=[n]:=by
 rw[zF h,bmC hb,boH hb,fJ]
theorem aW(n:Nat):val (aM n)=n:=by
 induction n using Nat.strongRecOn with
 |_ n d=>
  by_cases h:n=0
  ·subst h;rw[fJ];rfl
  ·rw[zF h,val,d _ (Nat.div_lt_self (bnE h) aU)];exact Nat.mod_add_div n 4294967296
theorem aY(n:Nat):Lim (aM n):=by
 induction n using Nat.strongRecOn with
 |_ n d=>
  by_cases h:n=0
  ·subst h;rw[fJ];intro x hx;cases hx
  ·rw[zF h];intro x hx;rw[bkX]at hx;rcases hx with rfl|hx
   ·exact bmG _ aU
   ·exact d _ (Nat.div_lt_self (bnE h) aU) x hx
theorem IT:nl 0=0:=by rw[nl,fJ];rfl
theorem aRC{n:Nat}(h:n≠0):nl n=nl (n/4294967296)+1:=by rw[nl,zF h];rfl
theorem mQ(n k:Nat):nl n<=k↔n<4294967296^k:=by
 induction k generalizing n with
 |zero=>
  by_cases h:n=0
  ·subst h;simp[IT]
  ·rw[aRC h];simp;omega
 |succ k d=>
  by_cases h:n=0
  ·subst h;simp[IT,bnK]
  ·rw[aRC h,Nat.succ_le_succ_iff,d,bmM,bnU aU]
theorem kV{n:Nat}:nl n=0↔n=0:=by
 have:=mQ n 0;simp at this;exact this
theorem kI(xs ys:List Nat):val (xs++ys)=val xs+4294967296^xs.length*val ys:=by
 induction xs with
 |nil=>simp[val]
 |cons x xs d =>simp only[List.cons_append,val,bmB,d,bmM];rw[blA,bnC,<-blL,blP 4294967296 (4294967296^xs.length)]
theorem iW{xs:List Nat}(h:Lim xs):val xs<4294967296^xs.length:=by
 induction xs with
 |nil=>simp[val]
 |cons x xs i =>have l:=h x bH;have d:=i λy e=>h y (by simp[e]);simp only[val,bmB,bmM];have:4294967296*(val xs+1)<=4294967296*4294967296^xs.length:=bnD _ d;rw[blA,Nat.mul_one]at this;rw[blP (4294967296^xs.length)];omega
theorem Lim.app{xs ys:List Nat}(h:Lim xs)(k:Lim ys):Lim (xs++ys):=λx d=>by
 rw[blV]at d;exact d.elim (h x) (k x)
theorem Lim.take{xs:List Nat}(h:Lim xs)(n:Nat):Lim (xs.take n):=λx d=>h x (boC d)
theorem Lim.drop{xs:List Nat}(h:Lim xs)(n:Nat):Lim (xs.drop n):=λx d=>h x (List.mem_of_mem_drop d)
theorem Lim.set{xs:List Nat}(h:Lim xs)(i:Nat){v:Nat}(d:v<4294967296):Lim (xs.set i v):=λx e=>by
 rcases boN e with h1|h1
 ·exact h x h1
 ·subst h1;exact d
theorem ET(n:Nat):Lim (bkM n 0):=λx d=>by
 rw[List.mem_replicate]at d;rw[d.2];decide
theorem zT(n:Nat):val (bkM n 0)=0:=by
 induction n with
 |zero=>rfl
 |succ n d=>simp[List.replicate_succ,val,d]
theorem aQQ{xs:List Nat}(h:Lim xs)(u:∀x,xs.getLast?=some x->x≠0):aM (val xs)=xs:=by
 induction xs with
 |nil=>simp[val,fJ]
 |cons x xs F=>
  have l:=h x bH;have p:Lim xs:=λy B=>h y (by simp[B]);cases xs with
  |nil =>have:=u x bH;simp only[val,Nat.mul_zero,bmS];exact uI this l
  |cons y ys=>
   have d:=F p λz E=>u z (by rw[List.getLast?_cons_cons];exact E);have A:val (y::ys)≠0:=λe=>by rw[e,fJ]at d;cases d
   have i:x+4294967296*val (y::ys)≠0:=by have:0<4294967296*val (y::ys):=Nat.mul_pos aU (bnE A);omega
   show aM (x+4294967296*val (y::ys))=_;rw[zF i];have w:(x+4294967296*val (y::ys))%4294967296=x:=by rw[Nat.add_mul_mod_self_left,bmC l]
   have e2:(x+4294967296*val (y::ys))/4294967296=val (y::ys):=by rw[Nat.add_mul_div_left _ _ aU,boH l,blG]
   rw[w,e2,d]
theorem arJ{xs:List Nat}{n:Nat}(h:∀j x,n<=j->xs[j]?=some x->x=0):val (xs.take n)=val xs:=by
 have e:xs.drop n=bkM (xs.drop n).length 0:=by apply bnM bH;intro i d l;rw[List.getElem_replicate,List.getElem_drop];exact h (n+i) _ Om (bkT _)
 conv=>rhs;rw[<-bnP n xs,kI,e,zT]
 simp
theorem YM{xs:List Nat}(p:Lim xs){n:Nat}(l:n<=Z' xs)(h:∀j x,n<=j->xs[j]?=some x->x=0)(i:∀x,0<n->xs[n-1]?=some x->x≠0):xs.take n=aM (val xs):=by
 rw[<-arJ h,aQQ (p.take n)];intro x d;rw[List.getLast?_eq_getElem?,bkY,bnA l]at d;rcases bmZ n with e|e
 ·subst e;simp at d
 ·rw[List.getElem?_take_of_lt Om]at d;exact i x e d
theorem aDS{xs:List Nat}(i:Lim xs){n:Nat}(e:n<=Z' xs)(h:∀j x,n<=j->xs[j]?=some x->x=0)(d:∀x,0<n->xs[n-1]?=some x->x≠0):nl (val xs)=n:=by
 rw[nl,<-YM i e h d,bkY];omega
theorem jF{xs:List Nat}(h:Lim xs):nl (val xs)<=Z' xs:=(mQ _ _).2 (iW h)
theorem pI {xs : List Nat} (h : Lim xs) : xs.take (nl (val xs)) = aM (val xs) := by
  have hl := jF h;have e : val (xs.take (nl (val xs)) ++ xs.drop (nl (val xs))) = val xs := by rw [bnP]
  rw [kI, bkY, bnA hl] at e;have h1 := iW (h.take (nl (val xs)));rw [bkY, bnA hl] at h1;have h2 := (mQ (val xs) (nl (val xs))).1 (bkN _);have hd : val (xs.drop (nl (val xs))) = 0 := by
    rcases bmZ (val (xs.drop (nl (val xs)))) with h | h
    · exact h
    · have := bnD (4294967296 ^ nl (val xs)) h
      omega
  have hz : ∀ j x, nl (val xs) <= j -> xs[j]? = some x -> x = 0 := by
    have zero : ∀ ys : List Nat, val ys = 0 -> ∀ y ∈ ys, y = 0 := by
      intro ys
      induction ys with
      | nil => intro _ y hy; cases hy
      | cons z zs ih =>
        intro hv y hy;simp only [val] at hv;rw [bkX] at hy;rcases hy with rfl | hy
        · omega
        · exact ih (by have : 4294967296 * val zs = 0 := Om
                       rcases Nat.mul_eq_zero.1 this with h | h
                       · cases h
                       · exact h) y hy
    intro j x hj hx;refine zero _ hd x ?_;rw [List.mem_iff_getElem?];exact ⟨j - nl (val xs), by rw [boL, Nat.add_sub_cancel' hj]; exact hx⟩
  refine YM h hl hz fun x hpos hx e => ?_;subst e;have hz2 : ∀ j x, nl (val xs) - 1 <= j -> xs[j]? = some x -> x = 0 := fun j y hj hy => by
    rcases blI j (nl (val xs)) with h3 | h3
    · have : j = nl (val xs) - 1 := Om
      subst this; rw [hx] at hy; cases hy; rfl
    · exact hz j y h3 hy
  have h3 := arJ hz2;have h4 := iW (h.take (nl (val xs) - 1));rw [h3, bkY, bnA Om] at h4;have := (mQ (val xs) (nl (val xs) - 1)).2 h4;omega
theorem apC{xs:List Nat}(h:Lim xs){n:Nat}(p:nl (val xs)=n+1):∃x,xs[n]?=some x/\x≠0:=by
 have u:=jF h;refine⟨xs[n]'Om,bkT _,λe=>?_⟩;have l:=pI h;have d:=aW (val xs);rw[<-l,p,blO Om,e,kI]at d;simp only[val,Nat.mul_zero,bmS]at d;have i:=iW (h.take n);rw[d,bkY,bnA Om]at i;have:=(mQ (val xs) n).2 i;omega
theorem zP(xs:List Nat){k:Nat}(h:k<Z' xs):val xs=val (xs.take k)+4294967296^k*(xs[k]+4294967296*val (xs.drop (k+1))):=by
 conv=>lhs;rw[<-bnP k xs,kI,bkY,bnA Om,bmP h]
 rfl
theorem Bq{xs ys:List Nat}(u:Lim xs){k:Nat}(d:k<Z' xs)(e:k<Z' ys)(p:xs.drop (k+1)=ys.drop (k+1))(h:xs[k]<ys[k]):val xs<val ys:=by
 rw[zP xs d,zP ys e,p];have i:=iW (u.take k);rw[bkY,bnA Om]at i;have l:4294967296^k*(xs[k]+4294967296*val (ys.drop (k+1))+1)<=4294967296^k*(ys[k]+4294967296*val (ys.drop (k+1))):=bnD _ Om;rw[blA _ _ 1,Nat.mul_one]at l;omega
def eR(a b:Nat):Int:=if a<b then -1 else if b<a then 1 else 0
theorem Rk{xs ys:List Nat}{k:Nat}(d:k<Z' xs)(e:k<Z' ys)(i:xs.drop (k+1)=ys.drop (k+1))(h:xs[k]=ys[k]):xs.drop k=ys.drop k:=by
 rw[bmP d,bmP e,i,h]
theorem jO{a b:Nat}(h:a<=b):nl a<=nl b:=(mQ a _).2 (Nat.lt_of_le_of_lt h ((mQ b _).1 (bkN _)))
theorem aaI{xs:List Nat}(h:Lim xs){j:Nat}(d:j<nl (val xs)):∃(i:j<Z' xs)(l:j<(aM (val xs)).length),xs[j]=(aM (val xs))[j]:=by
 have p:=jF h;refine⟨by omega,d,?_⟩;have e:=pI h;have:(xs.take (nl (val xs)))[j]?=(aM (val xs))[j]?:=by rw[e]
 rw[List.getElem?_take_of_lt d,bkT Om,bkT d]at this;exact bmH.inj this
def dC(n:Nat):Nat:=if h:n=0 then 0 else dC (n/2)+1
termination_by n
decreasing_by exact Nat.div_lt_self (bnE h) aU
theorem nL:dC 0=0:=by rw[dC];simp
theorem vG{n:Nat}(h:n≠0):dC n=dC (n/2)+1:=by rw[dC];simp[h]
theorem rC(n k:Nat):dC n<=k↔n<2^k:=by
 induction k generalizing n with
 |zero=>
  by_cases h:n=0
  ·subst h;simp[nL]
  ·rw[vG h];simp;omega
 |succ k d=>
  by_cases h:n=0
  ·subst h;simp[nL,bnK]
  ·rw[vG h,Nat.succ_le_succ_iff,d,bmM,bnU aU]
theorem oN{n:Nat}:dC n=0↔n=0:=by
 have:=rC n 0;simp at this;exact this
theorem aaK{hi lo k:Nat}(l:lo<2^k)(e:hi≠0):dC (lo+2^k*hi)=k+dC hi:=by
 apply Nat.le_antisymm
 ·rw[rC,Nat.pow_add];have d:=(rC hi _).1 (bkN _);have:2^k*(hi+1)<=2^k*2^dC hi:=bnD _ d;rw[blA,Nat.mul_one]at this;omega
 ·obtain⟨b,hb⟩:∃b,dC hi=b+1:=⟨dC hi-1,by have:=mt oN.1 e;omega⟩;rw[hb];rcases blI (dC (lo+2^k*hi)) (k+(b+1))with h|h
  ·have d:=(rC (lo+2^k*hi) (k+b)).1 Om;rw[Nat.pow_add]at d;have i:¬hi<2^b:=λh=>by have:=(rC hi b).2 h;omega
   have:2^k*2^b<=2^k*hi:=bnD _ Om;omega
  ·exact h
theorem kJ(n k:Nat):dC n<=32*k↔nl n<=k:=by
 rw[rC,mQ,Nat.pow_mul]
end Go.Na
namespace Go.PM
theorem Lq{F d:PF}(h:F.le d:=by(repeat' (first|exact c_|refine d_ ?_ ?_))<;>first|(simp only[go_sem]<;>rfl)|rfl|assumption):F.le d:=h
end Go.PM
namespace Go.PM
open Go Go.Na
abbrev aO(xs:List Nat):List (List PV):=xs.map λ(n:Nat)=>[PV.int .u32 (n:Int)]
abbrev aN(xs:List Nat):PV:=.sl 1 (xs.map λ(n:Nat)=>[PV.int .u32 (n:Int)])
theorem cX(xs:List Nat):(aO xs).length=Z' xs:=by simp
theorem cK(xs:List Nat){i:Nat}(h:i<Z' xs):(aO xs)[i]?=some [.int .u32 (xs[i]:Nat)]:=by simp[h]
theorem Ta(xs:List Nat)(k:Nat):aN (xs.take k)=.sl 1 ((xs.map λ(n:Nat)=>[PV.int .u32 (n:Int)]).take k):=by rw[aN,bnO]
theorem dN(n:Nat):IntKind.u32.wrap (n:Int)=((n%4294967296:Nat):Int):=by
 have e:IntKind.u32.wrap (n:Int)=(n:Int)%4294967296:=by simp[IntKind.wrap,IntKind.bits,IntKind.signed]
 rw[e];rfl
theorem FF{k:Nat}(h:k<=9223372036854775807)(d:0<k):i_.wrap ((k:Int)-1)=((k-1:Nat):Int):=by
 rw[wrap_i64 Om Om];omega
def aLR(xs:List Nat)(n:Nat):PF:=((n_.set 0 (aN xs)).set 3 (.int .i64 n))
variable{C:Ctx}
theorem aLT(xs:List Nat)(w:Lim xs)(A:Z' xs<=35184372087808):vN.wp C (aX SF.res (aF (.int .i64 (nl (val xs):Nat)))) (g_ [aN xs]) .nil:=by
 simp only[go_sem,vN,WN,WO,SF];refine wp_loop (α:=Nat) (aLR xs) (λ_=>.nil) (λn=>n<=Z' xs/\∀j x,n<=j->xs[j]?=some x->x=0) (λn=>n) xs.length ⟨bkN _,λj x h e=>by rw[bmA h]at e;cases e⟩ ?_ a_ ?_
 ·unfold aLR;exact Lq
 rintro n ⟨u,p⟩;have out:(∀x,0<n->xs[n-1]?=some x->x≠0)->nl (val xs)=n:=λh=>aDS w u p h;simp only[go_sem,WM,WP,aLR];by_cases l:(n:Int)>0
 ·have hp:0<n:=Om;have hi:=cK xs (Om:n-1<Z' xs);simp only[go_sem,l,FF (Om:n<=9223372036854775807) hp,hi];by_cases i:xs[n-1]=0
  ·simp only[go_sem,bW (Om:((xs[n-1]:Nat):Int)=0),WQ,FF (Om:n<=9223372036854775807) hp];refine aG (n-1) ⟨by omega,λj x y d=>?_⟩ Om ?_ a_
   ·rcases blI j n with h|h
    ·have:j=n-1:=Om;subst this;rw[bkT Om]at d;cases d;exact i
    ·exact p j x h d
   ·exact Lq
  ·simp only[go_sem,bL (Om:((xs[n-1]:Nat):Int)≠0),AX];refine aT (.inr rfl) rfl ?_;rw[out λx _ d=>by rw[bkT Om]at d;cases d;exact i];rfl
 ·simp only[go_sem,l,AX];refine aT (.inr rfl) rfl ?_;rw[out λx h=>by omega];rfl
theorem aRD(xs:List Nat)(d:aH C 138 [aN xs] .nil (aF (.int .i64 (nl (val xs):Nat)))):PN.wp C (aX akS.res (aF (.bool (decide (nl (val xs)>512))))) (g_ [aN xs]) .nil:=by
 simp only[go_sem,PN,Td,Te,akS];refine aB d rfl ?_;simp only[go_sem];refine aT (.inr rfl) rfl ?_;simp only[bN,PV.bool.injEq,decide_eq_decide];omega
def szL(n:Nat):List Nat:=if nl n>512 then[]else aM n
def szE(n:Nat):Int:=if nl n>512 then 2 else 0
def szV(n:Nat):PV:=.tup [aN (szL n),.int .i64 (szE n)]
theorem aRG(xs:List Nat)(l:Lim xs)(d:aH C 138 [aN xs] .nil (aF (.int .i64 (nl (val xs):Nat)))):PP.wp C (aX alF.res (cI (szV (val xs)))) (g_ [aN xs]) .nil:=by
 simp only[go_sem,PP,Ts,Tt,alF];refine aB d rfl ?_;simp only[go_sem,Tu];by_cases h:nl (val xs)>512
 ·have i:((nl (val xs):Nat):Int)>512:=Om;simp only[go_sem,i,Tv];refine bG (vs:=[.aK,.int .i64 2]) (.inr rfl) .nil rfl a_ ⟨?_,rfl⟩;rw[szV,szL,szE,aI h,aI h];refine .tup rfl λj p q hp e=>?_
  match j with
  |0=>simp at hp e;subst hp;subst e;exact .nil 1
  |1=>simp at hp e;subst hp;subst e;exact .refl _
  |j+2=>simp at hp
 ·have i:¬((nl (val xs):Nat):Int)>512:=Om;have w:=jF l;have u:((nl (val xs):Nat):Int)<=(Z' xs:Nat):=Om;simp only[go_sem,i,Tw,u,or_true,blY];refine bG (.inr rfl) .nil rfl a_ ⟨?_,rfl⟩;rw[szV,szL,szE,aD h,aD h,<-pI l,Ta];exact .refl _
theorem aZF(v:Nat)(F:v<18446744073709551616)(e:∀xs,Lim xs->Z' xs<=35184372087808->aH C 138 [aN xs] .nil (aF (.int .i64 (nl (val xs):Nat)))) :
  WR.wp C (aX aLU.res (aF (aN (aM v)))) (g_ [.int .u64 v]) .nil:=by
 have y:IntKind.u32.wrap ((v:Nat):Int)=((v%4294967296:Nat):Int):=dN v;have e2:Int.fdiv ((v:Nat):Int) 4294967296=((v/4294967296:Nat):Int):=by rw[Int.fdiv_eq_ediv_of_nonneg _ aU];rfl
 have p:v/4294967296<4294967296:=Om;have A:IntKind.u32.wrap ((v/4294967296:Nat):Int)=((v/4294967296:Nat):Int):=by rw[dN,bmC p]
 have i:Lim [v%4294967296,v/4294967296]:=by
  intro x w;simp only[bkX,List.mem_nil_iff,or_false]at w;rcases w with rfl|rfl
  ·exact bmG _ aU
  ·exact p
 have d:val [v%4294967296,v/4294967296]=v:=by simp only[val,Nat.mul_zero,bmS];exact Nat.mod_add_div v 4294967296
 have E:∀a b:Int,PV.bin .shr (.int .u64 a) (.int .u64 b)=shift .shr .u64 a b:=λ_ _=>rfl;have l:shift .shr .u64 (v:Int) 32=some (.int .u64 ((v/4294967296:Nat):Int)):=by
  unfold shift;rw[aD aU];simp only;have:min (blS 32) IntKind.u64.bits=32:=by decide
  rw[this];rw[show(2:Int)^32=4294967296 by decide,e2]
 simp only[go_sem,WR,akT,akU,aLU,y,l,A];have hb:(2:Nat)*1<=16777216:=by decide
 simp only[go_sem,akV];refine aB (e [v%4294967296,v/4294967296] i bH) rfl ?_;have u:=jF i;rw[d]at u ⊢;have B:((nl v:Nat):Int)<=((2:Nat):Int):=by simp at u;omega
 simp only[go_sem,B,or_true,blY];refine aT (.inr rfl) rfl ?_;have:=pI i;rw[d]at this;rw[<-this,Ta];rfl
theorem aZJ(xs:List Nat)(e:Lim xs)(p:Z' xs<=35184372087808)(d:aH C 138 [aN xs] .nil (aF (.int .i64 (nl (val xs):Nat)))) :
  WT.wp C (aX aLW.res (cI (aN (aM (val xs))))) (g_ [aN xs]) .nil:=by
 simp only[go_sem,WT,alM,alN,aLW];refine aB d rfl ?_;have u:=jF e;have i:((nl (val xs):Nat):Int)<=(Z' xs:Nat):=Om;simp only[go_sem,i,or_true,blY];refine gZ (rows:=[]) (src:=aO (aM (val xs))) .nil ?_ ?_ λv H' l _=>?_
 ·simp only[go_sem];rw[<-pI e,<-bnO]
 ·unfold roomFor;rw[cX];have:(aM (val xs)).length=nl (val xs):=rfl;simp only[bnB,maxLen];omega
 ·exact wY (.inr rfl) (by simpa using l) rfl
end Go.PM
theorem Sq{p:Prop}(h:p:=by simp only[go_sem]):p:=h
theorem Ev{p:Prop}(h:p:=by simp only[go_sem]<;>rfl):p:=h
namespace Go.PM
open Go Go.Na
def aLM(xs ys:List Nat)(i:Int):PF:=(((n_.set 0 (aN xs)).set 1 (aN ys)).set 7 (.int .i64 i))
variable{C:Ctx}
theorem a5X(xs ys:List Nat)(H:Lim xs)(J:Lim ys)(lx:Z' xs<=35184372087808)(ly:Z' ys<=35184372087808)(w:aH C 138 [aN xs] .nil (aF (.int .i64 (nl (val xs):Nat))))(x:aH C 138 [aN ys] .nil (aF (.int .i64 (nl (val ys):Nat)))) :
  gd.wp C (aX aZC.res (aF (.int .i64 (eR (val xs) (val ys))))) (g_ [aN xs,aN ys]) .nil:=by
 simp only[go_sem,gd,aBD,aBE,aZC];refine aB w Ev ?_;simp only[go_sem];refine aB x Ev ?_;simp only[go_sem,aBF];have V:=jF H;have Q:=jF J;by_cases W:nl (val xs)<nl (val ys)
 ·have d:((nl (val xs):Nat):Int)<(nl (val ys):Nat):=Om;simp only[go_sem,d,aBG];refine aT (.inr rfl) Ev ?_;have:val xs<val ys:=by
   rcases blI (val xs) (val ys)with h|h
   ·exact h
   ·have:=jO h;omega
  simp[bN,eR,this]
 have d:¬((nl (val xs):Nat):Int)<(nl (val ys):Nat):=Om;simp only[go_sem,d,aBH];by_cases X:nl (val xs)>nl (val ys)
 ·have e:((nl (val xs):Nat):Int)>(nl (val ys):Nat):=Om;simp only[go_sem,e,aBI];refine aT (.inr rfl) Ev ?_;have:val ys<val xs:=by
   rcases blI (val ys) (val xs)with h|h
   ·exact h
   ·have:=jO h;omega
  have p:¬val xs<val ys:=Om;simp[bN,eR,this,p]
 have e:¬((nl (val xs):Nat):Int)>(nl (val ys):Nat):=Om;have U:nl (val xs)=nl (val ys):=Om;simp only[go_sem,e,aBJ];have ex:=aW (val xs);have l:=aW (val ys);have N:=aY (val xs);have O:=aY (val ys);refine wp_loop (α:=Nat) (λk=>aLM xs ys ((k:Int)-1)) (λ_=>.nil) (λk=>k<=nl (val xs)/\(aM (val xs)).drop k=(aM (val ys)).drop k) (λk=>k) (nl (val xs)) ⟨bkN _,?_⟩ ?_ a_ ?_
 ·rw[boK (by rw[nl];exact bkN _),boK (by rw[U,nl];exact bkN _)]
 ·unfold aLM
  (repeat' (first|exact c_|refine d_ ?_ ?_))<;>first|(simp only[go_sem,wrap_i64 (show -9223372036854775808<=((nl (val xs):Nat):Int)-1 by omega) (show((nl (val xs):Nat):Int)-1<=9223372036854775807 by omega)]<;>rfl)|rfl
 rintro k ⟨Z,i⟩;simp only[go_sem,akI,aBK,aLM];by_cases Y:0<k
 ·obtain⟨m,rfl⟩:∃m,k=m+1:=⟨k-1,by omega⟩;have y:((m+1:Nat):Int)-1=(m:Int):=Om;have u:(m:Int)>=0:=Om;obtain⟨K,A,B⟩:=aaI H (Om:m<nl (val xs));obtain⟨M,E,F⟩:=aaI J (Om:m<nl (val ys));simp only[go_sem,y,u];refine bP .nil eJ a_ ?_;simp only[go_sem,aBL,cK xs K,cK ys M];by_cases R:xs[m]<ys[m]
  ·simp only[go_sem,show((xs[m]:Nat):Int)<(ys[m]:Nat) by omega,aBM];refine aT (.inr rfl) Ev ?_;have:=Bq N A E i (by rw[<-B,<-F];exact R);rw[ex,l]at this;simp[bN,eR,this]
  ·simp only[go_sem,show ¬((xs[m]:Nat):Int)<(ys[m]:Nat) by omega];refine bP .nil eJ a_ ?_;simp only[go_sem,akJ,cK xs K,cK ys M];by_cases S:xs[m]>ys[m]
   ·simp only[go_sem,show((xs[m]:Nat):Int)>(ys[m]:Nat) by omega,akK];refine aT (.inr rfl) Ev ?_;have:=Bq O E A i.symm (by rw[<-B,<-F];exact S);rw[ex,l]at this;have p:¬val xs<val ys:=Om;simp[bN,eR,this,p]
   ·simp only[go_sem,show ¬((xs[m]:Nat):Int)>(ys[m]:Nat) by omega,akL];refine aG m ⟨by omega,Rk A E i (by rw[<-B,<-F];omega)⟩ Om ?_ a_
    (repeat' (first|exact c_|refine d_ ?_ ?_))<;>first|(simp only[go_sem,wrap_i64 (Om:-9223372036854775808<=(m:Int)-1) (Om:(m:Int)-1<=9223372036854775807)]<;>rfl)|rfl
 ·have:k=0:=Om;subst this;have y:¬((0:Nat):Int)-1>=0:=by decide
  simp only[go_sem,y,akM];refine aT (.inr rfl) Ev ?_;rw[blY,blY]at i;have:val xs=val ys:=by rw[<-ex,<-l,i]
  simp[bN,eR,this]
def ajX(k:Nat)(v:Nat):PF:=((n_.set 4 (.int .i64 k)).set 5 (.int .u32 v))
theorem aZB(xs:List Nat)(x:Lim xs)(S:Z' xs<=35184372087808)(y:aH C 138 [aN xs] .nil (aF (.int .i64 (nl (val xs):Nat)))) :
  WJ.wp C (aX aLL.res (aF (.int .i64 (dC (val xs):Nat)))) (g_ [aN xs]) .nil:=by
 simp only[go_sem,WJ,ajZ,akA,aLL];refine aB y Ev ?_;simp only[go_sem,akB];have R:=jF x;by_cases M:nl (val xs)=0
 ·simp only[go_sem,bW (show((nl (val xs):Nat):Int)=0 by omega),akC];refine aT (.inr rfl) Ev ?_;have:val xs=0:=kV.1 M;simp[bN,this,nL]
 obtain⟨n,K⟩:∃n,nl (val xs)=n+1:=⟨nl (val xs)-1,by omega⟩;obtain⟨t,u,A⟩:=apC x K;have w:t<4294967296:=x t (bmK u);have d:n<Z' xs:=Om;have Q:val xs=val (xs.take n)+4294967296^n*t:=by
  have e:=pI x;have:=aW (val xs);have O:xs[n]=t:=by rw[bkT d]at u;exact bmH.inj u
  rw[<-e,K,blO d,O,kI,bkY,bnA Om]at this;simp only[val,Nat.mul_zero,bmS]at this;exact this.symm
 have hb:dC (val xs)=32*n+dC t:=by
  have F:=iW (x.take n);rw[bkY,bnA Om]at F;rw[Q,show(4294967296:Nat)^n=2^(32*n) by rw[Nat.pow_mul]]at *
  exact aaK F A
 have i:(aO xs)[n]?=some [.int .u32 (t:Nat)]:=by rw[cK xs d];rw[bkT d]at u;rw[bmH.inj u]
 have N:i_.wrap (((nl (val xs):Nat):Int)-1)=(n:Int):=by rw[wrap_i64 Om Om];omega
 have e2:i_.wrap ((n:Int)*32)=((32*n:Nat):Int):=by rw[wrap_i64 Om Om];omega
 simp only[go_sem,bL (show((nl (val xs):Nat):Int)≠0 by omega),akD,akE,N,e2,i];refine wp_loop (α:=Nat × Nat) (λa=>ajX a.1 a.2) (λ_=>.nil) (λa=>a.1+dC a.2=32*n+dC t/\a.2<4294967296) (λa=>a.2) (32*n,t) ⟨rfl,w⟩ ?_ a_ ?_
 ·unfold ajX;exact Lq
 rintro⟨k,v⟩ ⟨H,hlt⟩;simp only at H hlt;have J:dC t<=32:=(rC t 32).2 w;simp only[go_sem,ajY,akF,ajX];by_cases E:(v:Int)>0
 ·have B:v≠0:=Om;have l:PV.bin .shr (.int .u32 (v:Int)) (.int .u64 1)=some (.int .u32 ((v/2:Nat):Int)):=by
   show shift .shr .u32 (v:Int) 1=_;unfold shift;rw[aD aU];simp only;have:min (blS 1) IntKind.u32.bits=1:=by decide
   rw[this,show(2:Int)^1=2 by decide,Int.fdiv_eq_ediv_of_nonneg _ aU];rfl
  have p:shift .shr .u32 (v:Int) 1=some (.int .u32 ((v/2:Nat):Int)):=l;simp only[go_sem,E,akG,akH,l,p,wZz k];refine aG (k+1,v/2) ⟨?_,?_⟩ (Nat.div_lt_self Om aU) ?_ a_
  ·have:=vG B;simp only;omega
  ·simp only;omega
  ·exact Lq
 ·have:v=0:=Om;subst this;simp only[go_sem,E,Tb];refine aT (.inr rfl) Ev ?_;rw[nL]at H;simp only[bN,PV.int.injEq,true_and];omega
structure xX(C:Ctx):Prop where
 length:∀xs,Lim xs->Z' xs<=35184372087808->aH C 138 [aN xs] .nil (aF (.int .i64 (nl (val xs):Nat)))
 large:∀xs,Lim xs->Z' xs<=35184372087808->aH C 137 [aN xs] .nil (aF (.bool (decide (nl (val xs)>512))))
 sized:∀xs,Lim xs->Z' xs<=35184372087808->aH C 141 [aN xs] .nil (aF (szV (val xs)))
 trim:∀xs,Lim xs->Z' xs<=35184372087808->aH C 135 [aN xs] .nil (aF (aN (aM (val xs))))
 make:∀v:Nat,v<18446744073709551616->aH C 132 [.int .u64 v] .nil (aF (aN (aM v)))
 cmp:∀xs ys,Lim xs->Lim ys->Z' xs<=35184372087808->Z' ys<=35184372087808->aH C 129 [aN xs,aN ys] .nil (aF (.int .i64 (eR (val xs) (val ys))))
def kN:PV->List Nat
 | .sl _ rows=>rows.map λr=>match r with|[.int _ n]=>n.toNat|_=>0
 |_=>[]
theorem eX(xs:List Nat):kN (aN xs)=xs:=by
 simp[kN,bnN,Function.comp_def]
def aLK:Spec:=λname vs=>match name,vs with
 |138,[x]=>some ([],λ_=>aF (.int .i64 (nl (val (kN x)):Nat)))
 |_,_=>none
theorem uJ(xs:List Nat):aLK 138 [aN xs]=some ([],λ_=>aF (.int .i64 (nl (val xs):Nat))):=by
 show some _=_;rw[eX]
theorem IY(P:List Nat)(k v:Nat):(P++bkM (k+1) 0).set P.length v=(P++[v])++bkM k 0:=by
 rw[bnJ _ _ (bkN _),bnF,List.replicate_succ,boF,blW];rfl
theorem jW(L:List Nat)(i v:Nat):(aO L).set i [.int .u32 (v:Int)]=aO (L.set i v):=by
 unfold aO;rw[List.map_set]
theorem nA(P:List Nat)(v:Nat):val (P++[v])=val P+4294967296^P.length*v:=by
 rw[kI];simp[val]
theorem dE(xs:List Nat){i:Nat}(h:i<Z' xs):val (xs.take (i+1))=val (xs.take i)+4294967296^i*xs[i]:=by
 rw[blO h,nA,bkY,bnA Om]
theorem HO{v:Nat}:shift .shr .u64 (v:Int) 32=some (.int .u64 ((v/4294967296:Nat):Int)):=by
 unfold shift;rw[aD aU];simp only;have:min (blS 32) IntKind.u64.bits=32:=by decide
 rw[this,show(2:Int)^32=4294967296 by decide,Int.fdiv_eq_ediv_of_nonneg _ aU];rfl
theorem iY{a b:Nat}(h:a+b<18446744073709551616):u_.wrap ((a:Int)+(b:Int))=((a+b:Nat):Int):=by
 rw[wrap_u64 Om Om];omega
theorem bV{a:Nat}(h:a<18446744073709551616):u_.wrap (a:Int)=(a:Int):=wrap_u64 Om Om
def Ge(a b:List Nat)(o i c:Nat):PF:=(((((((n_.set 0 (aN a)).set 1 (aN b)).set 6 (.osl o 1 0 (Z' a+1))).set 7 (.int .u64 c)).set 35 (.int .i64 (Z' a:Nat))).set 34 (aN a)).set 36 (.int .i64 i))
theorem S9(L:xX C)(a b:List Nat)(ha:Lim a)(hb:Lim b)(hl:Z' b<=Z' a)(h1:Z' a<=1000)(F:PF)(f0:F 0=some (aN a))(f1:F 1=some (aN b)) :
  aC.wp C (.seq (.region Nj) (.seq (.region Nk) (.seq (.seq (.region Nl) (.block 0 (.loop x5))) (.seq (.region x9) (.seq (.region ya) .ret))))) (aX [.tmp 4,.tmp 5] (cI (szV (val a+val b)))) F .nil:=by
 have O:i_.wrap ((Z' a:Int)+1)=((Z' a+1:Nat):Int):=eM Om;have η:((Z' a+1:Nat):Int)*((4:Nat):Int)<=140737488355328:=Om;have θ:((Z' a+1:Nat):Int)<=9223372036854775807:=Om;have hz:bkM (Z' a+1) [PV.int .u32 0]=aO ([]++bkM (Z' a+1) 0):=by simp[aO]
 simp only[go_sem,Nj,f0,O,η,θ,hz];refine aP λo ho=>?_;simp only[go_sem,Nk,Nl,f0];refine wp_loop (α:=List Nat × Nat × Nat) (λs=>Ge a b s.2.2 s.1.length s.2.1) (λs=>h_.set s.2.2 (.rows 1 (aO (s.1++bkM (Z' a+1-s.1.length) 0))))
  (λs=>s.1.length<=Z' a/\Lim s.1/\s.2.1<=1/\val s.1+4294967296^s.1.length*s.2.1=val (a.take s.1.length)+val (b.take s.1.length)) (λs=>Z' a-s.1.length) ([],0,o) ⟨by simp,by simp[Lim],by simp,by simp[val]⟩ ?_ ?_ ?_
 ·unfold Ge;exact Lq
 ·exact e_ a_ (by simp only[go_sem,bnB])
 rintro⟨P,c,q⟩ ⟨hP,d,hc,w⟩;simp only at hP d hc w;simp only[go_sem,x5,aBB,Ge];by_cases V:Z' P<Z' a
 ·have A:(Z' P:Int)<(Z' a:Nat):=Om;have ι:=ha _ (bkK V);obtain⟨k,S⟩:∃k,Z' a+1-Z' P=k+1:=⟨Z' a-Z' P,by omega⟩;have H:(aO (P++bkM (k+1) 0))[Z' P]?=some [.int .u32 ((0:Nat):Int)]:=by rw[cK _ bH];simp
  have i:Z' a+1-(Z' P+1)=k:=Om;have B:(Z' P:Int)<((Z' a+1:Nat):Int):=Om;have fin:∀(t:Nat)(p:PF)(H':PH),t<2*4294967296->val P+4294967296^P.length*t=val (a.take (Z' P+1))+val (b.take (Z' P+1)) ->
    p 0=some (aN a)->p 1=some (aN b)->p 6=some (.osl q 1 0 (Z' a+1))->p 7=some (.int .u64 (t:Nat))->p 8=some (.int .i64 P.length)->p 34=some (aN a)->p 35=some (.int .i64 (Z' a:Nat))->p 36=some (.int .i64 P.length) ->
    H' q=some (.rows 1 (aO (P++bkM (k+1) 0)))->∀K:cH,(∀u y R H2,Z' u=Z' P+1->Lim u->y<=1->val u+4294967296^u.length*y=val (a.take (Z' P+1))+val (b.take (Z' P+1))->(Ge a b q u.length y).le R->H2 q=some (.rows 1 (aO (u++bkM k 0)))->K .normal R H2) ->
    aC.wp C (.seq (.region x6) (.region x7)) (gE 1 (kD C (aC.wp C (.region x8)) K)) p H':=by
   intro t p H' ht hv g0 g1 g6 g7 g8 γ δ ε gH K hK;have l:(aO (P++bkM (k+1) 0)).set P.length [.int .u32 ((t%4294967296:Nat):Int)]=aO ((P++[t%4294967296])++bkM k 0):=by rw[jW,IY]
   simp only[go_sem,x6,g6,g8,g7,dN,B,gH,H,l,x7,HO,x8,ε,eM (Om:Z' P<9223372036854775807)];refine hK (P++[t%4294967296]) (t/4294967296) _ _ bH (d.app λx U=>by simp at U;subst U;exact bmG _ aU) Om ?_ ?_ Sq
   ·rw[nA,bkQ,bkV,bmM,blL,bnC,<-blA,Nat.mod_add_div];exact hv
   ·unfold Ge;rw[bkQ,bkV];refine d_ (d_ (d_ (d_ (d_ (d_ (d_ c_ ?_) ?_) ?_) ?_) ?_) ?_) ?_<;>simp only[go_sem,g0,g1,g6,γ,δ]
  have Q:=dE a V;have ea:u_.wrap ((a[Z' P]:Nat):Int)=((a[Z' P]:Nat):Int):=bV Om;have es:u_.wrap ((c:Nat)+((a[Z' P]:Nat):Int))=((c+a[Z' P]:Nat):Int):=iY Om;simp only[go_sem,A,ajR,ajS,cK a V,ea,es,ajT];by_cases W:Z' P<Z' b
  ·have E:(Z' P:Int)<(Z' b:Nat):=Om;have κ:=hb _ (bkK W);have J:=dE b W;have eb:u_.wrap ((b[Z' P]:Nat):Int)=((b[Z' P]:Nat):Int):=bV Om;have β:u_.wrap (((c+a[Z' P]:Nat):Int)+((b[Z' P]:Nat):Int))=((c+a[Z' P]+b[Z' P]:Nat):Int):=iY Om;simp only[go_sem,E,ajU,cK b W,eb,β];refine fin (c+a[Z' P]+b[Z' P]) _ _ Om ?_ ?_ ?_ ?_ ?_ ?_ ?_ ?_ ?_ ?_ _ ?_
   ·rw[Q,J,blA,blA];omega
   any_goals simp only[go_sem,S]
   intro u y R H2 M e2 X N Y Z;rw[<-M]at N;refine aG (u,y,q) ⟨by simp only;omega,e2,X,N⟩ (by simp only;omega) Y (e_ a_ ?_);simp only;rw[M,i];exact Z
  ·have E:¬(Z' P:Int)<(Z' b:Nat):=Om;have J:val (b.take (Z' P+1))=val (b.take P.length):=by rw[bkZ Om,bkZ Om]
   simp only[go_sem,E];refine fin (c+a[Z' P]) _ _ Om ?_ ?_ ?_ ?_ ?_ ?_ ?_ ?_ ?_ ?_ _ ?_
   ·rw[Q,J,blA];omega
   any_goals simp only[go_sem,S]
   intro u y R H2 M e2 X N Y Z;rw[<-M]at N;refine aG (u,y,q) ⟨by simp only;omega,e2,X,N⟩ (by simp only;omega) Y (e_ a_ ?_);simp only;rw[M,i];exact Z
 ·have e:Z' P=Z' a:=Om;have A:¬(Z' P:Int)<(Z' a:Nat):=Om;have S:bkM (Z' a+1-Z' P) 0=[0]:=by rw[show a.length+1-Z' P=1 by omega];rfl
  have H:(aO (P++[0]))[Z' a]?=some [.int .u32 ((0:Nat):Int)]:=by rw[cK _ (by simp;omega)];simp[e]
  have l:(aO (P++[0])).set a.length [.int .u32 ((c%4294967296:Nat):Int)]=aO (P++[c]):=by have:=IY P 0 (c%4294967296);simp only[List.replicate_zero,bmJ,blG,List.replicate_one]at this;rw[<-e,jW,this,bmC Om]
  have B:(Z' a:Int)<((Z' a+1:Nat):Int):=Om;have hV:val (P++[c])=val a+val b:=by rw[nA,w,e,blE,bkZ hl]
  have ζ:Lim (P++[c]):=d.app λx U=>by simp at U;omega
  simp only[go_sem,A,x9,dN,S,H,B,l,ya];have hs:=L.sized _ ζ (by simp;omega);rw[hV]at hs;refine xC (o:=q) (s:=1) (k:=Z' a+1) (rs:=aO (P++[c])) (v:=szV (val a+val b)) ?_ rfl Sq (by rw[cX];simp;omega) ?_
  ·rw[bkZ (by rw[cX];simp;omega)];exact hs
  ·simp only[go_sem,szV];exact bG (.inr rfl) .nil rfl a_ ⟨.refl _,rfl⟩
def opV(big:Bool)(n:Nat):PV:=if big then .tup [aN [],.int .i64 2]else szV n
def fO(a b:Nat):Bool:=decide (nl a>512)||decide (nl b>512)
theorem gT{res:List eC}{F:PF}{H:PH}{e:Int}(h:eC.evs F H res=some [.aK,.int .i64 e]):aX res (cI (.tup [aN [],.int .i64 e])) .ret F H:=by
 refine bG (.inr rfl) .nil h a_ ⟨?_,rfl⟩;refine .tup rfl λj p q hp d=>?_
 match j with
 |0=>simp at hp d;subst hp;subst d;exact .nil 1
 |1=>simp at hp d;subst hp;subst d;exact .refl _
 |j+2=>simp at hp
theorem bE(n:Nat):(aM n).length=nl n:=rfl
theorem mW{xs:List Nat}(h:Lim xs):(xs.map λ(n:Nat)=>[PV.int .u32 (n:Int)]).take (nl (val xs))=(aM (val xs)).map λ(n:Nat)=>[PV.int .u32 (n:Int)]:=by
 rw[<-bnO,pI h]
theorem a5V(L:xX C)(a b:List Nat)(p:Lim a)(hb:Lim b)(x:Z' a<=35184372087808)(y:Z' b<=35184372087808) :
  gb.wp C (aX aZA.res (cI (opV (fO (val a) (val b)) (val a+val b)))) (g_ [aN a,aN b]) .nil:=by
 simp only[go_sem,gb,aAW,aAX,aZA];refine aB (L.large a p x) rfl ?_;by_cases i:nl (val a)>512
 ·simp only[go_sem,i,Ni];rw[show opV (fO (val a) (val b)) (val a+val b)=.tup [aN [],.int .i64 2] by simp[opV,fO,i]];exact gT rfl
 simp only[go_sem,i];refine aB (L.large b hb y) rfl ?_;by_cases l:nl (val b)>512
 ·simp only[go_sem,l,Ni];rw[show opV (fO (val a) (val b)) (val a+val b)=.tup [aN [],.int .i64 2] by simp[opV,fO,l]];exact gT rfl
 have e:opV (fO (val a) (val b)) (val a+val b)=szV (val a+val b):=by simp[opV,fO,i,l]
 rw[e];simp only[go_sem,l];refine bP .nil aLK a_ ?_;simp only[go_sem,aAY];have F:=jF p;have H:=jF hb;have u:((nl (val a):Nat):Int)<=(Z' a:Nat):=Om;have w:((nl (val b):Nat):Int)<=(Z' b:Nat):=Om;refine bK (uJ a) (L.length a p x) rfl a_ ?_;simp only[go_sem,u,or_true,blY,mW p];refine bK (uJ b) (L.length b hb y) rfl a_ ?_;simp only[go_sem,w,or_true,blY,mW hb,aAZ,bE];have A:=aW (val a);have B:=aW (val b);by_cases E:nl (val a)<nl (val b)
 ·have d:((nl (val a):Nat):Int)<(nl (val b):Nat):=Om;simp only[go_sem,d,aBA];have:=S9 L (aM (val b)) (aM (val a)) (aY _) (aY _) (by rw[bE,bE];omega) (by rw[bE];omega);rw[A,B,Nat.add_comm]at this;exact this _ rfl rfl
 ·have d:¬((nl (val a):Nat):Int)<(nl (val b):Nat):=Om;simp only[go_sem,d];have:=S9 L (aM (val a)) (aM (val b)) (aY _) (aY _) (by rw[bE,bE];omega) (by rw[bE];omega);rw[A,B]at this;exact this _ rfl rfl
theorem kC(n:Int):u_.wrap n=n%18446744073709551616:=by simp[IntKind.wrap,IntKind.bits,IntKind.signed]
theorem uw(n:Int):IntKind.u32.wrap n=n%4294967296:=by simp[IntKind.wrap,IntKind.bits,IntKind.signed]
theorem aNA{v:Int}:shift .shr .u64 v 63=some (.int .u64 (v/9223372036854775808)):=by
 unfold shift;rw[aD aU];simp only;have:min (blS 63) IntKind.u64.bits=63:=by decide
 rw[this,show(2:Int)^63=9223372036854775808 by decide,Int.fdiv_eq_ediv_of_nonneg _ aU]
def jv(a bor b:Nat):Nat:=(a+4294967296-bor-b)%4294967296
def zl(a bor b:Nat):Nat:=if a<bor+b then 1 else 0
theorem aoY{a bor b:Nat}(d:a<4294967296)(hb:b<4294967296)(e:bor<=1)(v:Int)(i:v=((a:Int)-bor-b)%18446744073709551616) :
  IntKind.u32.wrap v=((jv a bor b:Nat):Int)/\v/9223372036854775808=((zl a bor b:Nat):Int)/\a+4294967296*zl a bor b=jv a bor b+b+bor/\jv a bor b<4294967296:=by
 rw[uw];unfold jv zl;split<;>omega
def Gt(a b:List Nat)(o i c:Nat):PF:=(((((((n_.set 0 (aN a)).set 1 (aN b)).set 6 (.osl o 1 0 a.length)).set 7 (.int .u64 c)).set 33 (aN a)).set 34 (.int .i64 (Z' a:Nat))).set 35 (.int .i64 i))
theorem aRH(L:xX C)(a b:List Nat)(ha:Lim a)(hb:Lim b)(ζ:val b<=val a)(hl:Z' b<=Z' a)(h1:Z' a<=1000)(F:PF)(f0:F 0=some (aN a))(f1:F 1=some (aN b)) :
  aC.wp C (.seq (.region Ny) (.seq (.region Nz) (.seq (.seq (.region N0) (.block 1 (.loop yi))) (.seq (.region ym) .ret)))) (aX [.tmp 4,.tmp 5] (cI (szV (val a-val b)))) F .nil:=by
 have γ:(Z' a:Int)*((4:Nat):Int)<=140737488355328:=Om;have δ:(Z' a:Int)<=9223372036854775807:=Om;have hz:bkM a.length [PV.int .u32 0]=aO ([]++bkM a.length 0):=by simp[aO]
 simp only[go_sem,Ny,f0,γ,δ,hz];refine aP λo ho=>?_;simp only[go_sem,Nz,N0,f0];refine wp_loop (α:=List Nat × Nat × Nat) (λs=>Gt a b s.2.2 s.1.length s.2.1) (λs=>h_.set s.2.2 (.rows 1 (aO (s.1++bkM (Z' a-s.1.length) 0))))
  (λs=>s.1.length<=Z' a/\Lim s.1/\s.2.1<=1/\val (a.take s.1.length)+4294967296^s.1.length*s.2.1=val s.1+val (b.take s.1.length)) (λs=>Z' a-s.1.length) ([],0,o) ⟨by simp,by simp[Lim],by simp,by simp[val]⟩ ?_ ?_ ?_
 ·unfold Gt;exact Lq
 ·exact e_ a_ (by simp only[go_sem,bnB])
 rintro⟨P,c,q⟩ ⟨hP,d,hc,y⟩;simp only at hP d hc y;simp only[go_sem,yi,aCK,Gt];by_cases Q:Z' P<Z' a
 ·have w:(Z' P:Int)<(Z' a:Nat):=Om;have Y:=ha _ (bkK Q);obtain⟨k,O⟩:∃k,Z' a-Z' P=k+1:=⟨Z' a-Z' P-1,by omega⟩;have β:(aO (P++bkM (k+1) 0))[Z' P]?=some [.int .u32 ((0:Nat):Int)]:=by rw[cK _ bH];simp
  have i:Z' a-(Z' P+1)=k:=Om;have ε:=dE a Q;have fin:∀(t:Nat)(v:Int)(p:PF)(H':PH),t<4294967296->v=((a[Z' P]:Int)-c-t)%18446744073709551616->val (b.take (Z' P+1))=val (b.take P.length)+4294967296^P.length*t ->
    p 0=some (aN a)->p 1=some (aN b)->p 6=some (.osl q 1 0 a.length)->p 9=some (.int .u64 v)->p 8=some (.int .i64 P.length)->p 33=some (aN a)->p 34=some (.int .i64 (Z' a:Nat))->p 35=some (.int .i64 P.length) ->
    H' q=some (.rows 1 (aO (P++bkM (k+1) 0)))->∀K:cH,(∀u A N H2,Z' u=Z' P+1->Lim u->A<=1->val (a.take (Z' P+1))+4294967296^u.length*A=val u+val (b.take (Z' P+1))->(Gt a b q u.length A).le N->H2 q=some (.rows 1 (aO (u++bkM k 0)))->K .normal N H2) ->
    aC.wp C (.seq (.region yj) (.region yk)) (gE 2 (kD C (aC.wp C (.region yl)) K)) p H':=by
   intro t v p H' ht hv l g0 g1 g6 g9 g8 V W X gH K hK;obtain⟨E,e2,J,H⟩:=aoY Y ht hc v hv;have M:(aO (P++bkM (k+1) 0)).set P.length [.int .u32 ((jv a[Z' P] c t:Nat):Int)]=aO ((P++[jv a[Z' P] c t])++bkM k 0):=by rw[jW,IY]
   simp only[go_sem,yj,g6,g8,g9,E,w,gH,β,M,yk,aNA,e2,yl,X,eM (Om:Z' P<9223372036854775807)];refine hK (P++[jv a[Z' P] c t]) (zl a[Z' P] c t) _ _ bH (d.app λx hx=>by simp at hx;subst hx;exact H) (by unfold zl;split<;>omega) ?_ ?_ Sq
   ·rw[nA,bkQ,bkV,bmM,blL,ε,l,bnC,<-blA,J,blA,blA];omega
   ·unfold Gt;rw[bkQ,bkV];refine d_ (d_ (d_ (d_ (d_ (d_ (d_ c_ ?_) ?_) ?_) ?_) ?_) ?_) ?_<;>simp only[go_sem,g0,g1,g6,V,W]
  have ea:u_.wrap ((a[Z' P]:Nat):Int)=((a[Z' P]:Nat):Int):=bV Om;simp only[go_sem,w,alG,alH,cK a Q,ea,alI];by_cases R:Z' P<Z' b
  ·have B:(Z' P:Int)<(Z' b:Nat):=Om;have Z:=hb _ (bkK R);have l:=dE b R;have eb:u_.wrap ((b[Z' P]:Nat):Int)=((b[Z' P]:Nat):Int):=bV Om;simp only[go_sem,B,alJ,cK b R,eb];refine fin b[Z' P] (u_.wrap (u_.wrap ((a[Z' P]:Int)-(c:Int))-(b[Z' P]:Int))) _ _ Z (by rw[kC,kC];omega) l ?_ ?_ ?_ ?_ ?_ ?_ ?_ ?_ ?_ _ ?_
   any_goals simp only[go_sem,O]
   intro u A N H2 E e2 J H S U;rw[<-E]at H;refine aG (u,A,q) ⟨by simp only;omega,e2,J,H⟩ (by simp only;omega) S (e_ a_ ?_);simp only;rw[E,i];exact U
  ·have B:¬(Z' P:Int)<(Z' b:Nat):=Om;have l:val (b.take (Z' P+1))=val (b.take P.length)+4294967296^P.length*0:=by rw[bkZ Om,bkZ Om];simp
   simp only[go_sem,B];refine fin 0 (u_.wrap ((a[Z' P]:Int)-(c:Int))) _ _ aU (by rw[kC];omega) l ?_ ?_ ?_ ?_ ?_ ?_ ?_ ?_ ?_ _ ?_
   any_goals simp only[go_sem,O]
   intro u A N H2 E e2 J H S U;rw[<-E]at H;refine aG (u,A,q) ⟨by simp only;omega,e2,J,H⟩ (by simp only;omega) S (e_ a_ ?_);simp only;rw[E,i];exact U
 ·have e:Z' P=Z' a:=Om;have w:¬(Z' P:Int)<(Z' a:Nat):=Om;have O:bkM (Z' a-Z' P) 0=[]:=by rw[show a.length-Z' P=0 by omega];rfl
  have hV:val P=val a-val b:=by
   rw[e,blE,bkZ hl]at y;have hlt:=iW d;rw[e]at hlt;rcases bmZ c with h|h
   ·subst h;omega
   ·have:c=1:=Om;subst this;omega
  simp only[go_sem,w,O,bmJ,ym];have hs:=L.sized _ d Om;rw[hV]at hs;refine xC (o:=q) (s:=1) (k:=Z' a) (rs:=aO P) (v:=szV (val a-val b)) ?_ rfl Sq (by rw[cX];omega) ?_
  ·rw[bkZ (by rw[cX];omega)];exact hs
  ·simp only[go_sem,szV];exact bG (.inr rfl) .nil rfl a_ ⟨.refl _,rfl⟩
def yU(a b:Nat):PV:=if fO a b then .tup [aN [],.int .i64 2]else if a<b then .tup [aN [],.int .i64 4]else szV (a-b)
theorem a6D(L:xX C)(a b:List Nat)(i:Lim a)(hb:Lim b)(x:Z' a<=35184372087808)(y:Z' b<=35184372087808) :
  gm.wp C (aX aZI.res (cI (yU (val a) (val b)))) (g_ [aN a,aN b]) .nil:=by
 simp only[go_sem,gm,aCF,aCG,aZI];refine aB (L.large a i x) rfl ?_;by_cases d:nl (val a)>512
 ·simp only[go_sem,d,Nx];rw[show yU (val a) (val b)=.tup [aN [],.int .i64 2] by simp[yU,fO,d]];exact gT rfl
 simp only[go_sem,d];refine aB (L.large b hb y) rfl ?_;by_cases e:nl (val b)>512
 ·simp only[go_sem,e,Nx];rw[show yU (val a) (val b)=.tup [aN [],.int .i64 2] by simp[yU,fO,e]];exact gT rfl
 simp only[go_sem,e,aCH];refine aB (L.cmp a b i hb x y) rfl ?_;by_cases l:val a<val b
 ·have w:eR (val a) (val b)<0:=by simp[eR,l]
  simp only[go_sem,w,aCI];rw[show yU (val a) (val b)=.tup [aN [],.int .i64 4] by simp[yU,fO,d,e,l]];exact gT rfl
 have w:¬eR (val a) (val b)<0:=by unfold eR;rw[aD l];split<;>decide
 rw[show yU (val a) (val b)=szV (val a-val b) by simp[yU,fO,d,e,l]];simp only[go_sem,w];refine bP .nil aLK a_ ?_;simp only[go_sem,aCJ];have E:=jF i;have F:=jF hb;have p:((nl (val a):Nat):Int)<=(Z' a:Nat):=Om;have u:((nl (val b):Nat):Int)<=(Z' b:Nat):=Om;refine bK (uJ a) (L.length a i x) rfl a_ ?_;simp only[go_sem,p,or_true,blY,mW i];refine bK (uJ b) (L.length b hb y) rfl a_ ?_;simp only[go_sem,u,or_true,blY,mW hb];have A:=aW (val a);have B:=aW (val b);have H:=jO (Om:val b<=val a);have:=aRH L (aM (val a)) (aM (val b)) (aY _) (aY _) Om (by rw[bE,bE];omega) (by rw[bE];omega);rw[A,B]at this;exact this _ rfl rfl
end Go.PM
namespace Go.Na
def fN:Nat->Nat->List Nat
 |0,_=>[]
 |k+1,n=>(n%4294967296)::fN k (n/4294967296)
theorem qG:∀k n,(fN k n).length=k
 |0,_=>rfl
 |k+1,n=>by simp[fN,qG k]
theorem UA{xs:List Nat}(h:Lim xs):fN xs.length (val xs)=xs:=by
 induction xs with
 |nil=>rfl
 |cons x xs i =>have l:=h x bH;have d:(x+4294967296*val xs)%4294967296=x:=Om;have e2:(x+4294967296*val xs)/4294967296=val xs:=Om;simp only[bmB,fN,val];rw[d,e2,i λy e=>h y (by simp[e])]
theorem sC:∀k n,Lim (fN k n)
 |0,_=>λx hx=>by cases hx
 |k+1,n=>λx hx=>by
  simp only[fN,bkX]at hx;rcases hx with rfl|hx
  ·exact bmG _ aU
  ·exact sC k _ x hx
theorem LH:∀k n,val (fN k n)=n%4294967296^k
 |0,n=>by simp[fN,val,Nat.mod_one]
 |k+1,n=>by simp only[fN,val,LH k];rw[bmM,blP (4294967296^k) 4294967296,Nat.mod_mul]
theorem uM{k n:Nat}(h:n<4294967296^k):val (fN k n)=n:=by rw[LH,bmC h]
end Go.Na
namespace Go.PM
open Go Go.Na
theorem bcK{a b:Nat}(d:a<18446744073709551616)(hb:b<18446744073709551616):(BitVec.ofInt 64 (a:Int) ||| BitVec.ofInt 64 (b:Int)).toNat=a ||| b:=by
 rw[BitVec.ofInt_natCast,BitVec.ofInt_natCast,BitVec.toNat_or,BitVec.toNat_ofNat,BitVec.toNat_ofNat,bmC (by simpa using d),bmC (by simpa using hb)]
theorem alV{c x s:Nat}(d:c<2^s)(h:c+2^s*x<18446744073709551616):c ||| (2^s*x)=c+2^s*x:=by
 rw[Nat.or_comm,<-Nat.two_pow_add_eq_or_of_lt d,Nat.add_comm]
theorem orI{a b n:Nat}(d:a<18446744073709551616)(hb:b<18446744073709551616)(h:a ||| b=n)(e:n<18446744073709551616):pL .or .u64 (a:Int) (b:Int)=some (.int .u64 (n:Int)):=by
 show some (PV.int .u64 (u_.wrap (((BitVec.ofInt 64 (a:Int) ||| BitVec.ofInt 64 (b:Int)).toNat:Nat):Int)))=_;rw[bcK d hb,h,bV e]
theorem YG{x s:Nat}(d:s<=64)(h:x*2^s<18446744073709551616):shift .shl .u64 (x:Int) (s:Int)=some (.int .u64 ((2^s*x:Nat):Int)):=by
 unfold shift;rw[aD Om];simp only;have:min (blS (s:Int)) IntKind.u64.bits=s:=by rw[show IntKind.u64.bits=64 from rfl];omega
 rw[this,show(x:Int)*2^s=((x*2^s:Nat):Int) by simp,bV h,blP]
def aZK(a:List Nat)(s o i c:Nat):PF:=(((((((n_.set 0 (aN a)).set 1 (.int .u64 s)).set 5 (.osl o 1 0 (Z' a+1))).set 6 (.int .u64 c)).set 13 (aN a)).set 14 (.int .i64 (Z' a:Nat))).set 15 (.int .i64 i))
def upR(a:List Nat)(s:Nat)(r:PV)(H:PH):Prop:=∃o,r=.osl o 1 0 (Z' a+1)/\H=h_.set o (.rows 1 (aO (fN (Z' a+1) (val a*2^s))))
variable{C:Ctx}
theorem a9N(a:List Nat)(s:Nat)(ha:Lim a)(hs:s<32)(h1:Z' a<=1000):yn.wp C (aX nup.res (upR a s)) (g_ [aN a,.int .u64 s]) .nil:=by
 have F:i_.wrap ((Z' a:Int)+1)=((Z' a+1:Nat):Int):=eM Om;have S:((Z' a+1:Nat):Int)*((4:Nat):Int)<=140737488355328:=Om;have U:((Z' a+1:Nat):Int)<=9223372036854775807:=Om;have hz:bkM (Z' a+1) [PV.int .u32 0]=aO ([]++bkM (Z' a+1) 0):=by simp[aO]
 have N:2^s<=2147483648:=bnR (show 0<2 by decide) (Om:s<=31);have B:0<2^s:=bnK aU;simp only[go_sem,yn,aRI,aRJ,nup,F,S,U,hz];refine aP λo ho=>?_;simp only[go_sem,aRK,aRL];refine wp_loop (α:=List Nat × Nat × Nat) (λt=>aZK a s t.2.2 t.1.length t.2.1) (λt=>h_.set t.2.2 (.rows 1 (aO (t.1++bkM (Z' a+1-t.1.length) 0))))
  (λt=>t.1.length<=Z' a/\Lim t.1/\t.2.1<2^s/\val t.1+4294967296^t.1.length*t.2.1=val (a.take t.1.length)*2^s) (λt=>Z' a-t.1.length) ([],0,o) ⟨by simp,by simp[Lim],B,by simp[val]⟩ ?_ ?_ ?_
 ·unfold aZK;exact Lq
 ·exact e_ a_ (by simp only[go_sem,bnB])
 rintro⟨P,c,q⟩ ⟨Z,d,X,l⟩;simp only at Z d X l;simp only[go_sem,aCL,aRM,aZK];by_cases J:Z' P<Z' a
 ·have p:(Z' P:Int)<(Z' a:Nat):=Om;have β:=ha _ (bkK J);obtain⟨k,R⟩:∃k,Z' a+1-Z' P=k+1:=⟨Z' a-Z' P,by omega⟩;have w:(aO (P++bkM (k+1) 0))[Z' P]?=some [.int .u32 ((0:Nat):Int)]:=by rw[cK _ bH];simp
  have A:Z' a+1-(Z' P+1)=k:=Om;have u:(Z' P:Int)<((Z' a+1:Nat):Int):=Om;have V:=dE a J;generalize W:a[Z' P]=x at *
  have γ:x*2^s<=4294967295*2147483648:=bnV Om N;have ex:u_.wrap ((x:Nat):Int)=((x:Nat):Int):=bV Om;have H:2^s*x=x*2^s:=blP _ _;have M:shift .shl .u64 (x:Int) (s:Int)=some (.int .u64 ((2^s*x:Nat):Int)):=YG Om Om;have K:=orI (a:=c) (b:=2^s*x) (n:=c+2^s*x) Om Om (alV X Om) Om;have E:(c+2^s*x)/4294967296<2^s:=by rw[bnU aU];have:2^s*(x+1)<=2^s*4294967296:=bnD _ Om;rw[blA,Nat.mul_one]at this;omega
  have i:(aO (P++bkM (k+1) 0)).set P.length [.int .u32 (((c+2^s*x)%4294967296:Nat):Int)]=aO ((P++[(c+2^s*x)%4294967296])++bkM k 0):=by rw[jW,IY]
  have Q:(aO a)[Z' P]?=some [.int .u32 ((x:Nat):Int)]:=by rw[cK a J,W]
  simp only[go_sem,p,aRN,aRO,Q,ex,M,K,aRP,dN,R,u,w,i,aRQ,HO,aRR,eM (Om:Z' P<9223372036854775807)];refine aG (P++[(c+2^s*x)%4294967296],(c+2^s*x)/4294967296,q) ⟨by simp;omega,d.app λy Y=>by simp at Y;subst Y;exact bmG _ aU,E,?_⟩ (by simp;omega) ?_ (e_ a_ ?_)
  ·simp only;rw[nA,bkQ,bkV,bmM,blL,bnC,<-blA,Nat.mod_add_div,V,blA,blT,<-bnC,l,H,blL]
  ·simp only;rw[bkQ,bkV];exact Lq
  ·simp only;rw[bkQ,bkV,A];simp only[go_sem]
 ·have e:Z' P=Z' a:=Om;have p:¬(Z' P:Int)<(Z' a:Nat):=Om;have R:bkM (Z' a+1-Z' P) 0=[0]:=by rw[show a.length+1-Z' P=1 by omega];rfl
  have w:(aO (P++[0]))[Z' a]?=some [.int .u32 ((0:Nat):Int)]:=by rw[cK _ (by simp;omega)];simp[e]
  have i:(aO (P++[0])).set a.length [.int .u32 ((c%4294967296:Nat):Int)]=aO (P++[c]):=by have:=IY P 0 (c%4294967296);simp only[List.replicate_zero,bmJ,blG,List.replicate_one]at this;rw[<-e,jW,this,bmC Om]
  have u:(Z' a:Int)<((Z' a+1:Nat):Int):=Om;have hV:val (P++[c])=val a*2^s:=by rw[nA,l,e,blE]
  have O:Lim (P++[c]):=d.app λx W=>by simp at W;omega
  have hD:fN (Z' a+1) (val a*2^s)=P++[c]:=by have:=UA O;rw[hV,bkQ,bkV,e]at this;exact this
  simp only[go_sem,p,aCM,dN,R,w,u,i,aCN];exact bG (vs:=[.osl q 1 0 (Z' a+1)]) (.inr rfl) (h_.set q (.rows 1 (aO (P++[c])))) Ev (e_ a_ Sq) ⟨q,rfl,by rw[hD]⟩
def Nw(a:List Nat)(d o k r:Nat):PF:=(((((n_.set 0 (aN a)).set 1 (.int .u32 d)).set 6 (.osl o 1 0 a.length)).set 7 (.int .u64 r)).set 8 (.int .i64 ((k:Int)-1)))
theorem aRF(L:xX C)(a:List Nat)(d:Nat)(ha:Lim a)(l:0<d)(hd:d<4294967296)(h1:Z' a<=1000) :
  PO.wp C (aX alE.res (aF (.tup [aN (aM (val a/d)),.int .u32 ((val a%d:Nat):Int)]))) (g_ [aN a,.int .u32 d]) .nil:=by
 have X:(Z' a:Int)*((4:Nat):Int)<=140737488355328:=Om;have Y:(Z' a:Int)<=9223372036854775807:=Om;have hz:bkM a.length [PV.int .u32 0]=aO (bkM a.length 0++[]):=by simp[aO]
 simp only[go_sem,PO,Th,Ti,alE,X,Y,hz];refine aP λo ho=>?_;simp only[go_sem,Tj,Tk];refine wp_loop (α:=Nat × List Nat × Nat × Nat) (λt=>Nw a d t.2.2.2 t.1 t.2.2.1) (λt=>h_.set t.2.2.2 (.rows 1 (aO (bkM t.1 0++t.2.1))))
  (λt=>t.1+t.2.1.length=Z' a/\Lim t.2.1/\t.2.2.1<d/\val t.2.1*d+t.2.2.1=val (a.drop t.1)) (λt=>t.1) (Z' a,[],0,o) ⟨by simp,by simp[Lim],l,by simp[val]⟩ ?_ ?_ ?_
 ·unfold Nw
  (repeat' (first|exact c_|refine d_ ?_ ?_))<;>first|(simp only[go_sem,wrap_i64 (Om:-9223372036854775808<=(Z' a:Int)-1) (Om:(Z' a:Int)-1<=9223372036854775807)]<;>rfl)|rfl
 ·exact e_ a_ Sq
 rintro⟨k,S,r,q⟩ ⟨hk,e,M,i⟩;simp only at hk e M i;simp only[go_sem,Tg,Tl,Nw];by_cases h0:0<k
 ·obtain⟨m,rfl⟩:∃m,k=m+1:=⟨k-1,by omega⟩;have w:((m+1:Nat):Int)-1=(m:Int):=Om;have V:(m:Int)>=0:=Om;have u:m<Z' a:=Om;have hlt:(m:Int)<(Z' a:Nat):=Om;have β:=ha _ (bkK u);have p:val (a.drop m)=a[m]+4294967296*val (a.drop (m+1)):=by rw[bmP u];rfl
  generalize hx:a[m]=x at *
  have O:(aO a)[m]?=some [.int .u32 ((x:Nat):Int)]:=by rw[cK a u,hx]
  have ex:u_.wrap ((x:Nat):Int)=((x:Nat):Int):=bV Om;have ed:u_.wrap ((d:Nat):Int)=((d:Nat):Int):=bV Om;have F:shift .shl .u64 (r:Int) 32=some (.int .u64 ((2^32*r:Nat):Int)):=YG (s:=32) Om Om;have N:(2:Nat)^32=4294967296:=by decide
  have A:=orI (a:=2^32*r) (b:=x) (n:=2^32*r+x) Om Om (Nat.two_pow_add_eq_or_of_lt Om r).symm Om;rw[N]at F A;have K:(4294967296*r+x)/d<4294967296:=by rw[bnU l];have:4294967296*(r+1)<=4294967296*d:=bnD _ M;omega
  have Q:¬((d:Nat):Int)=0:=Om;have B:u_.wrap (bmX ((4294967296*r+x:Nat):Int) ((d:Nat):Int))=(((4294967296*r+x)/d:Nat):Int):=by rw[show bmX ((4294967296*r+x:Nat):Int) ((d:Nat):Int)=(((4294967296*r+x)/d:Nat):Int)from rfl];exact bV Om
  have E:Int.tmod ((4294967296*r+x:Nat):Int) ((d:Nat):Int)=(((4294967296*r+x)%d:Nat):Int):=rfl;have ec:IntKind.u32.wrap (((4294967296*r+x)/d:Nat):Int)=(((4294967296*r+x)/d:Nat):Int):=by rw[dN,bmC K]
  have H:bkM (m+1) 0++S=bkM m 0++(0::S):=by rw[List.replicate_succ',blW];rfl
  have W:(aO (bkM m 0++(0::S)))[m]?=some [.int .u32 ((0:Nat):Int)]:=by rw[cK _ bH];simp
  have J:(aO (bkM m 0++(0::S))).set m [.int .u32 (((4294967296*r+x)/d:Nat):Int)]=aO (bkM m 0++(((4294967296*r+x)/d)::S)):=by rw[jW,bnJ _ _ bH];simp
  simp only[go_sem,w,V,Tn,F,O,ex,A,To,ed,Q,B,ec,hlt,H,W,J,Tq,E,Tr];refine aG (m,((4294967296*r+x)/d)::S,(4294967296*r+x)%d,q) ⟨by simp only[bmB];omega,λy hy=>?_,bmG _ l,?_⟩ (by simp only;omega) ?_ (e_ a_ Sq)
  ·rw[bkX]at hy;rcases hy with rfl|hy
   ·exact K
   ·exact e y hy
  ·simp only[val];rw[p,<-i,blT,blA,blL];have:=boG (4294967296*r+x) d;rw[blP d]at this;omega
  ·(repeat' (first|exact c_|refine d_ ?_ ?_))<;>first|(simp only[go_sem,wrap_i64 (Om:-9223372036854775808<=(m:Int)-1) (Om:(m:Int)-1<=9223372036854775807)]<;>rfl)|rfl
 ·have:k=0:=Om;subst this;have w:¬((0:Nat):Int)-1>=0:=by decide
  rw[blY]at i;have hS:Z' S=Z' a:=Om;have K:val S=val a/d:=by rw[<-i,blP,Nat.mul_add_div l,boH M,bmS]
  have Z:r=val a%d:=by rw[<-i,blP,Nat.mul_add_mod,bmC M]
  have γ:bkM 0 0++S=S:=by simp
  simp only[go_sem,w,Gs,boD];have hl:=L.length S e Om;have δ:=jF e;have hc:((nl (val S):Nat):Int)<=(Z' S:Nat):=Om;refine xC (o:=q) (s:=1) (k:=Z' a) (rs:=aO S) (v:=.int .i64 (nl (val S):Nat)) ?_ Sq Sq (by rw[cX];omega) ?_
  ·rw[bkZ (by rw[cX];omega)];exact hl
  ·have U:PV.frz q 1 (aO S) (.osl q 1 0 a.length)=aN S:=by
    have:0+Z' a<=(aO S).length:=by rw[cX];omega
    simp only[PV.frz,PV.tO,PV.eF,if_true,true_and,aI this,blY];rw[bkZ (by rw[cX];omega)]
   have R:∀n:Int,∀k,PV.frz q 1 (aO S) (.int k n)=.int k n:=λ_ _=>rfl;have er:IntKind.u32.wrap ((r:Nat):Int)=((r:Nat):Int):=by rw[dN,bmC Om]
   simp only[go_sem,U,R,hc,or_true,blY,mW e,er];refine bG (vs:=[aN (aM (val S)),.int .u32 ((r:Nat):Int)]) (.inr rfl) .nil Ev a_ ⟨?_,rfl⟩;simp only[bN,<-K,<-Z]
end Go.PM
namespace Go.Na
theorem SQ{L:List Nat}{i:Nat}(h:i<Z' L)(v:Nat):val (L.set i v)+4294967296^i*L[i]=val L+4294967296^i*v:=by
 have d:i<(L.set i v).length:=by rw[bmD];exact h
 rw[zP L h,zP (L.set i v) d,List.getElem_set_self,List.take_set_of_le (bkN _),List.drop_set_of_lt Om,blA,blA];omega
theorem K6{L:List Nat}{i:Nat}(h:∀(j x:Nat),i<=j->L[j]?=some x->x=0)(k v:Nat)(l:k<i):∀(j x:Nat),i<=j->(L.set k v)[j]?=some x->x=0:=λj x e d=>by
 rw[List.getElem?_set_ne Om]at d;exact h j x e d
end Go.Na
namespace Go.PM
open Go Go.Na
def pQ(a b:List Nat)(o i:Nat):PF:=((((((n_.set 0 (aN a)).set 1 (aN b)).set 6 (.osl o 1 0 (Z' a+Z' b))).set 32 (aN a)).set 33 (.int .i64 (Z' a:Nat))).set 34 (.int .i64 i))
def aLV(a b:List Nat)(o i x c j:Nat):PF:=((((((((((((n_.set 0 (aN a)).set 1 (aN b)).set 6 (.osl o 1 0 (Z' a+Z' b))).set 32 (aN a)).set 33 (.int .i64 (Z' a:Nat))).set 34 (.int .i64 i)).set 7 (.int .i64 i)).set 8 (.int .u32 x)).set 9 (.int .u64 c)).set 39 (aN b)).set 40 (.int .i64 (Z' b:Nat))).set 41 (.int .i64 j))
structure RK(a b L:List Nat)(i:Nat):Prop where
 len:Z' L=Z' a+Z' b
 lim:Lim L
 v:val L=val (a.take i)*val b
 z:∀j x,i+Z' b<=j->L[j]?=some x->x=0
theorem aAV{x y:Nat}(d:x<4294967296)(e:y<4294967296):u_.wrap ((x:Int)*(y:Int))=((x*y:Nat):Int):=by
 have:x*y<=4294967295*4294967295:=bnV Om Om;rw[show(x:Int)*(y:Int)=((x*y:Nat):Int) by simp];exact bV Om
theorem kT{a b:Nat}(h:a+b<=9223372036854775807):i_.wrap ((a:Int)+(b:Int))=((a+b:Nat):Int):=by
 rw[wrap_i64 Om Om];omega
variable{C:Ctx}
theorem aZH(a b:List Nat)(ha:Lim a)(hb:Lim b)(h1:Z' a<=1000)(h2:Z' b<=1000)(L:List Nat)(i:Nat)(hi:i<Z' a)(N:RK a b L i)(q:Nat)(K:cH)(F:PF)(H:PH)(J:(pQ a b q i).le F)(hH:H q=some (.rows 1 (aO L)))
  (hK:∀L' F' H',RK a b L' (i+1)->(pQ a b q i).le F'->H' q=some (.rows 1 (aO L'))->K .normal F' H') :
  aC.wp C (.block 1 (.seq (.region Nt) (.seq (.region Nu) (.seq (.seq (.region Nv) (.block 2 (.loop yc))) (.region ye))))) K F H:=by
 have f0:=J 0 _ (by unfold pQ;simp only[go_sem];rfl);have f1:=J 1 _ (by unfold pQ;simp only[go_sem];rfl);have f6:=J 6 _ (by unfold pQ;simp only[go_sem];rfl);have S:=J 32 _ (by unfold pQ;simp only[go_sem];rfl);have η:=J 33 _ (by unfold pQ;simp only[go_sem];rfl);have U:=J 34 _ (by unfold pQ;simp only[go_sem];rfl);have hx:=ha _ (bkK hi);have β:=dE a hi;generalize δ:a[i]=x at *
 have X:(aO a)[i]?=some [.int .u32 ((x:Nat):Int)]:=by rw[cK a hi,δ]
 simp only[go_sem,Nt,Nu,Nv,S,U,f1,X];refine wp_loop (α:=List Nat × Nat × Nat) (λt=>aLV a b q i x t.2.1 t.2.2) (λt=>h_.set q (.rows 1 (aO t.1)))
  (λt=>t.2.2<=Z' b/\t.1.length=Z' a+Z' b/\Lim t.1/\t.2.1<4294967296/\val t.1+4294967296^(i+t.2.2)*t.2.1=val (a.take i)*val b+4294967296^i*(x*val (b.take t.2.2))/\∀j y,i+Z' b<=j->t.1[j]?=some y->y=0) (λt=>Z' b-t.2.2) (L,0,0)
  ⟨by simp,N.len,N.lim,by simp,by simp[val,N.v],N.z⟩ ?_ (e_ a_ hH) ?_
 ·unfold aLV;exact Lq
 rintro⟨M,c,j⟩ ⟨hj,W,e,Z,u,Q⟩;simp only at hj W e Z u Q;simp only[go_sem,yc,akW,aLV];by_cases R:j<Z' b
 ·have w:(j:Int)<(Z' b:Nat):=Om;have O:=hb _ (bkK R);have γ:=dE b R;generalize ε:b[j]=y at *
  have Y:(aO b)[j]?=some [.int .u32 ((y:Nat):Int)]:=by rw[cK b R,ε]
  have d:i+j<Z' M:=Om;have E:=e _ (bkK d);have p:=SQ d;generalize ζ:M[i+j]=z at *
  have B:(aO M)[i+j]?=some [.int .u32 ((z:Nat):Int)]:=by rw[cK M d,ζ]
  have ex:u_.wrap ((x:Nat):Int)=((x:Nat):Int):=bV Om;have ey:u_.wrap ((y:Nat):Int)=((y:Nat):Int):=bV Om;have ez:u_.wrap ((z:Nat):Int)=((z:Nat):Int):=bV Om;have em:=aAV hx O;have ι:x*y<=4294967295*4294967295:=bnV Om Om;have e1:u_.wrap (((x*y:Nat):Int)+(z:Int))=((x*y+z:Nat):Int):=iY Om;have e2:u_.wrap ((c:Int)+((x*y+z:Nat):Int))=((c+(x*y+z):Nat):Int):=iY Om;have A:i_.wrap ((i:Int)+(j:Int))=((i+j:Nat):Int):=kT Om;have hlt:((i+j:Nat):Int)<((Z' a+Z' b:Nat):Int):=Om;generalize ht:c+(x*y+z)=t at *
  have θ:t<4294967296*4294967296:=Om;have l:(aO M).set (i+j) [.int .u32 ((t%4294967296:Nat):Int)]=aO (M.set (i+j) (t%4294967296)):=jW M (i+j) _;simp only[go_sem,w,akX,Y,akY,ex,ey,em,A,hlt,B,ez,e1,e2,akZ,dN,l,alA,HO,alB,wZz j];refine aG (M.set (i+j) (t%4294967296),t/4294967296,j+1) ⟨by simp only;omega,by simp only[bmD];exact W,e.set _ (bmG _ aU),by simp only;omega,?_,K6 Q _ _ Om⟩ (by simp only;omega) ?_ (e_ a_ Sq)
  ·simp only;have V:=p (t%4294967296);have h4:4294967296^(i+(j+1))*(t/4294967296)+4294967296^(i+j)*(t%4294967296)=4294967296^(i+j)*t:=by rw[<-bnC,bmM,blL,<-blA,boG]
   have h5:4294967296^(i+j)*t=4294967296^(i+j)*c+(4294967296^(i+j)*(x*y)+4294967296^(i+j)*z):=by rw[<-ht,blA,blA]
   have h6:4294967296^i*(x*val (b.take (j+1)))=4294967296^i*(x*val (b.take j))+4294967296^(i+j)*(x*y):=by rw[γ,blA,blA,Nat.pow_add];congr 1;rw[Nat.mul_left_comm x,blL]
   omega
  ·exact Lq
 ·have he:j=Z' b:=Om;have w:¬(j:Int)<(Z' b:Nat):=Om;subst he;have d:i+Z' b<Z' M:=Om;have E:M[i+Z' b]=0:=Q _ _ (bkN _) (bkT d);have p:=SQ d;have B:(aO M)[i+Z' b]?=some [.int .u32 ((0:Nat):Int)]:=by rw[cK M d,E]
  have A:i_.wrap ((i:Int)+(Z' b:Int))=((i+Z' b:Nat):Int):=kT Om;have hlt:((i+Z' b:Nat):Int)<((Z' a+Z' b:Nat):Int):=Om;have l:(aO M).set (i+Z' b) [.int .u32 ((c%4294967296:Nat):Int)]=aO (M.set (i+Z' b) c):=by rw[bmC Z];exact jW M _ _
  simp only[go_sem,w,ye,A,dN,hlt,B,l];refine hK (M.set (i+Z' b) c) _ _ ⟨by rw[bmD];exact W,e.set _ Z,?_,λj y hj O=>?_⟩ (by unfold pQ;exact Lq) Sq
  ·have V:=p c;rw[E,Nat.mul_zero,bmS]at V;rw[V,u,blE,β,blT,blL]
  ·rw[List.getElem?_set_ne Om]at O;exact Q j y Om O
theorem aRE(L:xX C)(a b:List Nat)(S:Lim a)(hb:Lim b)(Q:Z' a<=1000)(R:Z' b<=1000)(F:PF)(f0:F 0=some (aN a))(f1:F 1=some (aN b)) :
  aC.wp C (.seq (.region Nr) (.seq (.seq (.region Ns) (.block 0 (.loop yd))) (.seq (.region yf) .ret))) (aX [.tmp 4,.tmp 5] (cI (szV (val a*val b)))) F .nil:=by
 have p:i_.wrap ((Z' a:Int)+(Z' b:Int))=((Z' a+Z' b:Nat):Int):=kT Om;have B:((Z' a+Z' b:Nat):Int)*((4:Nat):Int)<=140737488355328:=Om;have E:((Z' a+Z' b:Nat):Int)<=9223372036854775807:=Om;have V:bkM (Z' a+Z' b) [PV.int .u32 0]=aO (bkM (Z' a+Z' b) 0):=by simp[aO]
 simp only[go_sem,Nr,f0,f1,p,B,E,V];refine aP λo Y=>?_;simp only[go_sem,Ns,f0];refine wp_loop (α:=List Nat × Nat) (λt=>pQ a b o t.2) (λt=>h_.set o (.rows 1 (aO t.1))) (λt=>t.2<=Z' a/\RK a b t.1 t.2) (λt=>Z' a-t.2) (bkM (Z' a+Z' b) 0,0)
  ⟨by simp,by simp,ET _,by simp[val,zT],λj x _ J=>by rw[List.getElem?_replicate]at J;split at J<;>simp_all⟩ ?_ (e_ a_ Sq) ?_
 ·unfold pQ;exact Lq
 rintro⟨M,i⟩ ⟨hi,e⟩;simp only at hi e;simp only[go_sem,yd,aCE,pQ];by_cases K:i<Z' a
 ·have l:(i:Int)<(Z' a:Nat):=Om;have u:=aZH (C:=C) a b S hb Q R M i K e o;simp only[go_sem]at u;simp only[go_sem,l];refine u _ _ _ (by unfold pQ;exact Lq) Sq ?_;intro L' W H' A d y;have w:=d 34 _ (by unfold pQ;simp only[go_sem];rfl);have g0:=d 0 _ (by unfold pQ;simp only[go_sem];rfl);have g1:=d 1 _ (by unfold pQ;simp only[go_sem];rfl);have X:=d 6 _ (by unfold pQ;simp only[go_sem];rfl);have N:=d 32 _ (by unfold pQ;simp only[go_sem];rfl);have O:=d 33 _ (by unfold pQ;simp only[go_sem];rfl);simp only[go_sem,alC,w,wZz i];refine aG (L',i+1) ⟨by simp only;omega,A⟩ (by simp only;omega) ?_ (e_ a_ y);exact Lq
 ·have U:i=Z' a:=Om;subst U;have l:¬(Z' a:Int)<(Z' a:Nat):=Om;have hV:val M=val a*val b:=by rw[e.v,blE]
  simp only[go_sem,yf];have H:=L.sized _ e.lim (by rw[e.len];omega);rw[hV]at H;refine xC (o:=o) (s:=1) (k:=Z' a+Z' b) (rs:=aO M) (v:=szV (val a*val b)) ?_ rfl Sq (by rw[cX,e.len];exact bkN _) ?_
  ·rw[bkZ (by rw[cX,e.len];exact bkN _)];exact H
  ·simp only[go_sem,szV];exact bG (.inr rfl) .nil rfl a_ ⟨.refl _,rfl⟩
theorem a6C(L:xX C)(a b:List Nat)(l:Lim a)(hb:Lim b)(w:Z' a<=35184372087808)(x:Z' b<=35184372087808) :
  gi.wp C (aX aZG.res (cI (opV (fO (val a) (val b)) (val a*val b)))) (g_ [aN a,aN b]) .nil:=by
 simp only[go_sem,gi,aCB,aCC,aZG];refine aB (L.large a l w) rfl ?_;by_cases d:nl (val a)>512
 ·simp only[go_sem,d,Nq];rw[show opV (fO (val a) (val b)) (val a*val b)=.tup [aN [],.int .i64 2] by simp[opV,fO,d]];exact gT rfl
 simp only[go_sem,d];refine aB (L.large b hb x) rfl ?_;by_cases i:nl (val b)>512
 ·simp only[go_sem,i,Nq];rw[show opV (fO (val a) (val b)) (val a*val b)=.tup [aN [],.int .i64 2] by simp[opV,fO,i]];exact gT rfl
 have e:opV (fO (val a) (val b)) (val a*val b)=szV (val a*val b):=by simp[opV,fO,d,i]
 rw[e];simp only[go_sem,i];refine bP .nil aLK a_ ?_;simp only[go_sem,aCD];have B:=jF l;have E:=jF hb;have p:((nl (val a):Nat):Int)<=(Z' a:Nat):=Om;have u:((nl (val b):Nat):Int)<=(Z' b:Nat):=Om;refine bK (uJ a) (L.length a l w) rfl a_ ?_;simp only[go_sem,p,or_true,blY,mW l];refine bK (uJ b) (L.length b hb x) rfl a_ ?_;simp only[go_sem,u,or_true,blY,mW hb];have y:=aW (val a);have A:=aW (val b);have:=aRE L (aM (val a)) (aM (val b)) (aY _) (aY _) (by rw[bE];omega) (by rw[bE];omega);rw[y,A]at this;have:=λF f0 f1=>this F f0 f1;simp only[go_sem]at this;exact this _ rfl rfl
open Go Go.Na
theorem Ji{A P W Z:List Nat}{i:Nat}(e:Z' P=i)(hi:i<Z' W):(aO (A++(P++W.drop i)++Z))[Z' A+i]?=some [.int .u32 ((W[i]:Nat):Int)]:=by
 have d:Z' A+i<(A++(P++W.drop i)++Z).length:=by simp;omega
 rw[cK _ d];congr 4;rw[List.getElem_append_left (by simp;omega),boQ Om,boQ Om,List.getElem_drop];congr 1;omega
theorem SM{A P W Z:List Nat}{i:Nat}(d:Z' P=i)(hi:i<Z' W)(v:Nat):(aO (A++(P++W.drop i)++Z)).set (Z' A+i) [.int .u32 (v:Int)]=aO (A++((P++[v])++W.drop (i+1))++Z):=by
 rw[jW];congr 1;rw[List.set_append_left _ _ (by simp;omega),bnJ _ _ Om,bnJ _ _ Om,bmP hi];rw[show A.length+i-Z' A-Z' P=0 by omega,boF];simp
theorem aVK{t:Nat}(h:t<18446744073709551616):pL .and .u64 (t:Int) 4294967295=some (.int .u64 ((t%4294967296:Nat):Int)):=by
 show some (PV.int .u64 (u_.wrap (((BitVec.ofInt 64 (t:Int) &&& BitVec.ofInt 64 (4294967295:Int)).toNat:Nat):Int)))=_;have e:BitVec.ofInt 64 (4294967295:Int)=BitVec.ofNat 64 4294967295:=by rfl
 rw[e,BitVec.ofInt_natCast,BitVec.toNat_and,BitVec.toNat_ofNat,BitVec.toNat_ofNat,bmC (by simpa using h)];have e2:(4294967295:Nat)%2^64=2^32-1:=by decide
 rw[e2,Nat.and_two_pow_sub_one_eq_mod];rw[bV (Nat.lt_of_lt_of_le (bmG _ aU) aU)]
theorem aVQ{c f x:Nat}(e:c<4294967296)(d:f<=4294967296)(i:x<4294967296):c+f*x<18446744073709551616/\(c+f*x)/4294967296<4294967296/\f*x<=4294967296*4294967295:=by
 have:f*x<=4294967296*4294967295:=bnV d Om;refine⟨by omega,?_,this⟩;omega
def alK(v:List Nat)(j o i c b:Nat)(f:Nat):PF:=((((((((n_.set 0 (.osl o 1 j (Z' v+1))).set 1 (aN v)).set 2 (.int .u64 f)).set 7 (.int .u64 c)).set 8 (.int .u64 b)).set 13 (aN v)).set 14 (.int .i64 (Z' v:Nat))).set 15 (.int .i64 i))
def YL(n w m:Nat):Nat:=if w<m then w+4294967296^n-m else w-m
theorem alL(A W Z v:List Nat)(f:Nat)(hW:Lim W)(hv:Lim v)(hl:Z' W=Z' v+1)(h1:Z' A+Z' v<=100000)(hf:f<=4294967296)(ν:val v*f<=val W+4294967296^(Z' v+1))(o:Nat) :
  CV.wp C (aX gn.res (λr H'=>r=.bool (decide (val W<val v*f))/\H'=h_.set o (.rows 1 (aO (A++fN (Z' v+1) (YL (Z' v+1) (val W) (val v*f))++Z)))))
   (g_ [.osl o 1 A.length (Z' v+1),aN v,.int .u64 f]) (h_.set o (.rows 1 (aO (A++W++Z)))):=by
 simp only[go_sem,CV,gp,gr,gt,gn];refine wp_loop (α:=List Nat × Nat × Nat) (λt=>alK v A.length o t.1.length t.2.1 t.2.2 f) (λt=>h_.set o (.rows 1 (aO (A++(t.1++W.drop t.1.length)++Z))))
  (λt=>t.1.length<=Z' v/\Lim t.1/\t.2.1<4294967296/\t.2.2<=1/\val (W.take t.1.length)+4294967296^t.1.length*t.2.2+4294967296^t.1.length*t.2.1=val t.1+val (v.take t.1.length)*f) (λt=>Z' v-t.1.length) ([],0,0)
  ⟨by simp,by simp[Lim],by simp,by simp,by simp[val]⟩ ?_ (e_ a_ (by simp only[go_sem,bnB,blY,boD])) ?_
 ·unfold alK;exact Lq
 rintro⟨P,c,b⟩ ⟨hP,i,hc,hb,u⟩;simp only at hP i hc hb u;simp only[go_sem,bn,gv,alK];by_cases X:Z' P<Z' v
 ·have F:(Z' P:Int)<(Z' v:Nat):=Om;have B:Z' P<Z' W:=Om;have H:(Z' P:Int)<((Z' v+1:Nat):Int):=Om;have hx:=hv _ (bkK X);have hw:=hW _ (bkK B);have η:=dE v X;have E:=dE W B;have K:=Ji (A:=A) (Z:=Z) (P:=P) rfl B;have p:=SM (A:=A) (Z:=Z) (P:=P) rfl B;generalize μ:v[Z' P]=x at *
  generalize κ:W[Z' P]=y at *
  have ι:(aO v)[Z' P]?=some [.int .u32 ((x:Nat):Int)]:=by rw[cK v X,μ]
  obtain⟨k1,k2,k3⟩:=aVQ hc hf hx;have ex:u_.wrap ((x:Nat):Int)=((x:Nat):Int):=bV Om;have Y:u_.wrap ((y:Nat):Int)=((y:Nat):Int):=bV Om;have em:u_.wrap ((f:Int)*(x:Int))=((f*x:Nat):Int):=by rw[show(f:Int)*(x:Int)=((f*x:Nat):Int) by simp];exact bV Om
  have l:c+f*x<18446744073709551616:=k1;have ea:u_.wrap ((c:Int)+((f*x:Nat):Int))=((c+f*x:Nat):Int):=iY l;have Q:=aVK l;have θ:val (v.take (Z' P+1))*f=val (v.take P.length)*f+4294967296^P.length*(f*x):=by rw[η,blT,blL,blP x f]
  generalize f*x=w at *
  have S:(c+w)%4294967296<4294967296:=bmG _ aU;obtain⟨s1,s2,s3,s4⟩:=aoY (a:=y) (bor:=b) (b:=(c+w)%4294967296) hw S hb (u_.wrap (u_.wrap ((y:Int)-(((c+w)%4294967296:Nat):Int))-(b:Int))) (by rw[kC,kC];omega);generalize hd:jv y b ((c+w)%4294967296)=d at *
  generalize δ:zl y b ((c+w)%4294967296)=V at *
  have γ:V<=1:=by rw[<-δ];unfold zl;split<;>omega
  have hs:=p d;simp only[go_sem,F,gw,ι,gx,ex,em,ea,gy,H,K,Y,Q,gz,s1,hs,ia,aNA,s2,ib,HO,bo,eM (Om:Z' P<9223372036854775807)];refine aG (P++[d],(c+w)/4294967296,V) ⟨by simp;omega,i.app λz hz=>by simp at hz;omega,k2,γ,?_⟩ (by simp;omega) ?_ (e_ a_ ?_)
  ·simp only;rw[bkQ,bkV,nA,E,θ,bmM,blL,blL];have h4:4294967296^P.length*y+4294967296^P.length*(4294967296*V)=4294967296^P.length*d+4294967296^P.length*((c+w)%4294967296)+4294967296^P.length*b:=by rw[<-blA,s3,blA,blA]
   have h5:4294967296^P.length*(4294967296*((c+w)/4294967296))+4294967296^P.length*((c+w)%4294967296)=4294967296^P.length*c+4294967296^P.length*w:=by rw[<-blA,boG,blA]
   omega
  ·simp only;rw[bkQ,bkV];exact Lq
  ·simp only;rw[bkQ,bkV];simp only[go_sem]
 ·have e:Z' P=Z' v:=Om;have F:¬(Z' P:Int)<(Z' v:Nat):=Om;have B:Z' v<Z' W:=Om;have H:(Z' v:Int)<((Z' v+1:Nat):Int):=Om;have hw:=hW _ (bkK B);have E:=dE W B;have K:=Ji (A:=A) (Z:=Z) (P:=P) e B;have p:=SM (A:=A) (Z:=Z) (P:=P) e B;have J:val (W.take (Z' v+1))=val W:=by rw[bkZ Om]
  generalize κ:W[Z' v]=y at *
  have Y:u_.wrap ((y:Nat):Int)=((y:Nat):Int):=bV Om;have β:=iW i;rw[e]at u β;rw[blE]at u;rw[J]at E;have U:4294967296^(Z' v+1)=4294967296^v.length*4294967296:=bmM _ _;have ο:val W+4294967296^v.length*(b+c)=val P+val v*f+4294967296^v.length*y:=by rw[E,blA];omega
  have ξ:b+c<=y+4294967296:=by
   rcases blI (y+4294967296) (b+c)with h|h
   ·exfalso;have:4294967296^v.length*(y+4294967296+1)<=4294967296^v.length*(b+c):=bnD _ h;rw[blA,blA,Nat.mul_one]at this;omega
   ·exact h
  have N:∃d k:Nat,d<4294967296/\k<=1/\y+4294967296*k=d+(b+c)/\IntKind.u32.wrap (u_.wrap (u_.wrap ((y:Int)-(c:Int))-(b:Int)))=(d:Int)/\((u_.wrap (u_.wrap ((y:Int)-(c:Int))-(b:Int))/9223372036854775808==1)=decide (k=1)):=by
   rw[uw,kC,kC];by_cases h:y<b+c
   ·refine⟨y+4294967296-(b+c),1,by omega,by omega,by omega,by omega,?_⟩;simp only[decide_true];exact bW Om
   ·refine⟨y-(b+c),0,by omega,by omega,by omega,by omega,?_⟩;exact bL Om
  obtain⟨d,k,hd,hk,hy,w1,w2⟩:=N;have hs:=p d;have hN:val (P++[d])+val v*f=val W+4294967296^(Z' v+1)*k:=by
   have:4294967296^v.length*y+4294967296^v.length*(4294967296*k)=4294967296^v.length*d+4294967296^v.length*(b+c):=by rw[<-blA,hy,blA]
   rw[nA,e,U,blL];omega
  have R:Lim (P++[d]):=i.app λz hz=>by simp at hz;omega
  have ε:=iW R;rw[bkQ,bkV,e]at ε;have M:decide (k=1)=decide (val W<val v*f):=by
   congr 1;apply propext;constructor
   ·intro h;subst h;omega
   ·intro h;rcases bmZ k with h0|h0
    ·subst h0;omega
    ·omega
  have O:YL (Z' v+1) (val W) (val v*f)=val (P++[d]):=by
   unfold YL;split
   ·rename_i h;have:k=1:=by simpa[h]using M
    subst this;omega
   ·rename_i h;have:k=0:=by
     have:¬k=1:=by simpa[h]using M
     omega
    subst this;omega
  have hD:fN (Z' v+1) (YL (Z' v+1) (val W) (val v*f))=P++[d]:=by have:=UA R;rw[bkQ,bkV,e]at this;rw[O,this]
  have ζ:W.drop (Z' v+1)=[]:=boK Om;simp only[go_sem,F,br,e,H,K,Y,bs,w1,hs,bu,aNA,w2,M];refine bG (vs:=[.bool (decide (val W<val v*f))]) (.inr rfl) (h_.set o (.rows 1 (aO (A++(P++[d]++W.drop (Z' v+1))++Z)))) rfl (e_ a_ Sq) ⟨rfl,?_⟩;rw[hD,ζ,bmJ]
end Go.PM
namespace Go.Na
theorem azX{xs ys:List Nat}(i:Lim xs)(l:Lim ys)(d:Z' xs=Z' ys)(e:val xs=val ys):xs=ys:=by
 rw[<-UA i,<-UA l,d,e]
theorem a3Q{k n:Nat}{xs:List Nat}(i:Lim xs)(d:Z' xs=k)(e:val xs=n%4294967296^k):fN k n=xs:=
 azX (sC k n) i (by rw[qG,d]) (by rw[LH,e])
end Go.Na
namespace Go.PM
open Go Go.Na
def alD(v:List Nat)(j o i c:Nat):PF:=((((((n_.set 0 (.osl o 1 j (Z' v+1))).set 1 (aN v)).set 4 (.int .u64 c)).set 7 (aN v)).set 8 (.int .i64 (Z' v:Nat))).set 9 (.int .i64 i))
variable{C:Ctx}
theorem auI(A W Z v:List Nat)(hW:Lim W)(hv:Lim v)(hl:Z' W=Z' v+1)(h1:Z' A+Z' v<=100000)(o:Nat) :
  FN.wp C (aX yh.res (λr H'=>r=.tup []/\H'=h_.set o (.rows 1 (aO (A++fN (Z' v+1) (val W+val v)++Z)))))
   (g_ [.osl o 1 A.length (Z' v+1),aN v]) (h_.set o (.rows 1 (aO (A++W++Z)))):=by
 simp only[go_sem,FN,r9,sa,yh];refine wp_loop (α:=List Nat × Nat) (λt=>alD v A.length o t.1.length t.2) (λt=>h_.set o (.rows 1 (aO (A++(t.1++W.drop t.1.length)++Z))))
  (λt=>t.1.length<=Z' v/\Lim t.1/\t.2<=1/\val (W.take t.1.length)+val (v.take t.1.length)=val t.1+4294967296^t.1.length*t.2) (λt=>Z' v-t.1.length) ([],0)
  ⟨by simp,by simp[Lim],by simp,by simp[val]⟩ ?_ (e_ a_ (by simp only[go_sem,bnB,blY,boD])) ?_
 ·unfold alD;exact Lq
 rintro⟨P,c⟩ ⟨hP,d,hc,l⟩;simp only at hP d hc l;simp only[go_sem,r8,sb,alD];by_cases M:Z' P<Z' v
 ·have u:(Z' P:Int)<(Z' v:Nat):=Om;have p:Z' P<Z' W:=Om;have w:(Z' P:Int)<((Z' v+1:Nat):Int):=Om;have hx:=hv _ (bkK M);have hw:=hW _ (bkK p);have S:=dE v M;have F:=dE W p;have E:=Ji (A:=A) (Z:=Z) (P:=P) rfl p;have i:=SM (A:=A) (Z:=Z) (P:=P) rfl p;generalize X:v[Z' P]=x at *
  generalize V:W[Z' P]=y at *
  have U:(aO v)[Z' P]?=some [.int .u32 ((x:Nat):Int)]:=by rw[cK v M,X]
  have ex:u_.wrap ((x:Nat):Int)=((x:Nat):Int):=bV Om;have N:u_.wrap ((y:Nat):Int)=((y:Nat):Int):=bV Om;have Y:u_.wrap ((y:Int)+(x:Int))=((y+x:Nat):Int):=iY Om;have e2:u_.wrap ((c:Int)+((y+x:Nat):Int))=((c+(y+x):Nat):Int):=iY Om;have R:=i ((c+(y+x))%4294967296);simp only[go_sem,u,sd,U,se,w,E,ex,N,Y,e2,sf,dN,R,sg,HO,sj,eM (Om:Z' P<9223372036854775807)];refine aG (P++[(c+(y+x))%4294967296],(c+(y+x))/4294967296) ⟨by simp;omega,d.app λz K=>by simp at K;subst K;exact bmG _ aU,by simp only;omega,?_⟩ (by simp;omega) ?_ (e_ a_ ?_)
  ·simp only;rw[bkQ,bkV,nA,F,S,bmM,blL];have h5:4294967296^P.length*(4294967296*((c+(y+x))/4294967296))+4294967296^P.length*((c+(y+x))%4294967296)=4294967296^P.length*c+(4294967296^P.length*y+4294967296^P.length*x):=by rw[<-blA,boG,blA,blA]
   omega
  ·simp only;rw[bkQ,bkV];exact Lq
  ·simp only;rw[bkQ,bkV];simp only[go_sem]
 ·have e:Z' P=Z' v:=Om;have u:¬(Z' P:Int)<(Z' v:Nat):=Om;have p:Z' v<Z' W:=Om;have w:(Z' v:Int)<((Z' v+1:Nat):Int):=Om;have hw:=hW _ (bkK p);have F:=dE W p;have E:=Ji (A:=A) (Z:=Z) (P:=P) e p;have i:=SM (A:=A) (Z:=Z) (P:=P) e p;have B:val (W.take (Z' v+1))=val W:=by rw[bkZ Om]
  generalize V:W[Z' v]=y at *
  have O:=iW d;rw[e]at l O;rw[blE]at l;rw[B]at F;have ec:IntKind.u32.wrap ((c:Nat):Int)=((c:Nat):Int):=by rw[dN,bmC Om]
  have N:IntKind.u32.wrap ((y:Int)+(c:Int))=(((y+c)%4294967296:Nat):Int):=by rw[show(y:Int)+(c:Int)=((y+c:Nat):Int) by omega,dN]
  have R:=i ((y+c)%4294967296);have H:Lim (P++[(y+c)%4294967296]):=d.app λz K=>by simp at K;subst K;exact bmG _ aU
  have J:=iW H;rw[bkQ,bkV,e]at J;have hD:fN (Z' v+1) (val W+val v)=P++[(y+c)%4294967296]:=by
   refine a3Q H (by rw[bkQ,bkV,e]) ?_;have:val W+val v=val (P++[(y+c)%4294967296])+4294967296^(Z' v+1)*((y+c)/4294967296):=by rw[nA,e,bmM,blL,bnC,<-blA,Nat.mod_add_div,blA];omega
   rw[this,Nat.add_mul_mod_self_left,bmC J]
  have Q:W.drop (Z' v+1)=[]:=boK Om;simp only[go_sem,u,sk,e,w,E,ec,N,R];refine bG (vs:=[]) (.inl rfl) (h_.set o (.rows 1 (aO (A++(P++[(y+c)%4294967296]++W.drop (Z' v+1))++Z)))) rfl (e_ a_ Sq) ⟨rfl,?_⟩;rw[hD,Q,bmJ]
def aLS(o n:Nat)(len:Nat):PF:=((n_.set 0 (.osl o 1 0 len)).set 3 (.int .i64 n))
theorem auH(xs:List Nat)(w:Lim xs)(A:Z' xs<=35184372087808)(o:Nat):vN.wp C (aX SF.res (λr H'=>r=.int .i64 (nl (val xs):Nat)/\H'=h_.set o (.rows 1 (aO xs)))) (g_ [.osl o 1 0 xs.length]) (h_.set o (.rows 1 (aO xs))):=by
 simp only[go_sem,vN,WN,WO,SF];refine wp_loop (α:=Nat) (λn=>aLS o n xs.length) (λ_=>h_.set o (.rows 1 (aO xs))) (λn=>n<=Z' xs/\∀j x,n<=j->xs[j]?=some x->x=0) (λn=>n) xs.length ⟨bkN _,λj x h e=>by rw[bmA h]at e;cases e⟩ ?_ b_ ?_
 ·unfold aLS;exact Lq
 rintro n ⟨u,p⟩;have out:(∀x,0<n->xs[n-1]?=some x->x≠0)->nl (val xs)=n:=λh=>aDS w u p h;simp only[go_sem,WM,WP,aLS];by_cases l:(n:Int)>0
 ·have hp:0<n:=Om;have hi:=cK xs (Om:n-1<Z' xs);have hlt:((n-1:Nat):Int)<(Z' xs:Nat):=Om;simp only[go_sem,l,FF (Om:n<=9223372036854775807) hp,hi,hlt];by_cases i:xs[n-1]=0
  ·simp only[go_sem,bW (Om:((xs[n-1]:Nat):Int)=0),WQ,FF (Om:n<=9223372036854775807) hp];refine aG (n-1) ⟨by omega,λj x y d=>?_⟩ Om ?_ b_
   ·rcases blI j n with h|h
    ·have:j=n-1:=Om;subst this;rw[bkT Om]at d;cases d;exact i
    ·exact p j x h d
   ·exact Lq
  ·simp only[go_sem,bL (Om:((xs[n-1]:Nat):Int)≠0),AX];refine bG (.inr rfl) _ rfl b_ ⟨?_,rfl⟩;rw[out λx _ d=>by rw[bkT Om]at d;cases d;exact i];rfl
 ·simp only[go_sem,l,AX];refine bG (.inr rfl) _ rfl b_ ⟨?_,rfl⟩;rw[out λx h=>by omega];rfl
end Go.PM
namespace Go.Na
structure Kn(V W top next Vr head u2 Wr p:Nat):Prop where
 hV:V=top*(4294967296*p)+next*p+Vr
 hW:W=head*(4294967296*p)+u2*p+Wr
 hVr:Vr<p
 hWr:Wr<p
 htop:2147483648<=top
 bjR:next<4294967296
 hu2:u2<4294967296
 hlt:W<V*4294967296
section
variable {V W top next Vr head u2 Wr p:Nat}
theorem Kn.low(K:Kn V W top next Vr head u2 Wr p):next*p+Vr<4294967296*p/\u2*p+Wr<4294967296*p:=by
 have d:(next+1)*p<=4294967296*p:=blU _ K.bjR;have e:(u2+1)*p<=4294967296*p:=blU _ K.hu2;rw[blT,Nat.one_mul]at d e;have:=K.hVr;have:=K.hWr;omega
theorem Kn.Z9(K:Kn V W top next Vr head u2 Wr p):0<V/\4294967296*p<=V/\0<p:=by
 have:=K.hVr;have h:1*(4294967296*p)<=top*(4294967296*p):=blU _ (by have:=K.htop;omega);have:=K.hV;omega
theorem Kn.a9Z(K:Kn V W top next Vr head u2 Wr p):W/V<4294967296:=by
 rw[bnU K.Z9.1,blP];exact K.hlt
theorem Kn.g0(K:Kn V W top next Vr head u2 Wr p):W/V<=head/top:=by
 have d:0<top:=by have:=K.htop;omega
 rw[Nat.le_div_iff_mul_le d];have e:W/V*V<=W:=Nat.div_mul_le_self W V;have i:W/V*(top*(4294967296*p))<=W/V*V:=bnD _ (by have:=K.hV;omega);have l:=K.low.2;have u:=K.hW;have h5:(W/V*top)*(4294967296*p)<(head+1)*(4294967296*p):=by rw[blL,blT,Nat.one_mul];omega
 have:=Nat.lt_of_mul_lt_mul_right h5;omega
theorem Kn.g1(K:Kn V W top next Vr head u2 Wr p){g r:Nat}(l:g*top+r=head)(B:W/V<=g)(h:g>=4294967296\/g*next>r*4294967296+u2):1<=g/\W/V<=g-1:=by
 have w:=K.a9Z;have d:=Nat.div_mul_le_self W V;generalize W/V=Q at *
 rcases h with h|h
 ·omega
 ·have u:Q≠g:=by
   intro e;have x:g*V<=W:=by rw[<-e];exact d
   have y:g*V=g*top*(4294967296*p)+g*next*p+g*Vr:=by rw[K.hV,blA,blA,blL,blL]
   have i:(r*4294967296+u2+1)*p<=g*next*p:=blU _ h
   rw[blT,blT,Nat.one_mul,blL r]at i;have A:g*top*(4294967296*p)+r*(4294967296*p)=head*(4294967296*p):=by rw[<-blT,l]
   have:=K.hW;have:=K.hWr;omega
  omega
theorem Kn.g2(K:Kn V W top next Vr head u2 Wr p){g r:Nat}(u:g*top+r=head)(w:g<=4294967296)(h:g*next<=r*4294967296+u2):g<=W/V+1:=by
 rcases bmZ g with e|e
 ·rw[e];exact bkL _
 have i:g*V=g*top*(4294967296*p)+g*next*p+g*Vr:=by rw[K.hV,blA,blA,blL,blL]
 have d:g*next*p<=(r*4294967296+u2)*p:=blU _ h
 rw[blT,blL r]at d;have l:g*top*(4294967296*p)+r*(4294967296*p)=head*(4294967296*p):=by rw[<-blT,u]
 have h5:g*Vr<=4294967296*Vr:=blU _ w;have x:4294967296*(Vr+1)<=4294967296*p:=bnD _ K.hVr;have hV:=K.Z9;have hW:=K.hW;have h7:(g-1)*V<=W:=by
  have:g*V=(g-1)*V+V:=by obtain⟨k,rfl⟩:∃k,g=k+1:=⟨g-1,by omega⟩;rw[blT,Nat.one_mul];rfl
  omega
 have:=(Nat.le_div_iff_mul_le hV.1).2 h7;generalize W/V=Q at *
 clear i d l h5 h7;omega
theorem Kn.g3(K:Kn V W top next Vr head u2 Wr p){g r:Nat}(u:g*top+r=head)(w:g<=4294967296)(x:4294967296<=r):g<=W/V+1:=by
 have d:=K.low.1;have hV:=K.Z9;have e:g*V=g*top*(4294967296*p)+g*(next*p+Vr):=by rw[K.hV,bnC,blA,blL]
 have i:g*(next*p+Vr)<=4294967296*(4294967296*p):=bnV w Om;have l:g*top*(4294967296*p)+r*(4294967296*p)=head*(4294967296*p):=by rw[<-blT,u]
 have h5:4294967296*(4294967296*p)<=r*(4294967296*p):=blU _ x;have hW:=K.hW;have h7:g*V<=W:=Om;have:=(Nat.le_div_iff_mul_le hV.1).2 h7;generalize W/V=Q at *
 clear e i l h5 h7;omega
theorem Kn.g4(K:Kn V W top next Vr head u2 Wr p):head/top<=4294967296+1:=by
 have d:=K.low.1;have hV:=K.Z9;have hW:=K.hW;have hlt:=K.hlt;have w:=K.htop;have l:head<(top+1)*4294967296:=by
  have e:V<(top+1)*(4294967296*p):=by rw[K.hV,blT,Nat.one_mul];omega
  have u:V*4294967296<=(top+1)*(4294967296*p)*4294967296:=blU _ (Nat.le_of_lt e);have i:head*(4294967296*p)<(top+1)*4294967296*(4294967296*p):=by
   have:(top+1)*(4294967296*p)*4294967296=(top+1)*4294967296*(4294967296*p):=by rw[blL,blP (4294967296*p) 4294967296,<-blL]
   omega
  exact Nat.lt_of_mul_lt_mul_right i
 have h5:head/top<4294967296+2:=by rw[bnU Om];omega
 omega
end
theorem EN:∀(k n:Nat),fN (k+1) n=fN k n++[n/4294967296^k%4294967296]
 |0,n=>by simp[fN]
 |k+1,n=>by show(n%4294967296)::fN (k+1) (n/4294967296)=(n%4294967296)::fN k (n/4294967296)++[n/4294967296^(k+1)%4294967296];rw[EN k (n/4294967296),Nat.div_div_eq_div_mul,bmM,blP 4294967296];rfl
theorem DJ{xs:List Nat}(h:Lim xs):∀{k:Nat},k<=Z' xs->val (xs.drop k)=val xs/4294967296^k:=by
 intro k d;have e:val xs=val (xs.take k)+4294967296^k*val (xs.drop k):=by
  conv=>lhs;rw[<-bnP k xs,kI,bkY,bnA d]
 have i:=iW (h.take k);rw[bkY,bnA d]at i;rw[e,Nat.add_mul_div_left _ _ (bnK aU),boH i,blG]
theorem tv{R s i d l X:Nat}(u:s<32)(h:R/4294967296^i=d+4294967296*(l+4294967296*X)):(R/2^s)/4294967296^i%4294967296=(4294967296*l+d)/2^s%4294967296:=by
 rw[Nat.div_div_eq_div_mul,blP (2^s),<-Nat.div_div_eq_div_mul,h];have hp:4294967296*4294967296=2^s*(2^(32-s)*4294967296):=by rw[<-blL,<-Nat.pow_add,show s+(32-s)=32 by omega]
 have e:d+4294967296*(l+4294967296*X)=(4294967296*l+d)+2^s*(2^(32-s)*X*4294967296):=by
  have:4294967296*(4294967296*X)=2^s*(2^(32-s)*X*4294967296):=by rw[<-blL,hp,blL,blL,blL,blP 4294967296 X]
  rw[blA,this];omega
 rw[e,Nat.add_mul_div_left _ _ (bnK aU),Nat.add_mul_mod_self_right]
end Go.Na
namespace Go.PM
open Go Go.Na
theorem a7A{A W Z:List Nat}{i:Nat}(hi:i<Z' W):(aO (A++W++Z))[Z' A+i]?=some [.int .u32 ((W[i]:Nat):Int)]:=by
 have d:Z' A+i<(A++W++Z).length:=by simp;omega
 rw[cK _ d];congr 4;rw[List.getElem_append_left (by simp;omega),boQ Om];congr 1;omega
def dF(u v:PV)(n:Nat)(q:PV)(top next j s:Nat):PF:=((((((((n_.set 8 (.int .u64 s)).set 9 (u)).set 10 (v)).set 11 (.int .i64 n)).set 12 (q)).set 13 (.int .u64 top)).set 14 (.int .u64 next)).set 15 (.int .i64 j))
def dG(u v:PV)(n:Nat)(q:PV)(top next j s g r:Nat):PF:=((((((((((n_.set 8 (.int .u64 s)).set 9 (u)).set 10 (v)).set 11 (.int .i64 n)).set 12 (q)).set 13 (.int .u64 top)).set 14 (.int .u64 next)).set 15 (.int .i64 j)).set 17 (.int .u64 g)).set 18 (.int .u64 r))
variable{C:Ctx}
theorem Yo{V y top next Z head e Wr p:Nat}(i:Kn V y top next Z head e Wr p)(htop:top<4294967296)(o l m j s:Nat)(v q:PV)(ζ:j+m+2<l)(η:l<=100000)(U:List Nat)(hU:(aO U)[j+m]?=some [.int .u32 (e:Nat)])(K:cH)(F:PF)(H:PH)
  (hF:(dG (.osl o 1 0 l) v (m+2) q top next j s (head/top) (head%top)).le F) (hH:H o=some (.rows 1 (aO U)))
  (Y:∀g r x,y/V<=g->g<=y/V+1->g<=4294967296->(dG (.osl o 1 0 l) v (m+2) q top next j s g r).le x->K .normal x H) :
  aC.wp C (.block 4 (.loop DW)) K F H:=by
 have X:0<top:=by have:=i.htop;omega
 have hn:=i.bjR;have hu2:=i.hu2;simp only[go_sem];refine wp_loop (α:=Nat × Nat) (λt=>dG (.osl o 1 0 l) v (m+2) q top next j s t.1 t.2) (λ_=>H) (λt=>t.1*top+t.2=head/\y/V<=t.1/\t.1<=4294967296+1/\t.2<4294967296) (λt=>t.1) (head/top,head%top)
  ⟨by simp only;rw[blP];exact boG head top,i.g0,i.g4,Nat.lt_trans (bmG _ X) htop⟩ hF b_ ?_
 rintro⟨g,r⟩ ⟨J,W,S,hr⟩;simp only at J W S hr;have e1:i_.wrap ((j:Int)+((m+2:Nat):Int))=((j+(m+2):Nat):Int):=kT Om;have e2:i_.wrap (((j+(m+2):Nat):Int)-2)=((j+m:Nat):Int):=by rw[wrap_i64 Om Om];omega
 have hlt:((j+m:Nat):Int)<(l:Nat):=Om;have O:u_.wrap ((e:Nat):Int)=((e:Nat):Int):=bV Om;have B:shift .shl .u64 (r:Int) 32=some (.int .u64 ((2^32*r:Nat):Int)):=YG (s:=32) Om Om;have N:(2:Nat)^32=4294967296:=by decide
 have A:=orI (a:=2^32*r) (b:=e) (n:=2^32*r+e) Om Om (Nat.two_pow_add_eq_or_of_lt Om r).symm Om;rw[N]at B A;have more:(g>=4294967296\/g*next>r*4294967296+e)->∀x:PF,(dG (.osl o 1 0 l) v (m+2) q top next j s g r).le x->aC.wp C (.block 5 (.seq (.region PC) (.seq (.region PD) (.seq (.region PE) (.cond (.tmp 136) (.exit 4) .skip)))))
   (jM (λt:Nat × Nat=>dG (.osl o 1 0 l) v (m+2) q top next j s t.1 t.2) (λ_=>H) (λt=>t.1*top+t.2=head/\y/V<=t.1/\t.1<=4294967296+1/\t.2<4294967296) (λt=>t.1) g (gE 4 K)) x H:=by
  intro hc x d;obtain⟨g1,g2⟩:=i.g1 J W hc;have f8:=d 8 _ (by unfold dG;simp only[go_sem];rfl);have f9:=d 9 _ (by unfold dG;simp only[go_sem];rfl);have β:=d 10 _ (by unfold dG;simp only[go_sem];rfl);have f11:=d 11 _ (by unfold dG;simp only[go_sem];rfl);have γ:=d 12 _ (by unfold dG;simp only[go_sem];rfl);have f13:=d 13 _ (by unfold dG;simp only[go_sem];rfl);have f14:=d 14 _ (by unfold dG;simp only[go_sem];rfl);have δ:=d 15 _ (by unfold dG;simp only[go_sem];rfl);have Q:=d 17 _ (by unfold dG;simp only[go_sem];rfl);have R:=d 18 _ (by unfold dG;simp only[go_sem];rfl);have w1:u_.wrap ((g:Int)-1)=((g-1:Nat):Int):=by rw[wrap_u64 Om Om];omega
  have w2:u_.wrap ((r:Int)+(top:Int))=((r+top:Nat):Int):=iY Om;have E:(g-1)*top+(r+top)=head:=by obtain⟨k,rfl⟩:∃k,g=k+1:=⟨g-1,by omega⟩;rw[blT,Nat.one_mul]at J;simp only[Nat.add_sub_cancel];omega
  simp only[go_sem,PC,PD,PE,Q,R,f13,w1,w2];by_cases c:r+top>=4294967296
  ·have M:((r+top:Nat):Int)>=4294967296:=Om;simp only[go_sem,M];refine Y (g-1) (r+top) _ g2 (i.g3 E Om c) Om ?_;unfold dG;exact Lq
  ·have M:¬((r+top:Nat):Int)>=4294967296:=Om;simp only[go_sem,M];refine aG (g-1,r+top) ⟨E,g2,by simp only;omega,by simp only;omega⟩ (by simp only;omega) ?_ b_;unfold dG;exact Lq
 simp only[go_sem,DW,rj,dG];by_cases c1:g>=4294967296
 ·have u:(g:Int)>=4294967296:=Om;simp only[go_sem,u];have:=more (.inl c1);simp only[go_sem,dG]at this;refine this _ ?_;exact Lq
 ·have u:¬(g:Int)>=4294967296:=Om;have ε:g*next<=4294967295*4294967295:=bnV Om Om
  have em:u_.wrap ((g:Int)*(next:Int))=((g*next:Nat):Int):=by rw[show(g:Int)*(next:Int)=((g*next:Nat):Int) by simp];exact bV Om
  simp only[go_sem,u,em,B,e1,e2,hlt,hH,hU,O,A];by_cases c2:g*next>r*4294967296+e
  ·have w:((g*next:Nat):Int)>((4294967296*r+e:Nat):Int):=Om;simp only[go_sem,w];have:=more (.inr c2);simp only[go_sem,dG]at this;refine this _ ?_;exact Lq
  ·have w:¬((g*next:Nat):Int)>((4294967296*r+e:Nat):Int):=Om;simp only[go_sem,w];refine Y g r _ W (i.g2 J Om Om) Om ?_;unfold dG;exact Lq
end Go.PM
namespace Go.Na
theorem bdC{W v:List Nat}{m:Nat}(hW:Lim W)(d:Lim v)(u:Z' v=m+2)(p:Z' W=m+3)(w:2147483648<=v[m+1])(hlt:val W<val v*4294967296) :
  Kn (val v) (val W) (v[m+1]) (v[m]) (val (v.take m)) (W[m+2]*4294967296+W[m+1]) (W[m]) (val (W.take m)) (4294967296^m):=by
 have l:val v=val (v.take m)+4294967296^m*(v[m]+4294967296*v[m+1]):=by
  rw[zP v (Om:m<Z' v)];congr 4;have:v.drop (m+1)=[v[m+1]]:=by rw[bmP Om,boK Om]
  rw[this];simp[val]
 have e2:val W=val (W.take m)+4294967296^m*(W[m]+4294967296*(W[m+1]+4294967296*W[m+2])):=by
  rw[zP W (Om:m<Z' W)];congr 4;have:W.drop (m+1)=[W[m+1],W[m+2]]:=by rw[bmP Om,bmP Om,boK Om]
  rw[this];simp[val]
 have e:=iW (d.take m);have i:=iW (hW.take m);rw[bkY,bnA Om]at e i;refine⟨?_,?_,e,i,w,d _ (bkK _),hW _ (bkK _),hlt⟩
 ·rw[l,blA,blP (4294967296^m) (v[m]),<-blL (4294967296^m),blP (4294967296^m*4294967296),blP (4294967296^m) 4294967296];omega
 ·rw[e2,blA,blP (4294967296^m) (W[m]),<-blL (4294967296^m),blP (4294967296^m*4294967296),blP (4294967296^m) 4294967296,blP (W[m+2]),Nat.add_comm (4294967296*W[m+2])];omega
end Go.Na
namespace Go.PM
open Go Go.Na
structure Y1(C:Ctx):Prop where
 subtract:∀(A W Z v:List Nat)(f o:Nat),Lim W->Lim v->Z' W=Z' v+1->Z' A+Z' v<=100000->f<=4294967296->val v*f<=val W+4294967296^(Z' v+1) ->
  aH C 142 [.osl o 1 A.length (Z' v+1),aN v,.int .u64 f] (h_.set o (.rows 1 (aO (A++W++Z)))) (λr H'=>r=.bool (decide (val W<val v*f))/\H'=h_.set o (.rows 1 (aO (A++fN (Z' v+1) (YL (Z' v+1) (val W) (val v*f))++Z))))
 restore:∀(A W Z v:List Nat)(o:Nat),Lim W->Lim v->Z' W=Z' v+1->Z' A+Z' v<=100000 ->
  aH C 139 [.osl o 1 A.length (Z' v+1),aN v] (h_.set o (.rows 1 (aO (A++W++Z)))) (λr H'=>r=.tup []/\H'=h_.set o (.rows 1 (aO (A++fN (Z' v+1) (val W+val v)++Z))))
theorem acP(k n:Nat):fN k (n%4294967296^k)=fN k n:=
 azX (sC _ _) (sC _ _) (by rw[qG,qG]) (by rw[LH,LH,Nat.mod_mod])
variable{C:Ctx}
theorem Yn(D:Y1 C)(A W Z v Q:List Nat)(m o O N s:Nat)(Y:O≠o)(hW:Lim W)(hv:Lim v)(ν:Z' v=m+2)(μ:Z' W=m+3)(ht:2147483648<=v[m+1])(hlt:val W<val v*4294967296)
  (n':N=Z' A+(m+3)+Z' Z) (i':N<=10000) (Ψ:Z' A<Z' Q) (K:cH) (F:PF) (H:PH) (R:(dF (.osl o 1 0 N) (aN v) (m+2) (.osl O 1 0 Q.length) (v[m+1]) (v[m]) A.length s).le F)
  (hH:H o=some (.rows 1 (aO (A++W++Z)))) (θ:H O=some (.rows 1 (aO Q)))
  (hK:∀F' H',(dF (.osl o 1 0 N) (aN v) (m+2) (.osl O 1 0 Q.length) (v[m+1]) (v[m]) A.length s).le F'->H' o=some (.rows 1 (aO (A++fN (m+3) (val W%val v)++Z)))->H' O=some (.rows 1 (aO (Q.set A.length (val W/val v))))->K .normal F' H') :
  aC.wp C (.block 3 (.seq (.draw PA) (.seq (.draw PB) (.seq (.block 4 (.loop DW)) (.seq (.seq (.region PG) (.cond (.tmp 146) (.seq (.region PI) (.region PJ)) .skip)) (.region DX)))))) K F H:=by
 have Kk:=bdC hW hv ν μ ht hlt;have p:∀i (h:i<Z' W),(aO (A++W++Z))[Z' A+i]?=some [.int .u32 ((W[i]:Nat):Int)]:=λi h=>a7A h;have g0:=p (m+2) Om;have g1:=p (m+1) Om;have g2:=p m Om;have hq:=Kk.a9Z;have htop:v[m+1]<4294967296:=hv _ (bkK _);have r':=hW _ (bkK (Om:m+2<Z' W));have s':=hW _ (bkK (Om:m+1<Z' W));have X:=Kk.Z9.1;generalize q':v[m+1]=top at *
 generalize o':v[m]=next at *
 generalize t':W[m+2]=y at *
 generalize u':W[m+1]=u1 at *
 generalize v':W[m]=u2 at *
 have f8:=R 8 _ (by unfold dF;simp only[go_sem];rfl);have f9:=R 9 _ (by unfold dF;simp only[go_sem];rfl);have Γ:=R 10 _ (by unfold dF;simp only[go_sem];rfl);have f11:=R 11 _ (by unfold dF;simp only[go_sem];rfl);have Δ:=R 12 _ (by unfold dF;simp only[go_sem];rfl);have f13:=R 13 _ (by unfold dF;simp only[go_sem];rfl);have f14:=R 14 _ (by unfold dF;simp only[go_sem];rfl);have δ:=R 15 _ (by unfold dF;simp only[go_sem];rfl);have e1:i_.wrap ((Z' A:Int)+((m+2:Nat):Int))=((Z' A+(m+2):Nat):Int):=kT Om;have e2:i_.wrap (((Z' A+(m+2):Nat):Int)-1)=((Z' A+(m+1):Nat):Int):=by rw[wrap_i64 Om Om];omega
 have c0:((Z' A+(m+2):Nat):Int)<(N:Nat):=Om;have c1:((Z' A+(m+1):Nat):Int)<(N:Nat):=Om;have ψ:u_.wrap ((y:Nat):Int)=((y:Nat):Int):=bV Om;have ω:u_.wrap ((u1:Nat):Int)=((u1:Nat):Int):=bV Om;have γ:shift .shl .u64 (y:Int) 32=some (.int .u64 ((2^32*y:Nat):Int)):=YG (s:=32) Om Om;have χ:(2:Nat)^32=4294967296:=by decide
 have U:=orI (a:=2^32*y) (b:=u1) (n:=2^32*y+u1) Om Om (Nat.two_pow_add_eq_or_of_lt Om y).symm Om;rw[χ]at γ U;have Λ:4294967296*y+u1=y*4294967296+u1:=Om;rw[Λ]at U;simp only[go_sem];refine bP H eJ b_ ?_;simp only[go_sem,PA,f9,δ,f11,e1,e2,c0,c1,hH,g0,g1,ψ,ω,γ,U];refine bP H eJ b_ ?_;have p':0<top:=Om;have c':¬((top:Nat):Int)=0:=Om;generalize m':y*4294967296+u1=head at *
 have α:u_.wrap (bmX ((head:Nat):Int) ((top:Nat):Int))=((head/top:Nat):Int):=by rw[show bmX ((head:Nat):Int) ((top:Nat):Int)=((head/top:Nat):Int)from rfl];exact bV (by have:=Kk.g4;omega)
 have β:Int.tmod ((head:Nat):Int) ((top:Nat):Int)=((head%top:Nat):Int):=rfl;simp only[go_sem,PB,f13,c',α,β];have l:=Yo (C:=C) Kk htop o N m A.length s (aN v) (.osl O 1 0 Q.length) Om Om (A++W++Z) g2;simp only[go_sem]at l;refine l _ _ H ?_ hH ?_
 ·unfold dG;refine d_ (d_ (d_ (d_ (d_ (d_ (d_ (d_ (d_ (d_ c_ ?_) ?_) ?_) ?_) ?_) ?_) ?_) ?_) ?_) ?_<;>simp only[go_sem,f8,f9,Γ,f11,Δ,f13,f14,δ]
 clear l;intro g r F' q1 q2 q3 d;have h8:=d 8 _ (by unfold dG;simp only[go_sem];rfl);have h9:=d 9 _ (by unfold dG;simp only[go_sem];rfl);have B:=d 10 _ (by unfold dG;simp only[go_sem];rfl);have E:=d 11 _ (by unfold dG;simp only[go_sem];rfl);have ε:=d 12 _ (by unfold dG;simp only[go_sem];rfl);have ζ:=d 13 _ (by unfold dG;simp only[go_sem];rfl);have η:=d 14 _ (by unfold dG;simp only[go_sem];rfl);have J:=d 15 _ (by unfold dG;simp only[go_sem];rfl);have V:=d 17 _ (by unfold dG;simp only[go_sem];rfl);have e3:i_.wrap (((Z' A+(m+2):Nat):Int)+1)=((Z' A+(m+3):Nat):Int):=by rw[wrap_i64 Om Om];omega
 have c3:(Z' A:Int)<=((Z' A+(m+3):Nat):Int):=Om;have c4:((Z' A+(m+3):Nat):Int)<=(N:Nat):=Om;have e4:Z' A+(m+3)-Z' A=Z' v+1:=Om;have w:Z' v+1=m+3:=Om;have l':val v*(val W/val v)+val W%val v=val W:=boG _ _;have ι:=iW hW;rw[μ]at ι;have φ:val W%val v<val v:=bmG _ X;have σ:=iW hv;rw[ν]at σ;have ο:4294967296^(m+3)=4294967296^(m+2)*4294967296:=bmM _ _;generalize j':val W/val v=x at *
 generalize k':val W%val v=rd at *
 have S:∀(u:PF)(H2:PH),u 8=some (.int .u64 s)->u 9=some (.osl o 1 0 N)->u 10=some (aN v)->u 11=some (.int .i64 ((m+2:Nat):Int))->u 12=some (.osl O 1 0 Q.length)->u 13=some (.int .u64 top)->u 14=some (.int .u64 next)->u 15=some (.int .i64 A.length)->u 17=some (.int .u64 x) ->
   H2 o=some (.rows 1 (aO (A++fN (m+3) rd++Z)))->H2 O=some (.rows 1 (aO Q))->aC.wp C (.region DX) (gE 3 K) u H2:=by
  intro u H2 k8 k9 d' e' τ f' g' υ h' kH kQ;have b':(aO Q)[Z' A]?=some [.int .u32 ((Q[Z' A]:Nat):Int)]:=cK Q Ψ;have a':(Z' A:Int)<(Z' Q:Nat):=Om;have eq:IntKind.u32.wrap ((x:Nat):Int)=((x:Nat):Int):=by rw[dN,bmC hq]
  have ρ:=jW Q A.length x;have ξ:¬o=O:=λh=>Y h.symm;simp only[go_sem,DX,τ,υ,h',eq,a',kQ,b',ρ];refine hK _ _ ?_ (by simp only[go_sem,ξ,kH]) Sq;unfold dF;refine d_ (d_ (d_ (d_ (d_ (d_ (d_ (d_ c_ ?_) ?_) ?_) ?_) ?_) ?_) ?_) ?_<;>simp only[go_sem,k8,k9,d',e',τ,f',g',υ]
 have Ω:(h_.set o (.rows 1 (aO (A++W++Z)))).le H:=e_ a_ hH;have κ:val v*g<=val W+4294967296^(Z' v+1):=by have:val v*g<=val v*(x+1):=bnD _ q2;rw[blA,Nat.mul_one]at this;rw[w,ο];omega
 simp only[go_sem,PG,h9,J,E,e1,e3,c3,c4,e4,B,V];refine nE (D.subtract A W Z v g o hW hv Om Om q3 κ) rfl Ω ?_;rintro rr H' ⟨rfl,rfl⟩ -;rw[PH.BA];by_cases Φ:g=x
 ·subst Φ;have e:¬val W<val v*g:=Om;have hN:YL (Z' v+1) (val W) (val v*g)=rd:=by unfold YL;rw[aD e];omega
  rw[hN,w];simp only[go_sem,e];have:=S;simp only[go_sem]at this;refine this _ _ ?_ ?_ ?_ ?_ ?_ ?_ ?_ ?_ ?_ ?_ ?_<;>simp only[go_sem,h8,h9,B,E,ε,ζ,η,J,V,Y,θ]
 ·have Ξ:g=x+1:=Om;subst Ξ;rw[blA,Nat.mul_one];have e:val W<val v*x+val v:=Om;have hN:YL (Z' v+1) (val W) (val v*x+val v)=rd+4294967296^(m+3)-val v:=by unfold YL;rw[aI e,w];omega
  rw[hN];have w1:u_.wrap (((x+1:Nat):Int)-1)=((x:Nat):Int):=by rw[wrap_u64 Om Om];omega
  simp only[go_sem,e,PI,V,w1,PJ,h9,J,E,e1,e3,c3,c4,e4,B];have Θ:val (fN (Z' v+1) (rd+4294967296^(m+3)-val v))=rd+4294967296^(m+3)-val v:=uM (by rw[w];omega);refine nE (D.restore A (fN (Z' v+1) (rd+4294967296^(m+3)-val v)) Z v o (sC _ _) hv (qG _ _) Om) rfl (e_ a_ Sq) ?_;rintro rr H' ⟨rfl,rfl⟩ -;rw[PH.BA,PH.set_set,Θ];have M:fN (Z' v+1) (rd+4294967296^(m+3)-val v+val v)=fN (m+3) rd:=by rw[w,<-acP (m+3) (rd+4294967296^(m+3)-val v+val v)];rw[show rd+4294967296^(m+3)-val v+val v=rd+4294967296^(m+3) by omega,Nat.add_mod_right,acP]
  rw[M];simp only[go_sem];have:=S;simp only[go_sem]at this;refine this _ _ ?_ ?_ ?_ ?_ ?_ ?_ ?_ ?_ ?_ ?_ ?_<;>simp only[go_sem,h8,h9,B,E,ε,ζ,η,J,Y,θ]
open Go
section
variable {C:Ctx} {K:cH} {F:PF} {H Hs:PH} {S:Spec}
theorem awH{name:Nat}{vs:List PV}{R:PV->PH->Prop}{args:List aS}{st:Bool}{d:Option Nat}{K:PF->PH->Prop}(u:S name vs=some ([],λ_=>R))(h:aH C name vs .nil R)(e:aS.evs F args=some vs)
  (i:∀G:PH,∃r H',R r H'/\qQ G .nil H') (w:∀r H',R r H'->qQ H .nil H'->Hs.le (H.over .nil H')/\K (F.put d r) (H.over .nil H')):dOp C Hs S st (.call name args) d K F H:=by
 refine⟨vs,[],λ_=>R,e,u,λo y=>by simp at y,by rw[WX];exact h,λG=>?_,λr H' A e=>?_⟩
 ·obtain⟨r,H',l,p⟩:=i G;exact⟨r,H',l,λo x B E=>p o x B (by simp[h_])⟩
 ·rw[WX]at e ⊢;exact w r H' A e
theorem PH.over_self(d:PH)(h:d.le H):H.over d d=H:=PH.ext λq=>by
 rw[lM];cases e:d q with
 |none=>rfl
 |some x=>exact(h q x e).symm
theorem yr{o:Nat}{x:bA}(h:H o=some x):H.only [o]=h_.set o x:=PH.ext λq=>by
 rw[zH,bD];by_cases e:q=o
 ·subst e;simp[h]
 ·simp[e,mi]
theorem vu{name o:Nat}{x:bA}{vs:List PV}{v:PV}{R:PH->PV->PH->Prop}{args:List aS}{st:Bool}{d:Option Nat}{K:PF->PH->Prop}(E:S name vs=some ([o],R))(A:H o=some x)
  (h:aH C name vs (h_.set o x) (λr H'=>r=v/\H'=h_.set o x)) (i:R (h_.set o x) v (h_.set o x)) (p:∀r H',R (h_.set o x) r H'->r=v/\H'=h_.set o x) (J:aS.evs F args=some vs) (u:Hs.le H) (M:K (F.put d v) H) :
  dOp C Hs S st (.call name args) d K F H:=by
 have e:=yr A;refine⟨vs,[o],_,J,E,λq B=>?_,?_,λG=>⟨v,_,by rw[e];exact i,λq y N w=>?_⟩,λr H' l _=>?_⟩
 ·simp at B;subst B;exact⟨x,A⟩
 ·rw[e];exact h.post λr H' l=>⟨r,.refl _,by rw[l.1,l.2];exact i⟩
 ·rw[e]at w;rw[N]at w;cases w
 ·rw[e]at l;obtain⟨rfl,rfl⟩:=p r H' l;rw[e,PH.over_self _ (by rw[<-e];exact my H [o])];exact⟨u,M⟩
theorem avJ{c:aC}{α:Type}(d:α->PF)(Hs:α->PH)(e:α->Prop)(m:α->Nat)(i:α)(o:Nat){s:Nat}{rs:List (List PV)}(w:H o=some (.rows s rs))(l:e i)(p:(d i).le (F.frz o s rs))(u:(Hs i).le (H.frz o s rs))
  (hb:∀a,e a->c.wp C (jM d Hs e m (m a) K) (d a) (Hs a)):aC.wp C (.loop c) K F H:=
 ⟨α,d,Hs,e,m,i,_,_,.step o w (.refl _ _),l,p,u,hb⟩
@[go_sem] theorem IM(o s:Nat)(rs:List (List PV))(q:Nat):(H.frz o s rs) q=if q=o then none else(H q).map (bA.frz o s rs):=(rfl)
theorem aSP{t u o1 o2 s1 s2 k1 k2:Nat}{rs1 rs2:List (List PV)}{R:PV->PH->Prop}{e:nY}(N:e=.normal\/e=.ret)(i:o1≠o2)(E:F t=some (.osl o1 s1 0 k1))(J:F u=some (.osl o2 s2 0 k2))(l:H o1=some (.rows s1 rs1))(p:H o2=some (.rows s2 rs2))
  (O:k1<=Z' rs1) (Q:k2<=Z' rs2) (x:rs2.map (λr=>r.map (PV.eF o1 s1 rs1))=rs2) (U:(rs1.take k1)=rs1.take k1) (M:R (.tup [.sl s1 (rs1.take k1),.sl s2 (rs2.take k2)]) .nil):aX [.tmp t,.tmp u] R e F H:=by
 have y:∃vs,eC.evs F H [.tmp t,.tmp u]=some vs/\∃A B H2,kM (n_.set 0 (bN vs)) H A B/\H2.le B/\∃w,A 0=some w/\R w H2:=by
  have d:o2≠o1:=λh=>i h.symm;have e2:(H.frz o1 s1 rs1) o2=some (.rows s2 rs2):=by rw[IM,aD d,p];simp only[blJ,bA.frz,x]
  refine⟨[.osl o1 s1 0 k1,.osl o2 s2 0 k2],by rw[pG,sZ,E,pG,sZ,J,uK],_,_,.nil,.step o1 l (.step o2 e2 (.refl _ _)),a_,_,?_,M⟩;have a1:0+k1<=Z' rs1:=Om;have a2:0+k2<=Z' rs2:=Om;simp only[PF.frz,oZ,if_true,bN,blJ,PV.frz,PV.tO,PV.eF,blM,bmE,true_and,aI a1,aI a2,blY,aD d]
 rcases N with rfl|rfl<;>exact y
end
end Go.PM
namespace Go.Na
structure uY(U0 V n lu lq:Nat)(k:Nat)(U Q:List Nat):Prop where
 lu':Z' U=lu
 lq':Z' Q=lq
 limU:Lim U
 limQ:Lim Q
 v:val U+val Q*V=U0
 r:val (U.drop k)<V
 z:∀i x,i<k->Q[i]?=some x->x=0
theorem acQ{K V n J w j:Nat}{U Q:List Nat}(h:uY K V n J w (j+1) U Q)(hV:V<4294967296^n)(hj:j<w)(hl:J=w+n) :
  val ((U.drop j).take (n+1))<V*4294967296/\uY K V n J w j (U.take j++fN (n+1) (val ((U.drop j).take (n+1))%V)++U.drop (j+(n+1))) (Q.set j (val ((U.drop j).take (n+1))/V)):=by
 have S:=h.lu';have F:=h.lq';have d:0<V:=by have:=h.r;omega
 have l:j<Z' U:=Om;have X:val (U.drop j)=U[j]+4294967296*val (U.drop (j+1)):=by rw[bmP l];rfl
 have O:=h.limU _ (bkK l);have hlt:val (U.drop j)<V*4294967296:=by have:=h.r;omega
 have E:((U.drop j).take (n+1)).length=n+1:=by rw[bkY,bmQ];omega
 have e2:val (U.drop j)=val ((U.drop j).take (n+1))+4294967296^(n+1)*val (U.drop (j+(n+1))):=by
  conv=>lhs;rw[<-bnP (n+1) (U.drop j),kI,E,List.drop_drop]
 have M:4294967296^(n+1)=4294967296^n*4294967296:=bmM _ _;have R:V*4294967296<=4294967296^n*4294967296:=blU _ (Nat.le_of_lt hV);have A:val (U.drop (j+(n+1)))=0:=by
  rcases bmZ (val (U.drop (j+(n+1))))with h0|h0
  ·exact h0
  ·have:=bnD (4294967296^(n+1)) h0;omega
 rw[A,Nat.mul_zero,bmS]at e2;generalize hW:val ((U.drop j).take (n+1))=W at *
 have Y:val U=val (U.take j)+4294967296^j*W:=by
  conv=>lhs;rw[<-bnP j U,kI,bkY,bnA Om,e2]
 have u:W%V<V:=bmG _ d;have B:V*(W/V)+W%V=W:=boG _ _;have H:W/V<4294967296:=by rw[bnU d,blP];omega
 have hD:val (fN (n+1) (W%V))=W%V:=uM Om;have y:Q[j]=0:=h.z j _ Om (bkT Om);have e:=SQ (Om:j<Z' Q) (W/V);rw[y,Nat.mul_zero,bmS]at e;have p:(U.take j).length=j:=by rw[bkY];omega
 refine⟨by omega,?_,?_,?_,?_,?_,?_,?_⟩
 ·simp only[bkQ,qG,bmQ,bkY];omega
 ·rw[bmD];exact F
 ·exact((h.limU.take j).app (sC _ _)).app (h.limU.drop _)
 ·exact h.limQ.set _ H
 ·rw[blW,kI,kI,p,hD,qG,A,Nat.mul_zero,bmS,e];have:=h.v;have h5:(val Q+4294967296^j*(W/V))*V=val Q*V+4294967296^j*(V*(W/V)):=by rw[blT,blL,blP (W/V) V]
  have Z:4294967296^j*W=4294967296^j*(V*(W/V))+4294967296^j*(W%V):=by rw[<-blA,B]
  omega
 ·rw[blW,List.drop_append_of_le_length Om,boK Om,boD,kI,hD,A,Nat.mul_zero,bmS];exact u
 ·intro i x hi N;rw[List.getElem?_set_ne Om]at N;exact h.z i x Om N
end Go.Na
namespace Go.PM
open Go Go.Na
def dI(u v:PV)(n:Nat)(q:PV)(top next s:Nat)(j:Int):PF:=((((((((n_.set 8 (.int .u64 s)).set 9 (u)).set 10 (v)).set 11 (.int .i64 n)).set 12 (q)).set 13 (.int .u64 top)).set 14 (.int .u64 next)).set 15 (.int .i64 j))
theorem zD(o s:Nat)(rs:List (List PV))(L:List Nat):(aO L).map (λr=>r.map (PV.eF o s rs))=aO L:=by
 unfold aO;rw[bnN];rfl
variable{C:Ctx}
theorem akO(D:Y1 C)(V m u i o o2 p s:Nat)(v d:List Nat)(h2:o2≠o)(h3:p≠o)(h4:p≠o2)(hv:Lim v)(N:Z' v=m+2)(ω:(aO d).take (m+2)=aO v)(Γ:m+2<=Z' d)(ht:2147483648<=v[m+1])
  (ψ:u=i+(m+2)) (O:u<=10000) (U:List Nat) (y:uY V (val v) (m+2) u i i U (bkM i 0)) (K:cH) (F:PF) (H:PH)
  (x:(dI (.osl o 1 0 u) (.osl o2 1 0 (m+2)) (m+2) (.osl p 1 0 i) (v[m+1]) (v[m]) s ((i:Int)-1)).le F) (hH:H o=some (.rows 1 (aO U))) (κ:H o2=some (.rows 1 (aO d))) (ι:H p=some (.rows 1 (aO (bkM i 0))))
  (hK:∀U' Q' S,uY V (val v) (m+2) u i 0 U' Q'->(dI (.osl o 1 0 u) (aN v) (m+2) (.osl p 1 0 i) (v[m+1]) (v[m]) s (-1)).le S->K .normal S ((h_.set o (.rows 1 (aO U'))).set p (.rows 1 (aO Q')))) :
  aC.wp C (.block 2 (.loop OY)) K F H:=by
 have f8:=x 8 _ (by unfold dI;simp only[go_sem];rfl);have f9:=x 9 _ (by unfold dI;simp only[go_sem];rfl);have X:=x 10 _ (by unfold dI;simp only[go_sem];rfl);have f11:=x 11 _ (by unfold dI;simp only[go_sem];rfl);have Y:=x 12 _ (by unfold dI;simp only[go_sem];rfl);have f13:=x 13 _ (by unfold dI;simp only[go_sem];rfl);have f14:=x 14 _ (by unfold dI;simp only[go_sem];rfl);have Z:=x 15 _ (by unfold dI;simp only[go_sem];rfl);have A:¬o=o2:=λh=>h2 h.symm;have B:¬p=o2:=h4;have R:¬o=p:=λh=>h3 h.symm;have σ:∀(k:IntKind)(n:Int),PV.frz o2 1 (aO d) (.int k n)=.int k n:=λ_ _=>rfl;have υ:∀l,PV.frz o2 1 (aO d) (.osl o 1 0 l)=.osl o 1 0 l:=λl=>by simp only[PV.frz,PV.tO,PV.eF,aD A]
 have τ:∀l,PV.frz o2 1 (aO d) (.osl p 1 0 l)=.osl p 1 0 l:=λl=>by simp only[PV.frz,PV.tO,PV.eF,aD B]
 have φ:PV.frz o2 1 (aO d) (.osl o2 1 0 (m+2))=aN v:=by
  have:0+(m+2)<=(aO d).length:=by rw[cX];omega
  simp only[PV.frz,PV.tO,PV.eF,if_true,true_and,aI this,blY,ω]
 simp only[go_sem];refine avJ (α:=Nat × List Nat × List Nat) (λt=>dI (.osl o 1 0 u) (aN v) (m+2) (.osl p 1 0 i) (v[m+1]) (v[m]) s ((t.1:Int)-1)) (λt=>(h_.set o (.rows 1 (aO t.2.1))).set p (.rows 1 (aO t.2.2)))
  (λt=>t.1<=i/\uY V (val v) (m+2) u i t.1 t.2.1 t.2.2) (λt=>t.1) (i,U,bkM i 0) o2 κ ⟨bkN _,y⟩ ?_ ?_ ?_
 ·unfold dI;refine d_ (d_ (d_ (d_ (d_ (d_ (d_ (d_ c_ ?_) ?_) ?_) ?_) ?_) ?_) ?_) ?_<;>simp only[go_sem,f8,f9,X,f11,Y,f13,f14,Z,σ,υ,τ,φ]
 ·refine e_ (e_ a_ ?_) ?_
  ·simp only[go_sem,A,hH,bA.frz,zD]
  ·simp only[go_sem,B,ι,bA.frz,zD]
 rintro⟨k,U,Q⟩ ⟨hk,y⟩;simp only at hk y;simp only[go_sem,OY,ri,dI];by_cases h0:0<k
 ·obtain⟨j,rfl⟩:∃j,k=j+1:=⟨k-1,by omega⟩;have hz:((j+1:Nat):Int)-1=(j:Int):=Om;have χ:(j:Int)>=0:=Om;have M:val v<4294967296^(m+2):=by have:=iW hv;rw[N]at this;exact this
  obtain⟨hlt,μ⟩:=acQ y M Om ψ;have ξ:=y.lu';have ν:=y.lq';have hA:(U.take j).length=j:=by rw[bkY];omega
  have ο:((U.drop j).take (m+3)).length=m+3:=by rw[bkY,bmQ];omega
  have w:U.take j++(U.drop j).take (m+3)++U.drop (j+(m+3))=U:=by rw[blW,<-List.drop_drop,bnP,bnP]
  have ρ:(U.drop (j+(m+3))).length=u-(j+(m+3)):=by rw[bmQ,ξ]
  have E:=Yn (C:=C) D (U.take j) ((U.drop j).take (m+3)) (U.drop (j+(m+3))) v Q m o p u s h3 ((y.limU.drop _).take _) hv N ο ht hlt (by rw[hA,ρ];omega) O (by rw[hA];omega);rw[hA,w,ν]at E;have W:i_.wrap ((j:Int)-1)=(j:Int)-1:=wrap_i64 Om Om;simp only[go_sem,hz,χ];simp only[go_sem]at E;refine E _ _ _ ?_ (by simp only[go_sem,R]) Sq ?_
  ·unfold dF;exact Lq
  ·intro S H' e θ J;have g8:=e 8 _ (by unfold dF;simp only[go_sem];rfl);have g9:=e 9 _ (by unfold dF;simp only[go_sem];rfl);have β:=e 10 _ (by unfold dF;simp only[go_sem];rfl);have γ:=e 11 _ (by unfold dF;simp only[go_sem];rfl);have δ:=e 12 _ (by unfold dF;simp only[go_sem];rfl);have ε:=e 13 _ (by unfold dF;simp only[go_sem];rfl);have ζ:=e 14 _ (by unfold dF;simp only[go_sem];rfl);have η:=e 15 _ (by unfold dF;simp only[go_sem];rfl);simp only[go_sem,rk,η,W];refine aG (j,_,_) ⟨by simp only;omega,μ⟩ (by simp only;omega) ?_ (e_ (e_ a_ θ) J);refine d_ (d_ (d_ (d_ (d_ (d_ (d_ (d_ c_ ?_) ?_) ?_) ?_) ?_) ?_) ?_) ?_<;>simp only[go_sem,g8,g9,β,γ,δ,ε,ζ]
 ·have:k=0:=Om;subst this;have hz:¬((0:Nat):Int)-1>=0:=by decide
  simp only[go_sem,hz];refine hK U Q _ y ?_;unfold dI
  (repeat' (first|exact c_|refine d_ ?_ ?_))<;>first|(simp only[go_sem,show((0:Nat):Int)-1=-1 from rfl]<;>rfl)|rfl
open Go Go.Na
def rFr(o e l d or n s i:Nat):PF:=((((((n_.set 8 (.int .u64 s)).set 9 (.osl o 1 0 e)).set 12 (.osl l 1 0 d)).set 19 (.osl or 1 0 n)).set 166 (.int .i64 n)).set 167 (.int .i64 i))
theorem baK{x s:Nat}(d:s<=64):shift .shr .u64 (x:Int) (s:Int)=some (.int .u64 ((x/2^s:Nat):Int)):=by
 unfold shift;rw[aD Om];simp only;have:min (blS (s:Int)) IntKind.u64.bits=s:=by rw[show IntKind.u64.bits=64 from rfl];omega
 rw[this,Int.fdiv_eq_ediv_of_nonneg _ (by exact_mod_cast bkL _)]
 norm_cast
theorem akP(o p d lq n s:Nat)(U Q:List Nat)(hs:s<32)(h3:d≠o)(X:Lim U)(hl:Z' U=p)(hn:n<p)(γ:p<=10000)(K:cH)(F:PF)
  (f8:F 8=some (.int .u64 s)) (f9:F 9=some (.osl o 1 0 p)) (f11:F 11=some (.int .i64 n)) (δ:F 12=some (.osl d 1 0 lq))
  (hK:∀or F' H',or≠o->or≠d->(rFr o p d lq or n s n).le F'->H' d=some (.rows 1 (aO Q))->H' or=some (.rows 1 (aO (fN n (val U/2^s))))->K .normal F' H') :
  aC.wp C (.seq (.region PK) (.seq (.region PL) (.block 6 (.loop OZ)))) K F ((h_.set o (.rows 1 (aO U))).set d (.rows 1 (aO Q))):=by
 have Z:((n:Nat):Int)*((4:Nat):Int)<=140737488355328:=Om;have β:((n:Nat):Int)<=9223372036854775807:=Om;have hz:bkM n [PV.int .u32 0]=aO ([]++bkM n 0):=by simp[aO]
 simp only[go_sem,PK,f11,Z,β,hz];refine aP λor M=>?_;have n1:¬or=d:=(kP.1 M).1;have n2:¬or=o:=(kP.1 (kP.1 M).2).1;have w:¬d=or:=λh=>n1 h.symm;have y:¬o=or:=λh=>n2 h.symm;have n3:¬d=o:=h3;have A:¬o=d:=λh=>n3 h.symm;simp only[go_sem,PL];refine wp_loop (α:=List Nat) (λP=>rFr o p d lq or n s P.length) (λP=>((h_.set o (.rows 1 (aO U))).set d (.rows 1 (aO Q))).set or (.rows 1 (aO (P++bkM (n-Z' P) 0)))) (λP=>Z' P<=n/\P=fN P.length (val U/2^s)) (λP=>n-Z' P) []
  ⟨by simp,rfl⟩ ?_ ?_ ?_
 ·unfold rFr;exact Lq
 ·refine e_ (e_ (e_ a_ ?_) ?_) ?_<;>simp only[go_sem,n1,w,n2,y,n3,A,bnB]
 rintro P ⟨hP,hD⟩;simp only[go_sem,OZ,rp,rFr];by_cases c1:Z' P<n
 ·have l:(Z' P:Int)<(n:Nat):=Om;obtain⟨k,hk⟩:∃k,n-Z' P=k+1:=⟨n-Z' P-1,by omega⟩;have Y:(aO (P++bkM (k+1) 0))[Z' P]?=some [.int .u32 ((0:Nat):Int)]:=by rw[cK _ bH];simp
  have R:Z' P<Z' U:=Om;have a1:Z' P+1<Z' U:=Om;have b0:(Z' P:Int)<(p:Nat):=Om;have b1:((Z' P+1:Nat):Int)<(p:Nat):=Om;have ε:=X _ (bkK R);have ζ:=X _ (bkK a1);have e:val U/4294967296^P.length=U[Z' P]+4294967296*(U[Z' P+1]+4294967296*val (U.drop (Z' P+2))):=by rw[<-DJ X Om,bmP R,bmP a1];rfl
  have J:=tv hs e;have g0:=cK U R;have g1:=cK U a1;generalize η:U[Z' P]=u at *
  generalize θ:U[Z' P+1]=i at *
  have e1:i_.wrap ((Z' P:Int)+1)=((Z' P+1:Nat):Int):=eM Om;have V:u_.wrap ((u:Nat):Int)=((u:Nat):Int):=bV Om;have W:u_.wrap ((i:Nat):Int)=((i:Nat):Int):=bV Om;have E:shift .shl .u64 (i:Int) 32=some (.int .u64 ((2^32*i:Nat):Int)):=YG (s:=32) Om Om;have S:(2:Nat)^32=4294967296:=by decide
  have B:=orI (a:=2^32*i) (b:=u) (n:=2^32*i+u) Om Om (Nat.two_pow_add_eq_or_of_lt Om i).symm Om;rw[S]at E B;have H:=baK (x:=4294967296*i+u) (s:=s) Om;have O:(aO (P++bkM (k+1) 0)).set P.length [.int .u32 (((4294967296*i+u)/2^s%4294967296:Nat):Int)]=aO ((P++[(4294967296*i+u)/2^s%4294967296])++bkM k 0):=by rw[jW,IY]
  simp only[go_sem,l,rt];refine bP .nil eJ a_ ?_;simp only[go_sem,ru,l,e1,b0,b1,y,A,g0,g1,V,W,E,B,H,dN,hk,Y,O];refine⟨a_,?_⟩;simp only[go_sem,rx,e1];refine aG (P++[(4294967296*i+u)/2^s%4294967296]) ⟨by simp;omega,?_⟩ (by simp;omega) ?_ (e_ (e_ (e_ a_ ?_) ?_) ?_)
  ·rw[bkQ,bkV,EN,<-hD,J]
  ·rw[bkQ,bkV];exact Lq
  ·simp only[go_sem,y,A]
  ·simp only[go_sem,w]
  ·rw[bkQ,bkV,show n-(Z' P+1)=k by omega];simp only[go_sem]
 ·have e:Z' P=n:=Om;have l:¬(Z' P:Int)<(n:Nat):=Om;have N:bkM (n-Z' P) 0=[]:=by rw[show n-Z' P=0 by omega];rfl
  rw[e]at hD;simp only[go_sem,l,N,bmJ];refine hK or _ _ n2 n1 ?_ (by simp only[go_sem,w]) (by simp only[go_sem];rw[<-hD]);unfold rFr;rw[e];exact Lq
structure Z3(C:Ctx):Prop where
 L:xX C
 D:Y1 C
 up:∀(a:List Nat)(s:Nat),Lim a->s<32->Z' a<=1000->aH C 143 [aN a,.int .u64 s] .nil (upR a s)
 short:∀(a:List Nat)(d:Nat),Lim a->0<d->d<4294967296->Z' a<=1000->aH C 140 [aN a,.int .u32 d] .nil (aF (.tup [aN (aM (val a/d)),.int .u32 ((val a%d:Nat):Int)]))
 lengthO:∀(xs:List Nat)(o:Nat),Lim xs->Z' xs<=35184372087808->aH C 138 [.osl o 1 0 xs.length] (h_.set o (.rows 1 (aO xs))) (λr H'=>r=.int .i64 (nl (val xs):Nat)/\H'=h_.set o (.rows 1 (aO xs)))
def aWL:Spec:=λname vs=>match name,vs with
 |143,[x,.int _ s]=>some ([],λ_=>upR (kN x) s.toNat)
 |138,[.osl q _ _ _]=>some ([q],λd r H'=>H'=d/\∀xs,Lim xs->d q=some (.rows 1 (aO xs))->r=.int .i64 (nl (val xs):Nat))
 |_,_=>none
theorem awI(a:List Nat)(s:Nat):aWL 143 [aN a,.int .u64 s]=some ([],λ_=>upR a s):=by
 show some _=_;rw[eX,bmI]
theorem aqT(a:List Nat)(s:Nat):∀G:PH,∃r H',upR a s r H'/\qQ G .nil H':=λG=>by
 obtain⟨o,i⟩:=G.fresh;refine⟨_,_,⟨o,rfl,rfl⟩,λq x d _=>?_⟩;rw[bD]at d;split at d
 ·rename_i e;subst e;exact i
 ·cases d
theorem gl{xs ys:List Nat}(h:aO xs=aO ys):xs=ys:=by
 have:=congrArg kN (show aN xs=aN ys by show PV.sl 1 (aO xs)=PV.sl 1 (aO ys);rw[h])
 rwa[eX,eX]at this
theorem Un(q:Nat)(L:List Nat):(h_.set q (.rows 1 (aO L)))=(h_.set q (.rows 1 (aO L)))/\∀xs,Lim xs->(h_.set q (.rows 1 (aO L))) q=some (.rows 1 (aO xs))->(PV.int .i64 (nl (val L):Nat))=.int .i64 (nl (val xs):Nat):=by
 refine⟨rfl,λxs d e=>?_⟩;rw[cW]at e;have:aO L=aO xs:=(bA.rows.inj (bmH.inj e)).2;rw[gl this]
def xE(A B:Nat):PV:=.tup [aN (aM (A/B)),aN (aM (A%B))]
def aLN(a b:List Nat)(s:Nat):PF:=(((n_.set 0 (aN a)).set 1 (aN b)).set 8 (.int .u64 s))
theorem a7D{x s:Nat}(d:s<=31)(h:x*2^s<4294967296):shift .shl .u32 (x:Int) (s:Int)=some (.int .u32 ((x*2^s:Nat):Int)):=by
 unfold shift;rw[aD Om];simp only;have:min (blS (s:Int)) IntKind.u32.bits=s:=by rw[show IntKind.u32.bits=32 from rfl];omega
 rw[this,show(x:Int)*2^s=((x*2^s:Nat):Int) by simp,dN,bmC h]
theorem asQ{n i x:Nat}(d:(bkM n 0)[i]?=some x):x=0:=by
 have:=bmK d;rw[List.mem_replicate]at this;exact this.2
theorem aLP(H:Z3 C)(A B:Nat)(hB:B≠0)(hA:nl A<=900)(j':nl B<=900) :
  KL.wp C (aX No.res (cI (xE A B))) (g_ [aN (aM A),aN (aM B)]) .nil:=by
 have LA:=aY A;have Z:=aY B;have vA:=aW A;have vB:=aW B;have lA:(aM A).length=nl A:=rfl;have lB:(aM B).length=nl B:=rfl;simp only[go_sem,KL,Gh,Gi,No];refine aB (H.L.cmp _ _ LA Z Om Om) rfl ?_;rw[vA,vB];by_cases c1:A<B
 ·have hc:eR A B<0:=by simp[eR,c1]
  simp only[go_sem,hc,Gj];refine aB (H.L.trim _ LA Om) rfl ?_;rw[vA];simp only[go_sem];refine bG (vs:=[.aK,aN (aM A)]) (.inr rfl) .nil rfl a_ ⟨?_,rfl⟩;rw[xE,boH c1,bmC c1,fJ];refine .tup rfl λj p q hp hq=>?_
  match j with
  |0=>simp at hp hq;subst hp;subst hq;exact .nil 1
  |1=>simp at hp hq;subst hp;subst hq;exact .refl _
  |j+2=>simp at hp
 have hc:¬eR A B<0:=by unfold eR;rw[aD c1];split<;>decide
 have S:0<B:=bnE hB;have m':nl B≠0:=λh=>hB (kV.1 h);simp only[go_sem,hc,Gk];by_cases c2:nl B=1
 ·have δ:B<4294967296:=by have:=(mQ B 1).1 Om;simpa using this
  have Φ:aM B=[B]:=uI hB δ;have Y:A%B<B:=bmG _ S;have ew:u_.wrap ((A%B:Nat):Int)=((A%B:Nat):Int):=bV Om;rw[Φ];have ο:=H.short (aM A) B LA S δ Om;rw[vA]at ο;simp only[go_sem,show(((1:Nat):Int)==1)=true from rfl,Gl];refine aB ο rfl ?_;simp only[go_sem,Gm,ew];refine aB (H.L.make (A%B) Om) rfl ?_;simp only[go_sem];exact bG (vs:=[aN (aM (A/B)),aN (aM (A%B))]) (.inr rfl) .nil rfl a_ ⟨.refl _,rfl⟩
 obtain⟨m,hm⟩:∃m,nl B=m+2:=⟨nl B-2,by omega⟩;have i':nl B<=nl A:=jO Om;obtain⟨bt,w,f'⟩:=apC Z (n:=m+1) (by rw[vB];exact hm);have M:m+1<(aM B).length:=Om;have κ:bt<4294967296:=Z bt (bmK w);have k':B=val ((aM B).take (m+1))+4294967296^(m+1)*bt:=by have l:=dE (aM B) M;rw[bkZ Om,vB]at l;rw[bkT M]at w;rw[bmH.inj w]at l;exact l
 have U:=iW (Z.take (m+1));rw[bkY,bnA Om]at U;have ξ:(aO (aM B))[m+1]?=some [.int .u32 ((bt:Nat):Int)]:=by rw[cK _ M];rw[bkT M]at w;rw[bmH.inj w]
 have i1:i_.wrap ((((aM B).length:Nat):Int)-1)=((m+1:Nat):Int):=by rw[wrap_i64 Om Om];omega
 have μ:¬(((aM B).length:Nat):Int)=1:=Om;simp only[go_sem,bL μ,Gn];refine wp_loop (α:=Nat) (λs=>aLN (aM A) (aM B) s) (λ_=>.nil) (λs=>s<=31/\bt*2^s<4294967296) (λs=>32-s) 0 ⟨by omega,by simpa using κ⟩ ?_ a_ ?_
 ·unfold aLN;exact Lq
 rintro s ⟨hs,Λ⟩;have φ:=a7D hs Λ;simp only[go_sem,Gg,Gp,aLN,i1,ξ,φ];refine aWC ?_ ?_
 ·intro c3;have υ:=of_decide_eq_true c3;have g':s<31:=by
   rcases blI s 31 with h|h
   ·exact h
   ·exfalso;have l:2147483648<=2^s:=bnR (show 0<2 by decide) h;have J:1*2^s<=bt*2^s:=blU _ Om;omega
  have es:u_.wrap ((s:Int)+1)=((s+1:Nat):Int):=by rw[wrap_u64 Om Om];omega
  simp only[go_sem,Gq,es];refine aG (s+1) ⟨by omega,by rw[bmM,<-blL];omega⟩ Om ?_ a_;exact Lq
 intro c3;have υ:=of_decide_eq_false c3;have E:s<32:=Om;have y:0<2^s:=bnK aU;have Q:2147483648*4294967296^(m+1)<=B*2^s:=by
  have l:2147483648*4294967296^(m+1)<=(bt*2^s)*4294967296^(m+1):=blU _ Om;have J:(4294967296^(m+1)*bt)*2^s<=B*2^s:=blU _ Om;have h3:(4294967296^(m+1)*bt)*2^s=(bt*2^s)*4294967296^(m+1):=by rw[blL,blP]
  omega
 have ι:B*2^s<4294967296^(m+2):=by
  have h0:(bt+1)*2^s<=4294967296:=by
   have h':(4294967296:Nat)=2^(32-s)*2^s:=by rw[<-Nat.pow_add,show 32-s+s=32 by omega]
   have:bt<2^(32-s):=by
    rcases blI bt (2^(32-s))with h|h
    ·exact h
    ·have:=blU (2^s) h;omega
   have:=blU (2^s) (show bt+1<=2^(32-s)from this);omega
  have l:B<(bt+1)*4294967296^(m+1):=by rw[blT,Nat.one_mul,blP bt];omega
  have J:B*2^s<(bt+1)*4294967296^(m+1)*2^s:=Nat.mul_lt_mul_of_pos_right l y;have h3:(bt+1)*4294967296^(m+1)*2^s=(bt+1)*2^s*4294967296^(m+1):=Nat.mul_right_comm _ _ _;have h4:(bt+1)*2^s*4294967296^(m+1)<=4294967296*4294967296^(m+1):=blU _ h0;have h5:4294967296^(m+2)=4294967296*4294967296^(m+1):=by rw[bmM,blP]
  omega
 have O:A<4294967296^nl A:=(mQ A _).1 (bkN _);simp only[go_sem];refine bP .nil aWL a_ ?_;simp only[go_sem,qz];have ua:=H.up (aM A) s LA E Om;have ub:=H.up (aM B) s Z E Om;refine awH (awI (aM A) s) ua rfl (aqT _ _) ?_;rintro r H' ⟨o,rfl,rfl⟩ -;rw[PH.qN,lA,vA];refine⟨a_,?_⟩;simp only[go_sem];refine awH (awI (aM B) s) ub rfl (aqT _ _) ?_;rintro r H' ⟨o2,rfl,rfl⟩ Θ;rw[PH.qN,lB,vB,hm];refine⟨a_,?_⟩;have Ξ:=Θ o2 _ (by rw[bD,aI rfl]) (by rfl);have σ:¬o2=o:=(kP.1 Ξ).1;have d':¬o=o2:=λh=>σ h.symm;have k1:((m+2:Nat):Int)<=((m+2+1:Nat):Int):=Om;have k2:i_.wrap (((nl A+1:Nat):Int)-((m+2:Nat):Int))=((nl A+1-(m+2):Nat):Int):=by rw[wrap_i64 Om Om];omega
 obtain⟨d,Ψ⟩:∃d,nl A+1-(m+2)=d:=⟨_,rfl⟩;have Ω:nl A+1=d+(m+2):=Om;rw[Ψ]at k2;have k3:((d:Nat):Int)*((4:Nat):Int)<=140737488355328:=Om;have k4:((d:Nat):Int)<=9223372036854775807:=Om;have hz:bkM d [PV.int .u32 0]=aO (bkM d 0):=by simp[aO]
 have k5:m+2-0=m+2:=Om;simp only[go_sem,lB,hm,k1,k5,q9,re,k2,k3,k4,hz];refine aP λF ν=>?_;have q2:¬F=o2:=(kP.1 ν).1;have q1:¬F=o:=(kP.1 (kP.1 ν).2).1;have τ:¬o2=F:=λh=>q2 h.symm;have e':¬o=F:=λh=>q1 h.symm;have a':fN (m+2+1) (B*2^s)=fN (m+2) (B*2^s)++[B*2^s/4294967296^(m+2)%4294967296]:=EN _ _;have Lv:=sC (m+2) (B*2^s);have lv:=qG (m+2) (B*2^s);have vv:val (fN (m+2) (B*2^s))=B*2^s:=uM ι;have ρ:(aO (fN (m+2+1) (B*2^s))).take (m+2)=aO (fN (m+2) (B*2^s)):=by unfold aO;rw[<-bnO,a',List.take_append_of_le_length Om,bkZ Om]
 generalize p':fN (m+2) (B*2^s)=v at *
 have q':(fN (m+2+1) (B*2^s)).length=m+2+1:=qG _ _;have N:∀i (h:i<Z' v),(aO (fN (m+2+1) (B*2^s)))[i]?=some [.int .u32 ((v[i]:Nat):Int)]:=by intro i h;have l:(aO v)[i]?=some [.int .u32 ((v[i]:Nat):Int)]:=cK v h;rw[<-ρ,List.getElem?_take_of_lt Om]at l;exact l
 have g1:=N (m+1) Om;have g0:=N m Om;have htop:2147483648<=v[m+1]:=by
  have l:=dE v (Om:m+1<Z' v);rw[bkZ Om,vv]at l;have J:=iW (Lv.take (m+1));rw[bkY,bnA Om]at J;rcases blI v[m+1] 2147483648 with h|h
  ·exfalso;have h3:4294967296^(m+1)*(v[m+1]+1)<=4294967296^(m+1)*2147483648:=bnD _ h;rw[blA,Nat.mul_one]at h3;rw[blP 2147483648]at Q;omega
  ·exact h
 have o':=Lv _ (bkK (Om:m+1<Z' v));have n':=Lv _ (bkK (Om:m<Z' v));have w1:u_.wrap ((v[m+1]:Nat):Int)=((v[m+1]:Nat):Int):=bV Om;have w0:u_.wrap ((v[m]:Nat):Int)=((v[m]:Nat):Int):=bV Om;have j1:i_.wrap (((m+2:Nat):Int)-1)=((m+1:Nat):Int):=by rw[wrap_i64 Om Om];omega
 have j0:i_.wrap (((m+2:Nat):Int)-2)=((m:Nat):Int):=by rw[wrap_i64 Om Om];omega
 have d1:((m+1:Nat):Int)<((m+2:Nat):Int):=Om;have d0:((m:Nat):Int)<((m+2:Nat):Int):=Om;have jq:i_.wrap ((d:Int)-1)=(d:Int)-1:=wrap_i64 Om Om;simp only[go_sem];refine bP .nil eJ a_ ?_;simp only[go_sem,rg,j1,j0,d1,d0,τ,g1,g0,w1,w0,rh,jq];have θ:A*2^s<4294967296^(nl A+1):=by
  have h0:2^s<=4294967296:=by have:(2:Nat)^s<=2^32:=bnR aU Om;simpa using this
  have l:A*2^s<4294967296^nl A*2^s:=Nat.mul_lt_mul_of_pos_right O y;have J:4294967296^nl A*2^s<=4294967296^nl A*4294967296:=bnD _ h0;rw[bmM];omega
 have LU:=sC (nl A+1) (A*2^s);have lU:=qG (nl A+1) (A*2^s);have vU:val (fN (nl A+1) (A*2^s))=A*2^s:=uM θ;have hI:uY (A*2^s) (val v) (m+2) (nl A+1) d d (fN (nl A+1) (A*2^s)) (bkM d 0):=by
  refine⟨lU,List.length_replicate,LU,ET _,by rw[vU,zT];omega,?_,λi x _ hx=>asQ hx⟩
  ·rw[DJ LU Om,vU,vv,bnU (bnK aU)];have l:A*2^s<4294967296^nl A*2^s:=Nat.mul_lt_mul_of_pos_right O y;have hx:nl A=m+1+d:=Om;have J:4294967296^nl A=4294967296^(m+1)*4294967296^d:=by rw[hx,Nat.pow_add]
   have h3:2^s<=2147483648:=by have:(2:Nat)^s<=2^31:=bnR aU hs;simpa using this
   have h4:4294967296^nl A*2^s<=(2147483648*4294967296^(m+1))*4294967296^d:=by rw[J,blP (4294967296^(m+1)*4294967296^d),<-blL];exact blU _ (blU _ h3)
   have h5:(2147483648*4294967296^(m+1))*4294967296^d<=B*2^s*4294967296^d:=blU _ Q;omega
 have X:=akO (C:=C) H.D (A*2^s) m (nl A+1) d o o2 F s v (fN (m+2+1) (B*2^s)) σ q1 q2 Lv lv ρ Om htop Ω Om _ hI;simp only[go_sem]at X;refine X _ _ _ ?_ (by simp only[go_sem,d',e']) (by simp only[go_sem,τ]) Sq ?_
 ·unfold dI;exact Lq
 clear X;intro U' u F' e K;have hu:val U'<val v:=by have:=e.r;rwa[blY]at this
 have W:=e.v;rw[vv]at hu W;have Δ:0<B*2^s:=Om;have ω:val u=A/B:=by
  have:A*2^s/(B*2^s)=val u:=by rw[<-W,Nat.add_mul_div_right _ _ Δ,boH hu,blG]
  rw[<-this,Nat.mul_div_mul_right _ _ y]
 have Γ:val U'/2^s=A%B:=by
  have:A*2^s%(B*2^s)=val U':=by rw[<-W,Nat.add_mul_mod_self_right,bmC hu]
  rw[<-this,Nat.mul_mod_mul_right,Nat.mul_div_cancel _ y]
 have g8:=K 8 _ (by unfold dI;simp only[go_sem];rfl);have g9:=K 9 _ (by unfold dI;simp only[go_sem];rfl);have χ:=K 11 _ (by unfold dI;simp only[go_sem];rfl);have ψ:=K 12 _ (by unfold dI;simp only[go_sem];rfl);have rest:=akP (C:=C) o (nl A+1) F d (m+2) s U' u E q1 e.limU e.lu' Om Om;simp only[go_sem]at rest;simp only[go_sem];refine rest _ _ g8 g9 χ ψ ?_;clear rest;intro or F2 H2 r1 r2 ε ζ V;rw[Γ]at V;have b':=ε 12 _ (by unfold rFr;simp only[go_sem];rfl);have c':=ε 19 _ (by unfold rFr;simp only[go_sem];rfl);have η:A%B<4294967296^(m+2):=by have l:A%B<B:=bmG _ S;have J:B<4294967296^nl B:=(mQ B _).1 (bkN _);rw[hm]at J;omega
 have LR:=sC (m+2) (A%B);have lR:=qG (m+2) (A%B);have vR:val (fN (m+2) (A%B))=A%B:=uM η;have nQ:=jF e.limQ;have nR:=jF LR;have e1:=e.lq';generalize l':fN (m+2) (A%B)=R at *
 simp only[go_sem];refine bP .nil aWL a_ ?_;simp only[go_sem,ry,b'];have β:=H.lengthO u F e.limQ Om;rw[e1]at β;have γ:=H.lengthO R or LR Om;rw[lR]at γ;refine vu (o:=F) (x:=.rows 1 (aO u)) (v:=.int .i64 (nl (val u):Nat)) rfl ζ β (Un F u) (λr H' Y=>⟨Y.2 u e.limQ (by rw[cW]),Y.1⟩) rfl a_ ?_;have c4:((nl (val u):Nat):Int)<=(d:Nat):=Om;simp only[go_sem,c4,c',Nat.sub_zero];refine vu (o:=or) (x:=.rows 1 (aO R)) (v:=.int .i64 (nl (val R):Nat)) rfl V γ (Un or R) (λr H' Y=>⟨Y.2 R LR (by rw[cW]),Y.1⟩) rfl a_ ?_;have c5:((nl (val R):Nat):Int)<=((m+2:Nat):Int):=Om;simp only[go_sem,c5];refine aSP (o1:=F) (o2:=or) (s1:=1) (s2:=1) (k1:=nl (val u)) (k2:=nl (val R)) (rs1:=aO u) (rs2:=aO R) (.inr rfl) (λh=>r2 h.symm) rfl rfl ζ V (by rw[cX];exact nQ) (by rw[cX];exact nR) (zD _ _ _ _) rfl ⟨?_,rfl⟩;have t1:(aO u).take (nl (val u))=aO (aM (A/B)):=by have:=mW e.limQ;rw[ω]at this ⊢;exact this
 have t2:(aO R).take (nl (val R))=aO (aM (A%B)):=by have:=mW LR;rw[vR]at this ⊢;exact this
 rw[t1,t2];exact .refl _
def aXK(a b:Nat):PF:=((n_.set 0 (aN (aM a))).set 1 (aN (aM b)))
theorem a6B(L:xX C)(d:∀A B:Nat,B≠0->nl A<=900->nl B<=900->aH C 136 [aN (aM A),aN (aM B)] .nil (aF (xE A B)))(a b:List Nat)(u:Lim a)(hb:Lim b)(E:Z' a<=35184372087808)(F:Z' b<=35184372087808) :
  gh.wp C (aX aZE.res (cI (if fO (val a) (val b)then .tup [aN [],.int .i64 2]else .tup [aN (aM (bkJ (val a) (val b))),.int .i64 0]))) (g_ [aN a,aN b]) .nil:=by
 simp only[go_sem,gh,aBU,aBV,aZE];refine aB (L.large a u E) rfl ?_;by_cases e:nl (val a)>512
 ·simp only[go_sem,e,Np];rw[aI (by simp[fO,e])];exact gT rfl
 simp only[go_sem,e];refine aB (L.large b hb F) rfl ?_;by_cases i:nl (val b)>512
 ·simp only[go_sem,i,Np];rw[aI (by simp[fO,i])];exact gT rfl
 rw[aD (by simp[fO,e,i])];simp only[go_sem,i,aBW];refine aB (L.trim a u E) rfl ?_;simp only[go_sem];refine aB (L.trim b hb F) rfl ?_;simp only[go_sem];refine wp_loop (α:=Nat × Nat) (λt=>aXK t.1 t.2) (λ_=>.nil) (λt=>bkJ t.1 t.2=bkJ (val a) (val b)/\nl t.1<=512/\nl t.2<=512) (λt=>t.2) (val a,val b) ⟨rfl,by simp only;omega,by simp only;omega⟩ ?_ a_ ?_
 ·unfold aXK;exact Lq
 rintro⟨x,y⟩ ⟨p,H,w⟩;simp only at p H w;simp only[go_sem,aBT,aBX,aXK,bE];by_cases l:y=0
 ·subst l;have:¬((nl 0:Nat):Int)>0:=by rw[IT];decide
  simp only[go_sem,this,aCA];refine bG (vs:=[aN (aM x),.int .i64 0]) (.inr rfl) .nil rfl a_ ⟨?_,rfl⟩;rw[<-p,Nat.gcd_zero_right];exact .refl _
 ·have J:nl y≠0:=λh=>l (kV.1 h);have:((nl y:Nat):Int)>0:=Om;simp only[go_sem,this,aBY];refine aB (d x y l Om Om) rfl ?_;simp only[go_sem,xE,aBZ];have hlt:x%y<y:=bmG _ (bnE l);refine aG (y,x%y) ⟨?_,w,?_⟩ hlt ?_ a_
  ·simp only;rw[<-p,Nat.gcd_comm y,<-Nat.gcd_rec y x,Nat.gcd_comm]
  ·have:=jO (Nat.le_of_lt hlt);simp only;omega
  ·exact Lq
def sH(A B:Nat):PV:=if fO A B then .tup [aN [],aN [],.int .i64 2]else if B=0 then .tup [aN [],aN [],.int .i64 3]else .tup [aN (aM (A/B)),aN (aM (A%B)),.int .i64 0]
def aLO:Spec:=λname vs=>match name,vs with
 |138,[x]=>some ([],λ_=>aF (.int .i64 (nl (val (kN x)):Nat)))
 |136,[x,y]=>some ([],λ_=>aF (xE (val (kN x)) (val (kN y))))
 |_,_=>none
theorem ge(xs:List Nat):aLO 138 [aN xs]=some ([],λ_=>aF (.int .i64 (nl (val xs):Nat))):=by
 show some _=_;rw[eX]
theorem akN(A B:Nat):aLO 136 [aN (aM A),aN (aM B)]=some ([],λ_=>aF (xE A B)):=by
 show some _=_;rw[eX,eX,aW,aW]
theorem zG{res:List eC}{F:PF}{H:PH}{e:Int}(h:eC.evs F H res=some [.aK,.aK,.int .i64 e]):aX res (cI (.tup [aN [],aN [],.int .i64 e])) .ret F H:=by
 refine bG (.inr rfl) .nil h a_ ⟨?_,rfl⟩;refine .tup rfl λj p q hp d=>?_
 match j with
 |0=>simp at hp d;subst hp;subst d;exact .nil 1
 |1=>simp at hp d;subst hp;subst d;exact .nil 1
 |2=>simp at hp d;subst hp;subst d;exact .refl _
 |j+3=>simp at hp
theorem a5Y(L:xX C)(i:∀A B:Nat,B≠0->nl A<=900->nl B<=900->aH C 136 [aN (aM A),aN (aM B)] .nil (aF (xE A B)))(a b:List Nat)(p:Lim a)(hb:Lim b)(y:Z' a<=35184372087808)(x:Z' b<=35184372087808) :
  gf.wp C (aX aZD.res (cI (sH (val a) (val b)))) (g_ [aN a,aN b]) .nil:=by
 simp only[go_sem,gf,aBN,aBO,aZD];refine aB (L.large a p y) rfl ?_;by_cases d:nl (val a)>512
 ·simp only[go_sem,d,Nn];rw[show sH (val a) (val b)=.tup [aN [],aN [],.int .i64 2] by simp[sH,fO,d]];exact zG rfl
 simp only[go_sem,d];refine aB (L.large b hb x) rfl ?_;by_cases l:nl (val b)>512
 ·simp only[go_sem,l,Nn];rw[show sH (val a) (val b)=.tup [aN [],aN [],.int .i64 2] by simp[sH,fO,l]];exact zG rfl
 simp only[go_sem,l,aBP];refine aB (L.length b hb x) rfl ?_;by_cases e:val b=0
 ·have:((nl (val b):Nat):Int)=0:=by rw[e,IT];rfl
  simp only[go_sem,bW this,aBQ];rw[show sH (val a) (val b)=.tup [aN [],aN [],.int .i64 3] by simp[sH,fO,d,e,IT]];exact zG rfl
 have E:nl (val b)≠0:=λh=>e (kV.1 h);rw[show sH (val a) (val b)=.tup [aN (aM (val a/val b)),aN (aM (val a%val b)),.int .i64 0] by simp[sH,fO,d,l,e]];simp only[go_sem,bL (show((nl (val b):Nat):Int)≠0 by omega)];refine bP .nil aLO a_ ?_;simp only[go_sem,aBR];have F:=jF p;have H:=jF hb;have u:((nl (val a):Nat):Int)<=(Z' a:Nat):=Om;have w:((nl (val b):Nat):Int)<=(Z' b:Nat):=Om;refine bK (ge a) (L.length a p y) rfl a_ ?_;simp only[go_sem,u,or_true,blY,mW p];refine bK (ge b) (L.length b hb x) rfl a_ ?_;simp only[go_sem,w,or_true,blY,mW hb];refine bK (akN (val a) (val b)) (i _ _ e Om Om) rfl a_ ?_;simp only[go_sem,xE,aBS];exact bG (.inr rfl) .nil rfl a_ ⟨.refl _,rfl⟩
def oR:=bR [] Proofs.Tryz.f101
def Du:=aA oR 0
def Dv:=aA oR 1
def Dw:=aA oR 2
def Dx:=aA oR 3
def Dy:=aA oR 4
def UH:=aA oR 5
def GN:=aA oR 6
def UI:=aA oR 7
def JW:aC:=(sq Du (.seq (sq Dv (sq Dw (.cond (Tm 18) (sq Dx (.region Dy)) .skip))) (dA UH 40 GN (sq UI .ret))))
def CI:bB:=⟨3,53,JW,[.cell 6 (some 3),.tmp 7]⟩
def OM:=bR [] Proofs.Tryz.f67
def Rv:=aA OM 0
def Rw:=aA OM 1
def Rx:=aA OM 2
def OL:aC:=(sq Rv (sq Rw (sq Rx .ret)))
def adU:bB:=⟨2,14,OL,[.tmp 4]⟩
def Ea:=bR [1] Proofs.Tryz.f68
def adW:=aA Ea 0
def adX:=aA Ea 1
def UM:aC:=(sq adW (sq adX .ret))
def aJQ:bB:=⟨1,7,UM,[.tmp 2]⟩
def GO:=bR [] Proofs.Tryz.f54
def adK:=aA GO 0
def adL:=aA GO 1
def adM:=aA GO 2
def adN:=aA GO 3
def UJ:aC:=(sq adK (dA adL 7 adM (sq adN .ret)))
def Y9:bB:=⟨2,21,UJ,[.cell 4 (some 3),.tmp 5]⟩
def MK:=bR [] Proofs.Tryz.f102
def awY:=aA MK 0
def awZ:=aA MK 1
def axA:=aA MK 2
def axB:=aA MK 3
def du:aC:=(sq awY (dA awZ 4 axA (sq axB .ret)))
def aWY:bB:=⟨1,12,du,[.tmp 2]⟩
def OO:=bR [1] Proofs.Tryz.f65
def Ry:=aA OO 0
def Rz:=aA OO 1
def ML:=aA OO 2
def ON:aC:=(sq Ry (sq Rz (sq ML .ret)))
def adV:bB:=⟨1,19,ON,[.tmp 2]⟩
def AL:=bR [1] Proofs.Tryz.f99
def D1:=aA AL 0
def D2:=aA AL 1
def D3:=aA AL 2
def D4:=aA AL 3
def JX:aC:=(sq D1 (dA D2 6 D3 (sq D4 .ret)))
def me:bB:=⟨1,17,JX,[.cell 2 (some 3),.tmp 3]⟩
def nO:=bR [2,3] Proofs.Tryz.f30
def axL:=aA nO 0
def axM:=aA nO 1
def Mp:=aA nO 2
def axN:=cN nO 0
def axO:=cN nO 1
def IG:=aA nO 3
def Mq:=aA nO 4
def RV:=aA nO 5
def Mr:=aA nO 6
def mb:=aA nO 7
def vz:=aA nO 8
def v6:=aA nO 9
def dx:aC:=(sq axL (dA axM 16 Mp (dq axN (dq axO (.seq (.block 0 (sq IG (.cond (Tm 42) (sq Mq .ret) (sq RV (.cond (Tm 49) (sq Mr .ret) (sq mb (.cond (Tm 51) (sq vz .ret) .skip))))))) (sq v6 .ret))))))
def aWZ:bB:=⟨2,54,dx,[.tmp 4,.tmp 5]⟩
def nN:=bR [2,3] Proofs.Tryz.f56
def axC:=aA nN 0
def axD:=aA nN 1
def Mo:=aA nN 2
def axE:=cN nN 0
def axF:=aA nN 3
def axG:=aA nN 4
def axH:=aA nN 5
def axI:=aA nN 6
def axJ:=aA nN 7
def axK:=aA nN 8
def adC:=aA nN 9
def adD:=aA nN 10
def dw:aC:=(sq axC (dA axD 22 Mo (dq axE (hL axF 43 (sq axG (sq axH .ret)) (hL axI 60 (sq axJ (sq axK .ret)) (sq adC (sq adD .ret)))))))
def Mn:bB:=⟨2,87,dw,[.cell 4 (some 3),.tmp 5]⟩
def oS:=bR [] Proofs.Tryz.f94
def ayA:=aA oS 0
def ayB:=aA oS 1
def ayC:=aA oS 2
def ayD:=aA oS 3
def ayE:=aA oS 4
def ayF:=aA oS 5
def Mv:=aA oS 6
def ayG:=aA oS 7
def ayH:=aA oS 8
def ayI:=aA oS 9
def adT:aC:=(fP ayD 14 0 ayI (sq ayE (sq ayF (dA Mv 24 ayG (.region ayH)))))
def wa:=aA oS 10
def d9:aC:=(sq ayA (sq ayB (.seq (cD ayC 0 adT) (sq wa .ret))))
def adS:bB:=⟨1,30,d9,[.cell 2 (some 3),.tmp 3]⟩
theorem CoL.nil:CoL [] []:=.refl _
theorem CoL.cons{p q:PV}{ps i:List PV}(h:Co p q)(e:CoL ps i):CoL (p::ps) (q::i):=
 ⟨by simp[e.len],λj a b d hb=>by
  cases j with
  |zero=>simp at d hb;subst d;subst hb;exact h
  |succ j=>exact e.at_ j a b (by simpa using d) (by simpa using hb)⟩
theorem CoL.agg{ps d:List PV}(h:CoL ps d):Co (.agg ps) (.agg d):=.agg h.len h.at_
theorem CoL.tup{ps d:List PV}(h:CoL ps d):Co (.tup ps) (.tup d):=.tup h.len h.at_
structure zZ(C:Ctx):Prop extends xX C where
 bits:∀xs,Lim xs->Z' xs<=35184372087808->aH C 128 [aN xs] .nil (aF (.int .i64 (dC (val xs):Nat)))
 add:∀xs ys,Lim xs->Lim ys->Z' xs<=35184372087808->Z' ys<=35184372087808->aH C 127 [aN xs,aN ys] .nil (aF (opV (fO (val xs) (val ys)) (val xs+val ys)))
 sub:∀xs ys,Lim xs->Lim ys->Z' xs<=35184372087808->Z' ys<=35184372087808->aH C 134 [aN xs,aN ys] .nil (aF (yU (val xs) (val ys)))
 mul:∀xs ys,Lim xs->Lim ys->Z' xs<=35184372087808->Z' ys<=35184372087808->aH C 133 [aN xs,aN ys] .nil (aF (opV (fO (val xs) (val ys)) (val xs*val ys)))
 gcd:∀xs ys,Lim xs->Lim ys->Z' xs<=35184372087808->Z' ys<=35184372087808->aH C 131 [aN xs,aN ys] .nil (aF (if fO (val xs) (val ys)then .tup [aN [],.int .i64 2]else .tup [aN (aM (bkJ (val xs) (val ys))),.int .i64 0]))
 div:∀xs ys,Lim xs->Lim ys->Z' xs<=35184372087808->Z' ys<=35184372087808->aH C 130 [aN xs,aN ys] .nil (aF (sH (val xs) (val ys)))
theorem lZ{a b:Nat}(d:nl a<=512)(hb:nl b<=512):fO a b=false:=by
 simp[fO];omega
theorem kZ{a b m n:Nat}(d:nl a<=m)(hb:nl b<=n):nl (a*b)<=m+n:=by
 rw[mQ]at d hb ⊢;rw[Nat.pow_add];by_cases h:b=0
 ·subst h;exact Nat.mul_pos (bnK aU) (bnK aU)
 ·calc a*b<4294967296^m*b:=Nat.mul_lt_mul_of_pos_right d (bnE h)
   _<=4294967296^m*4294967296^n:=bnD _ (Nat.le_of_lt hb)
theorem LD{n:Nat}(h:nl n<=512):szV n=.tup [aN (aM n),.int .i64 0]:=by
 have:¬nl n>512:=Om;simp[szV,szL,szE,this]
theorem aQF(L:zZ C)(a b:List Nat)(d:Lim a)(hb:Lim b)(e:Z' a<=35184372087808)(i:Z' b<=35184372087808)(l:nl (val a)<=256)(p:nl (val b)<=256) :
  OL.wp C (aX adU.res (aF (aN (aM (val a*val b))))) (g_ [aN a,aN b]) .nil:=by
 simp only[go_sem,OL,Rv,Rw,adU];refine aB (L.mul a b d hb e i) rfl ?_;have:=kZ l p;rw[lZ Om Om,opV,LD Om];simp only[go_sem,Rx];refine aT (.inr rfl) rfl ?_;rfl
abbrev fC(neg:Bool)(a b:List Nat):List PV:=[.bool neg,aN a,aN b]
theorem aXG(L:zZ C)(neg:Bool)(a b:List Nat)(d:Lim a)(e:Z' a<=35184372087808) :
  UM.wp C (aX aJQ.res (aF (.bool (decide (val a=0))))) (g_ [.agg (fC neg a b)]) .nil:=by
 simp only[go_sem,UM,adW,adX,aJQ];refine aB (L.bits a d e) rfl ?_;simp only[go_sem];refine aT (.inr rfl) rfl ?_;have:=@oN (val a);by_cases c:val a=0
 ·rw[bW Om,aV c];rfl
 ·rw[bL Om,bC c];rfl
def cB(a b:Nat):Bool:=decide (0<dC b)&&decide (dC b<=4096)&&decide (dC a<=4096)
theorem aQG(L:zZ C)(neg:Bool)(a b:List Nat)(p:Lim a)(hb:Lim b)(u:Z' a<=35184372087808)(w:Z' b<=35184372087808) :
  ON.wp C (aX adV.res (aF (.bool (cB (val a) (val b))))) (g_ [.agg (fC neg a b)]) .nil:=by
 simp only[go_sem,ON,Ry,Rz,adV];refine aB (L.bits b hb w) rfl ?_;by_cases i:0<dC (val b)
 ·have d:((dC (val b):Nat):Int)>0:=Om;by_cases l:dC (val b)<=4096
  ·have e:((dC (val b):Nat):Int)<=4096:=Om;simp only[go_sem,ML,d,e];refine aB (L.bits a p u) rfl ?_;simp only[go_sem];refine aT (.inr rfl) rfl ?_;show PV.bool (decide _)=_;rw[cB,aV i,aV l,bkR,bkR];congr 1;rw[decide_eq_decide];omega
  ·have e:¬((dC (val b):Nat):Int)<=4096:=Om;simp only[go_sem,ML,d,e];refine aT (.inr rfl) rfl ?_;show PV.bool _=_;simp[cB,i,l]
 ·have d:¬((dC (val b):Nat):Int)>0:=Om;simp only[go_sem,ML,d];refine aT (.inr rfl) rfl ?_;show PV.bool _=_;simp[cB,i]
theorem a4A(L:zZ C)(v:Int)(d:-9223372036854775808<=v)(i:v<=9223372036854775807) :
  du.wp C (aX aWY.res (aF (aN (aM v.natAbs)))) (g_ [.int .i64 v]) .nil:=by
 simp only[go_sem,du,awY,awZ,aWY];by_cases c:v<0
 ·have e:u_.wrap (0-u_.wrap v)=(v.natAbs:Int):=by rw[kC,kC];omega
  simp only[go_sem,c,axA,e];refine aB (L.make v.natAbs Om) rfl ?_;simp only[go_sem];refine aT (.inr rfl) rfl ?_;rfl
 ·have e:u_.wrap v=(v.natAbs:Int):=by rw[kC];omega
  simp only[go_sem,c,axB,e];refine aB (L.make v.natAbs Om) rfl ?_;simp only[go_sem];refine aT (.inr rfl) rfl ?_;rfl
abbrev GP(e:Int):PV:=.tup [.agg (fC false [] []),.int .i64 e]
abbrev aJO(neg:Bool)(a b:Nat):PV:=.tup [.agg (fC neg (aM a) (aM b)),.int .i64 0]
def CR(neg:Bool)(a b:Nat):PV:=
 if dC (a/bkJ a b)>4096\/dC (b/bkJ a b)>4096 then GP 2 else aJO (neg&&decide (a/bkJ a b≠0)) (a/bkJ a b) (b/bkJ a b)
theorem gS{res:List eC}{F:PF}{H:PH}{e:Int}(h:eC.evs F H res=some [.agg [.bool false,.aK,.aK],.int .i64 e]):aX res (cI (GP e)) .ret F H:=
 bG (.inr rfl) .nil h a_ ⟨CoL.tup (.cons (CoL.agg (.cons (.refl _) (.cons (.nil 1) (.cons (.nil 1) .nil)))) (.cons (.refl _) .nil)),rfl⟩
theorem aaL{n:Nat}:dC n>1↔n>1:=by
 have:=rC n 1;omega
theorem xQ{a n:Nat}(g:Nat)(h:nl a<=n):nl (a/g)<=n:=blH (jO (bnQ _ _)) h
theorem d3(L:zZ C)(neg:Bool)(a b:List Nat)(p:Lim a)(hb:Lim b)(u:Z' a<=35184372087808)(w:Z' b<=35184372087808)(o:Nat)(F:PF)(H:PH)
  (f0:F 0=some (.bool neg)) (f1:F 1=some (aN a)) (f2:F 2=some (aN b)) (f6:F 6=some (.ptr o 3 0 0)) (f7:F 7=some (.int .i64 0)) (d:H o=some (.rows 3 [[.bool false,.aK,.aK]])) :
  aC.wp C (.seq (.seq (.region UH) (.cond (.tmp 40) (.seq (.region GN) .ret) .skip)) (.seq (.region UI) .ret)) (aX CI.res (cI (if dC (val a)>4096\/dC (val b)>4096 then GP 2 else aJO (neg&&decide (val a≠0)) (val a) (val b)))) F H:=by
 have fin:∀(r:List (List PV)) F H,F 6=some (.ptr o 3 0 0)->F 7=some (.int .i64 2)->H o=some (.rows 3 [[.bool false,.aK,.aK]])->aX CI.res (cI (GP 2)) .ret F H:=by intro r F H A h7 h;refine gS ?_;simp only[go_sem,CI,A,h7,h]
 simp only[go_sem,UH,f1];refine aB (L.bits a p u) rfl ?_;by_cases x:dC (val a)>4096
 ·have i:((dC (val a):Nat):Int)>4096:=Om;rw[aI (.inl x)];simp only[go_sem,i,GN,f6,d];exact fin [] _ _ (by simp only[go_sem,f6]) rfl Sq
 ·have i:¬((dC (val a):Nat):Int)>4096:=Om;simp only[go_sem,i,f2];refine aB (L.bits b hb w) rfl ?_;by_cases y:dC (val b)>4096
  ·have l:((dC (val b):Nat):Int)>4096:=Om;rw[aI (.inr y)];simp only[go_sem,l,GN,f6,d];exact fin [] _ _ (by simp only[go_sem,f6]) rfl Sq
  ·have l:¬((dC (val b):Nat):Int)>4096:=Om;rw[aD Om];have last:∀F:PF,F 1=some (aN a)->F 2=some (aN b)->F 6=some (.ptr o 3 0 0)->∀(q:Bool),q=(neg&&decide (val a≠0))->F 47=some (.bool q) ->
     True:=λ_ _ _ _ _ _ _=>trivial
   simp only[go_sem,l,UI,f0,f1,f2,f6,d];cases neg with
   |false =>simp only[go_sem,f0,f1,f2,f6,d];refine aB (L.trim a p u) rfl ?_;simp only[go_sem,f0,f1,f2,f6,d];refine aB (L.trim b hb w) rfl ?_;simp only[go_sem,f0,f1,f2,f6,d,bkP];refine bG (.inr rfl) .nil (vs:=[.agg (fC false (aM (val a)) (aM (val b))),.int .i64 0]) ?_ a_ ⟨.refl _,rfl⟩;simp only[go_sem,CI,f6,d]
   |true=>
    simp only[go_sem,f0,f1,f2,f6,d];refine aB (L.bits a p u) rfl ?_;have e:decide (((dC (val a):Nat):Int)>0)=decide (val a≠0):=by have:=@oN (val a);rw[decide_eq_decide];omega
    simp only[go_sem,f0,f1,f2,f6,d,e];refine aB (L.trim a p u) rfl ?_;simp only[go_sem,f0,f1,f2,f6,d];refine aB (L.trim b hb w) rfl ?_;simp only[go_sem,f0,f1,f2,f6,d,bkR];refine bG (.inr rfl) .nil (vs:=[.agg (fC (decide (val a≠0)) (aM (val a)) (aM (val b))),.int .i64 0]) ?_ a_ ⟨.refl _,rfl⟩;simp only[go_sem,CI,f6,d]
theorem aJL(L:zZ C)(neg:Bool)(a b:List Nat)(u:Lim a)(hb:Lim b)(w:Z' a<=35184372087808)(x:Z' b<=35184372087808)(y:nl (val a)<=512)(l:nl (val b)<=512)(A:val b≠0) :
  JW.wp C (aX CI.res (cI (CR neg (val a) (val b)))) (g_ [.bool neg,aN a,aN b]) .nil:=by
 simp only[go_sem,JW,Du,Dv];refine aP λo E=>?_;simp only[go_sem];refine aB (L.gcd a b u hb w x) rfl ?_;rw[lZ y l];simp only[go_sem,Dw];have e:bkJ (val a) (val b)≠0:=by intro h;exact A (Nat.gcd_eq_zero_iff.1 h).2
 have i:nl (bkJ (val a) (val b))<=512:=blH (jO (Nat.gcd_le_right _ (bnE A))) l;have d:(aM (bkJ (val a) (val b))).length<=35184372087808:=by rw[bE];omega
 refine aB (L.bits _ (aY _) d) rfl ?_;rw[aW];by_cases c:bkJ (val a) (val b)>1
 ·have p:((dC (bkJ (val a) (val b)):Nat):Int)>1:=by have:=aaL.2 c;omega
  simp only[go_sem,p,Dx];refine aB (L.div a _ u (aY _) w d) rfl ?_;rw[aW,sH,lZ y i,aD aU,aD e];simp only[go_sem,Dy];refine aB (L.div b _ hb (aY _) x d) rfl ?_;rw[aW,sH,lZ l i,aD aU,aD e];simp only[go_sem];have:=d3 L neg (aM (val a/bkJ (val a) (val b))) (aM (val b/bkJ (val a) (val b))) (aY _) (aY _) (by rw[bE];have:=xQ (bkJ (val a) (val b)) y;omega) (by rw[bE];have:=xQ (bkJ (val a) (val b)) l;omega) o;rw[aW,aW]at this;have:=λF H=>this F H;simp only[aC.wp,go_sem]at this;exact this _ _ rfl rfl rfl rfl rfl Sq
 ·have p:¬((dC (bkJ (val a) (val b)):Nat):Int)>1:=by have:=(@aaL (bkJ (val a) (val b)));omega
  have B:bkJ (val a) (val b)=1:=Om;simp only[go_sem,p];rw[CR,B,Nat.div_one,Nat.div_one];have:=d3 L neg a b u hb w x o;simp only[aC.wp,go_sem]at this;exact this _ _ rfl rfl rfl rfl rfl Sq
structure LS(C:Ctx):Prop extends zZ C where
 times:∀a b,Lim a->Lim b->Z' a<=35184372087808->Z' b<=35184372087808->nl (val a)<=256->nl (val b)<=256->aH C 121 [aN a,aN b] .nil (aF (aN (aM (val a*val b))))
 zero:∀neg a b,Lim a->Z' a<=35184372087808->aH C 122 [.agg (fC neg a b)] .nil (aF (.bool (decide (val a=0))))
 valid:∀neg a b,Lim a->Lim b->Z' a<=35184372087808->Z' b<=35184372087808->aH C 118 [.agg (fC neg a b)] .nil (aF (.bool (cB (val a) (val b))))
 abs:∀v:Int,-9223372036854775808<=v->v<=9223372036854775807->aH C 119 [.int .i64 v] .nil (aF (aN (aM v.natAbs)))
 lowest:∀neg a b,Lim a->Lim b->Z' a<=35184372087808->Z' b<=35184372087808->nl (val a)<=512->nl (val b)<=512->val b≠0->aH C 120 [.bool neg,aN a,aN b] .nil (aF (CR neg (val a) (val b)))
def MV(n d:Int):PV:=if d=0 then GP 3 else CR (decide (n<0) != decide (d<0)) n.natAbs d.natAbs
theorem lE{n k:Nat}(h:n<4294967296^k):nl n<=k:=(mQ _ _).2 h
theorem xh(neg:Bool)(a b:Nat):∃d x y e,CR neg a b=.tup [.agg (fC d x y),.int .i64 e]:=by
 unfold CR;split
 ·exact⟨_,_,_,_,rfl⟩
 ·exact⟨_,_,_,_,rfl⟩
theorem aXC(L:LS C)(n d:Int)(l:-9223372036854775808<=n)(p:n<=9223372036854775807)(u:-9223372036854775808<=d)(w:d<=9223372036854775807) :
  UJ.wp C (aX Y9.res (cI (MV n d))) (g_ [.int .i64 n,.int .i64 d]) .nil:=by
 simp only[go_sem,UJ,adK,adL];refine aP λo B=>?_;unfold MV;by_cases c:d=0
 ·subst c;simp only[go_sem,adM];refine gS ?_;simp only[go_sem,Y9]
 ·rw[aD c];simp only[go_sem,bL c,adN];refine aB (L.abs n l p) rfl ?_;simp only[go_sem];refine aB (L.abs d u w) rfl ?_;simp only[go_sem];have E:nl n.natAbs<=2:=lE Om;have F:nl d.natAbs<=2:=lE Om;have low:=L.lowest (decide (n<0) != decide (d<0)) (aM n.natAbs) (aM d.natAbs) (aY _) (aY _) (by rw[bE];omega) (by rw[bE];omega);rw[aW,aW]at low;have low:=low Om Om Om;refine aB low rfl ?_;obtain⟨i,x,y,e,A⟩:=xh (decide (n<0) != decide (d<0)) n.natAbs d.natAbs;rw[A];simp only[go_sem];exact bG (.inr rfl) .nil (vs:=[.agg (fC i x y),.int .i64 e]) (by simp only[go_sem,Y9]) a_ ⟨.refl _,rfl⟩
theorem eK{a b:Nat}:cB a b=true↔b≠0/\nl b<=128/\nl a<=128:=by
 have d:=kJ b 128;have e:=kJ a 128;have i:=@oN b;simp only[cB,bkI,dT_];omega
def nb(neg:Bool)(a b:Nat):PV:=if cB a b then CR neg a b else GP 1
theorem aJN(L:LS C)(neg:Bool)(a b:List Nat)(i:Lim a)(hb:Lim b)(l:Z' a<=35184372087808)(p:Z' b<=35184372087808) :
  JX.wp C (aX me.res (cI (nb neg (val a) (val b)))) (g_ [.agg (fC neg a b)]) .nil:=by
 simp only[go_sem,JX,D1,D2];refine aP λo B=>?_;simp only[go_sem];refine aB (L.valid neg a b i hb l p) rfl ?_;unfold nb;cases w:cB (val a) (val b)with
 |false =>simp only[go_sem,D3,bkW];refine gS ?_;simp only[go_sem,me]
 |true =>obtain⟨A,E,F⟩:=eK.1 w;simp only[go_sem,D4,bkO];refine aB (L.lowest neg a b i hb l p Om Om A) rfl ?_;obtain⟨d,x,y,e,u⟩:=xh neg (val a) (val b);rw[u];simp only[go_sem];exact bG (.inr rfl) .nil (vs:=[.agg (fC d x y),.int .i64 e]) (by simp only[go_sem,me]) a_ ⟨.refl _,rfl⟩
def sW(d:Bool)(a1 b1:Nat)(e:Bool)(a2 b2:Nat):Int:=
 match d&&decide (a1≠0),e&&decide (a2≠0)with
 |true,true=>- eR (a1*b2) (a2*b1)
 |true,false=>-1
 |false,true=>1
 |false,false=>eR (a1*b2) (a2*b1)
def wJ(d:Bool)(a1 b1:Nat)(e:Bool)(a2 b2:Nat):PV:=
 if cB a1 b1&&cB a2 b2 then .tup [.int .i64 (sW d a1 b1 e a2 b2),.int .i64 0]else .tup [.int .i64 0,.int .i64 1]
def fr1:PV->List Nat
 | .agg [_,a,_]=>kN a
 |_=>[]
def frS:Spec:=λname vs=>match name,vs with
 |121,[x,y]=>some ([],λ_=>aF (aN (aM (val (kN x)*val (kN y)))))
 |129,[x,y]=>some ([],λ_=>aF (.int .i64 (eR (val (kN x)) (val (kN y)))))
 |122,[x]=>some ([],λ_=>aF (.bool (decide (val (fr1 x)=0))))
 |_,_=>none
theorem EQ(a b:List Nat):frS 121 [aN a,aN b]=some ([],λ_=>aF (aN (aM (val a*val b)))):=by
 show some _=_;rw[eX,eX]
theorem a4G(a b:List Nat):frS 129 [aN a,aN b]=some ([],λ_=>aF (.int .i64 (eR (val a) (val b)))):=by
 show some _=_;rw[eX,eX]
theorem v7(neg:Bool)(a b:List Nat):frS 122 [.agg (fC neg a b)]=some ([],λ_=>aF (.bool (decide (val a=0)))):=by
 show some _=_;rw[fr1,eX]
theorem aVZ(a b:Nat):i_.wrap (0-eR a b)=- eR a b:=by
 unfold eR;split
 ·rfl
 ·split<;>rfl
theorem a4C(L:LS C)(u p:Bool)(a1 b1 a2 b2:List Nat)(i:Lim a1)(w:Lim b1)(d:Lim a2)(x:Lim b2)
  (l:Z' a1<=35184372087808) (y:Z' b1<=35184372087808) (e:Z' a2<=35184372087808) (E:Z' b2<=35184372087808) :
  dx.wp C (aX aWZ.res (cI (wJ u (val a1) (val b1) p (val a2) (val b2)))) (g_ [.agg (fC u a1 b1),.agg (fC p a2 b2)]) .nil:=by
 simp only[go_sem,dx,axL,axM];refine aB (L.valid u a1 b1 i w l y) rfl ?_;unfold wJ;cases O:cB (val a1) (val b1)with
 |false =>simp only[go_sem,bkW,Mp,bkP];exact bG (.inr rfl) .nil (vs:=[.int .i64 0,.int .i64 1]) rfl a_ ⟨.refl _,rfl⟩
 |true=>
  obtain⟨Z,R,S⟩:=eK.1 O;simp only[go_sem,bkO];refine aB (L.valid p a2 b2 d x e E) rfl ?_;cases Q:cB (val a2) (val b2)with
  |false =>simp only[go_sem,bkW,Mp,blR];exact bG (.inr rfl) .nil (vs:=[.int .i64 0,.int .i64 1]) rfl a_ ⟨.refl _,rfl⟩
  |true=>
   obtain⟨w1,U,V⟩:=eK.1 Q;simp only[go_sem,bkO,bmO];refine bP .nil frS a_ ?_;simp only[go_sem,axN];refine bK (EQ a1 b2) (L.times a1 b2 i x l E Om Om) rfl a_ ?_;simp only[go_sem];refine bK (EQ a2 b1) (L.times a2 b1 d w e y Om Om) rfl a_ ?_;simp only[go_sem];have X:=kZ S U;have Y:=kZ V R;have J:=L.cmp (aM (val a1*val b2)) (aM (val a2*val b1)) (aY _) (aY _) (by rw[bE];omega) (by rw[bE];omega);have K:=a4G (aM (val a1*val b2)) (aM (val a2*val b1));rw[aW,aW]at J K;refine bK K J rfl a_ ?_;simp only[go_sem];refine bP .nil frS a_ ?_;have W:(!decide (val a1=0))=decide (val a1≠0):=by by_cases h:val a1=0<;>simp[h]
   have M:(!decide (val a2=0))=decide (val a2≠0):=by by_cases h:val a2=0<;>simp[h]
   have fin:∀(F:PF)(A B:Bool),F 6=some (.int .i64 (eR (val a1*val b2) (val a2*val b1)))->F 7=some (.bool A)->F 8=some (.bool B)->A=(u&&decide (val a1≠0))->B=(p&&decide (val a2≠0)) ->
     aC.wp C (.seq (.block 0 (.seq (.region IG) (.cond (.tmp 42) (.seq (.region Mq) .ret) (.seq (.region RV) (.cond (.tmp 49) (.seq (.region Mr) .ret) (.seq (.region mb) (.cond (.tmp 51) (.seq (.region vz) .ret) .skip))))))) (.seq (.region v6) .ret)) (aX aWZ.res (cI (.tup [.int .i64 (sW u (val a1) (val b1) p (val a2) (val b2)),.int .i64 0]))) F .nil:=by
    intro F A B f6 f7 H N hB;rw[sW,<-N,<-hB];cases A<;>cases B
    ·simp only[go_sem,IG,RV,mb,v6,f6,f7,H];exact bG (.inr rfl) .nil rfl a_ ⟨.refl _,rfl⟩
    ·simp only[go_sem,IG,RV,mb,vz,f6,f7,H];exact bG (.inr rfl) .nil rfl a_ ⟨.refl _,rfl⟩
    ·simp only[go_sem,IG,RV,Mr,f6,f7,H];exact bG (.inr rfl) .nil rfl a_ ⟨.refl _,rfl⟩
    ·simp only[go_sem,IG,Mq,f6,f7,H,aVZ];exact bG (.inr rfl) .nil rfl a_ ⟨.refl _,rfl⟩
   simp only[aC.wp,go_sem]at fin;simp only[go_sem,axO];cases u with
   |false=>
    simp only[go_sem];cases p with
    |false =>simp only[go_sem];exact fin _ false false rfl rfl rfl rfl rfl
    |true =>simp only[go_sem];refine bK (v7 true a2 b2) (L.zero true a2 b2 d e) rfl a_ ?_;simp only[go_sem,M];exact fin _ false (decide (val a2≠0)) rfl rfl rfl rfl (by rw[bkR])
   |true=>
    simp only[go_sem];refine bK (v7 true a1 b1) (L.zero true a1 b1 i l) rfl a_ ?_;simp only[go_sem,W];cases p with
    |false =>simp only[go_sem];exact fin _ (decide (val a1≠0)) false rfl rfl rfl (by rw[bkR]) rfl
    |true =>simp only[go_sem];refine bK (v7 true a2 b2) (L.zero true a2 b2 d e) rfl a_ ?_;simp only[go_sem,M];exact fin _ (decide (val a1≠0)) (decide (val a2≠0)) rfl rfl rfl (by rw[bkR]) (by rw[bkR])
abbrev FV:=Bool × Nat × Nat
abbrev FR:=Except Int FV
def kB(neg:Bool)(a b:Nat):FR:=
 if dC (a/bkJ a b)>4096\/dC (b/bkJ a b)>4096 then .error 2 else .ok (neg&&decide (a/bkJ a b≠0),a/bkJ a b,b/bkJ a b)
def frV:FR->PV
 | .ok (n,a,b)=>aJO n a b
 | .error e=>GP e
theorem SB(neg:Bool)(a b:Nat):CR neg a b=frV (kB neg a b):=by
 unfold CR kB;split<;>rfl
def gJ:FV->FV->FR
 |(d,a1,b1),(e,a2,b2)=>if cB a1 b1&&cB a2 b2 then
   (if d=e then kB d (a1*b2+a2*b1) (b1*b2)else if a2*b1<=a1*b2 then kB d (a1*b2-a2*b1) (b1*b2)else kB e (a2*b1-a1*b2) (b1*b2))
  else .error 1
theorem Gr{a b m:Nat}(d:nl a<=m)(hb:nl b<=m):nl (a+b)<=m+1:=by
 rw[mQ]at d hb ⊢;rw[bmM];omega
theorem l6(a b:Nat):(eR a b>=0)↔b<=a:=by
 unfold eR;split
 ·constructor
  ·intro h;exact absurd h aU
  ·intro h;omega
 ·split
  ·constructor
   ·intro h;omega
   ·intro h;decide
  ·constructor
   ·intro h;omega
   ·intro h;decide
theorem zC(r:FR):∃d x y e,frV r=.tup [.agg (fC d x y),.int .i64 e]:=by
 rcases r with e|⟨n,a,b⟩
 ·exact⟨_,_,_,_,rfl⟩
 ·exact⟨_,_,_,_,rfl⟩
theorem a4B(L:LS C)(i p:Bool)(a1 b1 a2 b2:List Nat)(N:Lim a1)(E:Lim b1)(O:Lim a2)(J:Lim b2)
  (Q:Z' a1<=35184372087808) (K:Z' b1<=35184372087808) (R:Z' a2<=35184372087808) (M:Z' b2<=35184372087808) :
  dw.wp C (aX Mn.res (cI (frV (gJ (i,val a1,val b1) (p,val a2,val b2))))) (g_ [.agg (fC i a1 b1),.agg (fC p a2 b2)]) .nil:=by
 simp only[go_sem,dw,axC];refine aP λo ho=>?_;simp only[go_sem,axD];refine aB (L.valid i a1 b1 N E Q K) rfl ?_;simp only[gJ];cases hv:cB (val a1) (val b1)with
 |false =>simp only[go_sem,bkW,Mo,bkP];refine gS ?_;simp only[go_sem,Mn]
 |true=>
  obtain⟨v1,v2,v3⟩:=eK.1 hv;simp only[go_sem,bkO];refine aB (L.valid p a2 b2 O J R M) rfl ?_;cases hw:cB (val a2) (val b2)with
  |false =>simp only[go_sem,bkW,Mo,blR];refine gS ?_;simp only[go_sem,Mn]
  |true=>
   obtain⟨w1,w2,w3⟩:=eK.1 hw;simp only[go_sem,bkO,bmO];refine bP .nil frS a_ ?_;simp only[go_sem,axE];refine bK (EQ a1 b2) (L.times a1 b2 N J Q M Om Om) rfl a_ ?_;simp only[go_sem];refine bK (EQ a2 b1) (L.times a2 b1 O E R K Om Om) rfl a_ ?_;simp only[go_sem];refine bK (EQ b1 b2) (L.times b1 b2 E J K M Om Om) rfl a_ ?_;simp only[go_sem];have m1:=kZ v3 w2;have m2:=kZ w3 v2;have m3:=kZ v2 w2;have d0:val b1*val b2≠0:=Nat.mul_ne_zero v1 w1;generalize hA:val a1*val b2=A at *
   generalize hB:val a2*val b1=B at *
   generalize hD:val b1*val b2=D at *
   have fin:∀(F:PF)(H:PH)(r:FR),(∃d x y e,frV r=.tup [.agg (fC d x y),.int .i64 e]/\F 4=some (.ptr o 3 0 0)/\F 5=some (.int .i64 e)/\H o=some (.rows 3 [fC d x y]))->aX Mn.res (cI (frV r)) .ret F H:=by rintro F H r ⟨d,x,y,e,he,f4,f5,hH⟩;rw[he];exact bG (.inr rfl) .nil (vs:=[.agg (fC d x y),.int .i64 e]) (by simp only[go_sem,Mn,f4,f5,hH]) a_ ⟨.refl _,rfl⟩
   have V:(i==p)=decide (i=p):=by cases i<;>cases p<;>rfl
   have low:∀neg x,nl x<=257->aH C 120 [.bool neg,aN (aM x),aN (aM D)] .nil (aF (frV (kB neg x D))):=by
    intro neg x hx;have W:(aM x).length<=35184372087808:=by rw[bE];omega
    have Z:(aM D).length<=35184372087808:=by rw[bE];omega
    have:=L.lowest neg (aM x) (aM D) (aY _) (aY _) W Z;rw[aW,aW,SB]at this;exact this Om Om d0
   have lA:(aM A).length<=35184372087808:=by rw[bE];omega
   have lB:(aM B).length<=35184372087808:=by rw[bE];omega
   simp only[go_sem,axF];by_cases c:i=p
   ·rw[aI c];have S:(i==p)=true:=by rw[V,aV c]
    simp only[go_sem,S,axG];have u:=L.add (aM A) (aM B) (aY _) (aY _) lA lB;have α:=Gr m1 m2;rw[aW,aW,lZ Om Om,opV,LD Om]at u;refine aB u rfl ?_;simp only[go_sem,axH];refine aB (low i _ Om) rfl ?_;obtain⟨d,x,y,e,l⟩:=zC (kB i (A+B) D);rw[l];simp only[go_sem];rw[<-l];exact fin _ _ _ ⟨d,x,y,e,l,s_,s_,s_⟩
   ·rw[aD c];have S:(i==p)=false:=by rw[V,bC c]
    simp only[go_sem,S,axI];have hc:=L.cmp (aM A) (aM B) (aY _) (aY _) lA lB;rw[aW,aW]at hc;refine aB hc rfl ?_;have w:∀X Y:Nat,nl X<=256->nl Y<=256->Y<=X->aH C 134 [aN (aM X),aN (aM Y)] .nil (aF (.tup [aN (aM (X-Y)),.int .i64 0])):=by intro X Y W Z h;have:=L.sub (aM X) (aM Y) (aY _) (aY _) (by rw[bE];omega) (by rw[bE];omega);have h3:=jO (Om:X-Y<=X);rw[aW,aW,yU,lZ Om Om,aD aU,aD Om,LD Om]at this;exact this
    by_cases g:B<=A
    ·have U:eR A B>=0:=(l6 A B).2 g;rw[aI g];simp only[go_sem,U,axJ];refine aB (w A B Om Om g) rfl ?_;simp only[go_sem,axK];have h3:=jO (Om:A-B<=A);refine aB (low i (A-B) Om) rfl ?_;obtain⟨d,x,y,e,l⟩:=zC (kB i (A-B) D);rw[l];simp only[go_sem];rw[<-l];exact fin _ _ _ ⟨d,x,y,e,l,s_,s_,s_⟩
    ·have U:¬eR A B>=0:=λh=>g ((l6 A B).1 h);rw[aD g];simp only[go_sem,U,adC];refine aB (w B A Om Om Om) rfl ?_;simp only[go_sem,adD];have h3:=jO (Om:B-A<=B);refine aB (low p (B-A) Om) rfl ?_;obtain⟨d,x,y,e,l⟩:=zC (kB p (B-A) D);rw[l];simp only[go_sem];rw[<-l];exact fin _ _ _ ⟨d,x,y,e,l,s_,s_,s_⟩
structure RF where
 neg:Bool
 num:List Nat
 den:List Nat
abbrev RF.cells(x:RF):List PV:=fC x.neg x.num x.den
def RF.Ok(x:RF):Prop:=Lim x.num/\Lim x.den/\Z' x.num<=35184372087808/\Z' x.den<=35184372087808
def RF.v(x:RF):FV:=(x.neg,val x.num,val x.den)
abbrev frs(l:List RF):PV:=.sl 3 (l.map RF.cells)
def FV.rf:FV->RF
 |(n,a,b)=>⟨n,aM a,aM b⟩
def FV.Small:FV->Prop
 |(_,a,b)=>nl a<=900000/\nl b<=900000
theorem FV.xH(x:FV):x.rf.v=x:=by
 obtain⟨n,a,b⟩:=x;show(n,val (aM a),val (aM b))=_;rw[aW,aW]
def tD(l:List FV):FR:=l.foldlM gJ (false,0,1)
theorem wQ{neg:Bool}{a b:Nat}{r:FV}(h:kB neg a b=.ok r):r.Small/\r.rf.Ok:=by
 unfold kB at h;split at h
 ·cases h
 ·rename_i i;have d:=(kJ (a/bkJ a b) 128).1 Om;have e:=(kJ (b/bkJ a b) 128).1 Om;injection h with h
  subst h;refine⟨⟨by omega,by omega⟩,aY _,aY _,?_,?_⟩
  ·show(aM _).length<=_;rw[bE];omega
  ·show(aM _).length<=_;rw[bE];omega
theorem ln{x y r:FV}(h:gJ x y=.ok r):r.rf.Ok:=by
 obtain⟨d,a1,b1⟩:=x;obtain⟨e,a2,b2⟩:=y;simp only[gJ]at h;split at h
 ·split at h
  ·exact(wQ h).2
  ·split at h
   ·exact(wQ h).2
   ·exact(wQ h).2
 ·cases h
theorem p7{α β:Type}{f:β->α->Except Int β}(l:List α)(b:β){k:Nat}(h:k<Z' l):(l.take (k+1)).foldlM f b=((l.take k).foldlM f b).bind λx=>f x l[k]:=by
 rw[blO h,List.foldlM_append];cases(l.take k).foldlM f b with
 |error e=>rfl
 |ok x =>show([l[k]]:List α).foldlM f x=f x l[k];rw[List.foldlM_cons];cases f x l[k]<;>rfl
theorem Dz{α β:Type}{f:β->α->Except Int β}(l:List α)(b:β){k:Nat}{e:Int}(h:(l.take k).foldlM f b=.error e):l.foldlM f b=.error e:=by
 conv=>lhs;rw[<-bnP k l,List.foldlM_append,h]
 rfl
def a0Q(l:List RF)(o2 o4:Nat)(k:Nat):PF:=((((((n_.set 2 (.ptr o2 3 0 0)).set 3 (.int .i64 0)).set 4 (.ptr o4 3 0 0)).set 11 (frs l)).set 12 (.int .i64 (Z' l:Nat))).set 13 (.int .i64 k))
def zm(o2 o4:Nat)(c:List PV):PH:=(h_.set o2 (.rows 3 [[.bool false,.aK,.aK]])).set o4 (.rows 3 [c])
theorem a4L(L:LS C)(R:∀x y:RF,x.Ok->y.Ok->aH C 113 [.agg x.cells,.agg y.cells] .nil (aF (frV (gJ x.v y.v))))(l:List RF)(hl:∀x∈l,x.Ok)(Z:Z' l<=9223372036854775807) :
  d9.wp C (aX adS.res (cI (frV (tD (l.map RF.v))))) (g_ [frs l]) .nil:=by
 simp only[go_sem,d9,ayA];refine aP λo2 β=>?_;simp only[go_sem,ayB];refine aB (L.make 1 aU) rfl ?_;simp only[go_sem];refine aP λo4 S=>?_;have p:o4≠o2:=by rintro rfl;simp only[bD,if_true]at S;cases S
 have d:o2≠o4:=Ne.symm p;simp only[go_sem,ayC];refine wp_loop (α:=Nat × FV × PV) (λt=>a0Q l o2 o4 t.1) (λt=>zm o2 o4 [.bool t.2.1.1,t.2.2,aN (aM t.2.1.2.2)]) (λt=>t.1<=Z' l/\((l.map RF.v).take t.1).foldlM gJ (false,0,1)=.ok t.2.1/\(t.2.2=.aK/\t.2.1.2.1=0\/t.2.2=aN (aM t.2.1.2.1))/\(FV.rf t.2.1).Ok) (λt=>Z' l-t.1)
  (0,(false,0,1),.aK) ⟨bkL _,rfl,.inl ⟨rfl,rfl⟩,⟨aY _,aY _,?_,?_⟩⟩ ?_ ?_ ?_
 ·show(aM 0).length<=_;rw[fJ];simp
 ·show(aM 1).length<=_;rw[uI aU aU];simp
 ·unfold a0Q
  (repeat' (first|exact c_|refine d_ ?_ ?_))<;>first|(simp only[go_sem,bkG]<;>rfl)|rfl
 ·unfold zm;exact e_ (e_ a_ (by simp only[go_sem,d,p])) (by simp only[go_sem,d,p])
 rintro⟨k,⟨Q,U,O⟩,Y⟩ ⟨hk,W,N,J⟩;simp only at hk W N J ⊢;have K:CoL [.bool Q,Y,aN (aM O)] (FV.rf (Q,U,O)).cells:=by
  refine .cons (.refl _) (.cons ?_ (.cons (.refl _) .nil));rcases N with⟨rfl,rfl⟩|rfl
  ·show Co .aK (aN (aM 0));rw[fJ];exact .nil 1
  ·exact .refl _
 simp only[go_sem,adT,ayD,a0Q];by_cases hlt:k<Z' l
 ·have A:(k:Int)<(Z' l:Nat):=Om;have hr:(l.map RF.cells)[k]?=some (l[k]).cells:=by simp[hlt]
  simp only[go_sem,A,ayE,hr];refine aP λo6 F=>?_;have B:o4≠o6:=by rintro rfl;simp only[zm,bD,if_true]at F;cases F
  have w:o2≠o6:=by rintro rfl;simp only[zm,bD,if_true,aD d]at F;cases F
  simp only[go_sem,ayF,zm,B,w,p,d];refine aB ((R (FV.rf (Q,U,O)) l[k] J (hl _ (bkK hlt))).args (.cons (CoL.agg K) (.cons (.refl _) .nil))) rfl ?_;rw[FV.xH];have i:=p7 (f:=gJ) (l.map RF.v) (false,0,1) (k:=k) (by simpa using hlt);rw[W]at i;simp only[Except.bind,blX]at i;cases V:gJ (Q,U,O) (l[k]).v with
  |error e=>
   simp only[go_sem,frV];refine aP λo7 u=>?_;have X:e≠0:=by
    revert V;obtain⟨n2,a2,b2⟩:=(l[k]).v;simp only[gJ,kB]
    repeat' split
    all_goals (intro h;first|(injection h with h;subst h;decide)|cases h)
   have E:o2≠o7:=by rintro rfl;simp only[bD,w,d,if_true,if_false]at u;cases u
   simp only[go_sem,Mv,dP X,ayG,E,w,d];rw[V]at i;rw[tD,Dz _ _ i];refine gS ?_;simp only[go_sem,adS]
  |ok r=>
   obtain⟨rn,ra,rb⟩:=r;simp only[go_sem,frV];refine aP λo7 u=>?_;have H:o4≠o7:=by rintro rfl;simp only[bD,B,if_true,if_false]at u;cases u
   have E:o2≠o7:=by rintro rfl;simp only[bD,w,d,if_true,if_false]at u;cases u
   simp only[go_sem,Mv,ayH,H,E,B,w,p,d,Ne.symm H,ayI,wZz k];rw[V]at i;refine aG (k+1,(rn,ra,rb),aN (aM ra)) ⟨hlt,i,.inr rfl,ln V⟩ (by simp only;omega) ?_ ?_
   ·exact Lq
   ·refine e_ (e_ a_ ?_) ?_
    ·simp only[go_sem,d,p,H,E,B,w]
    ·simp only[go_sem,d,p,H,E,B,w]
 ·have A:¬(k:Int)<(Z' l:Nat):=Om;have:k=Z' l:=Om;subst this;rw[bkZ bH]at W;rw[tD,W];have M:cI (frV (.ok (Q,U,O))) (bN [.agg [.bool Q,Y,aN (aM O)],.int .i64 0]) .nil:=⟨CoL.tup (.cons (CoL.agg K) (.cons (.refl _) .nil)),rfl⟩;rcases N with⟨rfl,rfl⟩|rfl
  ·simp only[go_sem,A,wa,zm,p,d];refine bG (.inr rfl) .nil ?_ a_ M;simp only[go_sem,adS,p,d]
  ·simp only[go_sem,A,wa,zm,p,d];refine bG (.inr rfl) .nil ?_ a_ M;simp only[go_sem,adS,p,d]
def fk:=bR [] Proofs.Tryz.f145
def wO:=aA fk 0
def wP:=aA fk 1
def qK:aC:=(sq wO (sq wP .ret))
def mm:bB:=⟨1,17,qK,[.tmp 2]⟩
def qc:=bR [] Proofs.Tryz.f175
def MS:=aA qc 0
def MT:=aA qc 1
def xP:aC:=(sq MS (sq MT .ret))
def Eo:bB:=⟨1,9,xP,[.tmp 2]⟩
def qd:=bR [] Proofs.Tryz.f146
def Si:=aA qd 0
def Sj:=aA qd 1
def OS:aC:=(sq Si (sq Sj .ret))
def Ep:bB:=⟨1,17,OS,[.tmp 2]⟩
def pO:=bR [] Proofs.Tryz.f98
def VK:=aA pO 0
def VL:=aA pO 1
def VM:=aA pO 2
def ahL:=aA pO 3
def ahM:=aA pO 4
def ahN:=aA pO 5
def ahO:=aA pO 6
def ahP:=aA pO 7
def ahK:aC:=(cT ahM 20 0 ahP (sq ahN (.cond (Tm 27) (sq ahO .ret) .skip)))
def ahQ:=aA pO 8
def AO:aC:=(sq VK (dA VL 16 VM (.seq (cD ahL 0 ahK) (sq ahQ .ret))))
def Zc:bB:=⟨1,28,AO,[.tmp 2]⟩
def afL:=bR [] Proofs.Tryz.f48
def Eb:=aA afL 0
def Ec:=aA afL 1
def JY:aC:=(sq Eb (sq Ec .ret))
def gin:bB:=⟨3,15,JY,[.tmp 6]⟩
def p8:=bR [1] Proofs.Tryz.f92
def R1:=aA p8 0
def R2:=aA p8 1
def OP:aC:=(sq R1 (sq R2 .ret))
def adY:bB:=⟨1,7,OP,[.tmp 2]⟩
def fa:=bR [1] Proofs.Tryz.f91
def ayX:=aA fa 0
def ayY:=aA fa 1
def mg:=aA fa 2
def e7:aC:=(sq ayX (sq ayY (sq mg .ret)))
def aXN:bB:=⟨1,29,e7,[.tmp 2]⟩
def MR:=bR [1] Proofs.Tryz.f144
def azC:=aA MR 0
def azD:=aA MR 1
def azE:=aA MR 2
def My:=aA MR 3
def fe:aC:=(sq azC (sq azD (sq azE (sq My .ret))))
def gone:bB:=⟨1,23,fe,[.tmp 2]⟩
def rR:=bR [] Proofs.Tryz.f93
def aeJ:=aA rR 0
def aeK:=aA rR 1
def aeL:=aA rR 2
def aeM:=aA rR 3
def aeN:=aA rR 4
def aeO:=aA rR 5
def aeP:=aA rR 6
def aeI:aC:=(fP aeL 10 0 aeP (sq aeM (sq aeN (.cond (Tm 16) (sq aeO .ret) .skip))))
def aeQ:=aA rR 7
def UO:aC:=(sq aeJ (.seq (cD aeK 0 aeI) (sq aeQ .ret)))
def aJT:bB:=⟨2,18,UO,[.tmp 4]⟩
def rS:=bR [] Proofs.Tryz.f141
def aeS:=aA rS 0
def aeT:=aA rS 1
def aeU:=aA rS 2
def aeV:=aA rS 3
def aeW:=aA rS 4
def aeX:=aA rS 5
def aeY:=aA rS 6
def aeR:aC:=(fP aeU 10 0 aeY (sq aeV (sq aeW (.cond (Tm 16) (sq aeX .ret) .skip))))
def aeZ:=aA rS 7
def UP:aC:=(sq aeS (.seq (cD aeT 0 aeR) (sq aeZ .ret)))
def aJU:bB:=⟨2,18,UP,[.tmp 4]⟩
def rQ:=bR [] Proofs.Tryz.f139
def aeA:=aA rQ 0
def aeB:=aA rQ 1
def aeC:=aA rQ 2
def aeD:=aA rQ 3
def aeE:=aA rQ 4
def aeF:=aA rQ 5
def aeG:=aA rQ 6
def adZ:aC:=(fP aeC 10 0 aeG (sq aeD (sq aeE (.cond (Tm 16) (sq aeF .ret) .skip))))
def aeH:=aA rQ 7
def UN:aC:=(sq aeA (.seq (cD aeB 0 adZ) (sq aeH .ret)))
def aJS:bB:=⟨2,18,UN,[.tmp 4]⟩
def p9:=bR [] Proofs.Tryz.f140
def R3:=aA p9 0
def R4:=aA p9 1
def OQ:aC:=(sq R3 (sq R4 .ret))
def afD:bB:=⟨1,4,OQ,[.tmp 2]⟩
def jL:=bR [1] Proofs.Tryz.f95
def afE:=aA jL 0
def afF:=aA jL 1
def afG:=aA jL 2
def afH:=aA jL 3
def afI:=aA jL 4
def wc:=aA jL 5
def afJ:=aA jL 6
def wd:=aA jL 7
def we:=aA jL 8
def afK:=aA jL 9
def R6:=aA jL 10
def ef:=aA jL 11
def MP:=aA jL 12
def MN:aC:=(fP afK 45 4 MP (sq R6 (.region ef)))
def el:=aA jL 13
def MO:aC:=(fP wc 21 2 el (sq afJ (sq wd (cD we 4 MN))))
def R7:=aA jL 14
def R5:aC:=(cT afH 15 0 R7 (cD afI 2 MO))
def R8:=aA jL 15
def UQ:aC:=(sq afE (sq afF (.seq (cD afG 0 R5) (sq R8 .ret))))
def aJY:bB:=⟨1,70,UQ,[.tmp 2]⟩
def lF:=bR [1] Proofs.Tryz.f50
def ayP:=aA lF 0
def ayQ:=aA lF 1
def ayR:=aA lF 2
def IK:=aA lF 3
def ayS:=aA lF 4
def ayT:=aA lF 5
def ayU:=aA lF 6
def ayV:=aA lF 7
def mf:=aA lF 8
def ayW:=aA lF 9
def afM:aC:=(fP ayT 48 0 ayW (sq ayU (sq ayV (.cond (Tm 67) (sq mf .ret) .skip))))
def wg:=aA lF 10
def UR:=aA lF 11
def US:=aA lF 12
def CN:=aA lF 13
def ep:aC:=(sq ayP (sq ayQ (dA ayR 43 IK (.seq (cD ayS 0 afM) (sq wg (sq UR (sq US (sq CN .ret))))))))
def aXM:bB:=⟨1,95,ep,[.tmp 2]⟩
def oJ:=bR [] Proofs.Tryz.f52
def agA:=aA oJ 0
def agB:=aA oJ 1
def agC:=aA oJ 2
def agD:=aA oJ 3
def agE:=aA oJ 4
def agF:=aA oJ 5
def wn:=aA oJ 6
def agG:=aA oJ 7
def agH:=aA oJ 8
def afZ:aC:=(fP agD 10 0 agH (sq agE (dA agF 20 wn (.region agG))))
def Sb:=aA oJ 9
def UW:aC:=(sq agA (sq agB (.seq (cD agC 0 afZ) (sq Sb .ret))))
def aKD:bB:=⟨1,24,UW,[.tmp 2]⟩
def mK:=bR [1] Proofs.Tryz.f49
def Mw:=aA mK 0
def Mx:=aA mK 1
def ayJ:=aA mK 2
def ayK:=aA mK 3
def IJ:=aA mK 4
def CM:=aA mK 5
def ayL:=aA mK 6
def ayM:=aA mK 7
def ayN:=aA mK 8
def ayO:=cN mK 0
def CL:=aA mK 9
def afB:=aA mK 10
def afA:aC:=(fP ayM 48 0 afB (sq ayN (dq ayO (.cond (Tm 87) (sq CL .ret) .skip))))
def afC:=aA mK 11
def MM:aC:=(sq Mw (dA Mx 9 ayJ (sq ayK (dA IJ 42 CM (.seq (cD ayL 0 afA) (sq afC .ret))))))
def aJW:bB:=⟨1,89,MM,[.tmp 2]⟩
def Ed:=bR [] Proofs.Tryz.f142
def afN:=aA Ed 0
def afO:=aA Ed 1
def UT:aC:=(sq afN (sq afO .ret))
def aJZ:bB:=⟨1,5,UT,[.tmp 2]⟩
def MQ:=bR [7] Proofs.Tryz.f96
def ayZ:=aA MQ 0
def azA:=aA MQ 1
def IL:=aA MQ 2
def azB:=aA MQ 3
def fc:aC:=(sq ayZ (dA azA 36 IL (sq azB .ret)))
def aXO:bB:=⟨4,39,fc,[.tmp 8]⟩
def qa:=bR [1] Proofs.Tryz.f143
def R9:=aA qa 0
def Sa:=aA qa 1
def OR:aC:=(sq R9 (sq Sa .ret))
def afS:bB:=⟨1,9,OR,[.tmp 2]⟩
def Ee:=bR [6,7] Proofs.Tryz.f97
def afT:=aA Ee 0
def afU:=aA Ee 1
def UU:aC:=(sq afT (sq afU .ret))
def aKA:bB:=⟨4,30,UU,[.tmp 8]⟩
def nP:=bR [2] Proofs.Tryz.f51
def azF:=aA nP 0
def azG:=aA nP 1
def mh:=aA nP 2
def azH:=aA nP 3
def azI:=aA nP 4
def azJ:=aA nP 5
def azK:=aA nP 6
def azL:=aA nP 7
def Mz:=aA nP 8
def azM:=aA nP 9
def afQ:=aA nP 10
def afP:aC:=(fP azJ 42 0 afQ (sq azK (dA azL 55 Mz (.region azM))))
def afR:=aA nP 11
def ff:aC:=(sq azF (dA azG 35 mh (sq azH (.seq (cD azI 0 afP) (sq afR .ret)))))
def aXQ:bB:=⟨2,60,ff,[.tmp 4]⟩
def cV:=bR [1,76,94,128,141,183,204] Proofs.Tryz.f17
def azN:=aA cV 0
def azO:=aA cV 1
def wL:=aA cV 2
def azP:=aA cV 3
def azQ:=aA cV 4
def M0:=aA cV 5
def azR:=aA cV 6
def azS:=aA cV 7
def azT:=aA cV 8
def M1:=aA cV 9
def wq:=aA cV 10
def UX:aC:=(fP azR 70 0 wq (sq azS (sq azT (.region M1))))
def wr:=aA cV 11
def agI:=aA cV 12
def agJ:=aA cV 13
def agK:=aA cV 14
def wt:=aA cV 15
def KC:=aA cV 16
def UY:aC:=(fP agI 88 2 KC (sq agJ (sq agK (.region wt))))
def wu:=aA cV 17
def agL:=aA cV 18
def agM:=aA cV 19
def agN:=aA cV 20
def agO:=aA cV 21
def UZ:aC:=(fP agL 122 4 agO (sq agM (.region agN)))
def ww:=aA cV 22
def agP:=aA cV 23
def agQ:=aA cV 24
def agR:=aA cV 25
def wx:=aA cV 26
def CO:=aA cV 27
def VA:aC:=(fP agP 135 6 CO (sq agQ (sq agR (.region wx))))
def wy:=aA cV 28
def agS:=aA cV 29
def agT:=aA cV 30
def agU:=aA cV 31
def wz:=aA cV 32
def w8:=aA cV 33
def VB:aC:=(fP agS 177 8 w8 (sq agT (sq agU (.region wz))))
def w9:=aA cV 34
def agV:=aA cV 35
def agW:=aA cV 36
def agX:=aA cV 37
def xa:=aA cV 38
def xb:=aA cV 39
def VC:aC:=(fP agV 198 10 xb (sq agW (sq agX (.region xa))))
def KD:=aA cV 40
def tP:=aA cV 41
def VD:=aA cV 42
def fg:aC:=(sq azN (dA azO 65 wL (sq azP (sq azQ (.seq (cD M0 0 UX) (.seq (cD wr 2 UY) (.seq (cD wu 4 UZ) (.seq (cD ww 6 VA) (.seq (cD wy 8 VB) (.seq (cD w9 10 VC) (dA KD 243 tP (sq VD .ret))))))))))))
def aXW:bB:=⟨1,244,fg,[.tmp 2]⟩
@[go_sem] theorem bcH(a b:List UInt8):RN .eql a b=some (.bool (a==b)):=(rfl)
@[go_sem] theorem bcI(a b:List UInt8):RN .neq a b=some (.bool !(a==b)):=(rfl)
@[go_sem] theorem aIG(a b:List UInt8):RN .add a b=if((Z' a+Z' b:Nat):Int)>9223372036854775807 then none else some (.str (a++b)):=(rfl)
@[go_sem] theorem a8I:(([]:List UInt8)==[])=true:=(rfl)
@[go_sem] theorem a3J(c:UInt8)(t:List UInt8):((c::t)==[])=false:=(rfl)
theorem wH{a b:List UInt8}(h:a=b):(a==b)=true:=by simp[h]
theorem A3{a b:List UInt8}(h:a≠b):(a==b)=false:=by simp[h]
section
variable {C:Ctx} {F:PF} {H:PH}
theorem xV{name o s:Nat}{rs:List (List PV)}{vs:List PV}{v:PV}{args:List aS}{d:Option Nat}{K:PF->PH->Prop}(h:aH C name vs .nil (aF v))(l:H o=some (.rows s rs))
  (i:aS.evs (F.frz o s rs) args=some vs) (e:K ((F.frz o s rs).put d v) (H.frz o s rs)):lC C name args [] d K F H:=by
 refine .inr ⟨_,_,.step o l (.refl _ _),vs,.nil,aF v,?_,a_,h,?_⟩
 ·rw[i];simp
 ·rintro r H' ⟨rfl,rfl⟩ -;rw[PH.KN];exact e
theorem kM.trans{d e i:PF}{l H2 p:PH}(h:kM d l e H2)(k:kM e H2 i p):kM d l i p:=by
 induction h with
 |refl=>exact k
 |step o u h w=>exact .step o u (w k)
theorem xD{c:aC}{K:cH}{s:Nat}{v:PV}{rows:List (List PV)}(M:cG H s v rows)
  (h:∀e,Seen s e rows->∀d l,(∀t,F t=some v->d t=some e)->(∀i u,F i=some u->Pure u->d i=some u)->aC.wp C (.loop c) K d l):aC.wp C (.loop c) K F H:=by
 obtain⟨e,N,J⟩:=M.frz;obtain⟨d,l,O,B,E⟩:=J F;obtain⟨α,x,Hs,y,m,A,w,H2,p,rest⟩:=h e N d l B E;exact⟨α,x,Hs,y,m,A,w,H2,O.trans p,rest⟩
theorem aH.aMZ{name s:Nat}{v:PV}{rows:List (List PV)}{d:PH}{R:PV->PH->Prop}(h:aH C name [.sl s rows] d R)(i:Seen s v rows):aH C name [v] d R:=by
 rcases i with⟨rfl,rfl⟩|rfl
 ·refine h.args ⟨rfl,λj p q hp e=>?_⟩;cases j with
  |zero=>simp at hp e;subst hp;subst e;exact .nil s
  |succ j=>simp at hp
 ·exact h
theorem cG.fresh{s:Nat}{v:PV}{rows:List (List PV)}{o:Nat}(h:cG H s v rows)(p:H o=none)(x:bA):cG (H.set o x) s v rows/\∀l,v≠.osl o s 0 l:=by
 refine⟨h.ext λq y i=>?_,λl e=>?_⟩
 ·have:q≠o:=by rintro rfl;rw[p]at i;cases i
  simp only[bD,aD this,i]
 ·rcases h with⟨_,d⟩|⟨q,rs,h1,d,_⟩
  ·rw[d]at e;cases e
  ·rw[h1]at e;injection e with u
   subst u;rw[p]at d;cases d
theorem sP{s b:Nat}{v:PV}{rows:List (List PV)}{r:List PV}{o:Nat}{x:bA}{K:PV->PH->Prop}(h:cG H s v rows)(p:H o=none)(u:roomFor rows.length 1 b)
  (l:∀v' H',cG H' s v' (rows++[r])->H' o=some x->K v' H'):sF (H.set o x) s b v (.sl s [r]) K:=by
 obtain⟨d,e⟩:=h.fresh p x;refine gZ (src:=[r]) d (by simp[eD]) u λv' H' i hp=>l v' H' i (hp o x (by simp only[bD,if_true]) e)
theorem CK{o s k:Nat}{rs:List (List PV)}(d:k<=Z' rs):PV.frz o s rs (.osl o s 0 k)=.sl s (rs.take k):=by
 have:0+k<=Z' rs:=Om;simp only[PV.frz,PV.tO,PV.eF,if_true,true_and,aI this,blY]
end
def gX(n:Nat):Bool:=decide (97<=n)&&decide (n<=122)||decide (65<=n)&&decide (n<=90)
def rI(n:Nat):Bool:=decide (48<=n)&&decide (n<=57)
def jV(n:Nat):Bool:=gX n||rI n||decide (n=45)||decide (n=46)
theorem aKV(n:Nat):qK.wp C (aX mm.res (aF (.bool (gX n)))) (g_ [.int .u8 n]) .nil:=by
 have fin:∀(F:PF)(b:Bool),F 2=some (.bool b)->b=gX n->aX mm.res (aF (.bool (gX n))) .ret F .nil:=by intro F b h e;subst e;refine aT (.inr rfl) (vs:=[.bool (gX n)]) (by simp only[go_sem,mm,h]) rfl
 unfold gX at *
 by_cases a:97<=n
 ·have i:(n:Int)>=97:=Om;by_cases b:n<=122
  ·have p:(n:Int)<=122:=Om;simp only[go_sem,qK,wO,wP,i,p];exact fin _ _ rfl (by simp[a,b])
  ·have p:¬(n:Int)<=122:=Om;by_cases c:65<=n
   ·have l:(n:Int)>=65:=Om;have d:¬(n:Int)<=90:=Om;simp only[go_sem,qK,wO,wP,i,p,l,d];exact fin _ _ rfl (by simp[a,b,c];omega)
   ·omega
 ·have i:¬(n:Int)>=97:=Om;by_cases c:65<=n
  ·have l:(n:Int)>=65:=Om;by_cases d:n<=90
   ·have u:(n:Int)<=90:=Om;simp only[go_sem,qK,wO,wP,i,l,u];exact fin _ _ rfl (by simp[a,c,d])
   ·have u:¬(n:Int)<=90:=Om;simp only[go_sem,qK,wO,wP,i,l,u];exact fin _ _ rfl (by simp[a,c,d])
  ·have l:¬(n:Int)>=65:=Om;simp only[go_sem,qK,wO,wP,i,l];exact fin _ _ rfl (by simp[a,c])
theorem aQN(n:Nat):xP.wp C (aX Eo.res (aF (.bool (rI n)))) (g_ [.int .u8 n]) .nil:=by
 have fin:∀(F:PF)(b:Bool),F 2=some (.bool b)->b=rI n->aX Eo.res (aF (.bool (rI n))) .ret F .nil:=by intro F b h e;subst e;refine aT (.inr rfl) (vs:=[.bool (rI n)]) (by simp only[go_sem,Eo,h]) rfl
 unfold rI at *
 by_cases a:48<=n
 ·have d:(n:Int)>=48:=Om;by_cases b:n<=57
  ·have i:(n:Int)<=57:=Om;simp only[go_sem,xP,MS,MT,d,i];exact fin _ _ rfl (by simp[a,b])
  ·have i:¬(n:Int)<=57:=Om;simp only[go_sem,xP,MS,MT,d,i];exact fin _ _ rfl (by simp[a,b])
 ·have d:¬(n:Int)>=48:=Om;simp only[go_sem,xP,MS,MT,d];exact fin _ _ rfl (by simp[a])
theorem aQR(p:∀n:Nat,aH C 126 [.int .u8 n] .nil (aF (.bool (gX n))))(u:∀n:Nat,aH C 124 [.int .u8 n] .nil (aF (.bool (rI n))))(n:Nat) :
  OS.wp C (aX Ep.res (aF (.bool (jV n)))) (g_ [.int .u8 n]) .nil:=by
 have fin:∀(F:PF)(b:Bool),F 2=some (.bool b)->b=jV n->aX Ep.res (aF (.bool (jV n))) .ret F .nil:=by intro F b h e;subst e;refine aT (.inr rfl) (vs:=[.bool (jV n)]) (by simp only[go_sem,Ep,h]) rfl
 simp only[go_sem,OS,Si,Sj];refine aB (p n) rfl ?_;cases l:gX n with
 |true =>simp only[go_sem];exact fin _ _ rfl (by simp[jV,l])
 |false=>
  simp only[go_sem];refine aB (u n) rfl ?_;cases i:rI n with
  |true =>simp only[go_sem];exact fin _ _ rfl (by simp[jV,i])
  |false=>
   by_cases c:n=45
   ·simp only[go_sem,bW (Om:(n:Int)=45)];exact fin _ _ rfl (by simp[jV,c])
   ·by_cases d:n=46
    ·simp only[go_sem,bL (Om:(n:Int)≠45),bW (Om:(n:Int)=46)];exact fin _ _ rfl (by simp[jV,d])
    ·simp only[go_sem,bL (Om:(n:Int)≠45),bL (Om:(n:Int)≠46)];exact fin _ _ rfl (by simp[jV,c,d,l,i])
def isName(s:List UInt8):Bool:=match s with
 |[]=>false
 |c::_=>decide (Z' s<=16)&&gX c.toNat&&s.all λc=>jV c.toNat
theorem vD{α:Type}{p:α->Bool}{l:List α}{k:Nat}(d:k<Z' l)(h:(l.take k).all p=true)(hp:p l[k]=true):(l.take (k+1)).all p=true:=by
 rw[blO d,bnX,h];simp[hp]
theorem vE{α:Type}{p:α->Bool}{l:List α}{k:Nat}(d:k<Z' l)(hp:p l[k]=false):l.all p=false:=by
 rw[List.all_eq_false];exact⟨l[k],bkK d,by simp[hp]⟩
def ahJ(s:List UInt8)(k:Nat):PF:=((n_.set 0 (.str s)).set 3 (.int .i64 k))
theorem aYK(y:∀n:Nat,aH C 126 [.int .u8 n] .nil (aF (.bool (gX n))))(A:∀n:Nat,aH C 125 [.int .u8 n] .nil (aF (.bool (jV n))))(s:List UInt8) :
  AO.wp C (aX Zc.res (aF (.bool (isName s)))) (g_ [.str s]) .nil:=by
 have fin:∀(F:PF)(b:Bool),F 2=some (.bool b)->b=isName s->aX Zc.res (aF (.bool (isName s))) .ret F .nil:=by intro F b h e;subst e;refine aT (.inr rfl) (vs:=[.bool (isName s)]) (by simp only[go_sem,Zc,h]) rfl
 cases s with
 |nil =>simp only[go_sem,AO,VK,VL,VM];exact fin _ _ rfl rfl
 |cons c t=>
  have E:(c::t)[0]?=some c:=rfl;have p:(c::t==[])=false:=rfl;have l:isName (c::t)=(decide ((c::t).length<=16)&&gX c.toNat&&(c::t).all λc=>jV c.toNat):=rfl;generalize c::t=s at *
  by_cases x:Z' s<=16
  ·have i:¬(Z' s:Int)>16:=Om;rw[aV x,bkR]at l;simp only[go_sem,AO,VK,VL,p,i,E,blJ];refine aB (y c.toNat) rfl ?_;cases w:gX c.toNat with
   |false =>simp only[go_sem,bkW,VM];exact fin _ _ rfl (by rw[l,w];rfl)
   |true=>
    rw[w,bkR]at l;simp only[go_sem,bkO,ahL];refine wp_loop (α:=Nat) (λk=>ahJ s k) (λ_=>.nil) (λk=>k<=Z' s/\(s.take k).all (λc=>jV c.toNat)=true) (λk=>Z' s-k) 0 ⟨bkL _,rfl⟩ ?_ a_ ?_
    ·unfold ahJ;exact Lq
    rintro k ⟨H,u⟩;simp only[go_sem,ahK,ahM,ahJ];by_cases hlt:k<Z' s
    ·have d:(k:Int)<(Z' s:Nat):=Om;have B:s[k]?=some s[k]:=bkT hlt;simp only[go_sem,d,ahN,B,blJ];refine aB (A (s[k]).toNat) rfl ?_;cases hi:jV (s[k]).toNat with
     |false =>simp only[go_sem,bkW,ahO];refine fin _ false rfl ?_;rw[l,vE hlt hi]
     |true =>simp only[go_sem,bkO,ahP,wZz k];refine aG (k+1) ⟨hlt,bkS.1 (vD hlt u hi)⟩ Om ?_ a_;exact Lq
    ·have d:¬(k:Int)<(Z' s:Nat):=Om;simp only[go_sem,d,ahQ];have:k=Z' s:=Om;subst this;rw[bkZ (bkN _)]at u;exact fin _ true rfl (by rw[l,u])
  ·have i:(Z' s:Int)>16:=Om;simp only[go_sem,AO,VK,VL,VM,p,i];exact fin _ _ rfl (by rw[l,bC x];rfl)
abbrev dJ(x:Int):Prop:=-9223372036854775808<=x/\x<=9223372036854775807
structure dB where
 name:List UInt8
 start:List RF
 bjA:List (List RF)
 exit:List RF
structure dW where
 name:List UInt8
 bjL:Int
 port:Int
 law:Int
structure cY where
 name:List UInt8
 level:Int
 parent:Int
 bjP:Int
 bjK:RF
structure eS where
 name:List UInt8
 model:Int
 machine:Int
structure cJ where
 name:List UInt8
 k:Int
 m:Int
 bjT:Int
 s0:Int
 s1:Int
 s2:Int
 s3:Int
 s4:Int
 biW:List Int
 repair:List RF
 target:RF
 bjF:RF
structure eI where
 name:List UInt8
 bjH:Int
structure aE where
 bjZ:Int
 bjC:List dB
 biW:List dW
 biY:List cY
 biV:List eS
 biZ:List cJ
 biX:List eI
abbrev I(x:Int):PV:=.int .i64 x
abbrev aMT(l:List (List RF)):PV:=.sl 1 (l.map λr=>[frs r])
abbrev dB.cells(x:dB):List PV:=[.str x.name,frs x.start,aMT x.bjA,frs x.exit]
abbrev dW.cells(x:dW):List PV:=[.str x.name,.int .i64 x.bjL,.int .i64 x.port,.int .i64 x.law]
abbrev cY.cells(x:cY):List PV:=[.str x.name,.int .i64 x.level,.int .i64 x.parent,.int .i64 x.bjP,.bool x.bjK.neg,aN x.bjK.num,aN x.bjK.den]
abbrev eS.cells(x:eS):List PV:=[.str x.name,.int .i64 x.model,.int .i64 x.machine]
abbrev cJ.cells(x:cJ):List PV:=[.str x.name,.int .i64 x.k,.int .i64 x.m,.int .i64 x.bjT,.int .i64 x.s0,.int .i64 x.s1,.int .i64 x.s2,.int .i64 x.s3,.int .i64 x.s4,ints x.biW,frs x.repair,
 .bool x.target.neg,aN x.target.num,aN x.target.den,.bool x.bjF.neg,aN x.bjF.num,aN x.bjF.den]
abbrev eI.cells(x:eI):List PV:=[.str x.name,.int .i64 x.bjH]
abbrev aE.cells(f:aE):List PV:=[.int .i64 f.bjZ,.sl 4 (f.bjC.map dB.cells),.sl 4 (f.biW.map dW.cells),.sl 7 (f.biY.map cY.cells),.sl 3 (f.biV.map eS.cells),.sl 17 (f.biZ.map cJ.cells),.sl 2 (f.biX.map eI.cells)]
def cJ.spread(p:cJ)(level:Nat):Int:=match level with
 |0=>p.s0
 |1=>p.s1
 |2=>p.s2
 |3=>p.s3
 |_=>p.s4
abbrev Fits{α:Type}(l:List α):Prop:=Z' l<=9223372036854775807
structure nI(l:List RF):Prop where
 fits:Fits l
 all:∀x∈l,x.Ok
structure dB.Ok(x:dB):Prop where
 start:nI x.start
 exit:nI x.exit
 bjA:Fits x.bjA
 row:∀r∈x.bjA,nI r
structure cJ.Ok(x:cJ):Prop where
 k:dJ x.k
 m:dJ x.m
 bjT:dJ x.bjT
 biW:Fits x.biW
 each:∀m∈x.biW,dJ m
 repair:nI x.repair
 target:x.target.Ok
 bjF:x.bjF.Ok
structure aE.Ok(f:aE):Prop where
 bjC:Fits f.bjC
 biW:Fits f.biW
 biY:Fits f.biY
 biV:Fits f.biV
 biZ:Fits f.biZ
 biX:Fits f.biX
 law:∀x∈f.bjC,x.Ok
 dom:∀x∈f.biY,x.bjK.Ok/\dJ x.level/\dJ x.parent
 drive:∀x∈f.biV,dJ x.model/\dJ x.machine
 bjH:∀x∈f.biZ,x.Ok
 volume:∀x∈f.biX,dJ x.bjH
def mY(x:RF):FR:=if cB (val x.num) (val x.den)then kB x.neg (val x.num) (val x.den)else .error 1
theorem aMK(x:RF):nb x.neg (val x.num) (val x.den)=frV (mY x):=by
 unfold nb mY;split
 ·exact SB _ _ _
 ·rfl
def dX(x:RF):Bool:=match mY x with
 | .ok (n,a,b)=>!n&&(decide (dC a<=32)&&decide (dC b<=32))
 | .error _=>false
def bZ(x:RF):Bool:=decide (val x.num≠0)
def FO(x:RF):Bool:=cB (val x.num) (val x.den)&&decide (sW x.neg (val x.num) (val x.den) false 1 1<=0)
def within(n lo hi:Int):Bool:=decide (lo<=n)&&decide (n<=hi)
def dL(R:List Bool)(i:Nat)(row:List RF):Nat->List Bool
 |0=>R
 |k+1=>let d:=dL R i row k
  d.set i (d.getD i false||(row.map bZ).getD k false&&d.getD k false)
def pF(l:dB)(R:List Bool)(i:Nat):List Bool:=
 dL (R.set i (R.getD i false||(l.exit.map bZ).getD i false)) i (l.bjA.getD i []) (l.bjA.getD i []).length
def eA(l:dB)(R:List Bool):Nat->List Bool
 |0=>R
 |i+1=>pF l (eA l R i) i
def eE(l:dB):Nat->List Bool
 |0=>bkM l.exit.length false
 |r+1=>eA l (eE l r) l.exit.length
def uS(l:dB):Bool:=(eE l (Z' l.exit+1)).all id
def oT(l:dB):Bool:=
 within l.start.length 1 4&&decide (Z' l.exit=Z' l.start)&&decide (Z' l.bjA=Z' l.start)&&l.start.all dX&&l.exit.all dX
 && (bkH l.bjA.length).all (λi=>decide ((l.bjA.getD i []).length=Z' l.start)&&(l.bjA.getD i []).all dX&&!((l.bjA.getD i []).map bZ).getD i false)
 && (match tD (l.start.map RF.v)with
  | .ok (n,a,b)=>decide (sW n a b false 1 1=0)
  | .error _=>false)&&uS l
def distinct(l:List (List UInt8)):Bool:=(bkH l.length).all λi=>isName (l.getD i [])&&!(l.take i).contains (l.getD i [])
def UB(f:aE)(i:Nat)(d:cY):Bool:=
 within d.parent 0 i&&decide ((f.biY.map cY.level).getD d.parent.toNat 0=i_.wrap (d.level-1))&&within d.level 1 4&&within d.bjP 1 64&&dX d.bjK
def MI(f:aE)(r:cY)(t:List cY):Bool:=
 decide (r.name=[])&&decide (r.level=0)&&decide (r.parent=-1)&&decide (r.bjP=0)&&dX r.bjK&&!bZ r.bjK
  && (bkH t.length).all λi=>match t[i]? with
   |some d=>UB f i d
   |none=>false
def tM(f:aE):Bool:=match f.biY with
 |[]=>false
 |r::t=>MI f r t
def WU(p:cJ):Bool:=
 within p.k 1 6&&within p.m 0 4&&decide (p.k+p.m<=8)&&within p.bjT p.k (p.k+p.m)&&decide (p.s0=0)&&([p.s0,p.s1,p.s2,p.s3,p.s4].all λn=>within n 0 8)
def ND(p:cJ):Bool:=
 decide ((Z' p.repair:Int)=max p.m 1)&&(p.repair.all λx=>dX x&&bZ x)&&dX p.target&&FO p.target&&dX p.bjF
def mX(biW:Nat)(p:cJ):Bool:=
 WU p&&decide (Z' p.biW≠0)&&ND p&&(bkH p.biW.length).all λj=>within (p.biW.getD j 0) 0 ((biW:Int)-1)&&!(p.biW.take j).contains (p.biW.getD j 0)
def oW(f:aE)(m:dW):Bool:=within m.bjL 1 16&&within m.port 1 64&&within m.law 0 ((Z' f.bjC:Int)-1)
def mJ(f:aE)(d:eS):Bool:=within d.model 0 ((Z' f.biW:Int)-1)&&within d.machine 0 ((Z' f.biY:Int)-1)&&decide ((f.biY.map cY.level).getD d.machine.toNat 0=4)
def tX(f:aE)(v:eI):Bool:=within v.bjH 0 ((Z' f.biZ:Int)-1)
def tB(f:aE):Bool:=within f.bjZ 1 4&&decide (Z' f.bjC<=4)&&decide (Z' f.biW<=4)&&decide (Z' f.biY<=40)&&decide (Z' f.biV<=24)&&decide (Z' f.biZ<=4)&&decide (Z' f.biX<=12)
def cQ(f:aE):Bool:=
 tB f&&tM f&&(f.bjC.all oT&&f.biW.all (oW f)&&f.biV.all (mJ f)&&f.biZ.all (mX f.biW.length)&&f.biX.all (tX f))
 && (distinct (f.bjC.map dB.name)&&distinct (f.biW.map dW.name)&&distinct ((f.biY.drop 1).map cY.name++f.biV.map eS.name)&&distinct (f.biZ.map cJ.name)&&distinct (f.biX.map eI.name))
theorem bU{t:Nat}{b d:Bool}{F:PF}{H:PH}(h:F t=some (.bool b))(e:b=d):aX [.tmp t] (cI (.bool d)) .ret F H:=by
 subst e;exact bG (.inr rfl) .nil (vs:=[.bool b]) (by rw[pG,sZ,h,uK]) a_ ⟨.refl _,rfl⟩
theorem a9B(n lo hi:Int):JY.wp C (aX gin.res (cI (.bool (within n lo hi)))) (g_ [.int .i64 n,.int .i64 lo,.int .i64 hi]) .nil:=by
 by_cases a:lo<=n
 ·by_cases b:n<=hi
  ·simp only[go_sem,JY,Eb,Ec,gin,show n>=lo from a,b];exact bU Ev (by simp[within,a,b])
  ·simp only[go_sem,JY,Eb,Ec,gin,show n>=lo from a,b];exact bU Ev (by simp[within,a,b])
 ·have d:¬n>=lo:=a;simp only[go_sem,JY,Eb,Ec,gin,d];exact bU Ev (by simp[within,a])
theorem aQH(L:zZ C)(x:RF)(d:x.Ok):OP.wp C (aX adY.res (cI (.bool (bZ x)))) (g_ [.agg x.cells]) .nil:=by
 simp only[go_sem,OP,R1,R2,adY];refine aB (L.bits x.num d.1 d.2.2.1) Ev ?_;simp only[go_sem];refine bU Ev ?_;have:=@oN (val x.num);rw[bZ,decide_eq_decide];omega
structure zW(C:Ctx):Prop extends LS C where
 frac:∀n d:Int,dJ n->dJ d->aH C 115 [.int .i64 n,.int .i64 d] .nil (aF (MV n d))
 red:∀x:RF,x.Ok->aH C 116 [.agg x.cells] .nil (aF (frV (mY x)))
 ord:∀x y:RF,x.Ok->y.Ok->aH C 114 [.agg x.cells,.agg y.cells] .nil (aF (wJ x.neg (val x.num) (val x.den) y.neg (val y.num) (val y.den)))
 plus:∀x y:RF,x.Ok->y.Ok->aH C 113 [.agg x.cells,.agg y.cells] .nil (aF (frV (gJ x.v y.v)))
 tot:∀l:List RF,nI l->aH C 117 [frs l] .nil (aF (frV (tD (l.map RF.v))))
theorem VO{neg:Bool}{a b:Nat}{e:Int}(h:kB neg a b=.error e):e=2:=by
 unfold kB at h;split at h
 ·injection h with h;exact h.symm
 ·cases h
theorem KR{x:RF}{e:Int}(h:mY x=.error e):e≠0:=by
 unfold mY at h;split at h
 ·rw[VO h];decide
 ·injection h with h;subst h;decide
theorem Ob{x:RF}{r:FV}(h:mY x=.ok r):r.rf.Ok:=by
 unfold mY at h;split at h
 ·exact(wQ h).2
 ·cases h
theorem a4O(L:zW C)(x:RF)(u:x.Ok):e7.wp C (aX aXN.res (cI (.bool (dX x)))) (g_ [.agg x.cells]) .nil:=by
 simp only[go_sem,e7,ayX,ayY,aXN];refine aB (L.red x u) Ev ?_;unfold dX;cases l:mY x with
 |error e =>have:=bL (KR l);simp only[go_sem,frV];refine aP λo p=>?_;simp only[go_sem,mg,this];exact bU Ev rfl
 |ok r=>
  obtain⟨n,a,b⟩:=r;obtain⟨w,y,A,B⟩:=Ob l;simp only[go_sem,frV];refine aP λo p=>?_;cases n with
  |true =>simp only[go_sem,mg];exact bU Ev rfl
  |false=>
   simp only[go_sem,mg];refine aB (L.bits _ w A) Ev ?_;rw[show val (FV.rf (false,a,b)).num=a from aW a];by_cases i:dC a<=32
   ·have d:((dC a:Nat):Int)<=32:=Om;simp only[go_sem,d];refine aB (L.bits _ y B) Ev ?_;rw[show val (FV.rf (false,a,b)).den=b from aW b];simp only[go_sem];refine bU Ev ?_;rw[aV i];simp;omega
   ·have d:¬((dC a:Nat):Int)<=32:=Om;simp only[go_sem,d];refine bU Ev ?_;rw[bC i];rfl
theorem ahT:kB false 1 1=.ok (false,1,1):=by
 have:dC 1=1:=by rw[vG aU,nL]
 simp[kB,this]
theorem ahV:MV 1 1=frV (.ok (false,1,1)):=by
 rw[MV,aD aU,SB];show frV (kB false 1 1)=_;rw[ahT]
theorem aRZ:(FV.rf (false,1,1)).Ok:=(wQ ahT).2
theorem Xa:cB 1 1=true:=by
 have:dC 1=1:=by rw[vG aU,nL]
 simp[cB,this]
theorem a4Q(L:zW C)(x:RF)(d:x.Ok):fe.wp C (aX gone.res (cI (.bool (FO x)))) (g_ [.agg x.cells]) .nil:=by
 simp only[go_sem,fe,azC,azD,gone];refine aB (L.frac 1 1 aU aU) Ev ?_;rw[ahV];simp only[go_sem,frV];refine aP λo e=>?_;simp only[go_sem,azE];refine aB (L.ord x (FV.rf (false,1,1)) d aRZ) Ev ?_;rw[show val (FV.rf (false,1,1)).num=1 from aW 1,show val (FV.rf (false,1,1)).den=1 from aW 1,show(FV.rf (false,1,1)).neg=false from rfl];unfold wJ FO;rw[Xa,bmO];cases i:cB (val x.num) (val x.den)with
 |false =>simp only[go_sem,My];exact bU Ev rfl
 |true =>simp only[go_sem,My];exact bU Ev rfl
theorem aXI(p:RF->Bool)(fn:Nat)(l:List RF)(u:Fits l)(h:∀x∈l,aH C fn [.agg x.cells] .nil (aF (.bool (p x)))) :
  UO.wp C (aX aJT.res (cI (.bool (l.all p)))) (g_ [frs l,.fn fn []]) .nil:=by
 simp only[go_sem,UO,aeJ,aeK,aJT];refine wp_loop (α:=Nat) (λk=>((((n_.set 1 (.fn fn [])).set 7 (frs l)).set 8 (.int .i64 (Z' l:Nat))).set 9 (.int .i64 k))) (λ_=>.nil) (λk=>k<=Z' l/\(l.take k).all p=true) (λk=>Z' l-k) 0 ⟨bkL _,rfl⟩ ?_ a_ ?_
 ·(repeat' (first|exact c_|refine d_ ?_ ?_))<;>first|(simp only[go_sem,bkG]<;>rfl)|rfl
 rintro k ⟨w,e⟩;simp only[go_sem,aeI,aeL];by_cases hlt:k<Z' l
 ·have d:(k:Int)<(Z' l:Nat):=Om;have i:(l.map RF.cells)[k]?=some (l[k]).cells:=by simp[hlt]
  simp only[go_sem,d,aeM,i];refine aP λo y=>?_;simp only[go_sem,aeN];refine aB (h _ (bkK hlt)) Ev ?_;cases hp:p l[k]with
  |false =>simp only[go_sem,aeO];exact bU (b:=false) Ev (vE (p:=p) hlt hp).symm
  |true =>simp only[go_sem,aeP,wZz k];refine aG (k+1) ⟨hlt,bkS.1 (vD hlt e hp)⟩ Om ?_ a_;exact Lq
 ·have d:¬(k:Int)<(Z' l:Nat):=Om;simp only[go_sem,d,aeQ];have:k=Z' l:=Om;subst this;rw[bkZ (bkN _)]at e;exact bU Ev e.symm
theorem aXJ(p:Int->Bool)(fn:Nat)(l:List Int)(u:Fits l)(h:∀x∈l,aH C fn [.int .i64 x] .nil (aF (.bool (p x)))) :
  UP.wp C (aX aJU.res (cI (.bool (l.all p)))) (g_ [ints l,.fn fn []]) .nil:=by
 simp only[go_sem,UP,aeS,aeT,aJU];refine wp_loop (α:=Nat) (λk=>((((n_.set 1 (.fn fn [])).set 7 (ints l)).set 8 (.int .i64 (Z' l:Nat))).set 9 (.int .i64 k))) (λ_=>.nil) (λk=>k<=Z' l/\(l.take k).all p=true) (λk=>Z' l-k) 0 ⟨bkL _,rfl⟩ ?_ a_ ?_
 ·(repeat' (first|exact c_|refine d_ ?_ ?_))<;>first|(simp only[go_sem,bkG]<;>rfl)|rfl
 rintro k ⟨w,e⟩;simp only[go_sem,aeR,aeU];by_cases hlt:k<Z' l
 ·have d:(k:Int)<(Z' l:Nat):=Om;have i:(l.map λn=>[PV.int .i64 n])[k]?=some [.int .i64 l[k]]:=by simp[hlt]
  simp only[go_sem,d,aeV,i,aeW];refine aB (h _ (bkK hlt)) Ev ?_;cases hp:p l[k]with
  |false =>simp only[go_sem,aeX];exact bU (b:=false) Ev (vE (p:=p) hlt hp).symm
  |true =>simp only[go_sem,aeY,wZz k];refine aG (k+1) ⟨hlt,bkS.1 (vD hlt e hp)⟩ Om ?_ a_;exact Lq
 ·have d:¬(k:Int)<(Z' l:Nat):=Om;simp only[go_sem,d,aeZ];have:k=Z' l:=Om;subst this;rw[bkZ (bkN _)]at e;exact bU Ev e.symm
abbrev aIH(l:List Bool):PV:=.sl 1 (l.map λb=>[PV.bool b])
theorem aXH(p:Bool->Bool)(fn:Nat)(l:List Bool)(u:Fits l)(h:∀x∈l,aH C fn [.bool x] .nil (aF (.bool (p x)))) :
  UN.wp C (aX aJS.res (cI (.bool (l.all p)))) (g_ [aIH l,.fn fn []]) .nil:=by
 simp only[go_sem,UN,aeA,aeB,aJS];refine wp_loop (α:=Nat) (λk=>((((n_.set 1 (.fn fn [])).set 7 (aIH l)).set 8 (.int .i64 (Z' l:Nat))).set 9 (.int .i64 k))) (λ_=>.nil) (λk=>k<=Z' l/\(l.take k).all p=true) (λk=>Z' l-k) 0 ⟨bkL _,rfl⟩ ?_ a_ ?_
 ·(repeat' (first|exact c_|refine d_ ?_ ?_))<;>first|(simp only[go_sem,bkG]<;>rfl)|rfl
 rintro k ⟨w,e⟩;simp only[go_sem,adZ,aeC];by_cases hlt:k<Z' l
 ·have d:(k:Int)<(Z' l:Nat):=Om;have i:(l.map λb=>[PV.bool b])[k]?=some [.bool l[k]]:=by simp[hlt]
  simp only[go_sem,d,aeD,i,aeE];refine aB (h _ (bkK hlt)) Ev ?_;cases hp:p l[k]with
  |false =>simp only[go_sem,aeF];exact bU (b:=false) Ev (vE (p:=p) hlt hp).symm
  |true =>simp only[go_sem,aeG,wZz k];refine aG (k+1) ⟨hlt,bkS.1 (vD hlt e hp)⟩ Om ?_ a_;exact Lq
 ·have d:¬(k:Int)<(Z' l:Nat):=Om;simp only[go_sem,d,aeH];have:k=Z' l:=Om;subst this;rw[bkZ (bkN _)]at e;exact bU Ev e.symm
theorem aQI(b:Bool):OQ.wp C (aX afD.res (cI (.bool b))) (g_ [.bool b]) .nil:=by
 simp only[go_sem,OQ,R3,R4,afD];exact bU Ev rfl
theorem aXP(d:∀n lo hi:Int,aH C 104 [.int .i64 n,.int .i64 lo,.int .i64 hi] .nil (aF (.bool (within n lo hi))))(n:Int):UT.wp C (aX aJZ.res (cI (.bool (within n 0 8)))) (g_ [.int .i64 n]) .nil:=by
 simp only[go_sem,UT,afN,afO,aJZ];refine aB (d n 0 8) Ev ?_;simp only[go_sem];exact bU Ev rfl
theorem aQK(e:∀x:RF,x.Ok->aH C 105 [.agg x.cells] .nil (aF (.bool (dX x))))(i:∀x:RF,x.Ok->aH C 97 [.agg x.cells] .nil (aF (.bool (bZ x))))(x:RF)(d:x.Ok) :
  OR.wp C (aX afS.res (cI (.bool (dX x&&bZ x)))) (g_ [.agg x.cells]) .nil:=by
 simp only[go_sem,OR,R9,Sa,afS];refine aB (e x d) Ev ?_;cases l:dX x with
 |false =>simp only[go_sem];exact bU Ev rfl
 |true =>simp only[go_sem];refine aB (i x d) Ev ?_;simp only[go_sem];exact bU Ev rfl
structure zV(C:Ctx):Prop extends zW C where
 inn:∀n lo hi:Int,aH C 104 [.int .i64 n,.int .i64 lo,.int .i64 hi] .nil (aF (.bool (within n lo hi)))
 uR:∀x:RF,x.Ok->aH C 97 [.agg x.cells] .nil (aF (.bool (bZ x)))
 lim:∀x:RF,x.Ok->aH C 105 [.agg x.cells] .nil (aF (.bool (dX x)))
 one:∀x:RF,x.Ok->aH C 101 [.agg x.cells] .nil (aF (.bool (FO x)))
 allf:∀(p:RF->Bool)(fn:Nat)(l:List RF),Fits l->(∀x∈l,aH C fn [.agg x.cells] .nil (aF (.bool (p x))))->aH C 99 [frs l,.fn fn []] .nil (aF (.bool (l.all p)))
 alli:∀(p:Int->Bool)(fn:Nat)(l:List Int),Fits l->(∀x∈l,aH C fn [.int .i64 x] .nil (aF (.bool (p x))))->aH C 100 [ints l,.fn fn []] .nil (aF (.bool (l.all p)))
 allb:∀(p:Bool->Bool)(fn:Nat)(l:List Bool),Fits l->(∀x∈l,aH C fn [.bool x] .nil (aF (.bool (p x))))->aH C 98 [aIH l,.fn fn []] .nil (aF (.bool (l.all p)))
 ends1:∀b:Bool,aH C 103 [.bool b] .nil (aF (.bool b))
 num1:∀n:Int,aH C 107 [.int .i64 n] .nil (aF (.bool (within n 0 8)))
 rate1:∀x:RF,x.Ok->aH C 109 [.agg x.cells] .nil (aF (.bool (dX x&&bZ x)))
 name:∀s:List UInt8,aH C 123 [.str s] .nil (aF (.bool (isName s)))
theorem zV.aYJ(L:zV C)(l:List RF)(h:nI l):aH C 99 [frs l,.fn 105 []] .nil (aF (.bool (l.all dX))):=
 L.allf dX 105 l h.fits λx d=>L.lim x (h.all x d)
theorem within_iff{n lo hi:Int}:within n lo hi=true↔lo<=n/\n<=hi:=by simp[within]
theorem a4P(L:zV C)(p:cJ)(hp:p.Ok) :
  fc.wp C (aX aXO.res (cI (.bool (WU p)))) (g_ [.int .i64 p.k,.int .i64 p.m,.int .i64 p.bjT,.agg [.int .i64 p.s0,.int .i64 p.s1,.int .i64 p.s2,.int .i64 p.s3,.int .i64 p.s4]]) .nil:=by
 simp only[go_sem,fc,ayZ,azA,aXO];refine aB (L.inn p.k 1 6) rfl ?_;unfold WU;cases w:within p.k 1 6 with
 |false =>simp only[go_sem,bkW,IL];exact bU rfl (by simp only[bkP])
 |true=>
  obtain⟨k1,k2⟩:=within_iff.1 w;simp only[go_sem,bkO];refine aB (L.inn p.m 0 4) rfl ?_;cases y:within p.m 0 4 with
  |false =>simp only[go_sem,bkW,IL];exact bU rfl (by simp only[bkP,blR])
  |true=>
   obtain⟨E,F⟩:=within_iff.1 y;have u:i_.wrap (p.k+p.m)=p.k+p.m:=wrap_i64 Om Om;by_cases l:p.k+p.m<=8
   ·have d:¬p.k+p.m>8:=Om;simp only[go_sem,bkO,u,d];refine aB (L.inn p.bjT p.k (p.k+p.m)) rfl ?_;cases B:within p.bjT p.k (p.k+p.m)with
    |false =>simp only[go_sem,bkW,IL];exact bU rfl (by simp only[bkP,blR])
    |true=>
     have e:(0:Int)<((5:Nat):Int):=by decide
     by_cases h5:p.s0=0
     ·have i:chunks 1 5 [PV.int .i64 p.s0,.int .i64 p.s1,.int .i64 p.s2,.int .i64 p.s3,.int .i64 p.s4]=([p.s0,p.s1,p.s2,p.s3,p.s4].map λn=>[PV.int .i64 n]):=rfl;have A:5<=maxLen:=by decide
      simp only[go_sem,bkO,e,cF h5,azB,i,A];refine aB (L.alli (λn=>within n 0 8) 107 [p.s0,p.s1,p.s2,p.s3,p.s4] (show 5<=9223372036854775807 by decide) λx _=>L.num1 x) rfl ?_;simp only[go_sem];exact bU rfl (by rw[aV l,aV h5];simp only[bkR])
     ·simp only[go_sem,bkO,e,dP h5,IL];exact bU rfl (by rw[bC h5];simp only[bkP,blR])
   ·have d:p.k+p.m>8:=Om;simp only[go_sem,bkO,u,d,IL];exact bU rfl (by rw[bC l];simp only[bkP,blR])
theorem max_eq(a b:Int):(if a<b then b else a)=max a b:=by
 rw[Int.max_def];by_cases h:a<b
 ·rw[aI h,aI Om]
 ·by_cases d:a<=b
  ·rw[aD h,aI d];omega
  ·rw[aD h,aD d]
theorem aXR(L:zV C)(p:cJ)(hp:p.Ok) :
  UU.wp C (aX aKA.res (cI (.bool (ND p)))) (g_ [.int .i64 p.m,frs p.repair,.agg p.target.cells,.agg p.bjF.cells]) .nil:=by
 simp only[go_sem,UU,afT,afU,aKA,max_eq,bkG];unfold ND;by_cases d:(Z' p.repair:Int)=max p.m 1
 ·simp only[go_sem,bW d];refine aB (L.allf (λx=>dX x&&bZ x) 109 p.repair hp.repair.fits λx e=>L.rate1 x (hp.repair.all x e)) rfl ?_;rw[aV d,bkR];cases i:p.repair.all λx=>dX x&&bZ x with
  |false =>simp only[go_sem];exact bU rfl rfl
  |true=>
   simp only[go_sem];refine aB (L.lim _ hp.target) rfl ?_;cases l:dX p.target with
   |false =>simp only[go_sem];exact bU rfl rfl
   |true=>
    simp only[go_sem];refine aB (L.one _ hp.target) rfl ?_;cases u:FO p.target with
    |false =>simp only[go_sem];exact bU rfl rfl
    |true =>simp only[go_sem];refine aB (L.lim _ hp.bjF) rfl ?_;simp only[go_sem];exact bU rfl rfl
 ·simp only[go_sem,bL d];exact bU rfl (by rw[bC d];rfl)
def xA(l:List (List UInt8))(k:List KS):Option PV:=match k with
 |[.str s]=>if l.contains s then some (.bool true)else none
 |_=>none
theorem aTF(l:List (List UInt8))(s:List UInt8):(λk=>if k=[KS.str s]then some (PV.bool true)else xA l k)=xA (l++[s]):=by
 funext k
 match k with
 |[]=>rfl
 |[.int a b]=>simp[xA]
 |[.bool a]=>simp[xA]
 |[.str t]=>
  by_cases h:t=s
  ·subst h;simp[xA]
  ·simp[xA,h]
 |a::b::c=>simp[xA]
abbrev texts(l:List (List UInt8)):PV:=.sl 1 (l.map λs=>[PV.str s])
theorem aTE:xA []=(λ_=>none:nU):=by
 funext k
 match k with
 |[]=>rfl
 |[.int a b]=>rfl
 |[.bool a]=>rfl
 |[.str t]=>rfl
 |a::b::c=>cases a<;>rfl
theorem aTG(l:List (List UInt8))(s:List UInt8):nU.upd (xA l) [KS.str s] (.bool true)=xA (l++[s]):=aTF l s
theorem aoF(l:List (List UInt8))(s:List UInt8):(xA l [KS.str s]).getD (.bool false)=.bool (l.contains s):=by
 show(if l.contains s then some (PV.bool true)else none).getD (.bool false)=_;cases l.contains s<;>rfl
theorem N9{p:Nat->Bool}{k:Nat}(h:(bkH k).all p=true)(hp:p k=true):(bkH (k+1)).all p=true:=by
 rw[boE,bnX,h];simp[hp]
theorem gY{p:Nat->Bool}{n k:Nat}(d:k<n)(hp:p k=false):(bkH n).all p=false:=by
 rw[List.all_eq_false];exact⟨k,blN.2 d,by simp[hp]⟩
def xW(p:Nat->Bool)(k:Nat):Prop:=(bkH k).all p=true
theorem xW.zero{p:Nat->Bool}:xW p 0:=rfl
theorem xW.step{p:Nat->Bool}{k:Nat}(h:xW p k)(hp:p k=true):xW p (k+1):=N9 h hp
def aNP(l:List (List UInt8))(o k:Nat):PF:=((((n_.set 3 (.map o)).set 7 (texts l)).set 8 (.int .i64 (Z' l:Nat))).set 9 (.int .i64 k))
theorem aXV(L:zV C)(l:List (List UInt8))(E:Fits l):UW.wp C (aX aKD.res (cI (.bool (distinct l)))) (g_ [texts l]) .nil:=by
 simp only[go_sem,UW,agA,agB,aKD];refine aP λo H=>?_;simp only[go_sem,agC];have A:(h_.set o (.map (false,[.str]) (λ_=>none)))=h_.set o (.map (false,[.str]) (xA (l.take 0))):=by rw[List.take_zero,aTE]
 unfold distinct;generalize hp:(λi=>isName (l.getD i [])&&!(l.take i).contains (l.getD i []))=p;have w:∀k (h:k<Z' l),p k=(isName l[k]&&!(l.take k).contains l[k]):=by intro k h;rw[<-hp];simp only[blB,bkT h,bnG]
 refine wp_loop (α:=Nat) (λk=>aNP l o k) (λk=>h_.set o (.map (false,[.str]) (xA (l.take k)))) (λk=>k<=Z' l/\xW p k) (λk=>Z' l-k) 0 ⟨bkL _,.zero⟩ ?_ ?_ ?_
 ·unfold aNP
  (repeat' (first|exact c_|refine d_ ?_ ?_))<;>first|(simp only[go_sem,bkG]<;>rfl)|rfl
 ·rw[A];exact b_
 rintro k ⟨F,y⟩;simp only[go_sem,afZ,agD,aNP];by_cases hlt:k<Z' l
 ·have e:(k:Int)<(Z' l:Nat):=Om;have B:(l.map λs=>[PV.str s])[k]?=some [.str l[k]]:=by simp[hlt]
  simp only[go_sem,e,agE,B,agF];refine aB (L.name l[k]) rfl ?_;have d:=w k hlt;cases x:isName l[k]with
  |false =>rw[x,bkP]at d;simp only[go_sem,bkW,wn];exact bU (b:=false) rfl (gY hlt d).symm
  |true=>
   rw[x,bkR]at d;cases u:(l.take k).contains l[k]with
   |true =>rw[u]at d;simp only[go_sem,bkO,aoF,u,wn];exact bU (b:=false) rfl (gY hlt d).symm
   |false=>
    rw[u]at d;simp only[go_sem,bkO,aoF,u,agG,aTG,agH,wZz k];refine aG (k+1) ⟨hlt,y.step d⟩ Om ?_ ?_
    ·exact Lq
    ·rw[blO hlt];exact e_ a_ Sq
 ·have e:¬(k:Int)<(Z' l:Nat):=Om;simp only[go_sem,e,Sb];have:k=Z' l:=Om;subst this;exact bU (b:=true) rfl (show xW p l.length from y).symm
def marks(n:Nat)(l:List Int):List Bool:=(bkH n).map λ(i:Nat)=>l.contains (i:Int)
theorem fl(n:Nat)(l:List Int):(marks n l).length=n:=by simp[marks]
theorem Sr(n:Nat):marks n []=bkM n false:=by
 refine bnM (by simp[marks]) λi d e=>by simp[marks]
theorem KK{n:Nat}{l:List Int}{m:Int}(d:0<=m)(e:m<n):(marks n l)[m.toNat]?=some (l.contains m):=by
 have:m.toNat<n:=Om;simp only[marks,blC,List.getElem?_range this,blJ];rw[Int.toNat_of_nonneg d]
theorem fm{n:Nat}{l:List Int}{m:Int}(e:0<=m)(p:m<n):(marks n l).set m.toNat true=marks n (l++[m]):=by
 refine bnM (by simp[marks]) λi u w=>?_;simp only[marks,blX,List.getElem_range,List.getElem_set,List.contains_append];by_cases h:m.toNat=i
 ·subst h;rw[aI rfl,Int.toNat_of_nonneg e];simp
 ·have d:((i:Nat):Int)≠m:=Om;rw[aD h];simp[d]
abbrev eT(l:List Bool):List (List PV):=l.map λb=>[PV.bool b]
theorem oO(l:List Bool)(i:Nat)(b:Bool):(eT l).set i [.bool b]=eT (l.set i b):=by unfold eT;rw[List.map_set]
structure Zx(C:Ctx):Prop extends zV C where
 num:∀p:cJ,p.Ok->aH C 106 [.int .i64 p.k,.int .i64 p.m,.int .i64 p.bjT,.agg [.int .i64 p.s0,.int .i64 p.s1,.int .i64 p.s2,.int .i64 p.s3,.int .i64 p.s4]] .nil (aF (.bool (WU p)))
 rate:∀p:cJ,p.Ok->aH C 108 [.int .i64 p.m,frs p.repair,.agg p.target.cells,.agg p.bjF.cells] .nil (aF (.bool (ND p)))
 uniq:∀l:List (List UInt8),Fits l->aH C 110 [texts l] .nil (aF (.bool (distinct l)))
def aZQ(p:cJ)(biW:Nat)(o k:Nat):PF:=(((((n_.set 1 (.int .i64 biW)).set 5 (.osl o 1 0 biW)).set 39 (ints p.biW)).set 40 (.int .i64 (Z' p.biW:Nat))).set 41 (.int .i64 k))
theorem a4R(L:Zx C)(p:cJ)(hp:p.Ok)(biW:Nat)(R:biW<=4):ff.wp C (aX aXQ.res (cI (.bool (mX biW p)))) (g_ [.agg p.cells,.int .i64 biW]) .nil:=by
 simp only[go_sem,ff,azF,azG,aXQ];refine aB (L.num p hp) rfl ?_;unfold mX;cases u:WU p with
 |false =>simp only[go_sem,bkW,mh];exact bU rfl (by simp only[bkP])
 |true=>
  by_cases l:Z' p.biW=0
  ·simp only[go_sem,bkO,bkG,bW (Om:(Z' p.biW:Int)=0),mh];refine bU rfl ?_;have:decide (Z' p.biW≠0)=false:=by simp[l]
   rw[this];simp only[bkP,blR]
  ·have y:decide (Z' p.biW≠0)=true:=by simp[l]
   simp only[go_sem,bkO,bkG,bL (Om:(Z' p.biW:Int)≠0)];refine aB (L.rate p hp) rfl ?_;rw[y];cases O:ND p with
   |false =>simp only[go_sem,bkW,mh];exact bU rfl (by simp only[bkP,blR])
   |true=>
    have A:((biW:Nat):Int)*((1:Nat):Int)<=140737488355328:=Om;have B:((biW:Nat):Int)<=9223372036854775807:=Om;simp only[bkR];simp only[go_sem,bkO,azH,A,B];refine aP λo S=>?_;simp only[go_sem,azI];have J:bkM biW [PV.bool false]=eT (marks biW (p.biW.take 0)):=by rw[List.take_zero,Sr];simp[eT]
    rw[J];generalize K:(λj=>within (p.biW.getD j 0) 0 ((biW:Int)-1)&&!(p.biW.take j).contains (p.biW.getD j 0))=q;have E:∀k (h:k<Z' p.biW),q k=(within p.biW[k] 0 ((biW:Int)-1)&&!(p.biW.take k).contains p.biW[k]):=by intro k h;rw[<-K];simp only[blB,bkT h,bnG]
    refine wp_loop (α:=Nat) (λk=>aZQ p biW o k) (λk=>h_.set o (.rows 1 (eT (marks biW (p.biW.take k))))) (λk=>k<=Z' p.biW/\xW q k) (λk=>Z' p.biW-k) 0 ⟨bkL _,.zero⟩ ?_ (b_) ?_
    ·unfold aZQ
     (repeat' (first|exact c_|refine d_ ?_ ?_))<;>first|(simp only[go_sem,bkG]<;>rfl)|rfl
    rintro k ⟨Q,F⟩;simp only[go_sem,afP,azJ,aZQ];have H:=hp.biW;by_cases hlt:k<Z' p.biW
    ·have e:(k:Int)<(Z' p.biW:Nat):=Om;have M:(p.biW.map λn=>[PV.int .i64 n])[k]?=some [.int .i64 p.biW[k]]:=by simp[hlt]
     have N:i_.wrap ((biW:Int)-1)=(biW:Int)-1:=wrap_i64 Om Om;simp only[go_sem,e,azK,M,azL,N];refine aB (L.inn p.biW[k] 0 ((biW:Int)-1)) rfl ?_;have d:=E k hlt;cases u:within p.biW[k] 0 ((biW:Int)-1)with
     |false =>rw[u,bkP]at d;simp only[go_sem,bkW,Mz];exact bU (b:=false) rfl (gY hlt d).symm
     |true=>
      rw[u,bkR]at d;obtain⟨w,U⟩:=within_iff.1 u;have x:p.biW[k]<(biW:Nat):=Om;have i:(eT (marks biW (p.biW.take k)))[p.biW[k].toNat]?=some [.bool ((p.biW.take k).contains p.biW[k])]:=by unfold eT;rw[blC,KK w x];rfl
      cases l:(p.biW.take k).contains p.biW[k]with
      |true =>rw[l]at d i;simp only[go_sem,bkO,w,x,blG,i,Mz];exact bU (b:=false) rfl (gY hlt d).symm
      |false=>
       rw[l]at d i;simp only[go_sem,bkO,w,x,blG,i,azM,oO,fm w x,afQ,wZz k];refine aG (k+1) ⟨hlt,F.step d⟩ Om ?_ ?_
       ·exact Lq
       ·rw[blO hlt];exact e_ a_ Sq
    ·have e:¬(k:Int)<(Z' p.biW:Nat):=Om;simp only[go_sem,e,afR];have:k=Z' p.biW:=Om;subst this;exact bU (b:=true) rfl (show xW q p.biW.length from F).symm
def aWK:PV->RF
 | .agg [.bool n,a,b]=>⟨n,kN a,kN b⟩
 |_=>⟨false,[],[]⟩
theorem aIZ(x:RF):aWK (.agg x.cells)=x:=by
 show(⟨x.neg,kN (aN x.num),kN (aN x.den)⟩:RF)=x;rw[eX,eX]
def flS:Spec:=λname vs=>match name,vs with
 |104,[.int _ n,.int _ lo,.int _ hi]=>some ([],λ_=>aF (.bool (within n lo hi)))
 |105,[x]=>some ([],λ_=>aF (.bool (dX (aWK x))))
 |97,[x]=>some ([],λ_=>aF (.bool (bZ (aWK x))))
 |_,_=>none
theorem adI(n lo hi:Int):flS 104 [.int .i64 n,.int .i64 lo,.int .i64 hi]=some ([],λ_=>aF (.bool (within n lo hi))):=rfl
theorem a4E(x:RF):flS 105 [.agg x.cells]=some ([],λ_=>aF (.bool (dX x))):=by
 show some _=_;rw[aIZ]
def aJX(f:aE)(t:List cY)(k:Nat):PF:=((((n_.set 1 (.bO f.cells)).set 45 (.sl 7 (t.map cY.cells))).set 46 (.int .i64 (Z' t:Nat))).set 47 (.int .i64 k))
theorem a4M(L:zV C)(f:aE)(Y:f.Ok):MM.wp C (aX aJW.res (cI (.bool (tM f)))) (g_ [.agg f.cells]) .nil:=by
 obtain⟨bjZ,bjC,biW,biY,biV,biZ,biX⟩:=f;cases biY with
 |nil =>rw[show tM ⟨bjZ,bjC,biW,[],biV,biZ,biX⟩=false from rfl];simp only[go_sem,MM,Mw,Mx,aJW,bmE,bnB];have:(((0:Nat):Int)==0)=true:=rfl;simp only[go_sem,this,ayJ];exact bU rfl rfl
 |cons r t=>
  generalize hF:(⟨bjZ,bjC,biW,r::t,biV,biZ,biX⟩:aE)=f at *
  have B:f.biY=r::t:=by rw[<-hF]
  have hP:tM f=MI f r t:=by unfold tM;rw[B]
  rw[hP];unfold MI;have l:Z' f.biY=Z' t+1:=by rw[B];rfl
  have Z:=Y.biY;have J:(f.biY.map cY.cells)[0]?=some r.cells:=by rw[B];rfl
  have β:(f.biY.map cY.cells)[blS 0]?=some r.cells:=J;have F:=Y.dom;have w:=F r (by rw[B];exact List.mem_cons_self ..);simp only[go_sem,MM,Mw,Mx,aJW,bkG,l,bL (Om:((Z' t+1:Nat):Int)≠0),ayK,J];refine aP λo ho=>?_;by_cases x:r.name=[]
  ·rw[aV x];by_cases A:r.level=0
   ·rw[aV A];by_cases E:r.parent=-1
    ·rw[aV E];by_cases K:r.bjP=0
     ·rw[aV K];simp only[go_sem,IJ,wH x,bkO,cF A,cF E,cF K];refine aB (L.lim r.bjK w.1) rfl ?_;cases c5:dX r.bjK with
      |false =>simp only[go_sem,bkW,CM];exact bU rfl (by simp only[blR,bkP])
      |true=>
       simp only[go_sem,bkO];refine aB (L.uR r.bjK w.1) rfl ?_;cases c6:bZ r.bjK with
       |true =>simp only[go_sem,CM];exact bU rfl (by simp only[bkO,blR,bkP])
       |false=>
        have S:(0:Int)<=1/\(1:Int)<=((Z' t+1:Nat):Int):=Om;have y:((f.biY.map cY.cells).take (Z' t+1)).drop (blS 1)=t.map cY.cells:=by rw[bkZ (by simp[l]),B];rfl
        have u:((f.biY.map cY.cells).take (Z' t+1)).drop 1=t.map cY.cells:=y;simp only[go_sem,ayL,bkG,l,S,u,bmI];generalize hq:(λi=>match t[i]? with|some d=>UB f i d|none=>false)=q;have Q:∀k (h:k<Z' t),q k=UB f k t[k]:=by intro k h;rw[<-hq];simp only[bkT h]
        refine wp_loop (α:=Nat) (λk=>aJX f t k) (λk=>.nil) (λk=>k<=Z' t/\xW q k) (λk=>Z' t-k) 0 ⟨bkL _,.zero⟩ ?_ a_ ?_
        ·unfold aJX
         (repeat' (first|exact c_|refine d_ ?_ ?_))<;>first|(simp only[go_sem,bkG]<;>rfl)|rfl
        rintro k ⟨hk,X⟩;simp only[go_sem,afA,ayM,aJX];by_cases hlt:k<Z' t
        ·have p:(k:Int)<(Z' t:Nat):=Om;have R:(t.map cY.cells)[k]?=some (t[k]).cells:=by simp[hlt]
         have N:=F t[k] (by rw[B];exact List.mem_cons_of_mem _ (bkK hlt));have e:=Q k hlt;unfold UB at e;simp only[go_sem,p,ayN,R];refine aP λo2 γ=>?_;simp only[go_sem];refine bP .nil flS a_ ?_;simp only[go_sem,ayO];refine bK (adI _ 0 k) (L.inn (t[k]).parent 0 k) rfl a_ ?_;cases M:within (t[k]).parent 0 k with
         |false =>simp only[M,bkP]at e;simp only[go_sem,bkW,CL];exact bU (b:=false) rfl (gY hlt e).symm
         |true=>
          obtain⟨i1,i2⟩:=within_iff.1 M;have i3:(t[k]).parent.toNat<Z' f.biY:=Om;have H:(f.biY.map cY.cells)[(t[k]).parent.toNat]?=some (f.biY[(t[k]).parent.toNat]).cells:=by simp[i3]
          have O:(f.biY.map cY.level).getD (t[k]).parent.toNat 0=(f.biY[(t[k]).parent.toNat]).level:=by simp[i3]
          rw[O,M,bkR]at e;by_cases e2:(f.biY[(t[k]).parent.toNat]).level=i_.wrap ((t[k]).level-1)
          ·rw[aV e2,bkR]at e;simp only[go_sem,bkO,i1,H,cF e2];refine bK (adI _ 1 4) (L.inn (t[k]).level 1 4) rfl a_ ?_;cases U:within (t[k]).level 1 4 with
           |false =>simp only[U,bkP]at e;simp only[go_sem,bkW,CL];exact bU (b:=false) rfl (gY hlt e).symm
           |true=>
            rw[U,bkR]at e;simp only[go_sem,bkO];refine bK (adI _ 1 64) (L.inn (t[k]).bjP 1 64) rfl a_ ?_;cases V:within (t[k]).bjP 1 64 with
            |false =>simp only[V,bkP]at e;simp only[go_sem,bkW,CL];exact bU (b:=false) rfl (gY hlt e).symm
            |true=>
             rw[V,bkR]at e;simp only[go_sem,bkO];refine bK (a4E (t[k]).bjK) (L.lim _ N.1) rfl a_ ?_;cases W:dX (t[k]).bjK with
             |false =>rw[W]at e;simp only[go_sem,bkW,CL];exact bU (b:=false) rfl (gY hlt e).symm
             |true =>rw[W]at e;simp only[go_sem,bkO,afB,wZz k];refine aG (k+1) ⟨hlt,X.step e⟩ Om ?_ a_;exact Lq
          ·simp only[bC e2,bkP]at e;simp only[go_sem,bkO,i1,H,dP e2,CL];exact bU (b:=false) rfl (gY hlt e).symm
        ·have p:¬(k:Int)<(Z' t:Nat):=Om;simp only[go_sem,p,afC];have:k=Z' t:=Om;subst this;exact bU (b:=true) rfl (show xW q t.length from X).symm
     ·simp only[go_sem,IJ,wH x,bkO,cF A,cF E,dP K,CM];exact bU rfl (by rw[bC K];simp only[blR,bkP])
    ·simp only[go_sem,IJ,wH x,bkO,cF A,dP E,CM];exact bU rfl (by rw[bC E];simp only[blR,bkP])
   ·simp only[go_sem,IJ,wH x,bkO,dP A,CM];exact bU rfl (by rw[bC A];simp only[blR,bkP])
  ·simp only[go_sem,IJ,A3 x,bkW,CM];exact bU rfl (by rw[bC x];simp only[blR,bkP])
theorem BF(R:List Bool)(i:Nat)(row:List RF):∀k,(dL R i row k).length=Z' R
 |0=>rfl
 |k+1=>by simp only[dL,bmD,BF R i row k]
theorem amV(l:dB)(R:List Bool)(i:Nat):(pF l R i).length=Z' R:=by
 unfold pF;rw[BF,bmD]
theorem wX(l:dB)(R:List Bool):∀i,(eA l R i).length=Z' R
 |0=>rfl
 |i+1=>by simp only[eA,amV,wX l R i]
theorem wW(l:dB):∀r,(eE l r).length=Z' l.exit
 |0=>by simp[eE]
 |r+1=>by simp only[eE,wX,wW l r]
theorem yI{R:List Bool}{i:Nat}(h:i<Z' R):(eT R)[i]?=some [.bool (R.getD i false)]:=by
 unfold eT;rw[blC,bkT h,blB,bkT h];rfl
theorem LZ(R:List Bool):(eT R).length=Z' R:=by simp[eT]
def l9(l:dB)(o r:Nat):PF:=(((n_.set 1 (.bO l.cells)).set 3 (.osl o 1 0 l.exit.length)).set 4 (.int .i64 r))
def UD(l:dB)(o r i:Nat):PF:=(((((n_.set 1 (.bO l.cells)).set 3 (.osl o 1 0 l.exit.length)).set 4 (.int .i64 r)).set 19 (.int .i64 (Z' l.exit:Nat))).set 20 (.int .i64 i))
def AK(l:dB)(o r i:Nat)(row:List RF)(k:Nat):PF:=(((((((((n_.set 1 (.bO l.cells)).set 3 (.osl o 1 0 l.exit.length)).set 4 (.int .i64 r)).set 19 (.int .i64 (Z' l.exit:Nat))).set 20 (.int .i64 i)).set 5 (.int .i64 i)).set 42 (frs row)).set 43 (.int .i64 (Z' row:Nat))).set 44 (.int .i64 k))
def lP(o:Nat)(R:List Bool):PH:=h_.set o (.rows 1 (eT R))
theorem atZ(L:zV C)(l:dB)(o r i:Nat)(row:List RF)(E:nI row)(V:Z' row=Z' l.exit)(hi:i<Z' l.exit)(Z:Z' l.exit<=4)(d:List Bool)(W:Z' d=Z' l.exit)(K:cH)(F:PF)(H:PH)
  (N:(AK l o r i row 0).le F) (J:(lP o d).le H)
  (S:∀F H,(AK l o r i row row.length).le F->(lP o (dL d i row row.length)).le H->K .normal F H) :
  aC.wp C (.block 4 (.loop MN)) K F H:=by
 simp only[go_sem];refine wp_loop (α:=Nat) (λk=>AK l o r i row k) (λk=>lP o (dL d i row k)) (λk=>k<=Z' row) (λk=>Z' row-k) 0 (bkL _) N J ?_;intro k Y;simp only[go_sem,MN,afK,AK,lP];have O:=BF d i row k;by_cases hlt:k<Z' row
 ·have e:(k:Int)<(Z' row:Nat):=Om;have U:(row.map RF.cells)[k]?=some (row[k]).cells:=by simp[hlt]
  simp only[go_sem,e,R6,U];refine aP λo7 B=>?_;have M:o≠o7:=by rintro rfl;simp only[bD,if_true]at B;cases B
  have u:(i:Int)<(Z' l.exit:Nat):=Om;have y:(k:Int)<(Z' l.exit:Nat):=Om;have p:=yI (R:=dL d i row k) (i:=i) Om;have w:=yI (R:=dL d i row k) (i:=k) Om;have x:dL d i row (k+1)=(dL d i row k).set i ((dL d i row k).getD i false||bZ row[k]&&(dL d i row k).getD k false):=by simp only[dL,blB,blC,bkT hlt,blJ,bnG]
  have fin:∀(b:Bool)(F:PF)(H:PH),b=((dL d i row k).getD i false||bZ row[k]&&(dL d i row k).getD k false)->(AK l o r i row (k+1)).le F->H o=some (.rows 1 ((eT (dL d i row k)).set i [.bool b])) ->
    jM (λk=>AK l o r i row k) (λk=>lP o (dL d i row k)) (λk=>k<=Z' row) (λk=>Z' row-k) (Z' row-k) (gE 4 K) .normal F H:=by
   intro b F H hb N J;refine aG (k+1) hlt Om N ?_;rw[oO,hb,<-x]at J;exact e_ a_ J
  unfold AK lP at fin;generalize hb:(dL d i row k).getD i false=b at *
  generalize X:(dL d i row k).getD k false=c at *
  generalize Q:bZ row[k]=A at *
  cases b with
  |true =>simp only[go_sem,ef,M,u,blG,p,MP,wZz k];exact fin true _ _ bH Lq Sq
  |false=>
   simp only[go_sem,ef,M,u,blG,p];refine aB (L.uR _ (E.all _ (bkK hlt))) rfl ?_;rw[Q];cases A with
   |false =>simp only[go_sem,u,y,M,blG,p,w,MP,wZz k];exact fin false _ _ bH Lq Sq
   |true =>simp only[go_sem,u,y,M,blG,p,w,MP,wZz k];exact fin c _ _ bH Lq Sq
 ·have e:¬(k:Int)<(Z' row:Nat):=Om;simp only[go_sem,e];have:k=Z' row:=Om;subst this;exact S _ _ (by unfold AK;exact Lq) (b_)
structure LQ(l:dB):Prop where
 n:Z' l.exit<=4
 bjA:Z' l.bjA=Z' l.exit
 row:∀r∈l.bjA,Z' r=Z' l.exit
theorem auA(L:zV C)(l:dB)(S:l.Ok)(O:LQ l)(o r:Nat)(R:List Bool)(hR:Z' R=Z' l.exit)(K:cH)(F:PF)(H:PH)
  (u:(UD l o r 0).le F) (M:(lP o R).le H)
  (hK:∀F H,(l9 l o r).le F->(lP o (eA l R l.exit.length)).le H->K .normal F H) :
  aC.wp C (.block 2 (.loop MO)) K F H:=by
 simp only[go_sem];refine wp_loop (α:=Nat) (λi=>UD l o r i) (λi=>lP o (eA l R i)) (λi=>i<=Z' l.exit) (λi=>Z' l.exit-i) 0 (bkL _) u M ?_;intro i hi;have U:=wX l R i;have hn:=O.n;by_cases hlt:i<Z' l.exit
 ·have d:(i:Int)<(Z' l.exit:Nat):=Om;have p:i<Z' l.bjA:=by rw[O.bjA];exact hlt
  have w:=yI (R:=eA l R i) (i:=i) Om;have hx:(l.exit.map RF.cells)[i]?=some (l.exit[i]).cells:=by simp[hlt]
  have B:(l.bjA.map λr=>[frs r])[i]?=some [frs l.bjA[i]]:=by simp[p]
  have Q:(l.bjA[i]).length=Z' l.exit:=O.row _ (bkK p);generalize e:(eA l R i).set i ((eA l R i).getD i false||bZ l.exit[i])=E;have A:Z' E=Z' l.exit:=by rw[<-e,bmD];omega
  have x:eA l R (i+1)=dL E i l.bjA[i] (l.bjA[i]).length:=by
   simp only[eA,pF];have W:(l.exit.map bZ).getD i false=bZ l.exit[i]:=by simp[blB,hlt]
   have e2:l.bjA.getD i []=l.bjA[i]:=by simp[blB,p]
   rw[W,e2,e]
  have rest:∀(F:PF)(H:PH),(((((((n_.set 1 (.bO l.cells)).set 3 (.osl o 1 0 l.exit.length)).set 4 (.int .i64 r)).set 19 (.int .i64 (Z' l.exit:Nat))).set 20 (.int .i64 i)).set 5 (.int .i64 i)):PF).le F->H o=some (.rows 1 (eT E)) ->
    aC.wp C (.seq (.region we) (.block 4 (.loop MN))) (gE 3 (kD C (aC.wp C (.region el)) (jM (λi=>UD l o r i) (λi=>lP o (eA l R i)) (λi=>i<=Z' l.exit) (λi=>Z' l.exit-i) (Z' l.exit-i) (gE 2 K)))) F H:=by
   intro F H u M;have f1:F 1=some (.bO l.cells):=u 1 _ rfl;have f3:F 3=some (.osl o 1 0 l.exit.length):=u 3 _ rfl;have f4:F 4=some (.int .i64 r):=u 4 _ rfl;have X:F 19=some (.int .i64 (Z' l.exit:Nat)):=u 19 _ rfl;have Y:F 20=some (.int .i64 i):=u 20 _ rfl;have Z:F 5=some (.int .i64 i):=u 5 _ rfl;rw[Pd];simp only[go_sem,we,f1,Z,B,bkG];have inner:=atZ L l o r i l.bjA[i] (S.row _ (bkK p)) Q hlt hn E A;simp only[aC.wp,go_sem]at inner;refine inner _ _ _ ?_ (e_ a_ M) ?_
   ·unfold AK;exact Lq
   ·intro V H' y N;have J:V 20=some (.int .i64 i):=y 20 _ (by unfold AK;simp only[go_sem]);simp only[go_sem,el,J,wZz i];refine aG (i+1) hlt Om ?_ (by rw[x];exact N);have g:=λ(q:Nat) v h=>y q v h;unfold UD;unfold AK at g;refine d_ (d_ (d_ (d_ (d_ c_ ?_) ?_) ?_) ?_) ?_
    ·simp only[go_sem];exact g 1 _ rfl
    ·simp only[go_sem];exact g 3 _ rfl
    ·simp only[go_sem];exact g 4 _ rfl
    ·simp only[go_sem];exact g 19 _ rfl
    ·simp only[go_sem]
  simp only[aC.wp,go_sem]at rest;simp only[go_sem,MO,wc,UD,lP,d,afJ];generalize hb:(eA l R i).getD i false=b at *
  cases b with
  |true =>simp only[go_sem,wd,d,blG,w];refine rest _ _ Lq ?_;rw[<-e];simp only[go_sem,oO,Bool.true_or]
  |false =>simp only[go_sem,wd,d,blG,w,hx];refine aB (L.uR _ (S.exit.all _ (bkK hlt))) rfl ?_;simp only[go_sem,d,blG,w];refine rest _ _ Lq ?_;rw[<-e];simp only[go_sem,oO,Bool.false_or]
 ·have d:¬(i:Int)<(Z' l.exit:Nat):=Om;simp only[go_sem,MO,wc,UD,lP,d];have:i=Z' l.exit:=Om;subst this;exact hK _ _ (by unfold l9;exact Lq) b_
theorem aXL(L:zV C)(l:dB)(F:l.Ok)(A:LQ l):UQ.wp C (aX aJY.res (cI (.bool (uS l)))) (g_ [.agg l.cells]) .nil:=by
 have H:=A.n;have w:(Z' l.exit:Int)*((1:Nat):Int)<=140737488355328:=Om;have y:(Z' l.exit:Int)<=9223372036854775807:=Om;simp only[go_sem,UQ,afE,afF,aJY,bkG,w,y];refine aP λo J=>?_;simp only[go_sem,afG];refine wp_loop (α:=Nat) (λr=>l9 l o r) (λr=>lP o (eE l r)) (λr=>r<=Z' l.exit+1) (λr=>Z' l.exit+1-r) 0 (bkL _) ?_ ?_ ?_
 ·unfold l9;exact Lq
 ·refine e_ a_ ?_;simp only[go_sem,eE];simp[eT]
 intro r K;have e:=wW l r;simp only[go_sem,R5,afH,l9,lP];by_cases hlt:r<=Z' l.exit
 ·have d:(r:Int)<=(Z' l.exit:Nat):=Om;simp only[go_sem,d,afI];have inner:=auA L l F A o r (eE l r) e;simp only[aC.wp,go_sem]at inner;refine inner _ _ _ ?_ b_ ?_
  ·unfold UD;exact Lq
  ·intro B H' p u;have g:=λ(q:Nat) v h=>p q v h;unfold l9 at g;have g4:B 4=some (.int .i64 r):=g 4 _ rfl;simp only[go_sem,R7,g4,wZz r];refine aG (r+1) Om Om ?_ u;refine d_ (d_ (d_ c_ ?_) ?_) ?_
   ·simp only[go_sem];exact g 1 _ rfl
   ·simp only[go_sem];exact g 3 _ rfl
   ·simp only[go_sem]
 ·have d:¬(r:Int)<=(Z' l.exit:Nat):=Om;have:r=Z' l.exit+1:=Om;subst this;simp only[go_sem,d,R8];have i:=L.allb id 103 (eE l (Z' l.exit+1)) (Om:(eE l (Z' l.exit+1)).length<=_) λx _=>L.ends1 x;have E:(eT (eE l (Z' l.exit+1))).length=Z' l.exit:=by rw[LZ,e]
  refine xV i (rs:=eT (eE l (Z' l.exit+1))) (o:=o) (s:=1) Sq ?_ ?_
  ·simp only[go_sem,CK (show l.exit.length<=(eT (eE l (Z' l.exit+1))).length by omega),bkZ (show(eT (eE l (Z' l.exit+1))).length<=l.exit.length by omega)]
  ·simp only[go_sem];exact bU rfl rfl
end Go.PM
