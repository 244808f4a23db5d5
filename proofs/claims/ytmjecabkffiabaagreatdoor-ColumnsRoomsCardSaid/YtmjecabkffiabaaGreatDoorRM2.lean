/-Lemmas for the law. No condition.-/
import Derived.Test.YtmjecabkffiabaaGreatDoorRM1
import Derived.Shelf.Strconv.Itoa3
import Derived.Test.YtmjecabkffiabaaGreatDoorProg
import Derived.ProofKit
import Derived.OpenShut
set_option linter.unusedSimpArgs false
set_option linter.unusedVariables false
open Nat renaming reduceEqDiff->γ,reduceAdd->δ,reduceSub->ε,reduceMul->ζ,reduceLT->η,reduceLeDiff->θ,reduceBEq->τ
open Int renaming reduceLT->ι,reduceLE->κ,reduceEq->μ,reduceToNat->ν,reduceAdd->ξ,reduceNeg->ο,reduceBEq->ρ,reduceBNe->σ
open List renaming reduceReplicate->υ
open List renaming length_map->auD,range->auE,getElem_mem->auH,length_append->auJ,replicate->auL,getD_eq_getElem?_getD->auM,getElem?_eq_getElem->auP,mem_cons->auQ,length_singleton->auS,mem_map->auT,length_take->auU,all_eq_true->auX,take_of_length_le->auZ,getElem?_map->avC,map_append->avD,length_cons->avG,map_cons->avH,take_length->avI,mem_range->avM,mem_singleton->avN,getElem?_eq_some_iff->avP,set_cons_zero->avQ,drop_zero->avR,length_nil->avS,length_set->avT,Sublist->avU,append_assoc->avW,mem_append->avX,map_nil->avY,getElem?_eq_none->avZ,getElem_map->awA,append_nil->awD,take_succ_eq_append_getElem->awE,getElem?_append_right->awH,getElem_of_mem->awI,length_drop->awM,getElem?_append_left->awR,drop_eq_getElem_cons->awS,mem_of_getElem?->awW,Perm->axF,nil_append->axI,ext_getElem->axK,map_congr_left->axL,map_map->axM,all_cons->axP,map_take->axQ,nodup_append->axR,set_append_right->axS,cons_append->axX,take_append_drop->axY,range_succ->ayA,sublist_append_left->ayD,getElem?_set->ayG,set_cons_succ->ayI,drop_of_length_le->ayS,getElem?_drop->ayT,mem_or_eq_of_mem_set->ayU,mem_cons_of_mem->ayV,mem_of_mem_take->ayW,getElem_append_right->ayY
open Nat renaming gcd->auF,le_refl->auG,zero_le->auK,mul_add->auW,zero_add->avA,lt_or_ge->avF,le_trans->avJ,mul_assoc->avK,mul_le_mul_right->avL,mul_comm->avO,add_mul->avV,mod_eq_of_lt->awF,mod_lt->awJ,beq->awK,pow_succ->awL,sub_self->awU,add_zero->awX,mul_le_mul->awY,mul_le_mul_left->awZ,succ_mul->axB,add_assoc->axG,min_eq_left->axH,pos_of_ne_zero->axJ,eq_zero_or_pos->axN,div_le_self->axT,pow_pos->axU,div_lt_iff_lt_mul->ayB,pow_le_pow_right->ayJ,div_add_mod->ayN,div_eq_of_lt->ayO
open Bool renaming and_eq_true->auI,false_and->auN,not_true->auO,true_and->auV,not_false->auY,and_false->awB,and_true->awP
open Option renaming map_eq_some_iff->auR,map_some->avB,some->awN,getD_some->axC,bind_some->ayE,bind_eq_some_iff->ayP
open Int renaming toNat->awC,toNat_natCast->awG
open Array renaming length_toList->axV,getElem?_eq_some_iff->ayF
open List renaming length->l''
set_option maxRecDepth 100000
set_option maxHeartbeats 800000
open Go.IntKind renaming i64->i_,u64->u_
open Go.PM.PF renaming nil->n_,args->g_
open Go.PM.PH renaming nil->h_
noncomputable section
namespace Go.Proofs
open Go.Shelf
def Tryz.Kt:Go.Shelf.Ren:=⟨λ|171=>67|243=>105|246=>133|283=>153|284=>154|285=>155|286=>156|129=>165|317=>164|318=>166|319=>167|320=>168|337=>169|338=>170|n=>n,λ|3=>3|9=>9|2=>2|4=>4|171=>182|0=>0|53=>138|37=>22|5=>5|173=>185|212=>189|51=>131|20=>20|213=>190|46=>161|232=>193|233=>194|n=>n,λ|17=>0|18=>1|19=>2|n=>n⟩
theorem tQ_{α:Type}{x:Option α}{a b:α}(h:x=some a)(k:a=b:=by kernel_rfl):x=some b:=h.trans (congrArg some k)
theorem Tryz.afX:Go.Proofs.Lays.n171 Tryz.prog Tryz.Kt:={
 mixed:=by kernel_rfl
 f129:=tQ_ Tryz.func165
 f171:=tQ_ Tryz.func67
 f243:=tQ_ Tryz.func105
 f246:=tQ_ Tryz.func133
 f283:=tQ_ Tryz.func153
 f284:=tQ_ Tryz.func154
 f285:=tQ_ Tryz.func155
 f286:=tQ_ Tryz.func156
 f317:=tQ_ Tryz.func164
 f318:=tQ_ Tryz.func166
 f319:=tQ_ Tryz.func167
 f320:=tQ_ Tryz.func168
 f337:=tQ_ Tryz.func169
 f338:=tQ_ Tryz.func170
 t0:=Tryz.underlying0
 a0:=Tryz.isAgg0
 z0:=Tryz.sizeOf0
 v0:=Tryz.zeroValue0
 t2:=Tryz.underlying2
 a2:=Tryz.isAgg2
 z2:=Tryz.sizeOf2
 v2:=Tryz.zeroValue2
 t3:=Tryz.underlying3
 a3:=Tryz.isAgg3
 z3:=Tryz.sizeOf3
 v3:=Tryz.zeroValue3
 t4:=Tryz.underlying4
 a4:=Tryz.isAgg4
 z4:=Tryz.sizeOf4
 v4:=Tryz.zeroValue4
 t5:=Tryz.underlying5
 a5:=Tryz.isAgg5
 z5:=Tryz.sizeOf5
 v5:=Tryz.zeroValue5
 t9:=Tryz.underlying9
 a9:=Tryz.isAgg9
 z9:=Tryz.sizeOf9
 v9:=Tryz.zeroValue9
 t20:=Tryz.underlying20
 a20:=Tryz.isAgg20
 z20:=Tryz.sizeOf20
 v20:=Tryz.zeroValue20
 t37:=Tryz.underlying22
 a37:=Tryz.isAgg22
 z37:=Tryz.sizeOf22
 v37:=Tryz.zeroValue22
 t46:=Tryz.underlying161
 a46:=Tryz.isAgg161
 z46:=Tryz.sizeOf161
 v46:=Tryz.zeroValue161
 t51:=Tryz.underlying131
 a51:=Tryz.isAgg131
 z51:=Tryz.sizeOf131
 v51:=Tryz.zeroValue131
 t53:=Tryz.underlying138
 a53:=Tryz.isAgg138
 z53:=Tryz.sizeOf138
 v53:=Tryz.zeroValue138
 t171:=Tryz.underlying182
 a171:=Tryz.isAgg182
 z171:=Tryz.sizeOf182
 v171:=Tryz.zeroValue182
 t173:=Tryz.underlying185
 a173:=Tryz.isAgg185
 z173:=Tryz.sizeOf185
 v173:=Tryz.zeroValue185
 t212:=Tryz.underlying189
 a212:=Tryz.isAgg189
 z212:=Tryz.sizeOf189
 v212:=Tryz.zeroValue189
 t213:=Tryz.underlying190
 a213:=Tryz.isAgg190
 z213:=Tryz.sizeOf190
 t232:=Tryz.underlying193
 a232:=Tryz.isAgg193
 z232:=Tryz.sizeOf193
 v232:=Tryz.zeroValue193
 t233:=Tryz.underlying194
 a233:=Tryz.isAgg194
 z233:=Tryz.sizeOf194
 v233:=Tryz.zeroValue194
 g17:=by kernel_rfl
 g18:=by kernel_rfl
 g19:=by kernel_rfl }
end Go.Proofs
namespace Go.PM
open Go
inductive Co:PV->PV->Prop
 |refl (v:PV):Co v v
 |junk (v:PV):Co v .junk
 |nil (s:Nat):Co .aE (.sl s [])
 |osl0 (o s off s':Nat):Co (.osl o s off 0) (.sl s' [])
 |agg {cs ds:V_} (hl:l'' ds=l'' cs) (h:∀(j:Nat) p q,cs[j]?=some p->ds[j]?=some q->Co p q):Co (.agg cs) (.agg ds)
 |tup {cs ds:V_} (hl:l'' ds=l'' cs) (h:∀(j:Nat) p q,cs[j]?=some p->ds[j]?=some q->Co p q):Co (.tup cs) (.tup ds)
 |bQ {cs ds:V_} (hl:l'' ds=l'' cs) (h:∀(j:Nat) p q,cs[j]?=some p->ds[j]?=some q->Co p q):Co (.bQ cs) (.bQ ds)
 |sl {s:Nat} {rs ts:P2_} (hl:l'' ts=l'' rs) (hr:∀(i:Nat) r t,rs[i]?=some r->ts[i]?=some t->l'' t=l'' r)
   (h:∀(i j:Nat) p q,at2 rs i j=some p->at2 ts i j=some q->Co p q):Co (.sl s rs) (.sl s ts)
structure CoL(ps qs:V_):Prop where
 len:l'' qs=l'' ps
 at_:∀(j:Nat) p q,ps[j]?=some p->qs[j]?=some q->Co p q
theorem CoL.refl(ps:V_):CoL ps ps:=⟨rfl,λj p q h k=>by rw[h]at k;cases k;exact .refl p⟩
theorem Co.sound{E:Env}{p q:PV}(h:Co p q):∀{v:Value},bE E p v->bE E q v:=by
 induction h with
 |refl=>intro v r;exact r
 |junk=>intro v _;exact .junk v
 |nil s =>intro v r;cases r;exact .sl (λ_ _=>.bool false) bC aU bC bC (λ_ _=>rfl) (by simp[at2])
 |osl0 o s off s'=>
  intro v r;cases r with
  |osl hb N α Z A hn V=>exact .sl (λ_ _=>.bool false) bC A bC bC (λ_ _=>rfl) (by simp[at2])
 |agg y h J=>
  intro v r;cases r with
  |agg vs H K F=>
  refine .agg vs (H.trans y.symm) K λj q u l W=>?_;have w:=(avP.1 l).1;have hp:=auP (show j<_ by rw[y]at w;exact w);exact J j _ q hp l (F j _ u hp W)
 |tup y h J=>
  intro v r;cases r with
  |tup vs H F=>
  refine .tup vs (H.trans y.symm) λj q u l W=>?_;have w:=(avP.1 l).1;have hp:=auP (show j<_ by rw[y]at w;exact w);exact J j _ q hp l (F j _ u hp W)
 |bQ y h J=>
  intro v r;cases r with
  |bQ u N S K F=>
  refine .bQ u N (λj q l=>?_) K λj q l=>?_;have w:=(avP.1 l).1;exact S j _ (auP (show j<_ by rw[y]at w;exact w));have w:=(avP.1 l).1;have hp:=auP (show j<_ by rw[y]at w;exact w);exact J j _ q hp l (F j _ hp)
 |@sl s rs ts y M h J=>
  intro v r;have O:∀(i j:Nat) q,at2 ts i j=some q->∃p,at2 rs i j=some p:=by intro i j q l;unfold at2 at l ⊢;rw[ayP]at l;obtain⟨t,Q,l⟩:=l;have hi:=(avP.1 Q).1;have F:=auP (Om:i<l'' rs);have:=M i _ t F Q;have w:=(avP.1 l).1;rw[F];exact⟨(rs[i])[j]'Om,by simp⟩
  cases r with
  |sl u Y A hs ha K F=>
  rw[<-y];refine .sl u Om A (λt Q=>?_) (λU=>?_) K λi j q l=>?_;obtain⟨i,hi,rfl⟩:=awI Q;have:=M i rs[i] ts[i] bC bC;rw[this];exact hs _ bC;obtain⟨ad,e,sp,S⟩:=ha (by rintro rfl;exact U (List.eq_nil_of_length_eq_zero (by simpa using y)));refine⟨ad,e,sp,λi j q l=>?_⟩;obtain⟨p,hp⟩:=O i j q l;exact S i j p hp;obtain⟨p,hp⟩:=O i j q l;exact J i j p q hp l (F i j p hp)
theorem CoL.sound{E:Env}:∀{ps i:V_}{vs:List Value},CoL ps i->fS E ps vs->fS E i vs
 |[],i,vs,h,r=>by cases r;have:i=[]:=List.eq_nil_of_length_eq_zero h.len;subst this;exact .nil
 |p::ps,i,vs,h,r=>by
  cases r with
  |cons r1 r2=>
  cases i with
  |nil=>have:=h.len;simp at this
  |cons q i =>refine .cons ((h.at_ 0 p q rfl rfl).sound r1) (CoL.sound ⟨by simpa using h.len,λj x y a b=>h.at_ (j+1) x y (by simpa using a) (by simpa using b)⟩ r2)
variable{C:Ctx}
theorem aG.args{name:Nat}{args i:V_}{H:PH}{R:R_}(h:aG C name i H R)(y:CoL args i):aG C name args H R:=
 ⟨h.1,λE w vs u hW l=>h.2 E w vs u hW (y.sound l)⟩
theorem aG.post{name:Nat}{args:V_}{H:PH}{R F:R_}(h:aG C name args H R)(N:∀r H',R r H'->∃r',Co r r'/\F r' H'):aG C name args H F:=
 ⟨h.1,λE w vs M hW y=>(h.2 E w vs M hW y).mono λe S O=>by obtain⟨v,pv,J,H',rfl,i,Q,K,hp⟩:=O;obtain⟨A,l,u⟩:=N pv H' hp;exact⟨v,A,J,H',rfl,i,l.sound Q,K,u⟩⟩
attribute [go_sem] List.getElem?_cons_succ List.getElem?_cons_zero and_self and_true true_and or_true true_or or_false false_or auO auY avB ayE if_true if_false avG avS List.drop_succ_cons avR List.take_succ_cons List.take_zero avH avY awN.injEq PV.bool.injEq PV.int.injEq aZ PV.bin
@[go_sem] theorem amL(k:IntKind)(a b:Int):nP .add k a b=some (.int k (k.wrap (a+b))):=(rfl)
@[go_sem] theorem amV(k:IntKind)(a b:Int):nP .sub k a b=some (.int k (k.wrap (a-b))):=(rfl)
@[go_sem] theorem amR(k:IntKind)(a b:Int):nP .mul k a b=some (.int k (k.wrap (a*b))):=(rfl)
@[go_sem] theorem amT(k:IntKind)(a b:Int):nP .quo k a b=if b=0 then none else some (.int k (k.wrap (a.tdiv b))):=(rfl)
@[go_sem] theorem amU(k:IntKind)(a b:Int):nP .rem k a b=if b=0 then none else some (.int k (a.tmod b)):=(rfl)
@[go_sem] theorem amM(k:IntKind)(a b:Int):nP .eql k a b=some (.bool (a==b)):=(rfl)
@[go_sem] theorem amS(k:IntKind)(a b:Int):nP .neq k a b=some (.bool (a != b)):=(rfl)
@[go_sem] theorem amQ(k:IntKind)(a b:Int):nP .lss k a b=some (.bool (decide (a<b))):=(rfl)
@[go_sem] theorem amP(k:IntKind)(a b:Int):nP .leq k a b=some (.bool (decide (a<=b))):=(rfl)
@[go_sem] theorem amO(k:IntKind)(a b:Int):nP .gtr k a b=some (.bool (decide (a>b))):=(rfl)
@[go_sem] theorem amN(k:IntKind)(a b:Int):nP .geq k a b=some (.bool (decide (a>=b))):=(rfl)
section
variable {C:Ctx} {K:cH} {F:PF} {H:PH}
@[go_sem] theorem arT:aK.wp C .skip K F H=K .normal F H:=(rfl)
@[go_sem] theorem aoO(ops:List bY):aK.wp C (.region ops) K F H=wpOps C ops (K .normal) F H:=(rfl)
@[go_sem] theorem x8(a b:aK):aK.wp C (.seq a b) K F H=a.wp C (jB C (b.wp C) K) F H:=(rfl)
@[go_sem] theorem apY(id:Nat)(c:aK):aK.wp C (.block id c) K F H=c.wp C (fX id K) F H:=(rfl)
@[go_sem] theorem arS(id:Nat):aK.wp C (.exit id) K F H=K (.exit id) F H:=(rfl)
@[go_sem] theorem asH:aK.wp C .ret K F H=K .ret F H:=(rfl)
def XE(C:Ctx)(v:Option PV)(a b:aK)(K:cH)(F:PF)(H:PH):Prop:=
 match v with
 |some (.bool t)=>if t then a.wp C K F H else b.wp C K F H
 |_=>False
@[go_sem] theorem acK(c:aP)(a b:aK):aK.wp C (.cond c a b) K F H=XE C (c.ev F) a b K F H:=(rfl)
@[go_sem] theorem anA(a b:aK):XE C (some (.bool true)) a b K F H=a.wp C K F H:=(rfl)
@[go_sem] theorem alL(a b:aK):XE C (some (.bool false)) a b K F H=b.wp C K F H:=(rfl)
theorem Yb{t:Bool}{a b:aK}(i:t=true->a.wp C K F H)(l:t=false->b.wp C K F H):XE C (some (.bool t)) a b K F H:=by
 cases t;exact l rfl;exact i rfl
@[go_sem] theorem alT(w:cH->K_):jB C w K .normal F H=w K F H:=(rfl)
@[go_sem] theorem akS(w:cH->K_):jB C w K .normal=w K:=(rfl)
@[go_sem] theorem apL(w:cH->K_)(id:Nat):jB C w K (.exit id)=K (.exit id):=(rfl)
@[go_sem] theorem arJ(w:cH->K_):jB C w K .ret=K .ret:=(rfl)
@[go_sem] theorem aiL(id:Nat):fX id K .normal=K .normal:=(rfl)
@[go_sem] theorem amY(id:Nat):fX id K .ret=K .ret:=(rfl)
@[go_sem] theorem IR(id i:Nat):fX id K (.exit i) F H=if i=id then K .normal F H else K (.exit i) F H:=(rfl)
@[go_sem] theorem aoM(K:K_):wpOps C [] K F H=K F H:=(rfl)
@[go_sem] theorem aoN(d:O_)(op:POp)(rest:List bY)(K:K_):wpOps C (⟨d,op,none⟩::rest) K F H=wpOp C op d (wpOps C rest K) F H:=(rfl)
def BL(C:Ctx)(v:Option PV)(i:Bool)(op:POp)(d:O_)(rest:List bY)(K:K_)(F:PF)(H:PH):Prop:=
 match v with
 |some (.bool b)=>if b=i then wpOp C op d (wpOps C rest K) F H else wpOps C rest K (F.put d (.tup [])) H
 |some (.tup [])=>wpOps C rest K (F.put d (.tup [])) H
 |_=>False
@[go_sem] theorem Ll(d:O_)(op:POp)(t:Nat)(i:Bool)(rest:List bY)(K:K_) :
  wpOps C (⟨d,op,some (t,i)⟩::rest) K F H=BL C (F t) i op d rest K F H:=(rfl)
@[go_sem] theorem apH(op:POp)(d:O_)(rest:List bY)(K:K_):BL C (some (.bool true)) true op d rest K F H=wpOp C op d (wpOps C rest K) F H:=(rfl)
@[go_sem] theorem apE(op:POp)(d:O_)(rest:List bY)(K:K_):BL C (some (.bool false)) false op d rest K F H=wpOp C op d (wpOps C rest K) F H:=(rfl)
@[go_sem] theorem apG(op:POp)(d:O_)(rest:List bY)(K:K_):BL C (some (.bool true)) false op d rest K F H=wpOps C rest K (F.put d (.tup [])) H:=(rfl)
@[go_sem] theorem apF(op:POp)(d:O_)(rest:List bY)(K:K_):BL C (some (.bool false)) true op d rest K F H=wpOps C rest K (F.put d (.tup [])) H:=(rfl)
@[go_sem] theorem alQ(i:Bool)(op:POp)(d:O_)(rest:List bY)(K:K_):BL C (some (.tup [])) i op d rest K F H=wpOps C rest K (F.put d (.tup [])) H:=(rfl)
@[go_sem] theorem arG(d:Nat)(v:PV):F.put (some d) v=F.set d v:=(rfl)
@[go_sem] theorem arF(v:PV):F.put none v=F:=(rfl)
@[go_sem] theorem mF(i j:Nat)(v:PV):(F.set i v) j=if j=i then some v else F j:=(rfl)
@[go_sem] theorem args_at(vs:V_)(i:Nat):g_ vs i=vs[i]?:=(rfl)
@[go_sem] theorem asK(i:Nat):n_ i=none:=(rfl)
@[go_sem] theorem KT(t:Nat):(aP.tmp t).ev F=F t:=(rfl)
@[go_sem] theorem aqT(v:PV):(aP.const v).ev F=some v:=(rfl)
@[go_sem] theorem aT(i j:Nat)(x:aW):(H.set i x) j=if j=i then some x else H j:=(rfl)
@[go_sem] theorem XM(i:Nat):h_ i=none:=(rfl)
@[go_sem] theorem EL:aP.evs F []=some []:=(rfl)
@[go_sem] theorem wA(x:aP)(xs:List aP):aP.evs F (x::xs)=(match x.ev F,aP.evs F xs with|some v,some vs=>some (v::vs)|_,_=>none):=(rfl)
theorem jL{i j:Nat}{x:aW}:(H.set i x) j=none↔j≠i/\H j=none:=by
 rw[aT];split<;>simp_all
@[go_sem] theorem alU(v:PV)(d:O_)(K:K_):vJ (some v) d K F H=K (F.put d v) H:=by
 simp[vJ]
theorem aS{i:Nat->PV}{x:aW}{d:O_}{K:K_}(h:∀o,H o=none->K (F.put d (i o)) (H.set o x)):oG (some (i,x)) d K F H:=⟨i,x,rfl,h⟩
abbrev Wq(C:Ctx)(o:POp):Prop:=∀(d:O_)(K:K_)(F:PF)(H:PH),wpOp C o d K F H=vJ (aZ o F H) d K F H
theorem wqr{o:POp}(h:Wq C o:=by intro _ _ _ _;rfl):Wq C o:=h
@[go_sem] theorem asF(x:aP):Wq C (.mv x):=wqr
@[go_sem] theorem apX(x:aP):Wq C (.same x):=wqr
@[go_sem] theorem apW(c a b:aP):Wq C (.pick c a b):=wqr
@[go_sem] theorem arN(o:BinOp)(x y:aP):Wq C (.bin o x y):=wqr
@[go_sem] theorem arP(n:Bool)(x y:aP):Wq C (.eqb n x y):=wqr
@[go_sem] theorem arQ(n:Bool)(i:List Sc)(x y:aP):Wq C (.eqs n i x y):=wqr
@[go_sem] theorem asG(o:UnOp)(x:aP):Wq C (.un o x):=wqr
@[go_sem] theorem apP(k:IntKind)(x:aP):Wq C (.conv k x):=wqr
@[go_sem] theorem aoF(z:V_)(ps:List (Nat × Nat × aP)):Wq C (.build z ps):=wqr
@[go_sem] theorem apU(n:O_)(p:aP):Wq C (.load n p):=wqr
@[go_sem] theorem amF(x:aP):Wq C (.atC x):=wqr
@[go_sem] theorem alY(off:Nat)(x:aP):Wq C (.atU off x):=wqr
@[go_sem] theorem aoH(off:Nat)(n:O_)(x:aP):Wq C (.field off n x):=wqr
@[go_sem] theorem apR(s:Nat)(x i:aP):Wq C (.atG s x i):=wqr
@[go_sem] theorem apQ(n s:Nat)(x i:aP):Wq C (.idxA n s x i):=wqr
@[go_sem] theorem apS(n s:Nat)(g:Bool)(x i:aP):Wq C (.idxV n s g x i):=wqr
@[go_sem] theorem alZ(x i:aP):Wq C (.atS x i):=wqr
@[go_sem] theorem aoK(s:Nat)(x:aP)(lo hi mx:Option aP):Wq C (.slice s x lo hi mx):=wqr
@[go_sem] theorem amG(n s:Nat)(x:aP)(lo hi mx:Option aP):Wq C (.sliceA n s x lo hi mx):=wqr
@[go_sem] theorem aiO(x:aP)(lo hi:Option aP):Wq C (.atM x lo hi):=wqr
@[go_sem] theorem apI:PV.mB .aE=some (.int .i64 0):=(rfl)
@[go_sem] theorem asD(s:Nat)(rows:P2_):PV.mB (.sl s rows)=some (.int .i64 rows.length):=(rfl)
@[go_sem] theorem arA(o s off n:Nat):PV.mB (.osl o s off n)=some (.int .i64 n):=(rfl)
@[go_sem] theorem arR(x:aP):Wq C (.len x):=wqr
@[go_sem] theorem amB(x:aP):Wq C (.atQ x):=wqr
@[go_sem] theorem apT(x:aP):Wq C (.lenM x):=wqr
@[go_sem] theorem aoI(n:Bool)(x:aP):Wq C (.isNil n x):=wqr
@[go_sem] theorem alS:PV.vF .aE=some true:=(rfl)
@[go_sem] theorem anQ(o s off len:Nat):PV.vF (.osl o s off len)=some false:=(rfl)
@[go_sem] theorem alR(s:Nat)(r:V_)(rs:P2_):PV.vF (.sl s (r::rs))=some false:=(rfl)
@[go_sem] theorem alX(x:aP):Wq C (.auC x):=wqr
@[go_sem] theorem alH(x:aP)(i:Nat):Wq C (.extract x i):=wqr
@[go_sem] theorem amE(m:Bool)(x y:aP):Wq C (.atK m x y):=wqr
@[go_sem] theorem apV(n:Nat)(cs:List aP):Wq C (.mkfn n cs):=wqr
@[go_sem] theorem amC(sh:MSh)(z:PV)(x k:aP)(ok:Bool):Wq C (.lookup sh z x k ok):=wqr
@[go_sem] theorem aiC(x:aP):Wq C (.atD x):=wqr
@[go_sem] theorem apN(x:aP):Wq C (.box true x):=wqr
@[go_sem] theorem alG(s l:Nat)(z:V_)(ps:List (Nat × aP)):Wq C (.asV true s l z ps):=wqr
@[go_sem] theorem aoE(cs:V_)(d:O_)(K:K_):wpOp C (.alloc cs) d K F H=oG (cS (.alloc cs) F) d K F H:=(rfl)
@[go_sem] theorem alI(s b:Nat)(z:V_)(l c:aP)(d:O_)(K:K_):wpOp C (.asX s b z l c) d K F H=oG (cS (.asX s b z l c) F) d K F H:=(rfl)
@[go_sem] theorem aoJ(sh:MSh)(d:O_)(K:K_):wpOp C (.atX sh) d K F H=oG (cS (.atX sh) F) d K F H:=(rfl)
@[go_sem] theorem arO(x:aP)(d:O_)(K:K_):wpOp C (.box false x) d K F H=oG (cS (.box false x) F) d K F H:=(rfl)
@[go_sem] theorem alW(s l:Nat)(z:V_)(ps:List (Nat × aP))(d:O_)(K:K_):wpOp C (.asV false s l z ps) d K F H=oG (cS (.asV false s l z ps) F) d K F H:=(rfl)
@[go_sem] theorem aoL(n:Nat)(p x:aP)(d:O_)(K:K_):wpOp C (.store n p x) d K F H=cD (.store n p x) F H (λr H'=>K (F.put d r) H'):=(rfl)
@[go_sem] theorem alV(s b:Nat)(x y:aP)(d:O_)(K:K_):wpOp C (.append s b x y) d K F H=cD (.append s b x y) F H (λr H'=>K (F.put d r) H'):=(rfl)
@[go_sem] theorem amD(sh:MSh)(x k v:aP)(d:O_)(K:K_):wpOp C (.atH sh x k v) d K F H=cD (.atH sh x k v) F H (λr H'=>K (F.put d r) H'):=(rfl)
@[go_sem] theorem amA(sh:MSh)(x k v:aP)(d:O_)(K:K_):wpOp C (.insert sh x k v) d K F H=cD (.insert sh x k v) F H (λr H'=>K (F.put d r) H'):=(rfl)
@[go_sem] theorem apO(n:Nat)(i:List aP)(d:O_)(K:K_):wpOp C (.call n i) d K F H=iW C n i [] d K F H:=(rfl)
@[go_sem] theorem aoG(x:aP)(i:List aP)(d:O_)(K:K_):wpOp C (.atT x i) d K F H=uP C (x.ev F) i d K F H:=(rfl)
@[go_sem] theorem aoD(n:Nat)(cs:V_)(i:List aP)(d:O_)(K:K_):uP C (some (.fn n cs)) i d K F H=iW C n i cs d K F H:=(rfl)
theorem PF.nil_le:n_.le F:=λ_ _ h=>(by cases h)
abbrev e_:=@PF.nil_le
theorem PF.aN{i:Nat}{v:PV}{G:PF}(w:F.le G)(y:G i=some v):(F.set i v).le G:=by
 intro j u l;rw[mF]at l;split at l;rename_i e;subst e;cases l;exact y;exact w _ _ l
abbrev d_:=@PF.aN
theorem PF.le_refl:F.le F:=λ_ _ h=>h
theorem PH.nil_le:h_.le H:=λ_ _ h=>(by cases h)
abbrev a_:=@PH.nil_le
theorem PH.aN{i:Nat}{x:aW}{G:PH}(w:H.le G)(y:G i=some x):(H.set i x).le G:=by
 intro j u l;rw[aT]at l;split at l;rename_i e;subst e;cases l;exact y;exact w _ _ l
abbrev c_:=@PH.aN
theorem PH.le_refl:H.le H:=λ_ _ h=>h
abbrev b_:=@PH.le_refl
theorem wp_loop{c:aK}{α:Type}(i:α->PF)(Hs:α->PH)(l:α->Prop)(m:α->Nat)(u:α)(w:l u)(y:(i u).le F)(A:(Hs u).le H)
  (hb:∀a,l a->c.wp C (iF i Hs l m (m a) K) (i a) (Hs a)):aK.wp C (.loop c) K F H:=
 ⟨α,i,Hs,l,m,u,F,H,.refl F H,w,y,A,hb⟩
theorem aF{α:Type}{i:α->PF}{Hs:α->PH}{l:α->Prop}{m:α->Nat}{n:Nat}(a:α)(u:l a)(A:m a<n)(w:(i a).le F)(y:(Hs a).le H):iF i Hs l m n K .normal F H:=
 ⟨a,F,H,.refl F H,u,A,w,y⟩
@[go_sem] theorem anU{α:Type}{i:α->PF}{Hs:α->PH}{l:α->Prop}{m:α->Nat}{n:Nat}(id:Nat):iF i Hs l m n K (.exit id)=K (.exit id):=(rfl)
@[go_sem] theorem apJ{α:Type}{i:α->PF}{Hs:α->PH}{l:α->Prop}{m:α->Nat}{n:Nat}:iF i Hs l m n K .ret=K .ret:=(rfl)
def aJ(v:PV)(r:PV)(H:PH):Prop:=r=v/\H=h_
theorem PH.rK:H.over .nil .nil=H:=PH.ext λo=>rfl
theorem Lk{name:Nat}{vs cs:V_}{v:PV}{args:List aP}{d:O_}{K:K_}(h:aG C name (vs++cs) .nil (aJ v))(i:aP.evs F args=some vs)
  (l:K (F.put d v) H):iW C name args cs d K F H:=by
 refine .inl ⟨vs++cs,.nil,_,by rw[i];rfl,a_,h,?_⟩;rintro r H' ⟨rfl,rfl⟩ _;rw[PH.rK];exact l
theorem aA{name:Nat}{vs:V_}{v:PV}{args:List aP}{d:O_}{K:K_}(h:aG C name vs .nil (aJ v))(i:aP.evs F args=some vs)
  (l:K (F.put d v) H):iW C name args [] d K F H:=Lk (cs:=[]) (by rw[awD];exact h) i l
theorem fH{res:List dZ}{vs:V_}{v:PV}{e:lE}(y:e=.normal\/e=.ret)(h:dZ.evs F H res=some vs)(A:bO vs=v):aX res (aJ v) e F H:=by
 have i:∃vs,dZ.evs F H res=some vs/\∃l w H2,jI (n_.set 0 (bO vs)) H l w/\H2.le w/\∃u,l 0=some u/\aJ v u H2:=
  ⟨vs,h,_,H,.nil,.refl _ _,a_,v,by rw[mF,aD rfl,A],rfl,rfl⟩
 rcases y with rfl|rfl<;>exact i
theorem dA{F:PF}{H:PH}{res:List dZ}{vs:V_}{v:PV}(i:bO vs=v)(h:dZ.evs F H res=some vs:=by rfl):aX res (aJ v) .ret F H:=fH (.inr rfl) h i
@[go_sem] theorem oM:dZ.evs F H []=some []:=(rfl)
@[go_sem] theorem kM(x:dZ)(xs:List dZ):dZ.evs F H (x::xs)=(match x.ev F H,dZ.evs F H xs with|some v,some vs=>some (v::vs)|_,_=>none):=(rfl)
@[go_sem] theorem nF(t:Nat):dZ.ev F H (.tmp t)=F t:=(rfl)
@[go_sem] theorem arH(t:Nat):dZ.ev F H (.cell t none)=(match F t with|some p=>(match loadCells H p 1 with|some [v]=>some v|_=>none)|none=>none):=(rfl)
@[go_sem] theorem apK(t k:Nat):dZ.ev F H (.cell t (some k))=(match F t with|some p=>(loadCells H p k).map .agg|none=>none):=(rfl)
end
section
variable {C:Ctx} {K:cH} {F:PF} {H Hs:PH} {S:Spec}
theorem bV{ops:List (bY × Bool)}(Hs:PH)(S:Spec)(i:Hs.le H)(h:wpD C Hs S ops (K .normal) F H):aK.wp C (.draw ops) K F H:=⟨Hs,S,i,h⟩
def dY:Spec:=λ_ _=>none
def dOp(C:Ctx)(Hs:PH)(S:Spec)(st:Bool)(op:POp)(d:O_)(K:K_)(F:PF)(H:PH):Prop:=(op.kind F).run C Hs S st (λv H'=>K (F.put d v) H') H
@[go_sem] theorem arL(K:K_):wpD C Hs S [] K F H=K F H:=(rfl)
@[go_sem] theorem arM(d:O_)(op:POp)(st:Bool)(rest:List (bY × Bool))(K:K_):wpD C Hs S ((⟨d,op,none⟩,st)::rest) K F H=dOp C Hs S st op d (wpD C Hs S rest K) F H:=(rfl)
def FY(C:Ctx)(Hs:PH)(S:Spec)(v:Option PV)(i st:Bool)(op:POp)(d:O_)(rest:List (bY × Bool))(K:K_)(F:PF)(H:PH):Prop:=
 match v with
 |some (.bool b)=>if b=i then dOp C Hs S st op d (wpD C Hs S rest K) F H else wpD C Hs S rest K (F.put d (.tup [])) H
 |some (.tup [])=>wpD C Hs S rest K (F.put d (.tup [])) H
 |_=>False
@[go_sem] theorem apM(d:O_)(op:POp)(t:Nat)(i st:Bool)(rest:List (bY × Bool))(K:K_) :
  wpD C Hs S ((⟨d,op,some (t,i)⟩,st)::rest) K F H=FY C Hs S (F t) i st op d rest K F H:=by
 have l:wpD C Hs S ((⟨d,op,some (t,i)⟩,st)::rest) K F H=((⟨d,op,some (t,i)⟩:bY).kind F).run C Hs S st (λv H'=>wpD C Hs S rest K (F.put d v) H') H:=(rfl);rw[l];unfold bY.kind FY;simp only;cases F t with
 |none=>rfl
 |some v=>
  cases v
  case bool b=>
   simp only;by_cases hb:b=i
   ·rw[aD hb,aD hb];rfl
   ·rw[aB hb,aB hb];simp[Kind.run]
  case tup vs=>cases vs<;>simp[Kind.run]
  all_goals rfl
@[go_sem] theorem apD(op:POp)(st:Bool)(d:O_)(rest:List (bY × Bool))(K:K_):FY C Hs S (some (.bool true)) true st op d rest K F H=dOp C Hs S st op d (wpD C Hs S rest K) F H:=(rfl)
@[go_sem] theorem apA(op:POp)(st:Bool)(d:O_)(rest:List (bY × Bool))(K:K_):FY C Hs S (some (.bool false)) false st op d rest K F H=dOp C Hs S st op d (wpD C Hs S rest K) F H:=(rfl)
@[go_sem] theorem apC(op:POp)(st:Bool)(d:O_)(rest:List (bY × Bool))(K:K_):FY C Hs S (some (.bool true)) false st op d rest K F H=wpD C Hs S rest K (F.put d (.tup [])) H:=(rfl)
@[go_sem] theorem apB(op:POp)(st:Bool)(d:O_)(rest:List (bY × Bool))(K:K_):FY C Hs S (some (.bool false)) true st op d rest K F H=wpD C Hs S rest K (F.put d (.tup [])) H:=(rfl)
@[go_sem] theorem alP(i:Bool)(op:POp)(st:Bool)(d:O_)(rest:List (bY × Bool))(K:K_):FY C Hs S (some (.tup [])) i st op d rest K F H=wpD C Hs S rest K (F.put d (.tup [])) H:=(rfl)
abbrev Dq(C:Ctx)(Hs:PH)(S:Spec)(o:POp):Prop:=∀(st:Bool)(d:O_)(K:K_)(F:PF)(H:PH),dOp C Hs S st o d K F H=vJ (aZ o F (if st then Hs else H)) d K F H
theorem dqr{Hs:PH}{S:Spec}{o:POp}(h:Dq C Hs S o:=by intro _ _ _ _ _;rfl):Dq C Hs S o:=h
@[go_sem] theorem asI(x:aP):Dq C Hs S (.mv x):=dqr
@[go_sem] theorem aqR(x:aP):Dq C Hs S (.same x):=dqr
@[go_sem] theorem aqQ(c a b:aP):Dq C Hs S (.pick c a b):=dqr
@[go_sem] theorem arV(o:BinOp)(x y:aP):Dq C Hs S (.bin o x y):=dqr
@[go_sem] theorem arX(n:Bool)(x y:aP):Dq C Hs S (.eqb n x y):=dqr
@[go_sem] theorem arY(n:Bool)(i:List Sc)(x y:aP):Dq C Hs S (.eqs n i x y):=dqr
@[go_sem] theorem asJ(o:UnOp)(x:aP):Dq C Hs S (.un o x):=dqr
@[go_sem] theorem aqJ(k:IntKind)(x:aP):Dq C Hs S (.conv k x):=dqr
@[go_sem] theorem aoR(z:V_)(ps:List (Nat × Nat × aP)):Dq C Hs S (.build z ps):=dqr
@[go_sem] theorem aqO(n:O_)(p:aP):Dq C Hs S (.load n p):=dqr
@[go_sem] theorem anL(x:aP):Dq C Hs S (.atC x):=dqr
@[go_sem] theorem anF(off:Nat)(x:aP):Dq C Hs S (.atU off x):=dqr
@[go_sem] theorem aoS(off:Nat)(n:O_)(x:aP):Dq C Hs S (.field off n x):=dqr
@[go_sem] theorem aqL(s:Nat)(x i:aP):Dq C Hs S (.atG s x i):=dqr
@[go_sem] theorem aqK(n s:Nat)(x i:aP):Dq C Hs S (.idxA n s x i):=dqr
@[go_sem] theorem aqM(n s:Nat)(g:Bool)(x i:aP):Dq C Hs S (.idxV n s g x i):=dqr
@[go_sem] theorem anG(x i:aP):Dq C Hs S (.atS x i):=dqr
@[go_sem] theorem aoV(s:Nat)(x:aP)(lo hi mx:Option aP):Dq C Hs S (.slice s x lo hi mx):=dqr
@[go_sem] theorem ajG(x:aP)(lo hi:Option aP):Dq C Hs S (.atM x lo hi):=dqr
@[go_sem] theorem arZ(x:aP):Dq C Hs S (.len x):=dqr
@[go_sem] theorem anH(x:aP):Dq C Hs S (.atQ x):=dqr
@[go_sem] theorem aqN(x:aP):Dq C Hs S (.lenM x):=dqr
@[go_sem] theorem aoT(n:Bool)(x:aP):Dq C Hs S (.isNil n x):=dqr
@[go_sem] theorem anE(x:aP):Dq C Hs S (.auC x):=dqr
@[go_sem] theorem alN(x:aP)(i:Nat):Dq C Hs S (.extract x i):=dqr
@[go_sem] theorem anK(m:Bool)(x y:aP):Dq C Hs S (.atK m x y):=dqr
@[go_sem] theorem aqP(n:Nat)(cs:List aP):Dq C Hs S (.mkfn n cs):=dqr
@[go_sem] theorem anI(sh:MSh)(z:PV)(x k:aP)(ok:Bool):Dq C Hs S (.lookup sh z x k ok):=dqr
@[go_sem] theorem aiN(x:aP):Dq C Hs S (.atD x):=dqr
@[go_sem] theorem aqI(x:aP):Dq C Hs S (.box true x):=dqr
@[go_sem] theorem alM(s l:Nat)(z:V_)(ps:List (Nat × aP)):Dq C Hs S (.asV true s l z ps):=dqr
@[go_sem] theorem aoQ(cs:V_)(st:Bool)(d:O_)(K:K_):dOp C Hs S st (.alloc cs) d K F H=oG (cS (.alloc cs) F) d K F H:=(rfl)
@[go_sem] theorem alO(s b:Nat)(z:V_)(l c:aP)(st:Bool)(d:O_)(K:K_):dOp C Hs S st (.asX s b z l c) d K F H=oG (cS (.asX s b z l c) F) d K F H:=(rfl)
@[go_sem] theorem aoU(sh:MSh)(st:Bool)(d:O_)(K:K_):dOp C Hs S st (.atX sh) d K F H=oG (cS (.atX sh) F) d K F H:=(rfl)
@[go_sem] theorem arW(x:aP)(st:Bool)(d:O_)(K:K_):dOp C Hs S st (.box false x) d K F H=oG (cS (.box false x) F) d K F H:=(rfl)
@[go_sem] theorem anD(s l:Nat)(z:V_)(ps:List (Nat × aP))(st:Bool)(d:O_)(K:K_):dOp C Hs S st (.asV false s l z ps) d K F H=oG (cS (.asV false s l z ps) F) d K F H:=(rfl)
@[go_sem] theorem aoW(n:Nat)(p x:aP)(st:Bool)(d:O_)(K:K_):dOp C Hs S st (.store n p x) d K F H=cD (.store n p x) F H (λr H'=>Hs.le H'/\K (F.put d r) H'):=(rfl)
@[go_sem] theorem anC(s b:Nat)(x y:aP)(st:Bool)(d:O_)(K:K_):dOp C Hs S st (.append s b x y) d K F H=cD (.append s b x y) F H (λr H'=>Hs.le H'/\K (F.put d r) H'):=(rfl)
@[go_sem] theorem anJ(sh:MSh)(x k v:aP)(st:Bool)(d:O_)(K:K_):dOp C Hs S st (.atH sh x k v) d K F H=cD (.atH sh x k v) F H (λr H'=>Hs.le H'/\K (F.put d r) H'):=(rfl)
theorem PE:H.only []=h_:=PH.ext λo=>by simp[PH.only,h_]
theorem cB{name:Nat}{vs:V_}{v:PV}{args:List aP}{st:Bool}{d:O_}{K:K_}(l:S name vs=some ([],λ_=>aJ v))(h:aG C name vs .nil (aJ v))(u:aP.evs F args=some vs)
  (i:Hs.le H) (w:K (F.put d v) H):dOp C Hs S st (.call name args) d K F H:=by
 refine⟨vs,[],λ_=>aJ v,u,l,λo y=>by simp at y,by rw[PE];exact h,λG=>⟨v,.nil,⟨rfl,rfl⟩,λo x A=>by simp[h_]at A⟩,?_⟩;rintro r H' ⟨rfl,rfl⟩ -;rw[PE,PH.rK];exact⟨i,w⟩
end
theorem wrap_i64{n:Int}(i:-9223372036854775808<=n)(l:n<=9223372036854775807):i_.wrap n=n:=by
 have e:i_.wrap n=if decide (n%18446744073709551616>=9223372036854775808)=true then n%18446744073709551616-18446744073709551616 else n%18446744073709551616:=by simp[IntKind.wrap,IntKind.bits,IntKind.signed]
 rw[e];split;rename_i h;simp only[dT_]at h;omega;rename_i h;simp only[dT_]at h;omega
theorem jc{k:Nat}(h:k<=9223372036854775807):i_.wrap (k:Int)=k:=wrap_i64 Om Om
theorem dU{k:Nat}(h:k<9223372036854775807):i_.wrap ((k:Int)+1)=((k+1:Nat):Int):=by
 rw[wrap_i64 Om Om];omega
theorem wZz(k:Nat)(h:k<9223372036854775807:=by omega):i_.wrap ((k:Int)+1)=((k+1:Nat):Int):=dU h
theorem wrap_u64{n:Int}(i:0<=n)(l:n<18446744073709551616):u_.wrap n=n:=by
 have e:u_.wrap n=n%18446744073709551616:=by simp[IntKind.wrap,IntKind.bits,IntKind.signed]
 rw[e];omega
abbrev ints(xs:I_):PV:=.sl 1 (xs.map λn=>[.int .i64 n])
open Go Go.RowKit
inductive CT where
 |int (k:IntKind)
 |bool
 |str
 |sl (es:List CT)
 deriving Inhabited
def vD(P:Program)(rec:TypeId->Option (List CT)):Nat->List Field->Option (List CT)
 |_,[]=>some []
 |k,f::i=>match rec f.type with
  |some cts=>if f.offset=k/\P.cellsOf f.type=cts.length then(vD P rec (k+l'' cts) i).map (cts++·)else none
  |none=>none
def jP(P:Program):Nat->TypeId->Option (List CT)
 |0,_=>none
 |n+1,t=>match P.underlying t with
  |some .bool=>some [.bool]
  |some (.int k)=>some [.int k]
  |some .string=>some [.str]
  |some (.slice e)=>match jP P n e with
   |some cts=>if P.cellsOf e=l'' cts/\0<cts.length then some [.sl cts]else none
   |none=>none
  |some (.struct i)=>match vD P (jP P n) 0 i.toList with
   |some cts=>if P.cellsOf t=cts.length then some cts else none
   |none=>none
  |some (.array k e)=>match jP P n e with
   |some cts=>if P.cellsOf e=l'' cts/\P.cellsOf t=k*cts.length then some (auL k cts).flatten else none
   |none=>none
  |_=>none
inductive PV.Ty:CT->PV->Prop
 |int {k:IntKind} {n:Int} (h:(Lit.int k n).wf=true):PV.Ty (.int k) (.int k n)
 |bool (b:Bool):PV.Ty .bool (.bool b)
 |str {s:List UInt8} (h:l'' s<=maxLen):PV.Ty .str (.str s)
 |sl {es:List CT} {rows:P2_} (hr:∀r∈rows,l'' r=l'' es) (hl:l'' rows<=maxLen) (h:∀(i j:Nat) pv ct,at2 rows i j=some pv->es[j]?=some ct->PV.Ty ct pv):PV.Ty (.sl es) (.sl es.length rows)
def Env.of(W:World)(num:Nat->FuncId):Env:=⟨λb=>match W.heap[b]? with|some (.cells cs _ _)=>some cs|_=>none,λ_=>none,num⟩
theorem bZ.start(W:World)(num:Nat->FuncId):bZ (Env.of W num) h_ W:=by
 refine⟨λb cs hb=>⟨λx i=>(by cases i),?_⟩,λo x i=>(by cases i),λo n h=>(by cases h)⟩;simp only[Env.of]at hb;split at hb;rename_i c ty fr h;cases hb;exact⟨ty,fr,h⟩;cases hb
structure Reads(E:Env)(cts:List CT)(pvs:V_)(cs:List Value):Prop where
 lp:l'' pvs=l'' cts
 lc:l'' cs=l'' cts
 rep:∀(j:Nat) pv c,pvs[j]?=some pv->cs[j]?=some c->bE E pv c/\c.oneCell'=true
 ty:∀(j:Nat) pv ct,pvs[j]?=some pv->cts[j]?=some ct->PV.Ty ct pv
theorem Reads.one{E:Env}{ct:CT}{pv:PV}{c:Value}(h:bE E pv c)(i:c.oneCell'=true)(l:PV.Ty ct pv):Reads E [ct] [pv] [c]:=by
 refine⟨rfl,rfl,λj p u a b=>?_,λj p u a b=>?_⟩
 ·cases j with
  |zero=>simp at a b;subst a;subst b;exact⟨h,i⟩
  |succ j=>simp at a
 ·cases j with
  |zero=>simp at a b;subst a;subst b;exact l
  |succ j=>simp at a
theorem Reads.append{E:Env}{i w:List CT}{l F:V_}{y A:List Value}(h:Reads E i l y)(k:Reads E w F A):Reads E (i++w) (l++F) (y++A):=by
 refine⟨by simp[h.lp,k.lp],by simp[h.lc,k.lc],λj p u a b=>?_,λj p u a b=>?_⟩;rcases avF j l.length with hj|hj
 rw[awR hj]at a;rw[awR (by rw[h.lc,<-h.lp];exact hj)]at b;exact h.rep j p u a b;rw[awH hj]at a;rw[awH (by rw[h.lc,<-h.lp];exact hj)]at b;rw[show j-l'' y=j-l.length by rw[h.lc,h.lp]]at b;exact k.rep _ p u a b;rcases avF j l.length with hj|hj
 rw[awR hj]at a;rw[awR (by rw[<-h.lp];exact hj)]at b;exact h.ty j p u a b;rw[awH hj]at a;rw[awH (by rw[<-h.lp];exact hj)]at b;rw[show j-l'' i=j-l.length by rw[h.lp]]at b;exact k.ty _ p u a b
theorem j9{W:World}{num:Nat->FuncId}{a:Addr}{v:Value}(h:W.cell? a=some v):a.spot=none/\(Env.of W num).cell a.block a.off=some v:=by
 unfold World.cell? at h;split at h;rename_i c ty fr hb;split at h;cases h;rename_i i;refine⟨by simpa using i,?_⟩;simp only[Env.cell,Env.of,hb];exact h;cases h
inductive PV.Len (N:Nat):PV->Prop
 |flat {pv:PV} (h1:∀n rows,pv≠.sl n rows) (h2:∀vs,pv≠.agg vs):PV.Len N pv
 |sl {n:Nat} {rows:P2_} (h:l'' rows<=N) (hr:∀r∈rows,∀v∈r,PV.Len N v):PV.Len N (.sl n rows)
 |agg {vs:V_} (h:∀v∈vs,PV.Len N v):PV.Len N (.agg vs)
theorem PV.Len.int{N:Nat}(k:IntKind)(n:Int):PV.Len N (.int k n):=.flat (λ_ _ h=>by cases h) λ_ h=>by cases h
theorem PV.Len.bool{N:Nat}(b:Bool):PV.Len N (.bool b):=.flat (λ_ _ h=>by cases h) λ_ h=>by cases h
theorem PV.Len.str{N:Nat}(s:List UInt8):PV.Len N (.str s):=.flat (λ_ _ h=>by cases h) λ_ h=>by cases h
theorem PV.Len.rows{N n:Nat}{rows:P2_}(h:PV.Len N (.sl n rows)):l'' rows<=N/\∀r∈rows,∀v∈r,PV.Len N v:=by
 cases h with
 |flat i _=>exact absurd rfl (i n rows)
 |sl i l=>exact⟨i,l⟩
theorem PV.Len.parts{N:Nat}{vs:V_}(h:PV.Len N (.agg vs)):∀v∈vs,PV.Len N v:=by
 cases h with
 |flat _ i=>exact absurd rfl (i vs)
 |agg h=>exact h
structure cn{H:Type}(P:Program)(N:Nat)(S:TypeId->DataW H->Prop):Prop where
 sl:∀t e elems spare,P.underlying t=some (.slice e)->S t (.slice elems spare)->l'' elems<=N/\∀d∈elems,S e d
 st:∀t fs parts,P.underlying t=some (.struct fs)->S t (.agg parts)->∀(i:Nat) g d,fs[i]?=some g->parts[i]?=some d->S g.type d
 ar:∀t n e parts,P.underlying t=some (.array n e)->S t (.agg parts)->∀d∈parts,S e d
theorem WX{H:Type}{P:Program}{A:(TypeId->DataW H->Prop)->Prop}{pv:PV}(h:∀{N},PV.Len N pv):∀N S,cn P N S->A S->∀v∈[pv],PV.Len N v:=λN S _ _ v i=>by
 obtain rfl:=avN.1 i;exact h
theorem l6{P:Program}{E:Env}{rec:TypeId->Option (List CT)}{H:Type}{f:TypeId->List Value->Option (DataW H × List MemPlace)}
  (K:∀t cs x cts,f t cs=some x->rec t=some cts->∃i,Reads E cts i cs/\∀N S,cn P N S->S t x.1->∀v∈i,PV.Len N v) (cs:List Value) :
  ∀(u:List Field)(k:Nat)(cts:List CT),(∀g∈u,∃x,f g.type ((cs.drop g.offset).take (P.cellsOf g.type))=some x)->vD P rec k u=some cts ->
   ∃i,Reads E cts i ((cs.drop k).take cts.length)/\∀N S,cn P N S->(∀g∈u,∀x,f g.type ((cs.drop g.offset).take (P.cellsOf g.type))=some x->S g.type x.1)->∀v∈i,PV.Len N v
 |[],k,cts,_,h=>by simp[vD]at h;subst h;exact⟨[],⟨rfl,by simp,λj p c a=>by simp at a,λj p c a=>by simp at a⟩,λ_ _ _ _ v hv=>by cases hv⟩
 |g::u,k,cts,F,h=>by
  simp only[vD]at h;split at h;rename_i M Q;split at h;rename_i A;simp only[auR]at h;obtain⟨O,U,rfl⟩:=h;obtain⟨x,J⟩:=F g bC;obtain⟨Y,r1,V⟩:=K _ _ _ _ J Q;rw[A.1,A.2]at r1;obtain⟨Z,r2,W⟩:=l6 K cs u (k+l'' M) O (λg' l=>F g' (by simp[l])) U;refine⟨Y++Z,?_,λN S w y v hv=>?_⟩;have:=r1.append r2;rw[auJ,List.take_add,List.drop_drop];exact this;rcases avX.1 hv with hv|hv
  exact V N S w (y g bC x J) v hv;exact W N S w (λg' l=>y g' (by simp[l])) v hv;cases h;cases h
theorem y6{E:Env}{cts:List CT}{R:V_->Prop}(u:R [])(w:∀a b,R a->R b->R (a++b))(cs:List Value) :
  ∀n:Nat,(∀i,i<n->∃l,Reads E cts l ((cs.drop (i*l'' cts)).take cts.length)/\R l)->∃l,Reads E (auL n cts).flatten l (cs.take (n*l'' cts))/\R l
 |0,_=>⟨[],⟨rfl,by simp,λj p c a=>by simp at a,λj p c a=>by simp at a⟩,u⟩
 |n+1,h=>by obtain⟨y,r1,F⟩:=y6 u w cs n λi hi=>h i Om;obtain⟨A,r2,H⟩:=h n Om;refine⟨y++A,?_,w _ _ F H⟩;rw[List.replicate_succ',List.flatten_append,List.flatten_singleton,axB,List.take_add];exact r1.append r2
theorem abO{H:Type}{enc:TypeId × Value->H}{P:Program}{W:World}{base:Nat}{sp:Nat->Bool}{β:Bool}(num:Nat->FuncId) :
  ∀(fuel m:Nat)(t:TypeId)(cs:List Value)(x:DataW H × List MemPlace)(cts:List CT),DataW.trod enc P W base sp β fuel t cs=some x->jP P m t=some cts->∃l,Reads (Env.of W num) cts l cs/\∀N S,cn P N S->S t x.1->∀v∈l,PV.Len N v:=by
 intro fuel
 induction fuel with
 |zero=>intro m t cs x cts h;simp[DataW.trod]at h
 |succ fuel ih=>
  intro m t cs x cts h A;cases m with
  |zero=>simp[jP]at A
  |succ m=>
   simp only[jP]at A;split at A;rename_i Q;cases A;obtain⟨b,rfl,-⟩:=DataW.trod_bool Q h;exact⟨[.bool b],.one (.bool b) rfl (.bool b),WX (.bool b)⟩;rename_i k Q;cases A;obtain⟨n,rfl,-,hw⟩:=DataW.trod_int Q h;exact⟨[.int k n],.one (.int k n) rfl (.int hw),WX (.int k n)⟩;rename_i Q;cases A;obtain⟨s,rfl,-,hs⟩:=DataW.trod_string Q h;exact⟨[.str s.data.toList],.one (.str s) rfl (.str (by rw[axV];exact hs)),WX (.str _)⟩;rename_i e Q;split at A;rename_i u he;split at A;rename_i F;cases A;rcases DataW.trod_slice Q h with⟨rfl,-⟩|⟨a,len,cap,elems,rest,n,hn,rfl,Z,-,γ,hcap,hel,helem,-⟩
   refine⟨[.sl u.length []],.one ?_ rfl (.sl bC bC (by simp[at2])),WX (.sl (auK _) (λr V=>by cases V))⟩;exact .sl (λ_ _=>.bool false) bC aU bC bC (λ_ _=>rfl) (by simp[at2]);cases hn;have each:∀i,i<len->∃l us,(Reads (Env.of W num) u l us/\∀N S,cn P N S->(∀d∈elems.map (·.1),S e d)->∀v∈l,PV.Len N v)/\W.cells? base (a.add (i*l'' u)) u.length=some us:=by intro i hi;have h1:=helem i hi;rw[auP Om,ayP]at h1;obtain⟨us,h2,h3⟩:=h1;obtain⟨l,r,rl⟩:=ih m e us _ u h3 he;rw[F.1]at h2;exact⟨l,us,⟨r,λN S K M=>rl N S K (M _ (auT.2 ⟨_,auH _,rfl⟩))⟩,h2⟩
   have δ:∀i,∃l,∃us,i<len->(Reads (Env.of W num) u l us/\∀N S,cn P N S->(∀d∈elems.map (·.1),S e d)->∀v∈l,PV.Len N v)/\W.cells? base (a.add (i*l'' u)) u.length=some us:=by intro i;by_cases hi:i<len;obtain⟨l,us,h1⟩:=each i hi;exact⟨l,us,λ_=>h1⟩;exact⟨[],[],λh=>(hi h).elim⟩
   obtain⟨pf,ξ⟩:=Classical.axiomOfChoice δ;obtain⟨uf,O⟩:=Classical.axiomOfChoice ξ;have ε:∀i j pv,at2 ((auE len).map pf) i j=some pv->i<len/\(pf i)[j]?=some pv:=by
    intro i j pv hp;unfold at2 at hp;rw[avC,ayP]at hp;obtain⟨r,V,hp⟩:=hp;rw[auR]at V;obtain⟨i',U,rfl⟩:=V;have hi:i<len:=by simpa using(avP.1 U).1
    have:i'=i:=by simp[hi]at U;exact U.symm
    subst this;exact⟨hi,hp⟩
   have hu2:∀i j pv,at2 ((auE len).map pf) i j=some pv->∃v,(uf i)[j]?=some v/\j<l'' u/\bE (Env.of W num) pv v/\v.oneCell'=true:=by
    intro i j pv hp;obtain⟨hi,Y⟩:=ε i j pv hp;obtain⟨⟨r,-⟩,-⟩:=O i hi;have hj:j<l'' u:=by rw[<-r.lp];exact(avP.1 Y).1
    have J:(uf i)[j]?=some ((uf i)[j]'(by rw[r.lc];exact hj)):=auP _;exact⟨_,J,hj,(r.rep j pv _ Y J).1,(r.rep j pv _ Y J).2⟩
   have α:((auE len).map pf).length=len:=by simp
   refine⟨[.sl u.length ((auE len).map pf)],.one ?_ rfl (.sl (λr V=>?_) (by rw[α];omega) λi j pv ct hp κ=>?_),λN S K M v J=>?_⟩;have η:=bE.sl (E:=Env.of W num) (size:=l'' u) (rows:=(auE len).map pf) (a:=some a) (cap:=cap)
    (λi j=>match at2 ((auE len).map pf) i j with|some _=>((uf i)[j]?).getD (.bool false)|none=>.bool false) (by rw[α];exact γ) hcap
    (λr V=>by simp only[auT,avM]at V;obtain⟨i,hi,rfl⟩:=V;exact(O i hi).1.1.lp)
    (λν=>by
     have μ:0<len:=by
      rcases axN len with h|h
      subst h;exact(ν rfl).elim;exact h
     have ζ:a.spot=none:=by obtain⟨⟨r,-⟩,A⟩:=O 0 μ;have h3:=(World.cells?_some A).2.2 0 F.2;rw[Nat.zero_mul,Addr.add_zero',Addr.add_zero',auP (by rw[r.lc];exact F.2)]at h3;exact(j9 (num:=num) h3).1
     refine⟨a,rfl,ζ,λi j pv hp=>?_⟩;obtain⟨hi,-⟩:=ε i j pv hp;obtain⟨v,J,hj,-⟩:=hu2 i j pv hp;have h3:=(World.cells?_some (O i hi).2).2.2 j hj;rw[rC ζ,add_plain,add_plain,J]at h3;have h4:=(j9 (num:=num) h3).2;simp only[hp,J,axC];exact h4)
    (λi j=>by split;rename_i pv hp;obtain⟨v,J,-,-,h1⟩:=hu2 i j pv hp;simp[J,h1];rfl)
    (λi j pv hp=>by obtain⟨v,J,-,h1,-⟩:=hu2 i j pv hp;simp only[hp,J,axC];exact h1)
   rw[α]at η;exact η;simp only[auT,avM]at V;obtain⟨i,hi,rfl⟩:=V;exact(O i hi).1.1.lp;obtain⟨hi,Y⟩:=ε i j pv hp;exact(O i hi).1.1.ty j pv ct Y κ;rw[Z]at M;obtain⟨m1,m2⟩:=K.sl t e _ _ Q M;obtain rfl:=avN.1 J;refine .sl (by rw[α];simpa[hel]using m1) λr V w hw=>?_;simp only[auT,avM]at V;obtain⟨i,hi,rfl⟩:=V;exact(O i hi).1.2 N S K m2 w hw;cases A;cases A;rename_i fs Q;split at A;rename_i ρ θ;split at A;rename_i γ;cases A;obtain⟨xs,n,hn,Z,ι,ο,hx⟩:=DataW.trod_struct Q h;cases hn;have:=l6 (f:=DataW.trod enc P W base sp β fuel) (λt cs x cts a b=>ih m t cs x cts a b) cs fs.toList 0 cts (λg hg=>by obtain⟨i,hi,rfl⟩:=awI hg;have:=hx i fs.toList[i] (by simp at hi;simp[hi]);rw[this];exact⟨_,auP (by simp at hi;omega)⟩) θ
   rw[avR,auZ Om]at this;obtain⟨l,r,rl⟩:=this;refine⟨l,r,λN S K M=>rl N S K λg hg y hy=>?_⟩;rw[Z]at M;obtain⟨i,hi,rfl⟩:=awI hg;have U:i<fs.size:=by simpa using hi
   have:=hx i fs.toList[i] (by simp[U]);rw[hy,auP Om]at this;refine K.st t fs _ Q M i fs.toList[i] y.1 (by simp[U]) ?_;rw[avC,auP Om,<-this];rfl;cases A;cases A;rename_i k e Q;split at A;rename_i u he;split at A;rename_i F;cases A;obtain⟨xs,n,hn,Z,ι,ο,hx⟩:=DataW.trod_array Q h;cases hn;obtain⟨l,r,hq⟩:=y6 (E:=Env.of W num) (cts:=u) (R:=λl=>∀N S,cn P N S->(∀d:DataW H,d∈xs.map (λy:DataW H × List MemPlace=>y.1)->S e d)->∀v∈l,PV.Len N v) (λ_ _ _ _ v J=>by cases J)
    (λa b ha hb N S K M v J=>(avX.1 J).elim (ha N S K M v) (hb N S K M v)) cs k λi hi=>by have h2:=hx i hi;rw[auP Om,F.1]at h2;obtain⟨l,r,rl⟩:=ih m e _ _ u h2 he;exact⟨l,r,λN S K M=>rl N S K (M _ (auT.2 ⟨_,auH _,rfl⟩))⟩
   rw[auZ Om]at r;exact⟨l,r,λN S K M=>hq N S K (K.ar t k e _ Q (by rw[Z]at M;exact M))⟩;cases A;cases A;cases A
theorem rk{H:Type}{enc:TypeId × Value->H}{P:Program}{W:World}{base:Nat}{w:Nat->Bool}{i:Bool}(num:Nat->FuncId)
  (fuel m:Nat) (t:TypeId) (cs:List Value) (x:DataW H × List MemPlace) (cts:List CT) (h:DataW.trod enc P W base w i fuel t cs=some x) (u:jP P m t=some cts):∃l,Reads (Env.of W num) cts l cs:=
 (abO num fuel m t cs x cts h u).imp λ_ r=>r.1
open Go Go.RowKit Go.ChangeShapes Go.WideShapes
theorem Ext.below{E l:Env}{H':PH}{w i:World}(h:Ext E h_ w l H' i):Below w.heap.size w i:=
 ⟨h.os,h.tape,h.output,h.size,λk u=>h.block k u rfl⟩
theorem Below.trodAll{H:Type}{enc:TypeId × Value->H}{P:Program}(y:laidOutB P=true){W l:World}(hb:Below W.heap.size W l) :
  ∀{ts:List TypeId}{vs:List Value}{ds:List (DataW H)}{ps:List MemPlace},(∀t∈ts,P.readableRec t=true/\t<P.types.size)->DataW.TrodAll enc P W 0 (λ_=>true) true ts vs ds ps ->
   DataW.TrodAll enc P l 0 (λb=>decide (b<W.heap.size)) true ts vs ds ps
 |[],[],[],ps,_,h=>h
 |[],_::_,_,_,_,h=>h.elim
 |[],[],_::_,_,_,h=>h.elim
 |_::_,[],_,_,_,h=>h.elim
 |_::_,_::_,[],_,_,h=>h.elim
 |t::ts,v::vs,d::ds,ps,i,h=>by obtain⟨p,q,w,A,rfl⟩:=h;have hlt:∀x∈p,x.block<W.heap.size:=λx F=>DataW.TrodAll.lt (ts:=[t]) (vs:=[v]) (ds:=[d]) ⟨p,[],w,rfl,(awD p).symm⟩ x F;exact⟨p,q,Below.trod y (i t bC).1 (i t bC).2 w hb hlt,Below.trodAll y hb (λu E=>i u (by simp[E])) A,rfl⟩
theorem Vk{H:Type}{enc:TypeId × Value->H}{P:Program}{f:Func}{s:ChangeSpec}{i apart fresh:Bool}{W J:World}{args:Array Value}{ds u:List (DataW H)}{l:List MemPlace}{bt:TypeId}
  (N:laidOutB P=true) (hW:DataW.Whole enc P f.params.toList s.vars apart W args.toList ds u l) (hb:Below W.heap.size W J) (A:∀t∈f.params.toList,P.readableRec t=true/\t<P.types.size)
  (y:f.resultTypes=#[bt]) (w:P.underlying bt=some .bool) (E:s.vars=[]) (Q:(s.fn H (ds++u)).results=[.lit (.bool true)]) (M:(s.fn H (ds++u)).args=ds) (F:(s.fn H (ds++u)).vars=[]) :
  s.post enc P f apart fresh i false W args (.bool true) J:=by
 obtain⟨p,q,K,hV,rfl,S,O⟩:=hW;rw[E]at hV;obtain⟨rfl,rfl⟩:=trodVars_none hV;refine⟨ds,[],p++[],[],p,[],⟨p,[],K,by rw[E];exact hV,rfl,S,O⟩,?_,?_,?_,hb.frame _,λh=>by cases h⟩;rw[Q,y];refine⟨[],[],⟨1,?_⟩,rfl,rfl⟩;simp[DataW.trod,w,Value.cells,Value.resultList];rw[M];exact Below.trodAll N hb A K;rw[E,F];exact rfl
theorem Ue{name:Nat}{W:World}{args:Array Value}{l:V_}(h:aG C name l h_ (aJ (.bool true)))(A:fS (Env.of W C.num) l args.toList) :
  Calls C.P (C.num name) args W λe u=>e=.returned (.bool true)/\Below W.heap.size W u:=
 (h.2 (Env.of W C.num) W args rfl (bZ.start W C.num) A).mono λe u y=>by obtain⟨v,pv,E,H',rfl,-,i,w,rfl,-⟩:=y;cases i;exact⟨rfl,w.below⟩
theorem N4{H:Type}{enc:TypeId × Value->H}{P:Program}{W:World}{r:Reach}{base:Nat}{N:Nat->Bool}{w:Bool}(num:Nat->FuncId){t:TypeId}{v:Value}{d:DataW H}{ps:List MemPlace}{F:Array Field}{n:Nat}{cts:List CT}
  (A:P.underlying t=some (.struct F)) (y:Value.okWide P W r base t v) (K:DataW.Trod enc P W 0 N w t v d ps) (J:jP P n t=some cts) :
  ∃i,bE (Env.of W num) (.agg i) v/\l'' i=l'' cts/\∀(j:Nat) pv ct,i[j]?=some pv->cts[j]?=some ct->PV.Ty ct pv:=by
 obtain⟨cs,rfl,-⟩:=okWide_struct A y;obtain⟨fuel,h⟩:=K;obtain⟨i,l⟩:=rk num fuel n t _ _ cts h J;have M:cs.size=l'' i:=by have:=l.lc;rw[l.lp,<-this];simp[Value.cells]
 refine⟨i,.agg cs M (λu A=>?_) (λj pv u a b=>(l.rep j pv u a (by simpa[Value.cells]using b)).1),l.lp,l.ty⟩;obtain⟨j,E,rfl⟩:=awI A;simp only[axV]at E;exact(l.rep j _ _ (auP Om) (by simp[Value.cells,E])).2
theorem zJ{H:Type}{enc:TypeId × Value->H}{P:Program}{W:World}{F:Nat->Bool}{i:Bool}(num:Nat->FuncId){t:TypeId}{v:Value}{d:DataW H}{ps:List MemPlace}{n:Nat}{ct:CT}
  (E:v.cells=#[v]) (y:DataW.Trod enc P W 0 F i t v d ps) (w:jP P n t=some [ct]):∃pv,bE (Env.of W num) pv v/\PV.Ty ct pv:=by
 obtain⟨fuel,h⟩:=y;obtain⟨u,l⟩:=rk num fuel n t _ _ [ct] h w;rw[E]at l;have A:=l.lp;cases u with
 |nil=>simp at A
 |cons pv rest=>exact⟨pv,(l.rep 0 pv v rfl rfl).1,l.ty 0 pv ct rfl rfl⟩
def InK(k:IntKind)(n:Int):Prop:=k.min<=n/\n<=k.max
def Pu(k:IntKind)(xs:I_):PV:=.sl 1 (xs.map λn=>[.int k n])
theorem Ty.Mf{k:IntKind}{pv:PV}(h:PV.Ty (.int k) pv):∃n,pv=.int k n/\InK k n:=by
 cases h with
 |int h=>simp only[Lit.wf,auI,dT_]at h;exact⟨_,rfl,h⟩
theorem Ty.ahO{ct:CT}{pv:PV}(h:PV.Ty (.sl [ct]) pv):∃vs:V_,pv=.sl 1 (vs.map λv=>[v])/\l'' vs<=maxLen/\∀v∈vs,PV.Ty ct v:=by
 cases h with
 |@sl F rows E A h=>
 have l:∀r∈rows,r=[r.headD .junk]:=λr u=>by
  have:=E r u
  match r,this with
  |[x],_=>rfl
 have e:rows=(rows.map λr=>r.headD .junk).map λv=>[v]:=by rw[axM];apply axK bC;intro n y H;simp only[awA,Function.comp];exact l _ (auH y)
 refine⟨rows.map λr=>r.headD .junk,by rw[<-e];rfl,by simpa using A,λv w=>?_⟩;rw[auT]at w;obtain⟨r,u,rfl⟩:=w;obtain⟨i,hi,rfl⟩:=awI u;refine h i 0 _ ct ?_ rfl;have:=l rows[i] u;unfold at2;rw[auP hi,ayE,this];rfl
theorem Ty.Zl{k:IntKind}{pv:PV}(h:PV.Ty (.sl [.int k]) pv):∃xs:I_,pv=Pu k xs/\l'' xs<=maxLen/\∀x∈xs,InK k x:=by
 obtain⟨vs,rfl,A,l⟩:=Ty.ahO h;have e:vs=(vs.map λv=>match v with | .int _ n=>n|_=>0).map λn=>PV.int k n:=by rw[axM];apply axK bC;intro n w E;simp only[awA,Function.comp];obtain⟨m,i,-⟩:=Ty.Mf (l _ (auH w));rw[i]
 refine⟨vs.map λv=>match v with | .int _ n=>n|_=>0,?_,by simpa using A,λx u=>?_⟩
 ·unfold Pu
  conv=>lhs;rw[e]
  rw[axM];rfl
 ·rw[auT]at u;obtain⟨v,i,rfl⟩:=u;obtain⟨m,rfl,y⟩:=Ty.Mf (l v i);exact y
end Go.PM
namespace Go.Proofs.YtmjecabkffiabaaGreatDoor
open Go Go.PM
def Mv:N_:=[0,0,0,384,327,86,334,333,57,50,55,29,5,1,7,68,231,343,344,345,346,116,347,337,329,28,54,48,335,39,52,3,30,8,6,51,77,74,71,69,75,73,70,97,207,208,211,338,153,206,352,353,354,355,356,121,120,357,336,339,331,348,119,115,61,33,2,196,59,36,60,63,72,76,56,53,62,67,105,112,96,113,111,212,162,204,230,359,360,361,132,129,131,136,133,349,350,114,232,205,358,130,122,123,37,164,35,34,66,65,47,106,98,100,118,103,107,109,124,202,138,137,139,117,128,135,233,209,279,203,134,42,45,163,40,64,31,58,38,99,104,101,108,110,102,127,126,141,144,143,140,142,280,171,170,166,167,32,46,43,41,44,49,125,169,174,165,168,175,176,177]
def ajZ : N_ -> Nat -> Nat -> Nat
 | [], _, _ => 0
 | x :: l, n, k => if awK x n then k else ajZ l n (k+1)
def num(n:Nat):FuncId:=ajZ Mv (n+1) 0
def nameOf (f : FuncId) : O_ := match Mv.getD f 0 with
 | 0 => none
 | n+1 => some n
noncomputable def T(ro:N_):Tbl:={ P:=Tryz.prog,num:=num,name:=nameOf,ro:=ro }
end Go.Proofs.YtmjecabkffiabaaGreatDoor
namespace Go.PM
open Go
abbrev Rg:=List bY
abbrev Rd:=List (bY×Bool)
def aK.rs : aK->List Rg
 | .region r=>[r] | .seq a b=>a.rs++b.rs | .cond _ a b=>a.rs++b.rs | .block _ a=>a.rs | .loop a=>a.rs | _=>[]
def aK.ds : aK->List Rd
 | .draw r=>[r] | .seq a b=>a.ds++b.ds | .cond _ a b=>a.ds++b.ds | .block _ a=>a.ds | .loop a=>a.ds | _=>[]
theorem FC (n:Nat) (h:n<2^8):UInt8.ofBitVec (BitVec.ofFin ⟨n,h⟩)=UInt8.ofNat n:=by
 apply UInt8.toNat_inj.1;have i:n<256:=h;simp [UInt8.toNat_ofNat'];omega
def aK.ls : aK->List aK
 | .seq a b=>a.ls++b.ls | .cond _ a b=>a.ls++b.ls | .block _ a=>a.ls | .loop a=>a::a.ls | _=>[]
def bR(ro:N_)(f:Func)(x:{p:lF//(Go.Proofs.YtmjecabkffiabaaGreatDoor.T ro).func f=some p}:=by refine⟨?_,?_⟩;rotate_left;conv=>lhs;reduce):lF:=x.1
def aC(q:lF)(k:Nat)(x:{l:Rg//(q.body.rs).getD k []=l}:=by refine⟨?_,?_⟩;rotate_left;conv=>lhs;reduce;try simp only[FC,UInt8.reduceOfNat,Int.reduceOfNat,Int.reduceNegSucc]):Rg:=x.1
def eY(q:lF)(k:Nat)(x:{l:Rd//(q.body.ds).getD k []=l}:=by refine⟨?_,?_⟩;rotate_left;conv=>lhs;reduce;try simp only[FC,UInt8.reduceOfNat,Int.reduceOfNat,Int.reduceNegSucc]):Rd:=x.1
def anV(q:lF)(k:Nat)(x:{c:aK//(q.body.ls).getD k .skip=c}:=by refine⟨?_,?_⟩;rotate_left;conv=>lhs;reduce;try simp only[FC,UInt8.reduceOfNat,Int.reduceOfNat,Int.reduceNegSucc]):aK:=x.1
def bX(q:lF)(x:{c:aK//q.body=c}:=by refine⟨?_,?_⟩;rotate_left;conv=>lhs;reduce;try simp only[FC,UInt8.reduceOfNat,Int.reduceOfNat,Int.reduceNegSucc]):aK:=x.1
@[go_sem ↓] theorem asA(ro:N_)(f:Func)(p:lF)(h:(Go.Proofs.YtmjecabkffiabaaGreatDoor.T ro).func f=some p):bR ro f ⟨p,h⟩=p:=(rfl)
@[go_sem ↓] theorem arD(q:lF)(k:Nat)(l:aK)(h:(q.body.ls).getD k .skip=l):anV q k ⟨l,h⟩=l:=(rfl)
@[go_sem ↓] theorem aqE(q:lF)(l:aK)(h:q.body=l):bX q ⟨l,h⟩=l:=(rfl)
@[go_sem ↓] theorem arI(q:lF)(k:Nat)(l:Rg)(h:(q.body.rs).getD k []=l):aC q k ⟨l,h⟩=l:=(rfl)
@[go_sem ↓] theorem aqS(q:lF)(k:Nat)(l:Rd)(h:(q.body.ds).getD k []=l):eY q k ⟨l,h⟩=l:=(rfl)
def gB(d:Nat)(o:BinOp)(x y g:Nat)(b:Bool):bY:=⟨some d,.bin o (.tmp x) (.tmp y),some (g,b)⟩
def sq(r:Rg)(c:aK):aK:=.seq (.region r) c
def dq(r:Rd)(c:aK):aK:=.seq (.draw r) c
def Tm(n:Nat):aP:=.tmp n
@[go_sem] theorem asN(d:Nat)(o:BinOp)(x y g:Nat)(b:Bool):gB d o x y g b=⟨some d,.bin o (.tmp x) (.tmp y),some (g,b)⟩:=(rfl)
@[go_sem] theorem asO(r:Rg)(c:aK):sq r c=.seq (.region r) c:=(rfl)
@[go_sem] theorem asM(r:Rd)(c:aK):dq r c=.seq (.draw r) c:=(rfl)
@[go_sem] theorem asL(n:Nat):Tm n=.tmp n:=(rfl)
def iP(r:Rg)(t k:Nat)(s:Rg)(b:aK):aK:=sq r (.seq (.cond (Tm t) .skip (.exit k)) (.seq (.block (k+1) b) (.region s)))
@[go_sem] theorem arB(r:Rg)(t k:Nat)(s:Rg)(b:aK):iP r t k s b=sq r (.seq (.cond (Tm t) .skip (.exit k)) (.seq (.block (k+1) b) (.region s))):=(rfl)
def fY(r:Rg)(t k:Nat)(s:Rg)(b:aK):aK:=.seq (sq r (.cond (Tm t) .skip (.exit k))) (.seq (.block (k+1) b) (.region s))
@[go_sem] theorem arC(r:Rg)(t k:Nat)(s:Rg)(b:aK):fY r t k s b=.seq (sq r (.cond (Tm t) .skip (.exit k))) (.seq (.block (k+1) b) (.region s)):=(rfl)
def mM(r:Rg)(n:Nat)(y:Rg)(b:aK):aK:=.seq (sq r (.cond (Tm n) (sq y .ret) .skip)) b
@[go_sem] theorem aqH(r:Rg)(n:Nat)(y:Rg)(b:aK):mM r n y b=.seq (sq r (.cond (Tm n) (sq y .ret) .skip)) b:=(rfl)
def iE(r:Rg)(n:Nat)(a b:aK):aK:=.seq (sq r (.cond (Tm n) a .skip)) b
@[go_sem] theorem aqG(r:Rg)(n:Nat)(a b:aK):iE r n a b=.seq (sq r (.cond (Tm n) a .skip)) b:=(rfl)
def eH(r:Rg)(k:Nat)(l:aK):aK:=sq r (.block k (.loop l))
@[go_sem] theorem arU(r:Rg)(k:Nat)(l:aK):eH r k l=sq r (.block k (.loop l)):=(rfl)
end Go.PM
namespace Go.PM
open Go
open Go Go.RowKit Go.ChangeShapes Go.WideShapes
inductive AT where
 |one (ct:CT)
 |struct (cts:List CT)
 deriving Inhabited
def N3(P:Program)(n:Nat)(t:TypeId):Option AT:=
 match P.underlying t with
 |some .bool=>some (.one .bool)
 |some (.int k)=>some (.one (.int k))
 |some .string=>some (.one .str)
 |some (.slice _)=>match jP P n t with
  |some [ct]=>some (.one ct)
  |_=>none
 |some (.struct _)=>(jP P n t).map .struct
 |_=>none
def KL(P:Program)(n:Nat):List TypeId->Option (List AT)
 |[]=>some []
 |t::ts=>match N3 P n t,KL P n ts with
  |some a,some i=>some (a::i)
  |_,_=>none
inductive AT.Ty:AT->PV->Prop
 |one {ct:CT} {pv:PV} (h:PV.Ty ct pv):AT.Ty (.one ct) pv
 |struct {cts:List CT} {pvs:V_} (hl:l'' pvs=l'' cts) (h:∀(j:Nat) pv ct,pvs[j]?=some pv->cts[j]?=some ct->PV.Ty ct pv):AT.Ty (.struct cts) (.agg pvs)
def AT.TyL:List AT->V_->Prop
 |[],[]=>True
 |a::i,p::ps=>AT.Ty a p/\AT.TyL i ps
 |_,_=>False
section
variable {H:Type} {enc:TypeId × Value->H} {P:Program} {W:World} {sp:Nat->Bool} {held:Bool}
theorem ajC{r:Reach}{base:Nat}(num:Nat->FuncId){t:TypeId}{v:Value}{d:DataW H}{ps:List MemPlace}{n:Nat}{a:AT}
  (i:Value.okWide P W r base t v) (A:DataW.Trod enc P W 0 sp held t v d ps) (u:N3 P n t=some a):∃pv,bE (Env.of W num) pv v/\AT.Ty a pv:=by
 unfold N3 at u;cases n with
 |zero =>split at u;rename_i l;cases u;obtain⟨b,rfl⟩:=okWide_bool l i;obtain⟨pv,w,y⟩:=zJ (n:=1) (ct:=.bool) num (by simp[Value.cells]) A (by simp[jP,l]);exact⟨pv,w,.one y⟩;rename_i k l;cases u;obtain⟨b,rfl⟩:=okWide_int l i;obtain⟨pv,w,y⟩:=zJ (n:=1) (ct:=.int k) num (by simp[Value.cells]) A (by simp[jP,l]);exact⟨pv,w,.one y⟩;rename_i l;cases u;obtain⟨b,rfl⟩:=okWide_string l i;obtain⟨pv,w,y⟩:=zJ (n:=1) (ct:=.str) num (by simp[Value.cells]) A (by simp[jP,l]);exact⟨pv,w,.one y⟩;simp[jP]at u;simp[jP]at u;cases u
 |succ n =>split at u;rename_i l;cases u;obtain⟨b,rfl⟩:=okWide_bool l i;obtain⟨pv,w,y⟩:=zJ (n:=n+1) (ct:=.bool) num (by simp[Value.cells]) A (by simp[jP,l]);exact⟨pv,w,.one y⟩;rename_i k l;cases u;obtain⟨b,rfl⟩:=okWide_int l i;obtain⟨pv,w,y⟩:=zJ (n:=n+1) (ct:=.int k) num (by simp[Value.cells]) A (by simp[jP,l]);exact⟨pv,w,.one y⟩;rename_i l;cases u;obtain⟨b,rfl⟩:=okWide_string l i;obtain⟨pv,w,y⟩:=zJ (n:=n+1) (ct:=.str) num (by simp[Value.cells]) A (by simp[jP,l]);exact⟨pv,w,.one y⟩;rename_i e l;split at u;rename_i ct E;cases u;obtain⟨x,len,cap,rfl⟩:=okWide_slice l i;obtain⟨pv,w,y⟩:=zJ num (by simp[Value.cells]) A E;exact⟨pv,w,.one y⟩;cases u;rename_i K l;rw[auR]at u;obtain⟨cts,E,rfl⟩:=u;obtain⟨J,w,y,F⟩:=N4 num l i A E;exact⟨_,w,.struct y F⟩;cases u
theorem Lu{r:Reach}{base:Nat}(num:Nat->FuncId){n:Nat}:∀{ts:List TypeId}{vs:List Value}{ds:List (DataW H)}{ps:List MemPlace}{l:List AT},DataW.TrodAll enc P W 0 sp held ts vs ds ps ->
  (∀(j:Nat) t v,ts[j]?=some t->vs[j]?=some v->Value.okWide P W r base t v)->KL P n ts=some l->∃i,fS (Env.of W num) i vs/\AT.TyL l i
 |[],[],_,_,l,_,_,h=>by simp[KL]at h;subst h;exact⟨[],.nil,trivial⟩
 |[],_::_,_,_,_,h,_,_=>h.elim
 |_::_,[],[],_,_,h,_,_=>h.elim
 |_::_,[],_::_,_,_,h,_,_=>h.elim
 |_::_,_::_,[],_,_,h,_,_=>h.elim
 |t::ts,v::vs,d::ds,ps,l,h,w,u=>by obtain⟨p,q,E,F,rfl⟩:=h;simp only[KL]at u;split at u;rename_i a y A e2;cases u;obtain⟨pv,r1,J⟩:=ajC num (w 0 t v rfl rfl) E A;obtain⟨i,r2,K⟩:=Lu num F (λj t v a b=>w (j+1) t v (by simpa using a) (by simpa using b)) e2;exact⟨pv::i,.cons r1 r2,J,K⟩;cases u
theorem TrodAll.length:∀{ts:List TypeId}{vs:List Value}{ds:List (DataW H)}{ps:List MemPlace},DataW.TrodAll enc P W 0 sp held ts vs ds ps->l'' ds=l'' ts
 |[],[],[],_,_=>rfl
 |[],[],_::_,_,h=>h.elim
 |[],_::_,_,_,h=>h.elim
 |_::_,[],[],_,h=>h.elim
 |_::_,[],_::_,_,h=>h.elim
 |_::_,_::_,[],_,h=>h.elim
 |t::ts,v::vs,d::ds,ps,h=>by obtain⟨p,q,l,i,rfl⟩:=h;simp[TrodAll.length i]
end
theorem Ez{H:Type}{enc:TypeId × Value->H}{P:Program}{f:FuncId}{fn:Func}{s:ChangeSpec}{apart fresh i:Bool}{bt:TypeId}{num:Nat->FuncId}{name n:Nat}{ats:List AT}
  (Z:laidOutB P=true) (N:fn.params.toList.all (λt=>P.readableRec t&&decide (t<P.types.size))=true) (K:fn.resultTypes=#[bt]) (J:P.underlying bt=some .bool) (S:s.vars=[])
  (hs:∀ds:List (DataW H),l'' ds=l'' fn.params.toList->(s.fn H ds).results=[.lit (.bool true)]/\(s.fn H ds).args=ds/\(s.fn H ds).vars=[])
  (y:num name=f) (V:KL P n fn.params.toList=some ats) (h:∀u,AT.TyL ats u->aG ⟨P,num⟩ name u h_ (aJ (.bool true)))
  {W:World} {base:Nat} {args:Array Value} {ds U:List (DataW H)} {l:List MemPlace}
  (E:∀(j:Nat) t v,fn.params[j]?=some t->args[j]?=some v->Value.okWide P W .any base t v) (hW:DataW.Whole enc P fn.params.toList s.vars apart W args.toList ds U l) :
  Calls P f args W λe O=>∃v,e=.returned v/\s.post enc P fn apart fresh i false W args v O:=by
 have A:∀t∈fn.params.toList,P.readableRec t=true/\t<P.types.size:=λt M=>by have:=auX.1 N t M;simpa using this
 have F:=hW;obtain⟨p,q,Q,hV,rfl,hz,hn⟩:=hW;rw[S]at hV;obtain⟨rfl,rfl⟩:=trodVars_none hV;obtain⟨u,hr,M⟩:=Lu num Q (λj t v a b=>E j t v (by simpa using a) (by simpa using b)) V;have w:=TrodAll.length Q;subst y;obtain⟨r1,r2,r3⟩:=hs (ds++[]) (by simpa using w);refine(Ue (C:=⟨P,num⟩) (h u M) hr).mono λe O Y=>?_;obtain⟨rfl,hb⟩:=Y;exact⟨_,rfl,Vk Z F hb A K J S r1 (by rw[r2];simp) r3⟩
open Go
attribute [go_sem] pP gQ setCells PV.cells PV.one cD storeAt cS loadCells dP bnd PV.slice PV.intOf PV.eqs PV.eq1 PV.un keyOf KS.of KS.ofs KS.sh axP List.all_nil avQ ayI auV awP auN awB auX Bool.and_self
attribute [go_sem] Bool.bne_false Bool.bne_true Int.le_refl Int.lt_irrefl decide_true decide_false exists_eq_left exists_eq_left' auD List.length_replicate awG Int.natCast_nonneg Option.isSome_some Option.isSome_none axC Option.getD_none dT_ decide_eq_false_iff_not avA awX auG Nat.sub_zero
def aR(xs:I_):P2_:=xs.map λn=>[.int .i64 n]
theorem bP{a b:Int}(h:a≠b):(a==b)=false:=by simp[h]
theorem cI{a b:Int}(h:a=b):(a==b)=true:=by simp[h]
theorem eZ{a b:Int}(h:a≠b):(a != b)=true:=by simp[h]
theorem dM{a b:Int}(h:a=b):(a != b)=false:=by simp[h]
section
variable {H:PH}
@[go_sem] theorem PH.set_set(o:Nat)(x y:aW):(H.set o x).set o y=H.set o y:=PH.ext λq=>by
 simp only[aT];split<;>rfl
@[go_sem] theorem cA(o:Nat)(x:aW):(H.set o x) o=some x:=by simp only[aT,if_true]
end
section
variable {C:Ctx} {K:cH} {F:PF} {H:PH}
theorem PH.oV(o:Nat)(x:aW):H.over .nil (h_.set o x)=H.set o x:=PH.ext λq=>by
 rw[iL];simp only[aT,XM];split<;>simp_all
theorem PH.yO(o:Nat)(x y:aW):H.over (h_.set o x) (h_.set o y)=H.set o y:=PH.ext λq=>by
 rw[iL];simp only[aT,XM];split<;>simp_all
theorem fD{name:Nat}{vs:V_}{i:PH}{R:R_}{args:List aP}{d:O_}{K:K_}(h:aG C name vs i R)(u:aP.evs F args=some vs)(l:i.le H)
  (w:∀r H',R r H'->oX H i H'->K (F.put d r) (H.over i H')):iW C name args [] d K F H:=
 .inl ⟨vs,i,R,by rw[u];simp,l,h,w⟩
theorem aY{res:List dZ}{R:R_}{vs:V_}{e:lE}(J:e=.normal\/e=.ret)(i:PH)(h:dZ.evs F H res=some vs)(l:i.le H)(E:R (bO vs) i):aX res R e F H:=by
 have w:∃vs,dZ.evs F H res=some vs/\∃y A H2,jI (n_.set 0 (bO vs)) H y A/\H2.le A/\∃u,y 0=some u/\R u H2:=
  ⟨vs,h,_,H,i,.refl _ _,l,bO vs,by rw[mF,aD rfl],E⟩
 rcases J with rfl|rfl<;>exact w
theorem I2{t o s k:Nat}{rs:P2_}{R:R_}{e:lE}(A:e=.normal\/e=.ret)(h:F t=some (.osl o s 0 k))(E:H o=some (.rows s rs))(J:k<=l'' rs)(y:R (.sl s (rs.take k)) .nil) :
  aX [.tmp t] R e F H:=by
 have i:∃vs,dZ.evs F H [.tmp t]=some vs/\∃l w H2,jI (n_.set 0 (bO vs)) H l w/\H2.le w/\∃u,l 0=some u/\R u H2:=by refine⟨[.osl o s 0 k],by rw[kM,nF,h,oM],_,_,.nil,.step o E (.refl _ _),a_,.sl s (rs.take k),?_,y⟩;have:0+k<=l'' rs:=Om;simp only[PF.frz,mF,if_true,bO,avB,PV.frz,PV.rG,PV.cZ,true_and,aD this,avR]
 rcases A with rfl|rfl<;>exact i
def cN(v:PV)(r:PV)(H:PH):Prop:=Co r v/\H=h_
theorem aG.akR{name:Nat}{args:V_}{H:PH}{v:PV}(h:aG C name args H (cN v)):aG C name args H (aJ v):=
 h.post λr H' ⟨i,l⟩=>⟨v,i,rfl,l⟩
theorem aJ.akR{v r:PV}{H:PH}(h:aJ v r H):cN v r H:=by
 obtain⟨rfl,rfl⟩:=h;exact⟨.refl _,rfl⟩
theorem tP{s b:Nat}{y:PV}{src:P2_}{K:R_}(w:dP H s y=some src)(u:roomFor 0 src.length b)(i:src=[]->K .aE H)
  (l:src≠[]->∀o,H o=none->K (.osl o s 0 src.length) (H.set o (.rows s src))):mJ H s b .aE y K:=⟨src,w,u,i,l⟩
theorem WL{o s b len:Nat}{rs:P2_}{y:PV}{src:P2_}{K:R_}(E:dP H s y=some src)(A:roomFor len src.length b)(w:H o=some (.rows s rs))(u:len<=l'' rs)
  (i:K (.osl o s 0 (len+l'' src)) (H.set o (.rows s (rs.take len++src))))
  (l:∀o',H o'=none->K (.osl o' s 0 (len+l'' src)) (H.set o' (.rows s (rs.take len++src)))):mJ H s b (.osl o s 0 len) y K:=
 ⟨src,E,rfl,rfl,A,rs,w,u,i,l⟩
end
def cF(H:PH)(s:Nat)(v:PV)(rows:P2_):Prop:=
 (rows=[]/\v=.aE)\/∃q rs,v=.osl q s 0 rows.length/\H q=some (.rows s rs)/\l'' rows<=l'' rs/\rs.take rows.length=rows
def Seen(s:Nat)(v:PV)(rows:P2_):Prop:=(rows=[]/\v=.aE)\/v=.sl s rows
section
variable {C:Ctx} {K:cH} {F:PF} {H:PH} {s b:Nat} {v y:PV} {rows src:P2_}
theorem cF.nil:cF H s .aE []:=.inl ⟨rfl,rfl⟩
theorem cF.view(h:cF H s v rows):dP H s v=some rows:=by
 rcases h with⟨rfl,rfl⟩|⟨q,rs,rfl,h1,h2,h3⟩
 rfl;have:0+l'' rows<=l'' rs:=Om;simp only[dP,if_true,h1,true_and,aD this,avR,h3]
theorem Seen.view(h:Seen s v rows):dP H s v=some rows:=by
 rcases h with⟨rfl,rfl⟩|rfl
 rfl;simp[dP]
theorem cF.ext{H':PH}(h:cF H s v rows)(i:∀o x,H o=some x->H' o=some x):cF H' s v rows:=by
 rcases h with h|⟨q,rs,h0,h1,h2,h3⟩
 exact .inl h;exact .inr ⟨q,rs,h0,i q _ h1,h2,h3⟩
theorem jJ{K:R_}(h:cF H s v rows)(M:dP H s y=some src)(J:roomFor rows.length src.length b)
  (E:∀v' H',cF H' s v' (rows++src)->(∀o x,H o=some x->(∀l,v≠.osl o s 0 l)->H' o=some x)->K v' H'):mJ H s b v y K:=by
 rcases h with⟨rfl,rfl⟩|⟨q,rs,rfl,h1,h2,h3⟩
 refine⟨src,M,J,λe=>?_,λe o A=>?_⟩;subst e;exact E _ _ (.inl ⟨rfl,rfl⟩) λo x A _=>A;refine E _ _ (.inr ⟨o,src,rfl,by simp only[aT,if_true],auG _,by simp⟩) λo' x i _=>?_;have:o'≠o:=by rintro rfl;rw[A]at i;cases i
 simp only[aT,aB this,i];have u:(rows++src).length=l'' rows+l'' src:=auJ;refine⟨src,M,rfl,rfl,J,rs,h1,h2,?_,λo A=>?_⟩;rw[h3];refine E _ _ (.inr ⟨q,rows++src,by rw[u],by simp only[aT,if_true],auG _,avI⟩) λo' x i w=>?_;have:o'≠q:=by rintro rfl;exact w _ rfl
 simp only[aT,aB this,i];rw[h3];refine E _ _ (.inr ⟨o,rows++src,by rw[u],by simp only[aT,if_true],auG _,avI⟩) λo' x i w=>?_;have N:o'≠o:=by rintro rfl;rw[A]at i;cases i
 simp only[aT,aB N,i]
def Pure(u:PV):Prop:=∀q s rs,PV.frz q s rs u=u
theorem cF.frz(h:cF H s v rows):∃w,Seen s w rows/\∀F:PF,∃l A,jI F H l A/\(∀t,F t=some v->l t=some w)/\∀i u,F i=some u->Pure u->l i=some u:=by
 rcases h with⟨rfl,rfl⟩|⟨q,rs,rfl,h1,h2,h3⟩
 exact⟨.aE,.inl ⟨rfl,rfl⟩,λF=>⟨F,H,.refl _ _,λt h=>h,λi u h _=>h⟩⟩;refine⟨.sl s rows,.inr rfl,λF=>⟨_,_,.step q h1 (.refl _ _),λt E=>?_,λi u hi hp=>?_⟩⟩;have:0+l'' rows<=l'' rs:=Om;simp only[PF.frz,E,avB,PV.frz,PV.rG,PV.cZ,if_true,true_and,aD this,avR,h3];simp only[PF.frz,hi,avB];rw[hp]
theorem DR{t:Nat}{e:lE}(i:e=.normal\/e=.ret)(h:cF H s v rows)(l:F t=some v):aX [.tmp t] (cN (.sl s rows)) e F H:=by
 rcases h with⟨rfl,rfl⟩|⟨q,rs,rfl,h1,h2,h3⟩
 exact aY (vs:=[.aE]) i .nil (by rw[kM,nF,l,oM]) a_ ⟨.nil s,rfl⟩;exact I2 i l h1 h2 ⟨by rw[h3];exact .refl _,rfl⟩
end
end Go.PM
namespace Go.PM
open Go
section
variable {C:Ctx} {F:PF} {H:PH}
@[go_sem] theorem rT(o s:Nat)(rs:P2_)(i:Nat):(F.frz o s rs) i=(F i).map (PV.frz o s rs):=(rfl)
theorem uQ{name t o s k:Nat}{rs:P2_}{v:PV}{d:O_}{K:K_}(h:aG C name [.sl s (rs.take k)] .nil (aJ v))(u:F t=some (.osl o s 0 k))(l:H o=some (.rows s rs))(w:k<=l'' rs)
  (i:K ((F.frz o s rs).put d v) (H.frz o s rs)):iW C name [.tmp t] [] d K F H:=by
 refine .inr ⟨_,_,.step o l (.refl _ _),[.sl s (rs.take k)],.nil,aJ v,?_,a_,h,?_⟩;have:0+k<=l'' rs:=Om;simp only[wA,EL,KT,rT,u,avB,PV.frz,PV.rG,PV.cZ,if_true,true_and,aD this,avR,awD];rintro r H' ⟨rfl,rfl⟩ -;rw[PH.rK];exact i
end
section
variable {C:Ctx} {K:cH} {F:PF} {H Hs:PH} {S:Spec}
theorem L5{name:Nat}{vs:V_}{R:R_}{args:List aP}{st:Bool}{d:O_}{K:K_}(y:S name vs=some ([],λ_=>R))(h:aG C name vs .nil R)(i:aP.evs F args=some vs)
  (l:∀G:PH,∃r H',R r H'/\oX G .nil H') (A:∀r H',R r H'->oX H .nil H'->Hs.le (H.over .nil H')/\K (F.put d r) (H.over .nil H')):dOp C Hs S st (.call name args) d K F H:=by
 refine⟨vs,[],λ_=>R,i,y,λo E=>by simp at E,by rw[PE];exact h,λG=>?_,λr H' J i=>?_⟩;obtain⟨r,H',u,w⟩:=l G;exact⟨r,H',u,λo x M N=>w o x M (by simp[h_])⟩;rw[PE]at i ⊢;exact A r H' J i
theorem PH.over_self(i:PH)(h:i.le H):H.over i i=H:=PH.ext λq=>by
 rw[iL];cases e:i q with
 |none=>rfl
 |some x=>exact(h q x e).symm
theorem gx{o:Nat}{x:aW}(h:H o=some x):H.only [o]=h_.set o x:=PH.ext λq=>by
 rw[uI,aT];by_cases e:q=o;subst e;simp[h];simp[e,XM]
theorem cw{name o:Nat}{x:aW}{vs:V_}{v:PV}{R:PH->R_}{args:List aP}{st:Bool}{d:O_}{K:K_}(M:S name vs=some ([o],R))(E:H o=some x)
  (h:aG C name vs (h_.set o x) (λr H'=>r=v/\H'=h_.set o x)) (i:R (h_.set o x) v (h_.set o x)) (u:∀r H',R (h_.set o x) r H'->r=v/\H'=h_.set o x) (N:aP.evs F args=some vs) (w:Hs.le H) (O:K (F.put d v) H) :
  dOp C Hs S st (.call name args) d K F H:=by
 have e:=gx E;refine⟨vs,[o],_,N,M,λq J=>?_,?_,λG=>⟨v,_,by rw[e];exact i,λq y Q A=>?_⟩,λr H' l _=>?_⟩;simp at J;subst J;exact⟨x,E⟩;rw[e];exact h.post λr H' l=>⟨r,.refl _,by rw[l.1,l.2];exact i⟩;rw[e]at A;rw[Q]at A;cases A;rw[e]at l;obtain⟨rfl,rfl⟩:=u r H' l;rw[e,PH.over_self _ (by rw[<-e];exact LN H [o])];exact⟨w,O⟩
theorem Lm{c:aK}{α:Type}(i:α->PF)(Hs:α->PH)(l:α->Prop)(m:α->Nat)(u:α)(o:Nat){s:Nat}{rs:P2_}(E:H o=some (.rows s rs))(w:l u)(y:(i u).le (F.frz o s rs))(A:(Hs u).le (H.frz o s rs))
  (hb:∀a,l a->c.wp C (iF i Hs l m (m a) K) (i a) (Hs a)):aK.wp C (.loop c) K F H:=
 ⟨α,i,Hs,l,m,u,_,_,.step o E (.refl _ _),w,y,A,hb⟩
@[go_sem] theorem qM(o s:Nat)(rs:P2_)(q:Nat):(H.frz o s rs) q=if q=o then none else(H q).map (aW.frz o s rs):=(rfl)
theorem Vs{t u o1 o2 s1 s2 k1 k2:Nat}{rs1 rs2:P2_}{R:R_}{e:lE}(V:e=.normal\/e=.ret)(l:o1≠o2)(O:F t=some (.osl o1 s1 0 k1))(Q:F u=some (.osl o2 s2 0 k2))(y:H o1=some (.rows s1 rs1))(A:H o2=some (.rows s2 rs2))
  (W:k1<=l'' rs1) (Y:k2<=l'' rs2) (E:rs2.map (λr=>r.map (PV.cZ o1 s1 rs1))=rs2) (Z:(rs1.take k1)=rs1.take k1) (U:R (.tup [.sl s1 (rs1.take k1),.sl s2 (rs2.take k2)]) .nil):aX [.tmp t,.tmp u] R e F H:=by
 have J:∃vs,dZ.evs F H [.tmp t,.tmp u]=some vs/\∃M N H2,jI (n_.set 0 (bO vs)) H M N/\H2.le N/\∃w,M 0=some w/\R w H2:=by
  have i:o2≠o1:=λh=>l h.symm;have e2:(H.frz o1 s1 rs1) o2=some (.rows s2 rs2):=by rw[qM,aB i,A];simp only[avB,aW.frz,E]
  refine⟨[.osl o1 s1 0 k1,.osl o2 s2 0 k2],by rw[kM,nF,O,kM,nF,Q,oM],_,_,.nil,.step o1 y (.step o2 e2 (.refl _ _)),a_,_,?_,U⟩;have a1:0+k1<=l'' rs1:=Om;have a2:0+k2<=l'' rs2:=Om;simp only[PF.frz,mF,if_true,bO,avB,PV.frz,PV.rG,PV.cZ,avH,avY,true_and,aD a1,aD a2,avR,aB i]
 rcases V with rfl|rfl<;>exact J
end
@[go_sem] theorem amW(a b:List UInt8):KM .eql a b=some (.bool (a==b)):=(rfl)
@[go_sem] theorem amX(a b:List UInt8):KM .neq a b=some (.bool !(a==b)):=(rfl)
@[go_sem] theorem N8(a b:List UInt8):KM .add a b=if((l'' a+l'' b:Nat):Int)>9223372036854775807 then none else some (.str (a++b)):=(rfl)
@[go_sem] theorem aiM:(([]:List UInt8)==[])=true:=(rfl)
@[go_sem] theorem adW(c:UInt8)(t:List UInt8):((c::t)==[])=false:=(rfl)
theorem tX{a b:List UInt8}(h:a=b):(a==b)=true:=by simp[h]
theorem j5{a b:List UInt8}(h:a≠b):(a==b)=false:=by simp[h]
section
variable {C:Ctx} {F:PF} {H:PH}
theorem vI{name o s:Nat}{rs:P2_}{vs:V_}{v:PV}{args:List aP}{d:O_}{K:K_}(h:aG C name vs .nil (aJ v))(u:H o=some (.rows s rs))
  (l:aP.evs (F.frz o s rs) args=some vs) (i:K ((F.frz o s rs).put d v) (H.frz o s rs)):iW C name args [] d K F H:=by
 refine .inr ⟨_,_,.step o u (.refl _ _),vs,.nil,aJ v,?_,a_,h,?_⟩;rw[l];simp;rintro r H' ⟨rfl,rfl⟩ -;rw[PH.rK];exact i
theorem jI.trans{i l u:PF}{w H2 y:PH}(h:jI i w l H2)(k:jI l H2 u y):jI i w u y:=by
 induction h with
 |refl=>exact k
 |step o A h E=>exact .step o A (E k)
theorem uR{c:aK}{K:cH}{s:Nat}{v:PV}{rows:P2_}(U:cF H s v rows)
  (h:∀w,Seen s w rows->∀l y,(∀t,F t=some v->l t=some w)->(∀i u,F i=some u->Pure u->l i=some u)->aK.wp C (.loop c) K l y):aK.wp C (.loop c) K F H:=by
 obtain⟨w,V,S⟩:=U.frz;obtain⟨l,y,W,O,Q⟩:=S F;obtain⟨α,J,Hs,M,m,N,E,H2,A,rest⟩:=h w V l y O Q;exact⟨α,J,Hs,M,m,N,E,H2,W.trans A,rest⟩
theorem aG.Q8{name s:Nat}{v:PV}{rows:P2_}{i:PH}{R:R_}(h:aG C name [.sl s rows] i R)(u:Seen s v rows):aG C name [v] i R:=by
 rcases u with⟨rfl,rfl⟩|rfl
 ·refine h.args ⟨rfl,λj p q hp l=>?_⟩;cases j with
  |zero=>simp at hp l;subst hp;subst l;exact .nil s
  |succ j=>simp at hp
 exact h
theorem cF.fresh{s:Nat}{v:PV}{rows:P2_}{o:Nat}(h:cF H s v rows)(w:H o=none)(x:aW):cF (H.set o x) s v rows/\∀l,v≠.osl o s 0 l:=by
 refine⟨h.ext λq y u=>?_,λl e=>?_⟩;have:q≠o:=by rintro rfl;rw[w]at u;cases u
 simp only[aT,aB this,u];rcases h with⟨_,i⟩|⟨q,rs,h1,i,_⟩
 rw[i]at e;cases e;rw[h1]at e;injection e with A
 subst A;rw[w]at i;cases i
theorem qH{s b:Nat}{v:PV}{rows:P2_}{r:V_}{o:Nat}{x:aW}{K:R_}(h:cF H s v rows)(y:H o=none)(A:roomFor rows.length 1 b)
  (w:∀v' H',cF H' s v' (rows++[r])->H' o=some x->K v' H'):mJ (H.set o x) s b v (.sl s [r]) K:=by
 obtain⟨i,l⟩:=h.fresh y x;refine jJ (src:=[r]) i (by simp[dP]) A λv' H' u hp=>w v' H' u (hp o x (by simp only[aT,if_true]) l)
theorem zS{o s k:Nat}{rs:P2_}(i:k<=l'' rs):PV.frz o s rs (.osl o s 0 k)=.sl s (rs.take k):=by
 have:0+k<=l'' rs:=Om;simp only[PV.frz,PV.rG,PV.cZ,if_true,true_and,aD this,avR]
end
section
variable (o s:Nat) (rs:P2_)
@[go_sem] theorem aqU(k:IntKind)(n:Int):PV.frz o s rs (.int k n)=.int k n:=(rfl)
@[go_sem] theorem aoX(b:Bool):PV.frz o s rs (.bool b)=.bool b:=(rfl)
@[go_sem] theorem aqY(l:List UInt8):PV.frz o s rs (.str l)=.str l:=(rfl)
@[go_sem] theorem aoY:PV.frz o s rs .aE=.aE:=(rfl)
@[go_sem] theorem asC(n:Nat)(r:P2_):PV.frz o s rs (.sl n r)=.sl n r:=(rfl)
@[go_sem] theorem aoZ(c:V_):PV.frz o s rs (.bQ c)=.bQ c:=(rfl)
@[go_sem] theorem aqX(q z i c:Nat):PV.frz o s rs (.ptr q z i c)=.ptr q z i c:=(rfl)
@[go_sem] theorem asB(n:Nat)(c:V_):PV.frz o s rs (.fn n c)=.fn n c:=(rfl)
@[go_sem] theorem aqV(q:Nat):PV.frz o s rs (.map q)=.map q:=(rfl)
@[go_sem] theorem aqW(q z off len:Nat):PV.frz o s rs (.osl q z off len)=if q=o then(if z=s/\off+len<=rs.length then .sl s ((rs.drop off).take len)else .junk)else .osl q z off len:=(rfl)
end
def qZ(s:Nat)(rows:P2_)(r:PV)(H:PH):Prop:=
 (rows=[]/\r=.aE/\H=h_)\/∃q rs,r=.osl q s 0 rows.length/\H=h_.set q (.rows s rs)/\l'' rows<=l'' rs/\rs.take rows.length=rows
theorem Me(q s:Nat)(rs:P2_):(h_.set q (.rows s rs)).frz q s rs=h_:=PH.ext λo=>by
 rw[qM];by_cases e:o=q;rw[aD e];rfl;rw[aB e,aT,aB e];rfl
section
variable {C:Ctx} {K:cH} {F:PF} {H:PH} {s:Nat} {v:PV} {rows:P2_}
theorem qZ.over{r:PV}{H':PH}(h:qZ s rows r H')(w:oX H .nil H'):cF (H.over .nil H') s r rows/\∀o x,H o=some x->(H.over .nil H') o=some x:=by
 rcases h with⟨i,u,rfl⟩|⟨q,rs,i,rfl,h3,h4⟩
 rw[PH.rK];exact⟨.inl ⟨i,u⟩,λo x h=>h⟩;rw[PH.oV];have y:H q=none:=w q (.rows s rs) (by simp only[aT,if_true]) rfl;refine⟨.inr ⟨q,rs,i,by simp only[aT,if_true],h3,h4⟩,λo x l=>?_⟩;have:o≠q:=by rintro rfl;rw[y]at l;cases l
 simp only[aT,aB this,l]
theorem PY{t:Nat}{e:lE}(i:e=.normal\/e=.ret)(h:cF H s v rows)(l:F t=some v):aX [.tmp t] (qZ s rows) e F H:=by
 rcases h with⟨rfl,rfl⟩|⟨q,rs,rfl,h1,h2,h3⟩
 exact aY (vs:=[.aE]) i .nil (by rw[kM,nF,l,oM]) a_ (.inl ⟨rfl,rfl,rfl⟩);exact aY (vs:=[.osl q s 0 rows.length]) i (h_.set q (.rows s rs)) (by rw[kM,nF,l,oM]) (c_ a_ h1) (.inr ⟨q,rs,rfl,rfl,h2,h3⟩)
theorem LW{t:Nat}{e:lE}(i:e=.normal\/e=.ret)(l:F t=some .aE):aX [.tmp t] (qZ s []) e F H:=PY i .nil l
theorem Vt{t:Nat}{e:lE}{r:PV}{H':PH}(i:e=.normal\/e=.ret)(h:qZ s rows r H')(u:F t=some r):aX [.tmp t] (qZ s rows) e F (H.over .nil H'):=by
 refine aY (vs:=[r]) i H' (by rw[kM,nF,u,oM]) (λo x l=>?_) h;rw[iL,l]
theorem aG.freeze{name:Nat}{args:V_}(h:aG C name args H (qZ s rows)):aG C name args H (aJ (.sl s rows)):=
 ⟨h.1,λE w vs Q hW A=>(h.2 E w vs Q hW A).mono λe W S=>by
  obtain⟨u,pv,N,H',rfl,l,M,J,hp⟩:=S;rcases hp with⟨rfl,rfl,rfl⟩|⟨q,rs,rfl,rfl,h3,h4⟩
  exact⟨u,_,N,_,rfl,l,(Co.nil s).sound M,J,rfl,rfl⟩;have U:jI (n_.set 0 (.osl q s 0 rows.length)) (h_.set q (.rows s rs)) _ _:=.step q (s:=s) (rs:=rs) (by simp only[aT,if_true]) (.refl _ _);obtain⟨O,k1,k2,V⟩:=U.sound l;have y:=V (λ_=>u) (λi p hi=>by rw[mF]at hi;split at hi;cases hi;exact M;cases hi) 0 (.sl s rows) (by rw[rT,mF,aD rfl,avB,zS h3,h4])
  rw[Me]at k1 k2;exact⟨u,_,O,_,rfl,k1,y,J.trans k2,rfl,rfl⟩⟩
theorem fS.of:∀{E:Env}(ps:V_)(vs:List Value),l'' vs=l'' ps->(∀(i:Nat) p v,ps[i]?=some p->vs[i]?=some v->bE E p v)->fS E ps vs
 |_,[],[],_,_=>.nil
 |_,[],_::_,h,_=>by simp at h
 |_,_::_,[],h,_=>by simp at h
 |_,p::ps,v::vs,h,k=>.cons (k 0 p v rfl rfl) (fS.of ps vs (by simpa using h) λi q u a b=>k (i+1) q u (by simpa using a) (by simpa using b))
theorem bZ.same{E:Env}{w y:World}(hW:bZ E H w)(M:w.heap.size<=y.heap.size)(hb:∀b,b<w.heap.size->H b=none->y.heap[b]?=w.heap[b]?)(J:∀o x,H o=some x->y.heap[o]?=w.heap[o]?):bZ E H y:=by
 have l:∀b,b<w.heap.size->y.heap[b]?=w.heap[b]?:=λb hlt=>by
  cases e:H b with
  |none=>exact hb b hlt e
  |some x=>exact J b x e
 refine⟨λb cs h=>?_,λo x h=>?_,λo n h=>?_⟩;obtain⟨i,ty,fr,u⟩:=hW.g b cs h;exact⟨i,ty,fr,(l b (ayF.1 u).1).trans u⟩;obtain⟨i,u⟩:=hW.h o x h;exact⟨Nat.lt_of_lt_of_le i M,u.mono (.refl E) (l o i)⟩;obtain⟨A,ty,fr,i,u⟩:=hW.s o n h;exact⟨A,ty,fr,(l o (ayF.1 i).1).trans i,u⟩
inductive Plain:PV->Prop
 |int (k:IntKind) (n:Int):Plain (.int k n)
 |bool (b:Bool):Plain (.bool b)
 |str (l:List UInt8):Plain (.str l)
 |two (k k':IntKind) (n n':Int):Plain (.tup [.int k n,.int k' n'])
theorem Plain.rep{v:PV}(h:Plain v){E i:Env}{u:Value}(r:bE E v u):bE i v u:=by
 cases h<;>cases r;exact .int _ _;exact .bool _;exact .str _
 ·rename_i vs l w;refine .tup vs l λj pv v a b=>?_;have h:=w j pv v a b
  match j,a with
  |0,a=>cases a;cases h;exact .int _ _
  |1,a=>cases a;cases h;exact .int _ _
theorem aG.Zp{name o:Nat}{rs:P2_}{args:V_}(hv:Plain v)(h:aG C name (args.map (PV.frz o s rs)) .nil (aJ v)) :
  aG C name args (h_.set o (.rows s rs)) (λr H'=>r=v/\H'=h_.set o (.rows s rs)):=by
 refine⟨h.1,λE w vs U hW M=>?_⟩;have hz:jI (g_ args) (h_.set o (.rows s rs)) _ _:=.step o (s:=s) (rs:=rs) (by simp only[aT,if_true]) (.refl _ _);obtain⟨Q,k1,k2,k3⟩:=hz.sound hW;rw[Me]at k1 k2;have J:=M.len;have N:fS Q (args.map (PV.frz o s rs)) vs.toList:=by
  refine fS.of _ _ (by rw[auD];exact J) λi p u hp hu=>?_;have:=k3 (λi=>(vs.toList[i]?).getD undef) (λj q S=>by have Y:=(avP.1 S).1;have A:j<l'' vs.toList:=Om;simp only[auP A,axC];exact M.at_ j q _ S (auP A)) i p (by rw[rT,args_at,<-avC];exact hp)
  simp only[hu,axC]at this;exact this
 refine(h.2 Q w vs (k2.env.num.trans U) k1 N).mono λe w' W=>?_;obtain⟨u,pv,E2,H2,rfl,V,Z,y,rfl,rfl⟩:=W;have l:∀b,b<w.heap.size->w'.heap[b]?=w.heap[b]?:=λb hb=>y.block b hb rfl;refine⟨u,pv,E,_,rfl,hW.same y.size (λb hb _=>l b hb) (λq x O=>l q (hW.h q x O).1),hv.rep Z,⟨.refl E,y.os,y.tape,y.output,y.size,λb hb _=>l b hb,λq x O=>.inl ⟨x,O⟩,λb cs hb=>.inl hb⟩,rfl,rfl⟩
theorem Lj{name o:Nat}{rs:P2_}{args:List aP}{vs:V_}{d:O_}{K:K_}(w:Plain v)(h:aG C name (vs.map (PV.frz o s rs)) .nil (aJ v))(i:H o=some (.rows s rs))(l:aP.evs F args=some vs)
  (u:K (F.put d v) H):iW C name args [] d K F H:=by
 refine fD (h.Zp w) l (c_ a_ i) ?_;rintro r H' ⟨rfl,rfl⟩ -;rw[PH.over_self _ (c_ a_ i)];exact u
theorem Yj{Hs:PH}{S:Spec}{name o:Nat}{rs:P2_}{vs:V_}{R:PH->R_}{args:List aP}{st:Bool}{d:O_}{K:K_}(w:S name vs=some ([o],R))(J:Plain v)(E:H o=some (.rows s rs))
  (h:aG C name (vs.map (PV.frz o s rs)) .nil (aJ v)) (i:R (h_.set o (.rows s rs)) v (h_.set o (.rows s rs))) (l:∀r H',R (h_.set o (.rows s rs)) r H'->r=v/\H'=h_.set o (.rows s rs)) (y:aP.evs F args=some vs) (u:Hs.le H) (A:K (F.put d v) H) :
  dOp C Hs S st (.call name args) d K F H:=cw w E (h.Zp J) i l y u A
theorem Cs{name t:Nat}{R:R_}{d:O_}{K:K_}(h:aG C name [.sl s rows] .nil R)(E:cF H s v rows)(A:F t=some v)
  (y:∀(l:PF)(w:PH),(∀i u,F i=some u->Pure u->l i=some u)->∀r H',R r H'->oX w .nil H'->K (l.put d r) (w.over .nil H')):iW C name [.tmp t] [] d K F H:=by
 rcases E with⟨rfl,rfl⟩|⟨q,rs,rfl,h1,h2,h3⟩
 exact .inl ⟨[.aE],.nil,R,by rw[wA,KT,A,EL];rfl,a_,h.Q8 (.inl ⟨rfl,rfl⟩),y F H λi u hi _=>hi⟩;refine .inr ⟨_,_,.step q h1 (.refl _ _),[.sl s rows],.nil,R,?_,a_,h,y _ _ λi u hi hp=>?_⟩;simp only[wA,EL,KT,rT,A,avB,zS h2,h3,awD];rw[rT,hi,avB,hp q s rs]
end
def PV.oid:PV->O_
 | .osl q _ _ _=>some q
 |_=>none
abbrev LI:=PV × Nat × P2_
abbrev BX:=Nat × aW
def fN(B:List BX):N_:=B.map (·.1)
def fG(L:List LI):N_:=L.filterMap λx=>x.1.oid
structure aQ(H:PH)(B:List BX)(L:List LI):Prop where
 box:∀b∈B,H b.1=some b.2
 lst:∀x∈L,cF H x.2.1 x.1 x.2.2
 nd:(fN B++fG L).Nodup
section
variable {C:Ctx} {H:PH} {B:List BX} {L:List LI} {K:R_}
theorem cF.id{s q:Nat}{v:PV}{rows:P2_}(h:cF H s v rows)(i:v.oid=some q):∃rs,H q=some (.rows s rs)/\v=.osl q s 0 rows.length/\l'' rows<=l'' rs/\rs.take rows.length=rows:=by
 rcases h with⟨_,rfl⟩|⟨p,rs,rfl,h1,h2,h3⟩
 cases i;cases i;exact⟨rs,h1,rfl,h2,h3⟩
theorem cF.same{s:Nat}{v:PV}{rows:P2_}{H':PH}(h:cF H s v rows)(i:∀q,v.oid=some q->H' q=H q):cF H' s v rows:=by
 rcases h with h|⟨p,rs,rfl,h1,h2,h3⟩
 exact .inl h;exact .inr ⟨p,rs,rfl,by rw[i p rfl];exact h1,h2,h3⟩
theorem oU{x:LI}{q:Nat}(h:x∈L)(i:x.1.oid=some q):q∈fG L:=List.mem_filterMap.2 ⟨x,h,i⟩
theorem zX{b:BX}(h:b∈B):b.1∈fN B:=auT.2 ⟨b,h,rfl⟩
theorem aQ.nil:aQ H [] []:=⟨by simp,by simp,by simp[fN,fG]⟩
theorem aQ.at(h:aQ H B L)(i:Nat){o:Nat}{x:aW}(hi:B[i]?=some (o,x)):H o=some x:=h.box _ (awW hi)
theorem aQ.own(h:aQ H B L)(i:Nat){s:Nat}{v:PV}{rows:P2_}(hi:L[i]?=some (v,s,rows)):cF H s v rows:=h.lst _ (awW hi)
theorem aQ.ndB(h:aQ H B L):(fN B).Nodup:=(axR.1 h.nd).1
theorem aQ.ndL(h:aQ H B L):(fG L).Nodup:=(axR.1 h.nd).2.1
theorem aQ.ndX(h:aQ H B L){o q:Nat}(i:o∈fN B)(l:q∈fG L):o≠q:=(axR.1 h.nd).2.2 o i q l
theorem aQ.ne(h:aQ H B L)(i j:Nat){o p:Nat}{x y:aW}(hi:B[i]?=some (o,x))(J:B[j]?=some (p,y))(l:i≠j):o≠p:=by
 intro e;have E:(fN B)[i]?=some o:=by unfold fN;rw[avC,hi];rfl
 have F:(fN B)[j]?=some p:=by unfold fN;rw[avC,J];rfl
 obtain⟨w,u⟩:=avP.1 E;obtain⟨A,e2⟩:=avP.1 F;have hp:=List.pairwise_iff_getElem.1 h.ndB;rcases Nat.lt_or_gt_of_ne l with g|g
 exact hp i j w A g (by rw[u,e2,e]);exact hp j i A w g (by rw[u,e2,e])
theorem aQ.neL(h:aQ H B L)(i j:Nat){o q:Nat}{x:aW}{y:LI}(hi:B[i]?=some (o,x))(l:L[j]?=some y)(u:y.1.oid=some q):o≠q:=
 h.ndX (zX (awW hi)) (oU (awW l) u)
theorem aQ.fresh(h:aQ H B L){o:Nat}(i:H o=none):o ∉ fN B/\o ∉ fG L:=by
 refine⟨λl=>?_,λl=>?_⟩;obtain⟨b,hb,rfl⟩:=auT.1 l;rw[h.box b hb]at i;cases i;obtain⟨x,w,e⟩:=List.mem_filterMap.1 l;obtain⟨rs,u,_⟩:=(h.lst x w).id e;rw[u]at i;cases i
theorem aQ.keep(h:aQ H B L){H':PH}(i:∀q,q∈fN B\/q∈fG L->H' q=H q):aQ H' B L:=
 ⟨λb hb=>by rw[i _ (.inl (zX hb))];exact h.box b hb,λx l=>(h.lst x l).same λq u=>i q (.inr (oU l u)),h.nd⟩
theorem Zh{i:Nat}{o:Nat}{x y:aW}(hi:B[i]?=some (o,x)):fN (B.set i (o,y))=fN B:=by
 unfold fN;rw[List.map_set];refine List.ext_getElem? λj=>?_;rw[ayG];split;rename_i e;subst e;rw[avC,hi];have:=(avP.1 hi).1;simp[this];rfl
theorem aQ.set(h:aQ H B L)(i:Nat){o:Nat}{x:aW}(hi:B[i]?=some (o,x))(y:aW):aQ (H.set o y) (B.set i (o,y)) L:=by
 have w:o∈fN B:=zX (awW hi);refine⟨λb hb=>?_,λz A=>(h.lst z A).same λq E=>?_,by rw[Zh hi];exact h.nd⟩;obtain⟨j,l⟩:=List.mem_iff_getElem?.1 hb;rw[ayG]at l;split at l;split at l;cases l;simp only[aT,if_true];cases l;rename_i u;have:b.1≠o:=λe=>h.ne i j hi (show B[j]?=some (b.1,b.2)from l) u e.symm;rw[aT,aB this];exact h.box b (awW l);have:q≠o:=λe=>h.ndX w (oU A E) e.symm;rw[aT,aB this]
theorem aQ.new(h:aQ H B L){o:Nat}(l:H o=none)(y:aW):aQ (H.set o y) (B++[(o,y)]) L:=by
 obtain⟨f1,f2⟩:=h.fresh l;refine⟨λb hb=>?_,λz i=>(h.lst z i).same λq hq=>?_,?_⟩;rw[avX,avN]at hb;rcases hb with hb|rfl
 have:b.1≠o:=λe=>f1 (e ▸ zX hb);rw[aT,aB this];exact h.box b hb;simp only[aT,if_true];have:q≠o:=λe=>f2 (e ▸ oU i hq);rw[aT,aB this];have:=h.nd;simp only[fN,avD,avH,avY]at *
 rw[avW,axR]at *
 obtain⟨a,b,c⟩:=this;refine⟨a,?_,λp hp q hq=>?_⟩;rw[List.singleton_append,List.nodup_cons];exact⟨f2,b⟩;rw[List.singleton_append,auQ]at hq;rcases hq with rfl|hq
 intro e;subst e;exact f1 hp;exact c p hp q hq
theorem mP(L1 L2:List LI):fG (L1++L2)=fG L1++fG L2:=List.filterMap_append ..
theorem aQ.lJ(h:aQ H B L)(s:Nat):aQ H B (L++[(.aE,s,[])]):=by
 refine⟨h.box,λz i=>?_,?_⟩;rw[avX,avN]at i;rcases i with i|rfl
 exact h.lst z i;exact .nil;rw[mP,show fG [((.aE:PV),s,([]:P2_))]=[]from rfl,awD];exact h.nd
theorem aQ.Qi(h:aQ H B L){o s:Nat}{rows:P2_}(w:H o=none):aQ (H.set o (.rows s rows)) B (L++[(.osl o s 0 rows.length,s,rows)]):=by
 obtain⟨f1,f2⟩:=h.fresh w;have u:=h.keep (H':=H.set o (.rows s rows)) λq i=>by
  have:q≠o:=by rintro rfl;exact i.elim f1 f2
  rw[aT,aB this]
 refine⟨u.box,λz l=>?_,?_⟩;rw[avX,avN]at l;rcases l with l|rfl
 exact u.lst z l;exact .inr ⟨o,rows,rfl,by simp only[aT,if_true],auG _,avI⟩;rw[mP,show fG [((.osl o s 0 rows.length:PV),s,rows)]=[o]from rfl,<-avW,axR];refine⟨h.nd,by simp,λp hp q i=>?_⟩;rw[avN]at i;subst i;rintro rfl;rcases avX.1 hp with hp|hp
 exact f1 hp;exact f2 hp
theorem Gf{i:Nat}{v v':PV}{s s':Nat}{rows rows':P2_}(hi:L[i]?=some (v,s,rows)):∃L1 L2,L=L1++(v,s,rows)::L2/\L.set i (v',s',rows')=L1++(v',s',rows')::L2:=by
 obtain⟨l,u⟩:=avP.1 hi;refine⟨L.take i,L.drop (i+1),?_,?_⟩;rw[<-u,<-awS l,axY];rw[List.set_eq_take_append_cons_drop,aD l]
theorem aQ.IH(h:aQ H B L)(i:Nat){s:Nat}{v:PV}{rows:P2_}(hi:L[i]?=some (v,s,rows)){s':Nat}{v':PV}{rows':P2_}{H':PH}(O:cF H' s' v' rows')
  (J:∀q,v'.oid=some q->v.oid=some q\/H q=none) (N:∀q,q∈fN B\/q∈fG L->(∀p,v.oid=some p->q≠p)->H' q=H q):aQ H' B (L.set i (v',s',rows')):=by
 obtain⟨L1,L2,M,e2⟩:=Gf (v':=v') (s':=s') (rows':=rows') hi;rw[e2];subst M;have l:=h.nd;have E:fG (L1++(v,s,rows)::L2)=fG L1++(v.oid.toList++fG L2):=by rw[mP];congr 1;unfold fG;rw[List.filterMap_cons];cases e:v.oid<;>simp
 have F:fG (L1++(v',s',rows')::L2)=fG L1++(v'.oid.toList++fG L2):=by rw[mP];congr 1;unfold fG;rw[List.filterMap_cons];cases e:v'.oid<;>simp
 rw[E]at l;have y:∀q,q∈fN B\/q∈fG L1\/q∈fG L2->∀p,v.oid=some p->q≠p:=by
  intro q hq p hp e;subst e;rw[hp]at l;simp only[Option.toList_some]at l;rw[axR]at l;obtain⟨a,b,c⟩:=l;rw[axR]at b;obtain⟨b1,b2,A⟩:=b;rw[List.singleton_append,List.nodup_cons]at b2;rcases hq with hq|hq|hq
  exact c q hq q bC rfl;exact A q hq q bC rfl;exact b2.1 hq
 have u:∀q,q∈fN B\/q∈fG L1\/q∈fG L2->H' q=H q:=by
  intro q hq;refine N q ?_ (y q hq);rw[E];simp only[avX];rcases hq with hq|hq|hq
  exact .inl hq;exact .inr (.inl hq);exact .inr (.inr (.inr hq))
 refine⟨λb hb=>by rw[u _ (.inl (zX hb))];exact h.box b hb,λz hz=>?_,?_⟩;rw[avX,auQ]at hz;rcases hz with hz|rfl|hz
 exact(h.lst z (by simp[hz])).same λq hq=>u q (.inr (.inl (oU hz hq)));exact O;exact(h.lst z (by simp[hz])).same λq hq=>u q (.inr (.inr (oU hz hq)))
 ·rw[F];cases e:v'.oid with
  |none =>simp only[Option.toList_none,axI];refine List.Nodup.sublist ?_ l;exact avU.append (avU.refl _) (avU.append (avU.refl _) (List.sublist_append_right _ _))
  |some q=>
   rcases J q e with Q|hn
   rw[Q]at l;exact l;obtain⟨f1,f2⟩:=h.fresh hn;rw[E]at f2;simp only[avX,not_or]at f2;have w:(fN B++(fG L1++fG L2)).Nodup:=List.Nodup.sublist (avU.append (avU.refl _) (avU.append (avU.refl _) (List.sublist_append_right _ _))) l;simp only[Option.toList_some];rw[axR]at w ⊢;obtain⟨a,b,c⟩:=w;rw[axR]at b;obtain⟨b1,b2,A⟩:=b;refine⟨a,?_,?_⟩;rw[axR];refine⟨b1,by rw[List.singleton_append,List.nodup_cons];exact⟨f2.2.2,b2⟩,λp hp r hr=>?_⟩;rw[List.singleton_append,auQ]at hr;rcases hr with rfl|hr
   rintro rfl;exact f2.1 hp;exact A p hp r hr;intro p hp r hr;rw[avX,List.singleton_append,auQ]at hr;rcases hr with hr|rfl|hr
   exact c p hp r (by simp[hr]);rintro rfl;exact f1 hp;exact c p hp r (by simp[hr])
theorem aQ.append(h:aQ H B L)(i:Nat){s b:Nat}{v y:PV}{rows src:P2_}(hi:L[i]?=some (v,s,rows))(J:dP H s y=some src)(F:roomFor rows.length src.length b)
  (A:∀v' H',aQ H' B (L.set i (v',s,rows++src))->(src≠[]->∃q,v'=.osl q s 0 (rows++src).length)->K v' H'):mJ H s b v y K:=by
 rcases h.own i hi with⟨rfl,rfl⟩|⟨q,rs,rfl,h1,h2,h3⟩
 refine⟨src,J,F,λe=>?_,λe o u=>?_⟩;subst e;refine A _ _ ?_ λh=>absurd rfl h;exact h.IH i hi (.inl ⟨rfl,rfl⟩) (λq w=>by cases w) λq _ _=>rfl;refine A _ _ (h.IH i hi (.inr ⟨o,src,rfl,by simp only[aT,if_true],auG _,avI⟩) (λq w=>by cases w;exact .inr u) λq w _=>?_) λ_=>⟨o,rfl⟩;obtain⟨f1,f2⟩:=h.fresh u;have:q≠o:=by rintro rfl;exact w.elim f1 f2
 rw[aT,aB this];have l:(rows++src).length=l'' rows+l'' src:=auJ;refine⟨src,J,rfl,rfl,F,rs,h1,h2,?_,λo u=>?_⟩;rw[h3];refine A _ _ (h.IH i hi (.inr ⟨q,rows++src,by rw[l],by simp only[aT,if_true],auG _,avI⟩) (λp hp=>by cases hp;exact .inl rfl) λp _ hp=>?_) λ_=>⟨q,by rw[l]⟩;rw[aT,aB (hp q rfl)];rw[h3];refine A _ _ (h.IH i hi (.inr ⟨o,rows++src,by rw[l],by simp only[aT,if_true],auG _,avI⟩) (λp hp=>by cases hp;exact .inr u) λp E hp=>?_) λ_=>⟨o,by rw[l]⟩;obtain⟨f1,f2⟩:=h.fresh u;have M:p≠o:=by rintro rfl;exact E.elim f1 f2
 rw[aT,aB M]
theorem aQ.sub(h:aQ H B L){B':List BX}{L':List LI}(hB:B'.Sublist B)(i:L'.Sublist L):aQ H B' L':=
 ⟨λb hb=>h.box b (hB.subset hb),λx l=>h.lst x (i.subset l),List.Nodup.sublist (avU.append (hB.map _) (i.filterMap _)) h.nd⟩
theorem aQ.AJ(h:aQ H B L)(i:Nat):aQ H (B.eraseIdx i) L:=h.sub (List.eraseIdx_sublist ..) (avU.refl _)
theorem aQ.Ow(h:aQ H B L)(i:Nat):aQ H B (L.eraseIdx i):=h.sub (avU.refl _) (List.eraseIdx_sublist ..)
end
section
variable {C:Ctx} {F:PF} {H:PH} {B:List BX} {L:List LI}
theorem aQ.YC(h:aQ H B L){q:Nat}(hq:q∈fN B\/q∈fG L):∃x,H q=some x:=by
 rcases hq with hq|hq
 obtain⟨b,hb,rfl⟩:=auT.1 hq;exact⟨_,h.box b hb⟩;obtain⟨x,l,e⟩:=List.mem_filterMap.1 hq;obtain⟨rs,i,_⟩:=(h.lst x l).id e;exact⟨_,i⟩
theorem aQ.perm(h:aQ H B L){B':List BX}{L':List LI}(hB:B.Perm B')(i:L.Perm L'):aQ H B' L':=
 ⟨λb hb=>h.box b (hB.mem_iff.2 hb),λx l=>h.lst x (i.mem_iff.2 l),(axF.nodup_iff ((hB.map _).append (i.filterMap _))).1 h.nd⟩
theorem aQ.only(h:aQ H B L){B1:List BX}{L1:List LI}(hB:B1.Sublist B)(i:L1.Sublist L):aQ (H.only (fN B1++fG L1)) B1 L1:=by
 refine(h.sub hB i).keep λq l=>?_;rw[uI];rw[aD (avX.2 l)]
theorem ajY{a b c d:N_}(i:(a++c).Nodup)(l:(b++d).Nodup)(u:∀q,q∈a\/q∈c->q∈b\/q∈d->False):((a++b)++(c++d)).Nodup:=by
 have e:axF ((a++b)++(c++d)) ((a++c)++(b++d)):=by rw[avW,avW];exact axF.append_left a (by rw[<-avW,<-avW];exact axF.append_right d List.perm_append_comm)
 rw[e.nodup_iff,axR];refine⟨i,l,λp hp q w=>?_⟩;rintro rfl;exact u p (avX.1 hp) (avX.1 w)
theorem aQ.frame{H':PH}{B1 B2 B':List BX}{L1 L2 L':List LI}(h:aQ H (B1++B2) (L1++L2))(A:aQ H' B' L')(M:oX H (H.only (fN B1++fG L1)) H'):aQ (H.over (H.only (fN B1++fG L1)) H') (B'++B2) (L'++L2):=by
 have J:aQ H B2 L2:=h.sub (List.sublist_append_right ..) (List.sublist_append_right ..);have u:∀q,q∈fN B2\/q∈fG L2->¬(q∈fN B1++fG L1):=by
  intro q i N;have l:=h.nd;rw[show fN (B1++B2)=fN B1++fN B2 from avD,mP]at l;have e:axF ((fN B1++fN B2)++(fG L1++fG L2)) ((fN B1++fG L1)++(fN B2++fG L2)):=by rw[avW,avW];exact axF.append_left _ (by rw[<-avW,<-avW];exact axF.append_right _ List.perm_append_comm)
  rw[e.nodup_iff,axR]at l;exact l.2.2 q N q (avX.2 i) rfl
 have new:∀q,q∈fN B'\/q∈fG L'->(H.over (H.only (fN B1++fG L1)) H') q=H' q:=by intro q i;obtain⟨x,hx⟩:=A.YC i;rw[iL,hx]
 have K:∀q,q∈fN B2\/q∈fG L2->(H.over (H.only (fN B1++fG L1)) H') q=H q:=by
  intro q i;obtain⟨x,hx⟩:=J.YC i;have E:(H.only (fN B1++fG L1)) q=none:=by rw[uI,aB (u q i)]
  rw[iL];cases e:H' q with
  |none=>simp only[E]
  |some y =>have:=M q y e E;rw[hx]at this;cases this
 have k1:=A.keep new;have k2:=J.keep K;refine⟨λb hb=>?_,λx hx=>?_,?_⟩;rcases avX.1 hb with hb|hb
 exact k1.box b hb;exact k2.box b hb;rcases avX.1 hx with hx|hx
 exact k1.lst x hx;exact k2.lst x hx;rw[show fN (B'++B2)=fN B'++fN B2 from avD,mP];refine ajY A.nd J.nd λq i w=>?_;obtain⟨x,hx⟩:=A.YC i;obtain⟨y,O⟩:=J.YC w;have E:(H.only (fN B1++fG L1)) q=none:=by rw[uI,aB (u q w)]
 have:=M q x hx E;rw[O]at this;cases this
theorem KB{name:Nat}{vs:V_}{args:List aP}{d:O_}{K:K_}{B1 B2:List BX}{L1 L2:List LI}{Q:PV->List BX->List LI->Prop}(h:aQ H (B1++B2) (L1++L2))
  (y:∀l,aQ l B1 L1->aG C name vs l (λr H'=>∃B' L',Q r B' L'/\aQ H' B' L')) (w:aP.evs F args=some vs)
  (A:∀r B' L' H',Q r B' L'->aQ H' (B'++B2) (L'++L2)->K (F.put d r) H'):iW C name args [] d K F H:=by
 refine fD (y (H.only (fN B1++fG L1)) (h.only (ayD ..) (ayD ..))) w (LN H _) ?_;rintro r H' ⟨B',L',E,u⟩ i;exact A r B' L' _ E (h.frame u i)
theorem aQ.uZ{B:List BX}{o:Nat}{x:aW}(h:aQ H (B++[(o,x)]) L):H o=some x:=h.box (o,x) bC
theorem aQ.xF{B:List BX}{o:Nat}{x:aW}(h:aQ H (B++[(o,x)]) L)(y:aW):aQ (H.set o y) (B++[(o,y)]) L:=by
 have:=h.set B.length (o:=o) (x:=x) bC y
 rwa[axS _ _ (auG _),awU]at this
theorem aQ.dropLast{B:List BX}{b:BX}(h:aQ H (B++[b]) L):aQ H B L:=h.sub (ayD ..) (avU.refl _)
theorem aQ.ahM{B:List BX}{o:Nat}{x:aW}(h:aQ H ((o,x)::B) L)(y:aW):aQ (H.set o y) ((o,y)::B) L:=h.set 0 rfl y
theorem aQ.ajE{B:List BX}{o:Nat}{x:aW}(h:aQ H ((o,x)::B) L):H o=some x:=h.at 0 rfl
theorem oK{name o:Nat}{x y:aW}{r:PV}{vs:V_}{args:List aP}{d:O_}{K:K_}(h:aG C name vs (h_.set o x) (λr' H'=>r'=r/\H'=h_.set o y))(u:H o=some x)(i:aP.evs F args=some vs)
  (l:K (F.put d r) (H.set o y)):iW C name args [] d K F H:=by
 refine fD h i (c_ a_ u) ?_;rintro r' H' ⟨rfl,rfl⟩ -;rw[PH.yO];exact l
theorem E8{Hs:PH}{S:Spec}{name o:Nat}{x y:aW}{r:PV}{vs:V_}{R:PH->R_}{args:List aP}{st:Bool}{d:O_}{K:K_}(O:S name vs=some ([o],R))(M:H o=some x)
  (h:aG C name vs (h_.set o x) (λr' H'=>r'=r/\H'=h_.set o y)) (i:R (h_.set o x) r (h_.set o y)) (w:∀r' H',R (h_.set o x) r' H'->r'=r/\H'=h_.set o y) (Q:aP.evs F args=some vs)
  (A:Hs.le (H.set o y)) (U:K (F.put d r) (H.set o y)):dOp C Hs S st (.call name args) d K F H:=by
 have e:=gx M;refine⟨vs,[o],_,Q,O,λq N=>?_,?_,λG=>⟨r,_,by rw[e];exact i,λq z J u=>?_⟩,λr' H' l _=>?_⟩;simp at N;subst N;exact⟨x,M⟩;rw[e];exact h.post λr' H' l=>⟨r',.refl _,by rw[l.1,l.2];exact i⟩;rw[e]at u;rw[aT]at J u;split at u;cases u;rename_i E;rw[aB E]at J;cases J;rw[e]at l;obtain⟨rfl,rfl⟩:=w r' H' l;rw[e,PH.yO];exact⟨A,U⟩
theorem abM{s:Nat}{q z:Nat}{rs:P2_}{v:PV}{rows:P2_}(h:cF H s v rows)(l:v.oid≠some q):cF (H.frz q z rs) s v (rows.map λr=>r.map (PV.cZ q z rs)):=by
 rcases h with⟨rfl,rfl⟩|⟨p,rs',rfl,h1,h2,h3⟩
 exact .inl ⟨rfl,rfl⟩;have i:¬p=q:=λe=>l (by rw[e];rfl);refine .inr ⟨p,rs'.map λr=>r.map (PV.cZ q z rs),by rw[auD],?_,by simpa using h2,?_⟩;rw[qM,aB i,h1];rfl;rw[auD,<-axQ,h3]
theorem aQ.frz(h:aQ H B L)(i:Nat){q s k:Nat}{rows:P2_}(hi:L[i]?=some (.osl q s 0 k,s,rows)):∃rs,H q=some (.rows s rs)/\PV.cZ q s rs (.osl q s 0 k)=.sl s rows/\PV.frz q s rs (.osl q s 0 k)=.sl s rows/\(∀j x,j≠i->L[j]?=some x->PV.cZ q s rs x.1=x.1) /\
  aQ (H.frz q s rs) (B.map λb=>(b.1,b.2.frz q s rs)) ((L.eraseIdx i).map λx=>(x.1,x.2.1,x.2.2.map λr=>r.map (PV.cZ q s rs))):=by
 obtain⟨rs,W,Y,Z,h4⟩:=(h.own i hi).id rfl;injection Y with _ _ _ hk
 subst hk;have e:PV.frz q s rs (.osl q s 0 rows.length)=.sl s rows:=by rw[zS Z,h4]
 refine⟨rs,W,e,e,?_⟩;refine⟨λj x M U=>?_,?_⟩;have u:x.1.oid≠some q:=by
  intro u;obtain⟨N,K⟩:=avP.1 hi;obtain⟨γ,α⟩:=avP.1 U;have w:x∈L.eraseIdx i:=List.mem_eraseIdx_iff_getElem?.2 ⟨j,M,U⟩;have l:=h.ndL;have Q:L=L.take i++(L[i]::L.drop (i+1)):=by rw[<-awS N,axY]
  rw[List.eraseIdx_eq_take_drop_succ]at w;rw[Q,mP]at l;have J:fG (L[i]::L.drop (i+1))=q::fG (L.drop (i+1)):=by rw[K];rfl
  rw[J,axR]at l;obtain⟨a,b,c⟩:=l;rcases avX.1 w with hx|hx
  exact c q (oU hx u) q bC rfl;exact(List.nodup_cons.1 b).1 (oU hx u)
 cases hx:x.1<;>try rfl
 rename_i p z off len;have:¬p=q:=λe=>u (by rw[hx,e];rfl);simp only[PV.cZ,aB this];obtain⟨L1,L2,e1,e2⟩:=Gf (v':=.aE) (s':=s) (rows':=rows) hi;have β:i=l'' L1\/True:=.inr trivial;have y:(L.eraseIdx i).Sublist L:=List.eraseIdx_sublist ..;have O:∀x∈L.eraseIdx i,x.1.oid≠some q:=by
  intro x hx u;obtain⟨N,K⟩:=avP.1 hi;have l:=h.ndL;have Q:L=L.take i++(L[i]::L.drop (i+1)):=by rw[<-awS N,axY]
  rw[List.eraseIdx_eq_take_drop_succ]at hx;rw[Q,mP]at l;have J:fG (L[i]::L.drop (i+1))=q::fG (L.drop (i+1)):=by rw[K];rfl
  rw[J,axR]at l;obtain⟨a,b,c⟩:=l;rcases avX.1 hx with hx|hx
  exact c q (oU hx u) q bC rfl;exact(List.nodup_cons.1 b).1 (oU hx u)
 refine⟨λb hb=>?_,λx hx=>?_,?_⟩;obtain⟨S,A,rfl⟩:=auT.1 hb;have:¬S.1=q:=h.ndX (zX A) (oU (awW hi) rfl);simp only;rw[qM,aB this,h.box S A];rfl;obtain⟨V,E,rfl⟩:=auT.1 hx;exact abM (h.lst V (y.subset E)) (O V E);have i1:fN (B.map λb=>(b.1,b.2.frz q s rs))=fN B:=by unfold fN;rw[axM];rfl
 have i2:fG ((L.eraseIdx i).map λx=>(x.1,x.2.1,x.2.2.map λr=>r.map (PV.cZ q s rs)))=fG (L.eraseIdx i):=by unfold fG;rw[List.filterMap_map];rfl
 rw[i1,i2];exact List.Nodup.sublist (avU.append (avU.refl _) (y.filterMap _)) h.nd
def Flat(rows:P2_):Prop:=∀q s rs,rows.map (λr=>r.map (PV.cZ q s rs))=rows
theorem Flat.nil:Flat []:=λ_ _ _=>rfl
theorem Flat.of{rows:P2_}(h:∀r∈rows,∀c∈r,∀q s rs,PV.cZ q s rs c=c):Flat rows:=λq s rs=>by
 conv=>rhs;rw[<-List.map_id rows]
 refine axL λr l=>?_
 conv=>rhs;rw[id,<-List.map_id r]
 exact axL λc i=>h r l c i q s rs
theorem Flat.map{α:Type}{f:α->V_}(l:List α)(h:∀x,∀c∈f x,∀q s rs,PV.cZ q s rs c=c):Flat (l.map f):=Flat.of λr i=>by
 obtain⟨x,_,rfl⟩:=auT.1 i;exact h x
theorem Flat.append{r1 r2:P2_}(i:Flat r1)(l:Flat r2):Flat (r1++r2):=λq s rs=>by rw[avD,i,l]
theorem aQ.flat{φ:PV->P2_}(h:aQ H B L):aQ H B L:=h
def HD(v:PV)(H:PH)(R:R_):Prop:=∃i l H2,jI (n_.set 0 v) H i l/\H2.le l/\∃u,i 0=some u/\R u H2
theorem HD.done{v:PV}{H2:PH}{R:R_}(l:R v H2)(i:H2.le H):HD v H R:=⟨_,_,H2,.refl _ _,i,v,by rw[mF,aD rfl],l⟩
theorem HD.step{v:PV}{q s:Nat}{rs:P2_}{R:R_}(E:H q=some (.rows s rs))(h:HD (PV.frz q s rs v) (H.frz q s rs) R):HD v H R:=by
 obtain⟨l,u,H2,w,y,A⟩:=h;have e:(n_.set 0 v).frz q s rs=n_.set 0 (PV.frz q s rs v):=by funext i;rw[rT,mF,mF];split<;>rfl
 exact⟨l,u,H2,.step q E (by rw[e];exact w),y,A⟩
theorem FA{res:List dZ}{R:R_}{vs:V_}{e:lE}(y:e=.normal\/e=.ret)(h:dZ.evs F H res=some vs)(A:HD (bO vs) H R):aX res R e F H:=by
 have i:∃vs,dZ.evs F H res=some vs/\∃l w H2,jI (n_.set 0 (bO vs)) H l w/\H2.le w/\∃u,l 0=some u/\R u H2:=⟨vs,h,A⟩;rcases y with rfl|rfl<;>exact i
theorem mf{u:PV}(h:u.oid=none)(q s:Nat)(rs:P2_):PV.cZ q s rs u=u:=by
 cases u<;>first|rfl|(simp[PV.oid]at h)
theorem Seen.co{s:Nat}{v:PV}{rows:P2_}(h:Seen s v rows):Co v (.sl s rows):=by
 rcases h with⟨rfl,rfl⟩|rfl
 exact .nil s;exact .refl _
theorem aQ.giveUp:∀(L:List LI){H:PH}{B:List BX},aQ H B L->(∀x∈L,Flat x.2.2)->(∀b∈B,∀q s rs,aW.frz q s rs b.2=b.2) ->
  ∃(φ:PV->PV)(l:PH),(∀x∈L,Seen x.2.1 (φ x.1) x.2.2)/\(∀u,u.oid=none->φ u=u)/\aQ l B []/\∀cs R,HD (.agg (cs.map φ)) l R->HD (.agg cs) H R
 |[],H,B,h,_,_=>⟨id,H,by simp,λ_ _=>rfl,h,λcs R E=>by rwa[List.map_id]at E⟩
 |(w,s,rows)::L,H,B,h,A,hB=>by
  have i:∀q z rs,(L.map λx=>(x.1,x.2.1,x.2.2.map λr=>r.map (PV.cZ q z rs)))=L:=λq z rs=>by
   conv=>rhs;rw[<-List.map_id L]
   refine axL λx hx=>?_;rw[A x (by simp[hx]) q z rs];rfl
  rcases h.own 0 rfl with⟨y,Q⟩|⟨q,rs,y,_⟩
  ·obtain⟨φ,l,k1,k2,J,K⟩:=aQ.giveUp L (h.Ow 0) (λx hx=>A x (by simp[hx])) hB;refine⟨φ,l,λx hx=>?_,k2,J,K⟩;rw[auQ]at hx;rcases hx with rfl|hx
   ·exact .inl ⟨y,by simp only;rw[Q];exact k2 _ rfl⟩
   ·exact k1 x hx
  ·subst y;obtain⟨rs,U,V,Z,W,N⟩:=h.frz 0 rfl;have Y:aQ (H.frz q s rs) B L:=by
    have O:(B.map λb=>(b.1,b.2.frz q s rs))=B:=by
     conv=>rhs;rw[<-List.map_id B]
     refine axL λb hb=>?_;rw[hB b hb q s rs];rfl
    rw[O]at N;have:=N;simp only[List.eraseIdx_cons_zero]at this
    rwa[i q s rs]at this
   obtain⟨φ,l,k1,k2,J,K⟩:=aQ.giveUp L Y (λx hx=>A x (by simp[hx])) hB;refine⟨λu=>φ (PV.cZ q s rs u),l,λx hx=>?_,λu M=>?_,J,λcs R E=>?_⟩
   ·rw[auQ]at hx;rcases hx with rfl|hx
    ·simp only;rw[V];exact .inr (k2 _ rfl)
    ·obtain⟨j,S⟩:=List.mem_iff_getElem?.1 hx;have:=W (j+1) x Om (by simpa using S);simp only;rw[this];exact k1 x hx
   ·simp only;rw[mf M,k2 u M]
   ·refine .step U ?_;have e:PV.frz q s rs (.agg cs)=.agg (cs.map (PV.cZ q s rs)):=rfl;rw[e];refine K _ R ?_;rw[axM];exact E
theorem zx{K:cH}{α:Type}{i:α->PF}{Hs:α->PH}{l:α->Prop}{m:α->Nat}{n q s:Nat}{rs:P2_}(a:α)(E:H q=some (.rows s rs))(u:l a)(A:m a<n)(w:(i a).le (F.frz q s rs))(y:(Hs a).le (H.frz q s rs)):iF i Hs l m n K .normal F H:=
 ⟨a,_,_,.step q E (.refl _ _),u,A,w,y⟩
end
def EX:=bR [] Proofs.Tryz.f122
def yL:=bX EX
def pi:=bR [] Proofs.Tryz.f120
def ZY:=bX pi
def po:=bR [] Proofs.Tryz.f151
def aa:=bX po
def Dh:=bR [9] Proofs.Tryz.f94
def pj:=bX Dh
def Di:=bR [] Proofs.Tryz.f93
def pu:=bX Di
def Qc:=bR [] Proofs.Tryz.f101
def Ak:=bX Qc
def pE:=bR [] Proofs.Tryz.f124
def wu:=aC pE 5
def ww:=aC pE 6
def wx:=aC pE 7
def fw:=aC pE 13
def fx:=aC pE 14
def fy:=aC pE 15
def fv:aK:=(iP (aC pE 8) 37 0 fy (sq (aC pE 9) (sq (aC pE 10) (iE (aC pE 11) 49 (.region (aC pE 12)) (sq fw (.region fx))))))
def ga:=aC pE 16
def gb:=aC pE 17
def Ah:aK:=(sq (aC pE 0) (mM (aC pE 1) 14 (aC pE 2) (dq (eY pE 0) (iE (aC pE 3) 27 (.region (aC pE 4)) (sq wu (sq ww (.seq (eH wx 0 fv) (sq ga (sq gb .ret)))))))))
def qB:=bR [] Proofs.Tryz.f125
def xd:=aC qB 5
def xe:=aC qB 6
def xf:=aC qB 7
def gm:=aC qB 13
def gn:=aC qB 14
def gp:=aC qB 15
def gl:aK:=(iP (aC qB 8) 36 1 gp (sq (aC qB 9) (sq (aC qB 10) (iE (aC qB 11) 48 (.region (aC qB 12)) (sq gm (.region gn))))))
def gr:=aC qB 16
def Aq:aK:=(sq (aC qB 0) (.seq (.block 0 (sq (aC qB 1) (.cond (Tm 10) (sq (aC qB 2) .ret) (sq (aC qB 3) (.cond (Tm 17) (sq (aC qB 4) .ret) .skip))))) (dq (eY qB 0) (sq xd (sq xe (.seq (eH xf 1 gl) (sq gr .ret)))))))
def pF:=bR [] Proofs.Tryz.f130
def wz:=aC pF 3
def w8:=aC pF 4
def w9:=aC pF 6
def xa:=aC pF 7
def xb:=aC pF 8
def gf:aK:=(iP (aC pF 9) 42 2 (aC pF 14) (sq (aC pF 10) (sq (aC pF 11) (sq (aC pF 12) (.region (aC pF 13))))))
def gi:=aC pF 15
def gh:aK:=(iP (aC pF 5) 35 0 (aC pF 16) (sq w9 (sq xa (.seq (eH xb 2 gf) (.region gi)))))
def gj:=aC pF 17
def Ao:aK:=(sq (aC pF 0) (mM (aC pF 1) 17 (aC pF 2) (dq (eY pF 0) (sq wz (.seq (eH w8 0 gh) (sq gj .ret))))))
def Dg:=bR [] Proofs.Tryz.f91
def pd:=bX Dg
def Qj:=bR [] Proofs.Tryz.f90
def An:=bX Qj
def Qe:=bR [] Proofs.Tryz.f92
def Al:=bX Qe
def pn:=bR [] Proofs.Tryz.f147
def ZZ:=bX pn
def nup:=bR [] Proofs.Tryz.f148
def Hw:=bX nup
def eS:=bR [] Proofs.Tryz.f121
def IZ:=eY eS 2
def JA:=eY eS 3
def JB:=aC eS 14
def JC:=aC eS 15
def JD:=aC eS 16
def AR:aK:=(.seq (sq (aC eS 13) (.cond (Tm 129) .skip (.exit 4))) (.block 5 (sq JB (sq JC (sq JD (.cond (Tm 136) (.exit 4) .skip))))))
def JE:=aC eS 17
def JF:=aC eS 18
def JG:=aC eS 19
def AS:=aC eS 20
def IX:aK:=(fY (aC eS 12) 85 2 (aC eS 21) (dq IZ (dq JA (.seq (.block 4 (.loop AR)) (iE JE 146 (sq JF (.region JG)) (.region AS))))))
def JH:=aC eS 22
def JI:=aC eS 23
def IY:aK:=(iP (aC eS 24) 168 6 (aC eS 26) (sq (aC eS 25) (.draw (eY eS 4))))
def UF:aK:=(sq (aC eS 0) (mM (aC eS 1) 24 (aC eS 2) (iE (aC eS 3) 29 (sq (aC eS 4) (sq (aC eS 5) .ret)) (sq (aC eS 6) (.seq (.block 0 (.loop (.seq (sq (aC eS 7) (.cond (Tm 50) .skip (.exit 0))) (.block 1 (.region (aC eS 8)))))) (dq (eY eS 0) (sq (aC eS 9) (sq (aC eS 10) (dq (eY eS 1) (.seq (eH (aC eS 11) 2 IX) (sq JH (.seq (eH JI 6 IY) (dq (eY eS 5) .ret)))))))))))))
def HT:=bR [] Proofs.Tryz.f149
def LL:=bX HT
def OZ:=bR [] Proofs.Tryz.f150
def RY:=bX OZ
end Go.PM
namespace Go.Na
def val:N_->Nat
 |[]=>0
 |x::xs=>x+4294967296*val xs
def Lim(xs:N_):Prop:=∀x∈xs,x<4294967296
def aM(n:Nat):N_:=if h:n=0 then[]else(n%4294967296)::aM (n/4294967296)
termination_by n
decreasing_by exact Nat.div_lt_self (axJ h) aU
def nl(n:Nat):Nat:=(aM n).length
theorem gL:aM 0=[]:=by rw[aM];simp
theorem wY{n:Nat}(h:n≠0):aM n=(n%4294967296)::aM (n/4294967296):=by rw[aM];simp[h]
theorem sB{n:Nat}(h:n≠0)(hb:n<4294967296):aM n=[n]:=by
 rw[wY h,awF hb,ayO hb,gL]
theorem aV(n:Nat):val (aM n)=n:=by
 induction n using Nat.strongRecOn with
 |_ n i =>by_cases h:n=0;subst h;rw[gL];rfl;rw[wY h,val,i _ (Nat.div_lt_self (axJ h) aU)];exact Nat.mod_add_div n 4294967296
theorem bA(n:Nat):Lim (aM n):=by
 induction n using Nat.strongRecOn with
 |_ n i=>
  by_cases h:n=0;subst h;rw[gL];intro x hx;cases hx;rw[wY h];intro x hx;rw[auQ]at hx;rcases hx with rfl|hx
  exact awJ _ aU;exact i _ (Nat.div_lt_self (axJ h) aU) x hx
theorem EW:nl 0=0:=by rw[nl,gL];rfl
theorem Uw{n:Nat}(h:n≠0):nl n=nl (n/4294967296)+1:=by rw[nl,wY h];rfl
theorem kY(n k:Nat):nl n<=k↔n<4294967296^k:=by
 induction k generalizing n with
 |zero =>by_cases h:n=0;subst h;simp[EW];rw[Uw h];simp;omega
 |succ k i =>by_cases h:n=0;subst h;simp[EW,axU];rw[Uw h,Nat.succ_le_succ_iff,i,awL,ayB aU]
theorem kK{n:Nat}:nl n=0↔n=0:=by
 have:=kY n 0;simp at this;exact this
theorem jF(xs ys:N_):val (xs++ys)=val xs+4294967296^xs.length*val ys:=by
 induction xs with
 |nil=>simp[val]
 |cons x xs i =>simp only[axX,val,avG,i,awL];rw[auW,axG,<-avK,avO 4294967296 (4294967296^xs.length)]
theorem gO{xs:N_}(h:Lim xs):val xs<4294967296^xs.length:=by
 induction xs with
 |nil=>simp[val]
 |cons x xs u =>have w:=h x bC;have i:=u λy l=>h y (by simp[l]);simp only[val,avG,awL];have:4294967296*(val xs+1)<=4294967296*4294967296^xs.length:=awZ _ i;rw[auW,Nat.mul_one]at this;rw[avO (4294967296^xs.length)];omega
theorem Lim.app{xs ys:N_}(h:Lim xs)(k:Lim ys):Lim (xs++ys):=λx i=>by
 rw[avX]at i;exact i.elim (h x) (k x)
theorem Lim.take{xs:N_}(h:Lim xs)(n:Nat):Lim (xs.take n):=λx i=>h x (ayW i)
theorem Lim.drop{xs:N_}(h:Lim xs)(n:Nat):Lim (xs.drop n):=λx i=>h x (List.mem_of_mem_drop i)
theorem Lim.set{xs:N_}(h:Lim xs)(i:Nat){v:Nat}(l:v<4294967296):Lim (xs.set i v):=λx u=>by
 rcases ayU u with h1|h1
 exact h x h1;subst h1;exact l
theorem BN(n:Nat):Lim (auL n 0):=λx i=>by
 rw[List.mem_replicate]at i;rw[i.2];decide
theorem xJ(n:Nat):val (auL n 0)=0:=by
 induction n with
 |zero=>rfl
 |succ n i=>simp[List.replicate_succ,val,i]
theorem Ui{xs:N_}(h:Lim xs)(A:∀x,xs.getLast?=some x->x≠0):aM (val xs)=xs:=by
 induction xs with
 |nil=>simp[val,gL]
 |cons x xs K=>
  have u:=h x bC;have w:Lim xs:=λy H=>h y (by simp[H]);cases xs with
  |nil =>have:=A x bC;simp only[val,Nat.mul_zero,awX];exact sB this u
  |cons y ys=>
   have i:=K w λz J=>A z (by rw[List.getLast?_cons_cons];exact J);have F:val (y::ys)≠0:=λe=>by rw[e,gL]at i;cases i
   have l:x+4294967296*val (y::ys)≠0:=by have:0<4294967296*val (y::ys):=Nat.mul_pos aU (axJ F);omega
   show aM (x+4294967296*val (y::ys))=_;rw[wY l];have E:(x+4294967296*val (y::ys))%4294967296=x:=by rw[Nat.add_mul_mod_self_left,awF u]
   have e2:(x+4294967296*val (y::ys))/4294967296=val (y::ys):=by rw[Nat.add_mul_div_left _ _ aU,ayO u,avA]
   rw[E,e2,i]
theorem J6{xs:N_}{n:Nat}(h:∀j x,n<=j->xs[j]?=some x->x=0):val (xs.take n)=val xs:=by
 have e:xs.drop n=auL (xs.drop n).length 0:=by apply axK bC;intro i l u;rw[List.getElem_replicate,List.getElem_drop];exact h (n+i) _ Om (auP _)
 conv=>rhs;rw[<-axY n xs,jF,e,xJ]
 simp
theorem QJ{xs:N_}(w:Lim xs){n:Nat}(u:n<=l'' xs)(h:∀j x,n<=j->xs[j]?=some x->x=0)(l:∀x,0<n->xs[n-1]?=some x->x≠0):xs.take n=aM (val xs):=by
 rw[<-J6 h,Ui (w.take n)];intro x i;rw[List.getLast?_eq_getElem?,auU,axH u]at i;rcases axN n with e|e
 subst e;simp at i;rw[List.getElem?_take_of_lt Om]at i;exact l x e i
theorem Nd{xs:N_}(u:Lim xs){n:Nat}(l:n<=l'' xs)(h:∀j x,n<=j->xs[j]?=some x->x=0)(i:∀x,0<n->xs[n-1]?=some x->x≠0):nl (val xs)=n:=by
 rw[nl,<-QJ u l h i,auU];omega
theorem iJ{xs:N_}(h:Lim xs):nl (val xs)<=l'' xs:=(kY _ _).2 (gO h)
theorem nN {xs : N_} (h : Lim xs) : xs.take (nl (val xs)) = aM (val xs) := by
  have hl := iJ h;have e : val (xs.take (nl (val xs)) ++ xs.drop (nl (val xs))) = val xs := by rw [axY]
  rw [jF, auU, axH hl] at e;have h1 := gO (h.take (nl (val xs)));rw [auU, axH hl] at h1;have h2 := (kY (val xs) (nl (val xs))).1 (auG _);have hd : val (xs.drop (nl (val xs))) = 0 := by
    rcases axN (val (xs.drop (nl (val xs)))) with h | h
    · exact h
    · have := awZ (4294967296 ^ nl (val xs)) h
      omega
  have hz : ∀ j x, nl (val xs) <= j -> xs[j]? = some x -> x = 0 := by
    have zero : ∀ ys : N_, val ys = 0 -> ∀ y ∈ ys, y = 0 := by
      intro ys
      induction ys with
      | nil => intro _ y hy; cases hy
      | cons z zs ih =>
        intro hv y hy;simp only [val] at hv;rw [auQ] at hy;rcases hy with rfl | hy
        · omega
        · exact ih (by have : 4294967296 * val zs = 0 := Om
                       rcases Nat.mul_eq_zero.1 this with h | h
                       · cases h
                       · exact h) y hy
    intro j x hj hx;refine zero _ hd x ?_;rw [List.mem_iff_getElem?];exact ⟨j - nl (val xs), by rw [ayT, Nat.add_sub_cancel' hj]; exact hx⟩
  refine QJ h hl hz fun x hpos hx e => ?_;subst e;have hz2 : ∀ j x, nl (val xs) - 1 <= j -> xs[j]? = some x -> x = 0 := fun j y hj hy => by
    rcases avF j (nl (val xs)) with h3 | h3
    · have : j = nl (val xs) - 1 := Om
      subst this; rw [hx] at hy; cases hy; rfl
    · exact hz j y h3 hy
  have h3 := J6 hz2;have h4 := gO (h.take (nl (val xs) - 1));rw [h3, auU, axH Om] at h4;have := (kY (val xs) (nl (val xs) - 1)).2 h4;omega
theorem Jw{xs:N_}(h:Lim xs){n:Nat}(w:nl (val xs)=n+1):∃x,xs[n]?=some x/\x≠0:=by
 have y:=iJ h;refine⟨xs[n]'Om,auP _,λe=>?_⟩;have u:=nN h;have i:=aV (val xs);rw[<-u,w,awE Om,e,jF]at i;simp only[val,Nat.mul_zero,awX]at i;have l:=gO (h.take n);rw[i,auU,axH Om]at l;have:=(kY (val xs) n).2 l;omega
theorem xG(xs:N_){k:Nat}(h:k<l'' xs):val xs=val (xs.take k)+4294967296^k*(xs[k]+4294967296*val (xs.drop (k+1))):=by
 conv=>lhs;rw[<-axY k xs,jF,auU,axH Om,awS h]
 rfl
theorem kh{xs ys:N_}(A:Lim xs){k:Nat}(i:k<l'' xs)(l:k<l'' ys)(y:xs.drop (k+1)=ys.drop (k+1))(h:xs[k]<ys[k]):val xs<val ys:=by
 rw[xG xs i,xG ys l,y];have u:=gO (A.take k);rw[auU,axH Om]at u;have w:4294967296^k*(xs[k]+4294967296*val (ys.drop (k+1))+1)<=4294967296^k*(ys[k]+4294967296*val (ys.drop (k+1))):=awZ _ Om;rw[auW _ _ 1,Nat.mul_one]at w;omega
def eI(a b:Nat):Int:=if a<b then -1 else if b<a then 1 else 0
theorem yy{xs ys:N_}{k:Nat}(i:k<l'' xs)(l:k<l'' ys)(u:xs.drop (k+1)=ys.drop (k+1))(h:xs[k]=ys[k]):xs.drop k=ys.drop k:=by
 rw[awS i,awS l,u,h]
theorem iX{a b:Nat}(h:a<=b):nl a<=nl b:=(kY a _).2 (Nat.lt_of_le_of_lt h ((kY b _).1 (auG _)))
theorem Eu{xs:N_}(h:Lim xs){j:Nat}(i:j<nl (val xs)):∃(l:j<l'' xs)(u:j<(aM (val xs)).length),xs[j]=(aM (val xs))[j]:=by
 have w:=iJ h;refine⟨by omega,i,?_⟩;have e:=nN h;have:(xs.take (nl (val xs)))[j]?=(aM (val xs))[j]?:=by rw[e]
 rw[List.getElem?_take_of_lt i,auP Om,auP i]at this;exact awN.inj this
def dC(n:Nat):Nat:=if h:n=0 then 0 else dC (n/2)+1
termination_by n
decreasing_by exact Nat.div_lt_self (axJ h) aU
theorem lZ:dC 0=0:=by rw[dC];simp
theorem tB{n:Nat}(h:n≠0):dC n=dC (n/2)+1:=by rw[dC];simp[h]
theorem pG(n k:Nat):dC n<=k↔n<2^k:=by
 induction k generalizing n with
 |zero =>by_cases h:n=0;subst h;simp[lZ];rw[tB h];simp;omega
 |succ k i =>by_cases h:n=0;subst h;simp[lZ,axU];rw[tB h,Nat.succ_le_succ_iff,i,awL,ayB aU]
theorem mT{n:Nat}:dC n=0↔n=0:=by
 have:=pG n 0;simp at this;exact this
theorem Ex{hi lo k:Nat}(w:lo<2^k)(l:hi≠0):dC (lo+2^k*hi)=k+dC hi:=by
 apply Nat.le_antisymm;rw[pG,Nat.pow_add];have i:=(pG hi _).1 (auG _);have:2^k*(hi+1)<=2^k*2^dC hi:=awZ _ i;rw[auW,Nat.mul_one]at this;omega;obtain⟨b,hb⟩:∃b,dC hi=b+1:=⟨dC hi-1,by have:=mt mT.1 l;omega⟩;rw[hb];rcases avF (dC (lo+2^k*hi)) (k+(b+1))with h|h
 have i:=(pG (lo+2^k*hi) (k+b)).1 Om;rw[Nat.pow_add]at i;have u:¬hi<2^b:=λh=>by have:=(pG hi b).2 h;omega
 have:2^k*2^b<=2^k*hi:=awZ _ Om;omega;exact h
theorem kC(n k:Nat):dC n<=32*k↔nl n<=k:=by
 rw[pG,kY,Nat.pow_mul]
end Go.Na
namespace Go.PM
theorem Lq{F i:PF}(h:F.le i:=by(repeat' (first|exact e_|refine d_ ?_ ?_))<;>first|(simp only[go_sem]<;>rfl)|rfl|assumption):F.le i:=h
end Go.PM
namespace Go.PM
theorem lE1{F i:PF}{l:Prop}(u:l)(k:l->F.le i:=by intro w;(repeat' (first|exact e_|refine d_ ?_ ?_))<;>first|(simp only[go_sem,w]<;>rfl)|rfl):F.le i:=k u
theorem lE3{F i:PF}{l u pc:Prop}(w:l)(hb:u)(y:pc)(k:l->u->pc->F.le i:=by intro A E H;(repeat' (first|exact e_|refine d_ ?_ ?_))<;>first|(simp only[go_sem,A,E,H]<;>rfl)|rfl):F.le i:=k w hb y
theorem lE5{F i:PF}{l u pc w y:Prop}(A:l)(hb:u)(E:pc)(H:w)(J:y)(k:l->u->pc->w->y->F.le i:=by intro K M N O Q;(repeat' (first|exact e_|refine d_ ?_ ?_))<;>first|(simp only[go_sem,K,M,N,O,Q]<;>rfl)|rfl):F.le i:=k A hb E H J
theorem lE6{F i:PF}{l u pc w y pf:Prop}(A:l)(hb:u)(E:pc)(H:w)(J:y)(K:pf)(k:l->u->pc->w->y->pf->F.le i:=by intro M N O Q S U;(repeat' (first|exact e_|refine d_ ?_ ?_))<;>first|(simp only[go_sem,M,N,O,Q,S,U]<;>rfl)|rfl):F.le i:=k A hb E H J K
theorem lE7{F i:PF}{l u pc w y pf A:Prop}(E:l)(hb:u)(H:pc)(J:w)(K:y)(M:pf)(N:A)(k:l->u->pc->w->y->pf->A->F.le i:=by intro O Q S U V W Y;(repeat' (first|exact e_|refine d_ ?_ ?_))<;>first|(simp only[go_sem,O,Q,S,U,V,W,Y]<;>rfl)|rfl):F.le i:=k E hb H J K M N
theorem lM{F i:PF}(h:F.le i:=by(repeat' (first|exact e_|refine d_ ?_ ?_))<;>first|(simp only[go_sem,auD]<;>rfl)|rfl):F.le i:=h
end Go.PM
namespace Go.PM
open Go Go.Na
abbrev aO(xs:N_):P2_:=xs.map λ(n:Nat)=>[PV.int .u32 (n:Int)]
abbrev aL(xs:N_):PV:=.sl 1 (xs.map λ(n:Nat)=>[PV.int .u32 (n:Int)])
theorem cP(xs:N_):(aO xs).length=l'' xs:=by simp
theorem cC(xs:N_){i:Nat}(h:i<l'' xs):(aO xs)[i]?=some [.int .u32 (xs[i]:Nat)]:=by simp[h]
theorem Aj(xs:N_)(k:Nat):aL (xs.take k)=.sl 1 ((xs.map λ(n:Nat)=>[PV.int .u32 (n:Int)]).take k):=by rw[aL,axQ]
theorem dJ(n:Nat):IntKind.u32.wrap (n:Int)=((n%4294967296:Nat):Int):=by
 have e:IntKind.u32.wrap (n:Int)=(n:Int)%4294967296:=by simp[IntKind.wrap,IntKind.bits,IntKind.signed]
 rw[e];rfl
theorem CB{k:Nat}(h:k<=9223372036854775807)(i:0<k):i_.wrap ((k:Int)-1)=((k-1:Nat):Int):=by
 rw[wrap_i64 Om Om];omega
def Qk(xs:N_)(n:Nat):PF:=((n_.set 0 (aL xs)).set 3 (.int .i64 n))
variable{C:Ctx}
theorem Qm(xs:N_)(A:Lim xs)(F:l'' xs<=35184372087808):yL.wp C (aX EX.res (aJ (.j (nl (val xs):Nat)))) (g_ [aL xs]) .nil:=by
 simp only[go_sem,yL,EX];refine wp_loop (α:=Nat) (Qk xs) (λ_=>.nil) (λn=>n<=l'' xs/\∀j x,n<=j->xs[j]?=some x->x=0) (λn=>n) xs.length ⟨auG _,λj x h e=>by rw[avZ h]at e;cases e⟩ ?_ a_ ?_;unfold Qk;exact Lq;rintro n ⟨y,w⟩;have out:(∀x,0<n->xs[n-1]?=some x->x≠0)->nl (val xs)=n:=λh=>Nd A y w h;simp only[go_sem,Qk];by_cases u:(n:Int)>0;have hp:0<n:=Om;have hi:=cC xs (Om:n-1<l'' xs);simp only[go_sem,u,CB (Om:n<=9223372036854775807) hp,hi];by_cases l:xs[n-1]=0;simp only[go_sem,cI (Om:((xs[n-1]:Nat):Int)=0),CB (Om:n<=9223372036854775807) hp];refine aF (n-1) ⟨by omega,λj x E i=>?_⟩ Om ?_ a_;rcases avF j n with h|h
 have:j=n-1:=Om;subst this;rw[auP Om]at i;cases i;exact l;exact w j x h i;exact Lq;simp only[go_sem,bP (Om:((xs[n-1]:Nat):Int)≠0)];refine dA ?_;rw[out λx _ i=>by rw[auP Om]at i;cases i;exact l];rfl;simp only[go_sem,u];refine dA ?_;rw[out λx h=>by omega];rfl
theorem Ux(xs:N_)(i:aG C 138 [aL xs] .nil (aJ (.j (nl (val xs):Nat)))):ZY.wp C (aX pi.res (aJ (.bool (decide (nl (val xs)>512))))) (g_ [aL xs]) .nil:=by
 simp only[go_sem,ZY,pi];refine aA i rfl ?_;simp only[go_sem];refine dA ?_;simp only[bO,PV.bool.injEq,decide_eq_decide];omega
def szL(n:Nat):N_:=if nl n>512 then[]else aM n
def szE(n:Nat):Int:=if nl n>512 then 2 else 0
def szV(n:Nat):PV:=.tup [aL (szL n),.int .i64 (szE n)]
theorem U1(xs:N_)(w:Lim xs)(i:aG C 138 [aL xs] .nil (aJ (.j (nl (val xs):Nat)))):aa.wp C (aX po.res (cN (szV (val xs)))) (g_ [aL xs]) .nil:=by
 simp only[go_sem,aa,po];refine aA i rfl ?_;simp only[go_sem];by_cases h:nl (val xs)>512
 ·have u:((nl (val xs):Nat):Int)>512:=Om;simp only[go_sem,u];refine aY (vs:=[.aE,.j 2]) (.inr rfl) .nil rfl a_ ⟨?_,rfl⟩;rw[szV,szL,szE,aD h,aD h];refine .tup rfl λj p q hp l=>?_
  match j with
  |0=>simp at hp l;subst hp;subst l;exact .nil 1
  |1=>simp at hp l;subst hp;subst l;exact .refl _
  |j+2=>simp at hp
 have u:¬((nl (val xs):Nat):Int)>512:=Om;have A:=iJ w;have y:((nl (val xs):Nat):Int)<=(l'' xs:Nat):=Om;simp only[go_sem,u,y,or_true,avR];refine aY (.inr rfl) .nil rfl a_ ⟨?_,rfl⟩;rw[szV,szL,szE,aB h,aB h,<-nN w,Aj];exact .refl _
theorem Z8(v:Nat)(M:v<18446744073709551616)(l:∀xs,Lim xs->l'' xs<=35184372087808->aG C 138 [aL xs] .nil (aJ (.j (nl (val xs):Nat)))) :
  pj.wp C (aX Dh.res (aJ (aL (aM v)))) (g_ [.int .u64 v]) .nil:=by
 have F:IntKind.u32.wrap ((v:Nat):Int)=((v%4294967296:Nat):Int):=dJ v;have e2:Int.fdiv ((v:Nat):Int) 4294967296=((v/4294967296:Nat):Int):=by rw[Int.fdiv_eq_ediv_of_nonneg _ aU];rfl
 have y:v/4294967296<4294967296:=Om;have H:IntKind.u32.wrap ((v/4294967296:Nat):Int)=((v/4294967296:Nat):Int):=by rw[dJ,awF y]
 have u:Lim [v%4294967296,v/4294967296]:=by
  intro x E;simp only[auQ,List.mem_nil_iff,or_false]at E;rcases E with rfl|rfl
  exact awJ _ aU;exact y
 have i:val [v%4294967296,v/4294967296]=v:=by simp only[val,Nat.mul_zero,awX];exact Nat.mod_add_div v 4294967296
 have K:∀a b:Int,PV.bin .shr (.int .u64 a) (.int .u64 b)=shift .shr .u64 a b:=λ_ _=>rfl;have w:shift .shr .u64 (v:Int) 32=some (.int .u64 ((v/4294967296:Nat):Int)):=by
  unfold shift;rw[aB aU];simp only;have:min (awC 32) IntKind.u64.bits=32:=by decide
  rw[this];rw[show(2:Int)^32=4294967296 by decide,e2]
 simp only[go_sem,pj,Dh,F,w,H];have hb:(2:Nat)*1<=16777216:=by decide
 try simp only[go_sem]
 refine aA (l [v%4294967296,v/4294967296] u bC) rfl ?_;have A:=iJ u;rw[i]at A ⊢;have J:((nl v:Nat):Int)<=((2:Nat):Int):=by simp at A;omega
 simp only[go_sem,J,or_true,avR];refine dA ?_;have:=nN u;rw[i]at this;rw[<-this,Aj];rfl
theorem aaB(xs:N_)(l:Lim xs)(y:l'' xs<=35184372087808)(i:aG C 138 [aL xs] .nil (aJ (.j (nl (val xs):Nat)))) :
  pu.wp C (aX Di.res (cN (aL (aM (val xs))))) (g_ [aL xs]) .nil:=by
 simp only[go_sem,pu,Di];refine aA i rfl ?_;have A:=iJ l;have u:((nl (val xs):Nat):Int)<=(l'' xs:Nat):=Om;simp only[go_sem,u,or_true,avR];refine jJ (rows:=[]) (src:=aO (aM (val xs))) .nil ?_ ?_ λv H' w _=>?_;simp only[go_sem];rw[<-nN l,<-axQ];unfold roomFor;rw[cP];have:(aM (val xs)).length=nl (val xs):=rfl;simp only[avS,maxLen];omega;exact DR (.inr rfl) (by simpa using w) rfl
end Go.PM
theorem Sq{p:Prop}(h:p:=by simp only[go_sem]):p:=h
theorem Ev{p:Prop}(h:p:=by simp only[go_sem]<;>rfl):p:=h
namespace Go.PM
open Go Go.Na
def Qd(xs ys:N_)(i:Int):PF:=(((n_.set 0 (aL xs)).set 1 (aL ys)).set 7 (.int .i64 i))
variable{C:Ctx}
theorem agJ(xs ys:N_)(O:Lim xs)(Q:Lim ys)(lx:l'' xs<=35184372087808)(ly:l'' ys<=35184372087808)(E:aG C 138 [aL xs] .nil (aJ (.j (nl (val xs):Nat))))(F:aG C 138 [aL ys] .nil (aJ (.j (nl (val ys):Nat)))) :
  Ak.wp C (aX Qc.res (aJ (.j (eI (val xs) (val ys))))) (g_ [aL xs,aL ys]) .nil:=by
 simp only[go_sem,Ak,Qc];refine aA E Ev ?_;simp only[go_sem];refine aA F Ev ?_;simp only[go_sem];have bx:=iJ O;have Y:=iJ Q;by_cases c1:nl (val xs)<nl (val ys);have i:((nl (val xs):Nat):Int)<(nl (val ys):Nat):=Om;simp only[go_sem,i];refine fH (.inr rfl) Ev ?_;have:val xs<val ys:=by
  rcases avF (val xs) (val ys)with h|h
  exact h;have:=iX h;omega
 simp[bO,eI,this];have i:¬((nl (val xs):Nat):Int)<(nl (val ys):Nat):=Om;simp only[go_sem,i];by_cases c2:nl (val xs)>nl (val ys);have l:((nl (val xs):Nat):Int)>(nl (val ys):Nat):=Om;simp only[go_sem,l];refine fH (.inr rfl) Ev ?_;have:val ys<val xs:=by
  rcases avF (val ys) (val xs)with h|h
  exact h;have:=iX h;omega
 have y:¬val xs<val ys:=Om;simp[bO,eI,this,y];have l:¬((nl (val xs):Nat):Int)>(nl (val ys):Nat):=Om;have hn:nl (val xs)=nl (val ys):=Om;simp only[go_sem,l];have ex:=aV (val xs);have w:=aV (val ys);have V:=bA (val xs);have W:=bA (val ys);refine wp_loop (α:=Nat) (λk=>Qd xs ys ((k:Int)-1)) (λ_=>.nil) (λk=>k<=nl (val xs)/\(aM (val xs)).drop k=(aM (val ys)).drop k) (λk=>k) (nl (val xs)) ⟨auG _,?_⟩ ?_ a_ ?_;rw[ayS (by rw[nl];exact auG _),ayS (by rw[hn,nl];exact auG _)];unfold Qd
 (repeat' (first|exact e_|refine d_ ?_ ?_))<;>first|(simp only[go_sem,wrap_i64 (show -9223372036854775808<=((nl (val xs):Nat):Int)-1 by omega) (show((nl (val xs):Nat):Int)-1<=9223372036854775807 by omega)]<;>rfl)|rfl
 rintro k ⟨hk,u⟩;simp only[go_sem,Qd];by_cases h0:0<k;obtain⟨m,rfl⟩:∃m,k=m+1:=⟨k-1,by omega⟩;have H:((m+1:Nat):Int)-1=(m:Int):=Om;have A:(m:Int)>=0:=Om;obtain⟨S,J,K⟩:=Eu O (Om:m<nl (val xs));obtain⟨U,M,N⟩:=Eu Q (Om:m<nl (val ys));simp only[go_sem,H,A];refine bV .nil dY a_ ?_;simp only[go_sem,cC xs S,cC ys U];by_cases Z:xs[m]<ys[m];simp only[go_sem,show((xs[m]:Nat):Int)<(ys[m]:Nat) by omega];refine fH (.inr rfl) Ev ?_;have:=kh V J M u (by rw[<-K,<-N];exact Z);rw[ex,w]at this;simp[bO,eI,this];simp only[go_sem,show ¬((xs[m]:Nat):Int)<(ys[m]:Nat) by omega];refine bV .nil dY a_ ?_;simp only[go_sem,cC xs S,cC ys U];by_cases c4:xs[m]>ys[m];simp only[go_sem,show((xs[m]:Nat):Int)>(ys[m]:Nat) by omega];refine fH (.inr rfl) Ev ?_;have:=kh W M J u.symm (by rw[<-K,<-N];exact c4);rw[ex,w]at this;have y:¬val xs<val ys:=Om;simp[bO,eI,this,y];simp only[go_sem,show ¬((xs[m]:Nat):Int)>(ys[m]:Nat) by omega];refine aF m ⟨by omega,yy J M u (by rw[<-K,<-N];omega)⟩ Om ?_ a_
 (repeat' (first|exact e_|refine d_ ?_ ?_))<;>first|(simp only[go_sem,wrap_i64 (Om:-9223372036854775808<=(m:Int)-1) (Om:(m:Int)-1<=9223372036854775807)]<;>rfl)|rfl
 have:k=0:=Om;subst this;have H:¬((0:Nat):Int)-1>=0:=by decide
 simp only[go_sem,H];refine fH (.inr rfl) Ev ?_;rw[avR,avR]at u;have:val xs=val ys:=by rw[<-ex,<-w,u]
 simp[bO,eI,this]
def Hk(k:Nat)(v:Nat):PF:=((n_.set 4 (.int .i64 k)).set 5 (.int .u32 v))
theorem _root_.wO_{p:Prop}(h:p:=by rw[wrap_i64 Om Om];omega):p:=h
theorem Z7(xs:N_)(E:Lim xs)(Z:l'' xs<=35184372087808)(F:aG C 138 [aL xs] .nil (aJ (.j (nl (val xs):Nat)))) :
  pd.wp C (aX Dg.res (aJ (.j (dC (val xs):Nat)))) (g_ [aL xs]) .nil:=by
 simp only[go_sem,pd,Dg];refine aA F Ev ?_;simp only[go_sem];have Y:=iJ E;by_cases S:nl (val xs)=0;simp only[go_sem,cI (show((nl (val xs):Nat):Int)=0 by omega)];refine fH (.inr rfl) Ev ?_;have:val xs=0:=kK.1 S;simp[bO,this,lZ];obtain⟨n,Q⟩:∃n,nl (val xs)=n+1:=⟨nl (val xs)-1,by omega⟩;obtain⟨t,y,H⟩:=Jw E Q;have A:t<4294967296:=E t (awW y);have i:n<l'' xs:=Om;have W:val xs=val (xs.take n)+4294967296^n*t:=by
  have e:=nN E;have:=aV (val xs);have V:xs[n]=t:=by rw[auP i]at y;exact awN.inj y
  rw[<-e,Q,awE i,V,jF,auU,axH Om]at this;simp only[val,Nat.mul_zero,awX]at this;exact this.symm
 have hb:dC (val xs)=32*n+dC t:=by
  have M:=gO (E.take n);rw[auU,axH Om]at M;rw[W,show(4294967296:Nat)^n=2^(32*n) by rw[Nat.pow_mul]]at *
  exact Ex M H
 have l:(aO xs)[n]?=some [.int .u32 (t:Nat)]:=by rw[cC xs i];rw[auP i]at y;rw[awN.inj y]
 have U:i_.wrap (((nl (val xs):Nat):Int)-1)=(n:Int):=wO_
 have e2:i_.wrap ((n:Int)*32)=((32*n:Nat):Int):=wO_
 simp only[go_sem,bP (show((nl (val xs):Nat):Int)≠0 by omega),U,e2,l];refine wp_loop (α:=Nat × Nat) (λa=>Hk a.1 a.2) (λ_=>.nil) (λa=>a.1+dC a.2=32*n+dC t/\a.2<4294967296) (λa=>a.2) (32*n,t) ⟨rfl,A⟩ ?_ a_ ?_;unfold Hk;exact Lq;rintro⟨k,v⟩ ⟨N,hlt⟩;simp only at N hlt;have O:dC t<=32:=(pG t 32).2 A;simp only[go_sem,Hk];by_cases K:(v:Int)>0;have J:v≠0:=Om;have u:PV.bin .shr (.int .u32 (v:Int)) (.int .u64 1)=some (.int .u32 ((v/2:Nat):Int)):=by
  show shift .shr .u32 (v:Int) 1=_;unfold shift;rw[aB aU];simp only;have:min (awC 1) IntKind.u32.bits=1:=by decide
  rw[this,show(2:Int)^1=2 by decide,Int.fdiv_eq_ediv_of_nonneg _ aU];rfl
 have w:shift .shr .u32 (v:Int) 1=some (.int .u32 ((v/2:Nat):Int)):=u;simp only[go_sem,K,u,w,wZz k];refine aF (k+1,v/2) ⟨?_,?_⟩ (Nat.div_lt_self Om aU) ?_ a_;have:=tB J;simp only;omega;simp only;omega;exact Lq;have:v=0:=Om;subst this;simp only[go_sem,K];refine fH (.inr rfl) Ev ?_;rw[lZ]at N;simp only[bO,PV.int.injEq,true_and];omega
structure vM(C:Ctx):Prop where
 length:∀xs,Lim xs->l'' xs<=35184372087808->aG C 138 [aL xs] .nil (aJ (.int .i64 (nl (val xs):Nat)))
 large:∀xs,Lim xs->l'' xs<=35184372087808->aG C 137 [aL xs] .nil (aJ (.bool (decide (nl (val xs)>512))))
 sized:∀xs,Lim xs->l'' xs<=35184372087808->aG C 141 [aL xs] .nil (aJ (szV (val xs)))
 trim:∀xs,Lim xs->l'' xs<=35184372087808->aG C 135 [aL xs] .nil (aJ (aL (aM (val xs))))
 make:∀v:Nat,v<18446744073709551616->aG C 132 [.int .u64 v] .nil (aJ (aL (aM v)))
 cmp:∀xs ys,Lim xs->Lim ys->l'' xs<=35184372087808->l'' ys<=35184372087808->aG C 129 [aL xs,aL ys] .nil (aJ (.int .i64 (eI (val xs) (val ys))))
def jU:PV->N_
 | .sl _ rows=>rows.map λr=>match r with|[.int _ n]=>n.toNat|_=>0
 |_=>[]
theorem eW(xs:N_):jU (aL xs)=xs:=by
 simp[jU,axM,Function.comp_def]
def Qb:Spec:=λname vs=>match name,vs with
 |138,[x]=>some ([],λ_=>aJ (.int .i64 (nl (val (jU x)):Nat)))
 |_,_=>none
theorem sC(xs:N_):Qb 138 [aL xs]=some ([],λ_=>aJ (.j (nl (val xs):Nat))):=by
 show some _=_;rw[eW]
theorem FB(P:N_)(k v:Nat):(P++auL (k+1) 0).set P.length v=(P++[v])++auL k 0:=by
 rw[axS _ _ (auG _),awU,List.replicate_succ,avQ,avW];rfl
theorem iK(L:N_)(i v:Nat):(aO L).set i [.int .u32 (v:Int)]=aO (L.set i v):=by
 unfold aO;rw[List.map_set]
theorem lT(P:N_)(v:Nat):val (P++[v])=val P+4294967296^P.length*v:=by
 rw[jF];simp[val]
theorem cV(xs:N_){i:Nat}(h:i<l'' xs):val (xs.take (i+1))=val (xs.take i)+4294967296^i*xs[i]:=by
 rw[awE h,lT,auU,axH Om]
theorem DU{v:Nat}:shift .shr .u64 (v:Int) 32=some (.int .u64 ((v/4294967296:Nat):Int)):=by
 unfold shift;rw[aB aU];simp only;have:min (awC 32) IntKind.u64.bits=32:=by decide
 rw[this,show(2:Int)^32=4294967296 by decide,Int.fdiv_eq_ediv_of_nonneg _ aU];rfl
theorem gP{a b:Nat}(h:a+b<18446744073709551616):u_.wrap ((a:Int)+(b:Int))=((a+b:Nat):Int):=by
 rw[wrap_u64 Om Om];omega
theorem bN{a:Nat}(h:a<18446744073709551616):u_.wrap (a:Int)=(a:Int):=wrap_u64 Om Om
def oz(a b:N_)(o i c:Nat):PF:=(((((((n_.set 0 (aL a)).set 1 (aL b)).set 6 (.osl o 1 0 (l'' a+1))).set 7 (.int .u64 c)).set 35 (.int .i64 (l'' a:Nat))).set 34 (aL a)).set 36 (.int .i64 i))
theorem Ai(L:vM C)(a b:N_)(ha:Lim a)(hb:Lim b)(hl:l'' b<=l'' a)(h1:l'' a<=1000)(F:PF)(f0:F 0=some (aL a))(f1:F 1=some (aL b)) :
  aK.wp C (.seq (.region wu) (.seq (.region ww) (.seq (.seq (.region wx) (.block 0 (.loop fv))) (.seq (.region ga) (.seq (.region gb) .ret))))) (aX [.tmp 4,.tmp 5] (cN (szV (val a+val b)))) F .nil:=by
 have U:i_.wrap ((l'' a:Int)+1)=((l'' a+1:Nat):Int):=dU Om;have η:((l'' a+1:Nat):Int)*((4:Nat):Int)<=140737488355328:=Om;have θ:((l'' a+1:Nat):Int)<=9223372036854775807:=Om;have hz:auL (l'' a+1) [PV.int .u32 0]=aO ([]++auL (l'' a+1) 0):=by simp[aO]
 simp only[go_sem,wu,f0,U,η,θ,hz];refine aS λo ho=>?_;simp only[go_sem,ww,wx,f0];refine wp_loop (α:=N_ × Nat × Nat) (λs=>oz a b s.2.2 s.1.length s.2.1) (λs=>h_.set s.2.2 (.rows 1 (aO (s.1++auL (l'' a+1-s.1.length) 0))))
  (λs=>s.1.length<=l'' a/\Lim s.1/\s.2.1<=1/\val s.1+4294967296^s.1.length*s.2.1=val (a.take s.1.length)+val (b.take s.1.length)) (λs=>l'' a-s.1.length) ([],0,o) ⟨by simp,by simp[Lim],by simp,by simp[val]⟩ ?_ ?_ ?_
 ·unfold oz;exact Lq
 ·exact c_ a_ (by simp only[go_sem,avS])
 rintro⟨P,c,q⟩ ⟨hP,i,hc,A⟩;simp only at hP i hc A;simp only[go_sem,fv,oz];by_cases c1:l'' P<l'' a
 ·have H:(l'' P:Int)<(l'' a:Nat):=Om;have ι:=ha _ (auH c1);obtain⟨k,Y⟩:∃k,l'' a+1-l'' P=k+1:=⟨l'' a-l'' P,by omega⟩;have N:(aO (P++auL (k+1) 0))[l'' P]?=some [.int .u32 ((0:Nat):Int)]:=by rw[cC _ bC];simp
  have l:l'' a+1-(l'' P+1)=k:=Om;have J:(l'' P:Int)<((l'' a+1:Nat):Int):=Om;have fin:∀(t:Nat)(w:PF)(H':PH),t<2*4294967296->val P+4294967296^P.length*t=val (a.take (l'' P+1))+val (b.take (l'' P+1)) ->
    w 0=some (aL a)->w 1=some (aL b)->w 6=some (.osl q 1 0 (l'' a+1))->w 7=some (.int .u64 (t:Nat))->w 8=some (.j P.length)->w 34=some (aL a)->w 35=some (.j (l'' a:Nat))->w 36=some (.j P.length) ->
    H' q=some (.rows 1 (aO (P++auL (k+1) 0)))->∀K:cH,(∀y E W H2,l'' y=l'' P+1->Lim y->E<=1->val y+4294967296^y.length*E=val (a.take (l'' P+1))+val (b.take (l'' P+1))->(oz a b q y.length E).le W->H2 q=some (.rows 1 (aO (y++auL k 0)))->K .normal W H2) ->
    aK.wp C (.seq (.region fw) (.region fx)) (fX 1 (jB C (aK.wp C (.region fy)) K)) w H':=by
   intro t w H' ht hv g0 g1 g6 g7 g8 γ δ ε gH K hK;have u:(aO (P++auL (k+1) 0)).set P.length [.int .u32 ((t%4294967296:Nat):Int)]=aO ((P++[t%4294967296])++auL k 0):=by rw[iK,FB]
   simp only[go_sem,fw,g6,g8,g7,dJ,J,gH,N,u,fx,DU,fy,ε,dU (Om:l'' P<9223372036854775807)];refine hK (P++[t%4294967296]) (t/4294967296) _ _ bC (i.app λx Z=>by simp at Z;subst Z;exact awJ _ aU) Om ?_ ?_ Sq
   ·rw[lT,auJ,auS,awL,avK,axG,<-auW,Nat.mod_add_div];exact hv
   ·unfold oz;rw[auJ,auS];refine d_ (d_ (d_ (d_ (d_ (d_ (d_ e_ ?_) ?_) ?_) ?_) ?_) ?_) ?_<;>simp only[go_sem,g0,g1,g6,γ,δ]
  have V:=cV a c1;have ea:u_.wrap ((a[l'' P]:Nat):Int)=((a[l'' P]:Nat):Int):=bN Om;have es:u_.wrap ((c:Nat)+((a[l'' P]:Nat):Int))=((c+a[l'' P]:Nat):Int):=gP Om;simp only[go_sem,H,cC a c1,ea,es];by_cases c3:l'' P<l'' b
  ·have M:(l'' P:Int)<(l'' b:Nat):=Om;have κ:=hb _ (auH c3);have O:=cV b c3;have eb:u_.wrap ((b[l'' P]:Nat):Int)=((b[l'' P]:Nat):Int):=bN Om;have β:u_.wrap (((c+a[l'' P]:Nat):Int)+((b[l'' P]:Nat):Int))=((c+a[l'' P]+b[l'' P]:Nat):Int):=gP Om;simp only[go_sem,M,cC b c3,eb,β];refine fin (c+a[l'' P]+b[l'' P]) _ _ Om ?_ ?_ ?_ ?_ ?_ ?_ ?_ ?_ ?_ ?_ _ ?_
   ·rw[V,O,auW,auW];omega
   any_goals simp only[go_sem,Y]
   intro y E W H2 Q e2 e3 S e5 e6;rw[<-Q]at S;refine aF (y,E,q) ⟨by simp only;omega,e2,e3,S⟩ sO_ e5 (c_ a_ ?_);simp only;rw[Q,l];exact e6
  ·have M:¬(l'' P:Int)<(l'' b:Nat):=Om;have O:val (b.take (l'' P+1))=val (b.take P.length):=by rw[auZ Om,auZ Om]
   simp only[go_sem,M];refine fin (c+a[l'' P]) _ _ Om ?_ ?_ ?_ ?_ ?_ ?_ ?_ ?_ ?_ ?_ _ ?_
   ·rw[V,O,auW];omega
   any_goals simp only[go_sem,Y]
   intro y E W H2 Q e2 e3 S e5 e6;rw[<-Q]at S;refine aF (y,E,q) ⟨by simp only;omega,e2,e3,S⟩ sO_ e5 (c_ a_ ?_);simp only;rw[Q,l];exact e6
 ·have e:l'' P=l'' a:=Om;have H:¬(l'' P:Int)<(l'' a:Nat):=Om;have Y:auL (l'' a+1-l'' P) 0=[0]:=by rw[show a.length+1-l'' P=1 by omega];rfl
  have N:(aO (P++[0]))[l'' a]?=some [.int .u32 ((0:Nat):Int)]:=by rw[cC _ (by simp;omega)];simp[e]
  have u:(aO (P++[0])).set a.length [.int .u32 ((c%4294967296:Nat):Int)]=aO (P++[c]):=by have:=FB P 0 (c%4294967296);simp only[List.replicate_zero,awD,avA,List.replicate_one]at this;rw[<-e,iK,this,awF Om]
  have J:(l'' a:Int)<((l'' a+1:Nat):Int):=Om;have hV:val (P++[c])=val a+val b:=by rw[lT,A,e,avI,auZ hl]
  have ζ:Lim (P++[c]):=i.app λx Z=>by simp at Z;omega
  simp only[go_sem,H,ga,dJ,Y,N,J,u,gb];have hs:=L.sized _ ζ (by simp;omega);rw[hV]at hs;refine uQ (o:=q) (s:=1) (k:=l'' a+1) (rs:=aO (P++[c])) (v:=szV (val a+val b)) ?_ rfl Sq (by rw[cP];simp;omega) ?_
  ·rw[auZ (by rw[cP];simp;omega)];exact hs
  ·simp only[go_sem,szV];exact aY (.inr rfl) .nil rfl a_ ⟨.refl _,rfl⟩
def opV(big:Bool)(n:Nat):PV:=if big then .tup [aL [],.int .i64 2]else szV n
def fJ(a b:Nat):Bool:=decide (nl a>512)||decide (nl b>512)
theorem fZ{res:List dZ}{F:PF}{H:PH}{e:Int}(h:dZ.evs F H res=some [.aE,.j e]):aX res (cN (.tup [aL [],.j e])) .ret F H:=by
 refine aY (.inr rfl) .nil h a_ ⟨?_,rfl⟩;refine .tup rfl λj p q hp i=>?_
 match j with
 |0=>simp at hp i;subst hp;subst i;exact .nil 1
 |1=>simp at hp i;subst hp;subst i;exact .refl _
 |j+2=>simp at hp
theorem bD(n:Nat):(aM n).length=nl n:=rfl
theorem lI{xs:N_}(h:Lim xs):(xs.map λ(n:Nat)=>[PV.int .u32 (n:Int)]).take (nl (val xs))=(aM (val xs)).map λ(n:Nat)=>[PV.int .u32 (n:Int)]:=by
 rw[<-axQ,nN h]
theorem agI(L:vM C)(a b:N_)(w:Lim a)(hb:Lim b)(E:l'' a<=35184372087808)(F:l'' b<=35184372087808) :
  Ah.wp C (aX pE.res (cN (opV (fJ (val a) (val b)) (val a+val b)))) (g_ [aL a,aL b]) .nil:=by
 simp only[go_sem,Ah,pE];refine aA (L.large a w E) rfl ?_;by_cases l:nl (val a)>512;simp only[go_sem,l];rw[show opV (fJ (val a) (val b)) (val a+val b)=.tup [aL [],.j 2] by simp[opV,fJ,l]];exact fZ rfl;simp only[go_sem,l];refine aA (L.large b hb F) rfl ?_;by_cases u:nl (val b)>512;simp only[go_sem,u];rw[show opV (fJ (val a) (val b)) (val a+val b)=.tup [aL [],.j 2] by simp[opV,fJ,u]];exact fZ rfl;have e:opV (fJ (val a) (val b)) (val a+val b)=szV (val a+val b):=by simp[opV,fJ,l,u]
 rw[e];simp only[go_sem,u];refine bV .nil Qb a_ ?_;simp only[go_sem];have M:=iJ w;have N:=iJ hb;have y:((nl (val a):Nat):Int)<=(l'' a:Nat):=Om;have A:((nl (val b):Nat):Int)<=(l'' b:Nat):=Om;refine cB (sC a) (L.length a w E) rfl a_ ?_;simp only[go_sem,y,or_true,avR,lI w];refine cB (sC b) (L.length b hb F) rfl a_ ?_;simp only[go_sem,A,or_true,avR,lI hb,bD];have H:=aV (val a);have J:=aV (val b);by_cases K:nl (val a)<nl (val b);have i:((nl (val a):Nat):Int)<(nl (val b):Nat):=Om;simp only[go_sem,i];have:=Ai L (aM (val b)) (aM (val a)) (bA _) (bA _) (by rw[bD,bD];omega) (by rw[bD];omega);rw[H,J,Nat.add_comm]at this;exact this _ rfl rfl;have i:¬((nl (val a):Nat):Int)<(nl (val b):Nat):=Om;simp only[go_sem,i];have:=Ai L (aM (val a)) (aM (val b)) (bA _) (bA _) (by rw[bD,bD];omega) (by rw[bD];omega);rw[H,J]at this;exact this _ rfl rfl
theorem iY(n:Int):u_.wrap n=n%18446744073709551616:=by simp[IntKind.wrap,IntKind.bits,IntKind.signed]
theorem bn(n:Int):IntKind.u32.wrap n=n%4294967296:=by simp[IntKind.wrap,IntKind.bits,IntKind.signed]
theorem Ra{v:Int}:shift .shr .u64 v 63=some (.int .u64 (v/9223372036854775808)):=by
 unfold shift;rw[aB aU];simp only;have:min (awC 63) IntKind.u64.bits=63:=by decide
 rw[this,show(2:Int)^63=9223372036854775808 by decide,Int.fdiv_eq_ediv_of_nonneg _ aU]
def VL(a bor b:Nat):Nat:=(a+4294967296-bor-b)%4294967296
def iv(a bor b:Nat):Nat:=if a<bor+b then 1 else 0
theorem Jk{a bor b:Nat}(i:a<4294967296)(hb:b<4294967296)(l:bor<=1)(v:Int)(u:v=((a:Int)-bor-b)%18446744073709551616) :
  IntKind.u32.wrap v=((VL a bor b:Nat):Int)/\v/9223372036854775808=((iv a bor b:Nat):Int)/\a+4294967296*iv a bor b=VL a bor b+b+bor/\VL a bor b<4294967296:=by
 rw[bn];unfold VL iv;split<;>omega
def pq(a b:N_)(o i c:Nat):PF:=(((((((n_.set 0 (aL a)).set 1 (aL b)).set 6 (.osl o 1 0 a.length)).set 7 (.int .u64 c)).set 33 (aL a)).set 34 (.int .i64 (l'' a:Nat))).set 35 (.int .i64 i))
theorem U2(L:vM C)(a b:N_)(ha:Lim a)(hb:Lim b)(μ:val b<=val a)(hl:l'' b<=l'' a)(h1:l'' a<=1000)(F:PF)(f0:F 0=some (aL a))(f1:F 1=some (aL b)) :
  aK.wp C (.seq (.region xd) (.seq (.region xe) (.seq (.seq (.region xf) (.block 1 (.loop gl))) (.seq (.region gr) .ret)))) (aX [.tmp 4,.tmp 5] (cN (szV (val a-val b)))) F .nil:=by
 have θ:(l'' a:Int)*((4:Nat):Int)<=140737488355328:=Om;have ι:(l'' a:Int)<=9223372036854775807:=Om;have hz:auL a.length [PV.int .u32 0]=aO ([]++auL a.length 0):=by simp[aO]
 simp only[go_sem,xd,f0,θ,ι,hz];refine aS λo ho=>?_;simp only[go_sem,xe,xf,f0];refine wp_loop (α:=N_ × Nat × Nat) (λs=>pq a b s.2.2 s.1.length s.2.1) (λs=>h_.set s.2.2 (.rows 1 (aO (s.1++auL (l'' a-s.1.length) 0))))
  (λs=>s.1.length<=l'' a/\Lim s.1/\s.2.1<=1/\val (a.take s.1.length)+4294967296^s.1.length*s.2.1=val s.1+val (b.take s.1.length)) (λs=>l'' a-s.1.length) ([],0,o) ⟨by simp,by simp[Lim],by simp,by simp[val]⟩ ?_ ?_ ?_
 ·unfold pq;exact Lq
 ·exact c_ a_ (by simp only[go_sem,avS])
 rintro⟨P,c,q⟩ ⟨hP,i,hc,E⟩;simp only at hP i hc E;simp only[go_sem,gl,pq];by_cases V:l'' P<l'' a
 ·have A:(l'' P:Int)<(l'' a:Nat):=Om;have ε:=ha _ (auH V);obtain⟨k,U⟩:∃k,l'' a-l'' P=k+1:=⟨l'' a-l'' P-1,by omega⟩;have η:(aO (P++auL (k+1) 0))[l'' P]?=some [.int .u32 ((0:Nat):Int)]:=by rw[cC _ bC];simp
  have l:l'' a-(l'' P+1)=k:=Om;have κ:=cV a V;have fin:∀(t:Nat)(v:Int)(w:PF)(H':PH),t<4294967296->v=((a[l'' P]:Int)-c-t)%18446744073709551616->val (b.take (l'' P+1))=val (b.take P.length)+4294967296^P.length*t ->
    w 0=some (aL a)->w 1=some (aL b)->w 6=some (.osl q 1 0 a.length)->w 9=some (.int .u64 v)->w 8=some (.j P.length)->w 33=some (aL a)->w 34=some (.j (l'' a:Nat))->w 35=some (.j P.length) ->
    H' q=some (.rows 1 (aO (P++auL (k+1) 0)))->∀K:cH,(∀y H S H2,l'' y=l'' P+1->Lim y->H<=1->val (a.take (l'' P+1))+4294967296^y.length*H=val y+val (b.take (l'' P+1))->(pq a b q y.length H).le S->H2 q=some (.rows 1 (aO (y++auL k 0)))->K .normal S H2) ->
    aK.wp C (.seq (.region gm) (.region gn)) (fX 2 (jB C (aK.wp C (.region gp)) K)) w H':=by
   intro t v w H' ht hv u g0 g1 g6 g9 g8 β γ δ gH K hK;obtain⟨M,e2,O,N⟩:=Jk ε ht hc v hv;have Q:(aO (P++auL (k+1) 0)).set P.length [.int .u32 ((VL a[l'' P] c t:Nat):Int)]=aO ((P++[VL a[l'' P] c t])++auL k 0):=by rw[iK,FB]
   simp only[go_sem,gm,g6,g8,g9,M,A,gH,η,Q,gn,Ra,e2,gp,δ,dU (Om:l'' P<9223372036854775807)];refine hK (P++[VL a[l'' P] c t]) (iv a[l'' P] c t) _ _ bC (i.app λx hx=>by simp at hx;subst hx;exact N) (by unfold iv;split<;>omega) ?_ ?_ Sq
   ·rw[lT,auJ,auS,awL,avK,κ,u,axG,<-auW,O,auW,auW];omega
   ·unfold pq;rw[auJ,auS];refine d_ (d_ (d_ (d_ (d_ (d_ (d_ e_ ?_) ?_) ?_) ?_) ?_) ?_) ?_<;>simp only[go_sem,g0,g1,g6,β,γ]
  have ea:u_.wrap ((a[l'' P]:Nat):Int)=((a[l'' P]:Nat):Int):=bN Om;simp only[go_sem,A,cC a V,ea];by_cases W:l'' P<l'' b
  ·have J:(l'' P:Int)<(l'' b:Nat):=Om;have ζ:=hb _ (auH W);have u:=cV b W;have eb:u_.wrap ((b[l'' P]:Nat):Int)=((b[l'' P]:Nat):Int):=bN Om;simp only[go_sem,J,cC b W,eb];refine fin b[l'' P] (u_.wrap (u_.wrap ((a[l'' P]:Int)-(c:Int))-(b[l'' P]:Int))) _ _ ζ (by rw[iY,iY];omega) u ?_ ?_ ?_ ?_ ?_ ?_ ?_ ?_ ?_ _ ?_
   any_goals simp only[go_sem,U]
   intro y H S H2 M e2 O N Y Z;rw[<-M]at N;refine aF (y,H,q) ⟨by simp only;omega,e2,O,N⟩ sO_ Y (c_ a_ ?_);simp only;rw[M,l];exact Z
  ·have J:¬(l'' P:Int)<(l'' b:Nat):=Om;have u:val (b.take (l'' P+1))=val (b.take P.length)+4294967296^P.length*0:=by rw[auZ Om,auZ Om];simp
   simp only[go_sem,J];refine fin 0 (u_.wrap ((a[l'' P]:Int)-(c:Int))) _ _ aU (by rw[iY];omega) u ?_ ?_ ?_ ?_ ?_ ?_ ?_ ?_ ?_ _ ?_
   any_goals simp only[go_sem,U]
   intro y H S H2 M e2 O N Y Z;rw[<-M]at N;refine aF (y,H,q) ⟨by simp only;omega,e2,O,N⟩ sO_ Y (c_ a_ ?_);simp only;rw[M,l];exact Z
 ·have e:l'' P=l'' a:=Om;have A:¬(l'' P:Int)<(l'' a:Nat):=Om;have U:auL (l'' a-l'' P) 0=[]:=by rw[show a.length-l'' P=0 by omega];rfl
  have hV:val P=val a-val b:=by
   rw[e,avI,auZ hl]at E;have hlt:=gO i;rw[e]at hlt;rcases axN c with h|h
   ·subst h;omega
   ·have:c=1:=Om;subst this;omega
  simp only[go_sem,A,U,awD,gr];have hs:=L.sized _ i Om;rw[hV]at hs;refine uQ (o:=q) (s:=1) (k:=l'' a) (rs:=aO P) (v:=szV (val a-val b)) ?_ rfl Sq (by rw[cP];omega) ?_
  ·rw[auZ (by rw[cP];omega)];exact hs
  ·simp only[go_sem,szV];exact aY (.inr rfl) .nil rfl a_ ⟨.refl _,rfl⟩
def wN(a b:Nat):PV:=if fJ a b then .tup [aL [],.int .i64 2]else if a<b then .tup [aL [],.int .i64 4]else szV (a-b)
theorem agP(L:vM C)(a b:N_)(u:Lim a)(hb:Lim b)(F:l'' a<=35184372087808)(H:l'' b<=35184372087808) :
  Aq.wp C (aX qB.res (cN (wN (val a) (val b)))) (g_ [aL a,aL b]) .nil:=by
 simp only[go_sem,Aq,qB];refine aA (L.large a u F) rfl ?_;by_cases i:nl (val a)>512;simp only[go_sem,i];rw[show wN (val a) (val b)=.tup [aL [],.j 2] by simp[wN,fJ,i]];exact fZ rfl;simp only[go_sem,i];refine aA (L.large b hb H) rfl ?_;by_cases l:nl (val b)>512;simp only[go_sem,l];rw[show wN (val a) (val b)=.tup [aL [],.j 2] by simp[wN,fJ,l]];exact fZ rfl;simp only[go_sem,l];refine aA (L.cmp a b u hb F H) rfl ?_;by_cases w:val a<val b;have E:eI (val a) (val b)<0:=by simp[eI,w]
 simp only[go_sem,E];rw[show wN (val a) (val b)=.tup [aL [],.j 4] by simp[wN,fJ,i,l,w]];exact fZ rfl;have E:¬eI (val a) (val b)<0:=by unfold eI;rw[aB w];split<;>decide
 rw[show wN (val a) (val b)=szV (val a-val b) by simp[wN,fJ,i,l,w]];simp only[go_sem,E];refine bV .nil Qb a_ ?_;simp only[go_sem];have M:=iJ u;have N:=iJ hb;have y:((nl (val a):Nat):Int)<=(l'' a:Nat):=Om;have A:((nl (val b):Nat):Int)<=(l'' b:Nat):=Om;refine cB (sC a) (L.length a u F) rfl a_ ?_;simp only[go_sem,y,or_true,avR,lI u];refine cB (sC b) (L.length b hb H) rfl a_ ?_;simp only[go_sem,A,or_true,avR,lI hb];have J:=aV (val a);have K:=aV (val b);have O:=iX (Om:val b<=val a);have:=U2 L (aM (val a)) (aM (val b)) (bA _) (bA _) Om (by rw[bD,bD];omega) (by rw[bD];omega);rw[J,K]at this;exact this _ rfl rfl
end Go.PM
namespace Go.Na
def fF:Nat->Nat->N_
 |0,_=>[]
 |k+1,n=>(n%4294967296)::fF k (n/4294967296)
theorem oR:∀k n,(fF k n).length=k
 |0,_=>rfl
 |k+1,n=>by simp[fF,oR k]
theorem NG{xs:N_}(h:Lim xs):fF xs.length (val xs)=xs:=by
 induction xs with
 |nil=>rfl
 |cons x xs u =>have w:=h x bC;have i:(x+4294967296*val xs)%4294967296=x:=Om;have e2:(x+4294967296*val xs)/4294967296=val xs:=Om;simp only[avG,fF,val];rw[i,e2,u λy l=>h y (by simp[l])]
theorem pZ:∀k n,Lim (fF k n)
 |0,_=>λx hx=>by cases hx
 |k+1,n=>λx hx=>by
  simp only[fF,auQ]at hx;rcases hx with rfl|hx
  exact awJ _ aU;exact pZ k _ x hx
theorem GQ:∀k n,val (fF k n)=n%4294967296^k
 |0,n=>by simp[fF,val,Nat.mod_one]
 |k+1,n=>by simp only[fF,val,GQ k];rw[awL,avO (4294967296^k) 4294967296,Nat.mod_mul]
theorem sG{k n:Nat}(h:n<4294967296^k):val (fF k n)=n:=by rw[GQ,awF h]
end Go.Na
namespace Go.PM
open Go Go.Na
theorem amZ{a b:Nat}(i:a<18446744073709551616)(hb:b<18446744073709551616):(BitVec.ofInt 64 (a:Int) ||| BitVec.ofInt 64 (b:Int)).toNat=a ||| b:=by
 rw[BitVec.ofInt_natCast,BitVec.ofInt_natCast,BitVec.toNat_or,BitVec.toNat_ofNat,BitVec.toNat_ofNat,awF (by simpa using i),awF (by simpa using hb)]
theorem Ih{c x s:Nat}(i:c<2^s)(h:c+2^s*x<18446744073709551616):c ||| (2^s*x)=c+2^s*x:=by
 rw[Nat.or_comm,<-Nat.two_pow_add_eq_or_of_lt i,Nat.add_comm]
theorem orI{a b n:Nat}(i:a<18446744073709551616)(hb:b<18446744073709551616)(h:a ||| b=n)(l:n<18446744073709551616):nP .or .u64 (a:Int) (b:Int)=some (.int .u64 (n:Int)):=by
 show some (PV.int .u64 (u_.wrap (((BitVec.ofInt 64 (a:Int) ||| BitVec.ofInt 64 (b:Int)).toNat:Nat):Int)))=_;rw[amZ i hb,h,bN l]
theorem QE{x s:Nat}(i:s<=64)(h:x*2^s<18446744073709551616):shift .shl .u64 (x:Int) (s:Int)=some (.int .u64 ((2^s*x:Nat):Int)):=by
 unfold shift;rw[aB Om];simp only;have:min (awC (s:Int)) IntKind.u64.bits=s:=by rw[show IntKind.u64.bits=64 from rfl];omega
 rw[this,show(x:Int)*2^s=((x*2^s:Nat):Int) by simp,bN h,avO]
def aaC(a:N_)(s o i c:Nat):PF:=(((((((n_.set 0 (aL a)).set 1 (.int .u64 s)).set 5 (.osl o 1 0 (l'' a+1))).set 6 (.int .u64 c)).set 13 (aL a)).set 14 (.int .i64 (l'' a:Nat))).set 15 (.int .i64 i))
def upR(a:N_)(s:Nat)(r:PV)(H:PH):Prop:=∃o,r=.osl o 1 0 (l'' a+1)/\H=h_.set o (.rows 1 (aO (fF (l'' a+1) (val a*2^s))))
variable{C:Ctx}
theorem akA(a:N_)(s:Nat)(ha:Lim a)(hs:s<32)(h1:l'' a<=1000):Hw.wp C (aX nup.res (upR a s)) (g_ [aL a,.int .u64 s]) .nil:=by
 have K:i_.wrap ((l'' a:Int)+1)=((l'' a+1:Nat):Int):=dU Om;have Y:((l'' a+1:Nat):Int)*((4:Nat):Int)<=140737488355328:=Om;have Z:((l'' a+1:Nat):Int)<=9223372036854775807:=Om;have hz:auL (l'' a+1) [PV.int .u32 0]=aO ([]++auL (l'' a+1) 0):=by simp[aO]
 have S:2^s<=2147483648:=ayJ (show 0<2 by decide) (Om:s<=31);have H:0<2^s:=axU aU;simp only[go_sem,Hw,nup,K,Y,Z,hz];refine aS λo ho=>?_;simp only[go_sem];refine wp_loop (α:=N_ × Nat × Nat) (λt=>aaC a s t.2.2 t.1.length t.2.1) (λt=>h_.set t.2.2 (.rows 1 (aO (t.1++auL (l'' a+1-t.1.length) 0))))
  (λt=>t.1.length<=l'' a/\Lim t.1/\t.2.1<2^s/\val t.1+4294967296^t.1.length*t.2.1=val (a.take t.1.length)*2^s) (λt=>l'' a-t.1.length) ([],0,o) ⟨by simp,by simp[Lim],H,by simp[val]⟩ ?_ ?_ ?_
 unfold aaC;exact Lq;exact c_ a_ (by simp only[go_sem,avS]);rintro⟨P,c,q⟩ ⟨hP,i,hc,u⟩;simp only at hP i hc u;simp only[go_sem,aaC];by_cases N:l'' P<l'' a;have w:(l'' P:Int)<(l'' a:Nat):=Om;have γ:=ha _ (auH N);obtain⟨k,W⟩:∃k,l'' a+1-l'' P=k+1:=⟨l'' a-l'' P,by omega⟩;have E:(aO (P++auL (k+1) 0))[l'' P]?=some [.int .u32 ((0:Nat):Int)]:=by rw[cC _ bC];simp
 have F:l'' a+1-(l'' P+1)=k:=Om;have A:(l'' P:Int)<((l'' a+1:Nat):Int):=Om;have β:=cV a N;generalize hx:a[l'' P]=x at *
 have δ:x*2^s<=4294967295*2147483648:=awY Om S;have ex:u_.wrap ((x:Nat):Int)=((x:Nat):Int):=bN Om;have M:2^s*x=x*2^s:=avO _ _;have Q:shift .shl .u64 (x:Int) (s:Int)=some (.int .u64 ((2^s*x:Nat):Int)):=QE Om Om;have O:=orI (a:=c) (b:=2^s*x) (n:=c+2^s*x) Om Om (Ih hc Om) Om;have J:(c+2^s*x)/4294967296<2^s:=by rw[ayB aU];have:2^s*(x+1)<=2^s*4294967296:=awZ _ Om;rw[auW,Nat.mul_one]at this;omega
 have l:(aO (P++auL (k+1) 0)).set P.length [.int .u32 (((c+2^s*x)%4294967296:Nat):Int)]=aO ((P++[(c+2^s*x)%4294967296])++auL k 0):=by rw[iK,FB]
 have V:(aO a)[l'' P]?=some [.int .u32 ((x:Nat):Int)]:=by rw[cC a N,hx]
 simp only[go_sem,w,V,ex,Q,O,dJ,W,A,E,l,DU,dU (Om:l'' P<9223372036854775807)];refine aF (P++[(c+2^s*x)%4294967296],(c+2^s*x)/4294967296,q) ⟨by simp;omega,i.app λy hy=>by simp at hy;subst hy;exact awJ _ aU,J,?_⟩ (by simp;omega) ?_ (c_ a_ ?_);simp only;rw[lT,auJ,auS,awL,avK,axG,<-auW,Nat.mod_add_div,β,auW,avV,<-axG,u,M,avK];simp only;rw[auJ,auS];exact Lq;simp only;rw[auJ,auS,F];simp only[go_sem];have e:l'' P=l'' a:=Om;have w:¬(l'' P:Int)<(l'' a:Nat):=Om;have W:auL (l'' a+1-l'' P) 0=[0]:=by rw[show a.length+1-l'' P=1 by omega];rfl
 have E:(aO (P++[0]))[l'' a]?=some [.int .u32 ((0:Nat):Int)]:=by rw[cC _ (by simp;omega)];simp[e]
 have l:(aO (P++[0])).set a.length [.int .u32 ((c%4294967296:Nat):Int)]=aO (P++[c]):=by have:=FB P 0 (c%4294967296);simp only[List.replicate_zero,awD,avA,List.replicate_one]at this;rw[<-e,iK,this,awF Om]
 have A:(l'' a:Int)<((l'' a+1:Nat):Int):=Om;have hV:val (P++[c])=val a*2^s:=by rw[lT,u,e,avI]
 have U:Lim (P++[c]):=i.app λx hx=>by simp at hx;omega
 have hD:fF (l'' a+1) (val a*2^s)=P++[c]:=by have:=NG U;rw[hV,auJ,auS,e]at this;exact this
 simp only[go_sem,w,dJ,W,E,A,l];exact aY (vs:=[.osl q 1 0 (l'' a+1)]) (.inr rfl) (h_.set q (.rows 1 (aO (P++[c])))) Ev (c_ a_ Sq) ⟨q,rfl,by rw[hD]⟩
def xc(a:N_)(d o k r:Nat):PF:=(((((n_.set 0 (aL a)).set 1 (.int .u32 d)).set 6 (.osl o 1 0 a.length)).set 7 (.int .u64 r)).set 8 (.int .i64 ((k:Int)-1)))
theorem Uz(L:vM C)(a:N_)(d:Nat)(ha:Lim a)(u:0<d)(hd:d<4294967296)(h1:l'' a<=1000) :
  ZZ.wp C (aX pn.res (aJ (.tup [aL (aM (val a/d)),.int .u32 ((val a%d:Nat):Int)]))) (g_ [aL a,.int .u32 d]) .nil:=by
 have δ:(l'' a:Int)*((4:Nat):Int)<=140737488355328:=Om;have ε:(l'' a:Int)<=9223372036854775807:=Om;have hz:auL a.length [PV.int .u32 0]=aO (auL a.length 0++[]):=by simp[aO]
 simp only[go_sem,ZZ,pn,δ,ε,hz];refine aS λo ho=>?_;simp only[go_sem];refine wp_loop (α:=Nat × N_ × Nat × Nat) (λt=>xc a d t.2.2.2 t.1 t.2.2.1) (λt=>h_.set t.2.2.2 (.rows 1 (aO (auL t.1 0++t.2.1))))
  (λt=>t.1+t.2.1.length=l'' a/\Lim t.2.1/\t.2.2.1<d/\val t.2.1*d+t.2.2.1=val (a.drop t.1)) (λt=>t.1) (l'' a,[],0,o) ⟨by simp,by simp[Lim],u,by simp[val]⟩ ?_ ?_ ?_
 unfold xc
 (repeat' (first|exact e_|refine d_ ?_ ?_))<;>first|(simp only[go_sem,wrap_i64 (Om:-9223372036854775808<=(l'' a:Int)-1) (Om:(l'' a:Int)-1<=9223372036854775807)]<;>rfl)|rfl
 exact c_ a_ Sq;rintro⟨k,S,r,q⟩ ⟨hk,i,Q,l⟩;simp only at hk i Q l;simp only[go_sem,xc];by_cases h0:0<k;obtain⟨m,rfl⟩:∃m,k=m+1:=⟨k-1,by omega⟩;have E:((m+1:Nat):Int)-1=(m:Int):=Om;have β:(m:Int)>=0:=Om;have A:m<l'' a:=Om;have hlt:(m:Int)<(l'' a:Nat):=Om;have η:=ha _ (auH A);have w:val (a.drop m)=a[m]+4294967296*val (a.drop (m+1)):=by rw[awS A];rfl
 generalize hx:a[m]=x at *
 have V:(aO a)[m]?=some [.int .u32 ((x:Nat):Int)]:=by rw[cC a A,hx]
 have ex:u_.wrap ((x:Nat):Int)=((x:Nat):Int):=bN Om;have ed:u_.wrap ((d:Nat):Int)=((d:Nat):Int):=bN Om;have K:shift .shl .u64 (r:Int) 32=some (.int .u64 ((2^32*r:Nat):Int)):=QE (s:=32) Om Om;have U:(2:Nat)^32=4294967296:=by decide
 have F:=orI (a:=2^32*r) (b:=x) (n:=2^32*r+x) Om Om (Nat.two_pow_add_eq_or_of_lt Om r).symm Om;rw[U]at K F;have O:(4294967296*r+x)/d<4294967296:=by rw[ayB u];have:4294967296*(r+1)<=4294967296*d:=awZ _ Q;omega
 have W:¬((d:Nat):Int)=0:=Om;have H:u_.wrap (Int.tdiv ((4294967296*r+x:Nat):Int) ((d:Nat):Int))=(((4294967296*r+x)/d:Nat):Int):=by rw[show Int.tdiv ((4294967296*r+x:Nat):Int) ((d:Nat):Int)=(((4294967296*r+x)/d:Nat):Int)from rfl];exact bN Om
 have J:Int.tmod ((4294967296*r+x:Nat):Int) ((d:Nat):Int)=(((4294967296*r+x)%d:Nat):Int):=rfl;have ec:IntKind.u32.wrap (((4294967296*r+x)/d:Nat):Int)=(((4294967296*r+x)/d:Nat):Int):=by rw[dJ,awF O]
 have M:auL (m+1) 0++S=auL m 0++(0::S):=by rw[List.replicate_succ',avW];rfl
 have γ:(aO (auL m 0++(0::S)))[m]?=some [.int .u32 ((0:Nat):Int)]:=by rw[cC _ bC];simp
 have N:(aO (auL m 0++(0::S))).set m [.int .u32 (((4294967296*r+x)/d:Nat):Int)]=aO (auL m 0++(((4294967296*r+x)/d)::S)):=by rw[iK,axS _ _ bC];simp
 simp only[go_sem,E,β,K,V,ex,F,ed,W,H,ec,hlt,M,γ,N,J];refine aF (m,((4294967296*r+x)/d)::S,(4294967296*r+x)%d,q) ⟨by simp only[avG];omega,λy hy=>?_,awJ _ u,?_⟩ sO_ ?_ (c_ a_ Sq);rw[auQ]at hy;rcases hy with rfl|hy
 exact O;exact i y hy;simp only[val];rw[w,<-l,avV,auW,avK];have:=ayN (4294967296*r+x) d;rw[avO d]at this;omega
 (repeat' (first|exact e_|refine d_ ?_ ?_))<;>first|(simp only[go_sem,wrap_i64 (Om:-9223372036854775808<=(m:Int)-1) (Om:(m:Int)-1<=9223372036854775807)]<;>rfl)|rfl
 have:k=0:=Om;subst this;have E:¬((0:Nat):Int)-1>=0:=by decide
 rw[avR]at l;have hS:l'' S=l'' a:=Om;have O:val S=val a/d:=by rw[<-l,avO,Nat.mul_add_div u,ayO Q,awX]
 have ζ:r=val a%d:=by rw[<-l,avO,Nat.mul_add_mod,awF Q]
 have θ:auL 0 0++S=S:=by simp
 simp only[go_sem,E,axI];have hl:=L.length S i Om;have ι:=iJ i;have hc:((nl (val S):Nat):Int)<=(l'' S:Nat):=Om;refine uQ (o:=q) (s:=1) (k:=l'' a) (rs:=aO S) (v:=.j (nl (val S):Nat)) ?_ Sq Sq (by rw[cP];omega) ?_;rw[auZ (by rw[cP];omega)];exact hl;have Z:PV.frz q 1 (aO S) (.osl q 1 0 a.length)=aL S:=by
  have:0+l'' a<=(aO S).length:=by rw[cP];omega
  simp only[PV.frz,PV.rG,PV.cZ,if_true,true_and,aD this,avR];rw[auZ (by rw[cP];omega)]
 have Y:∀n:Int,∀k,PV.frz q 1 (aO S) (.int k n)=.int k n:=λ_ _=>rfl;have er:IntKind.u32.wrap ((r:Nat):Int)=((r:Nat):Int):=by rw[dJ,awF Om]
 simp only[go_sem,Z,Y,hc,or_true,avR,lI i,er];refine aY (vs:=[aL (aM (val S)),.int .u32 ((r:Nat):Int)]) (.inr rfl) .nil Ev a_ ⟨?_,rfl⟩;simp only[bO,<-O,<-ζ]
end Go.PM
namespace Go.Na
theorem MA{L:N_}{i:Nat}(h:i<l'' L)(v:Nat):val (L.set i v)+4294967296^i*L[i]=val L+4294967296^i*v:=by
 have l:i<(L.set i v).length:=by rw[avT];exact h
 rw[xG L h,xG (L.set i v) l,List.getElem_set_self,List.take_set_of_le (auG _),List.drop_set_of_lt Om,auW,auW];omega
theorem va{L:N_}{i:Nat}(h:∀(j x:Nat),i<=j->L[j]?=some x->x=0)(k v:Nat)(w:k<i):∀(j x:Nat),i<=j->(L.set k v)[j]?=some x->x=0:=λj x u l=>by
 rw[List.getElem?_set_ne Om]at l;exact h j x u l
end Go.Na
namespace Go.PM
open Go Go.Na
def oC(a b:N_)(o i:Nat):PF:=((((((n_.set 0 (aL a)).set 1 (aL b)).set 6 (.osl o 1 0 (l'' a+l'' b))).set 32 (aL a)).set 33 (.int .i64 (l'' a:Nat))).set 34 (.int .i64 i))
def Qn(a b:N_)(o i x c j:Nat):PF:=((((((((((((n_.set 0 (aL a)).set 1 (aL b)).set 6 (.osl o 1 0 (l'' a+l'' b))).set 32 (aL a)).set 33 (.int .i64 (l'' a:Nat))).set 34 (.int .i64 i)).set 7 (.int .i64 i)).set 8 (.int .u32 x)).set 9 (.int .u64 c)).set 39 (aL b)).set 40 (.int .i64 (l'' b:Nat))).set 41 (.int .i64 j))
structure KI(a b L:N_)(i:Nat):Prop where
 len:l'' L=l'' a+l'' b
 lim:Lim L
 v:val L=val (a.take i)*val b
 z:∀j x,i+l'' b<=j->L[j]?=some x->x=0
theorem Mu{x y:Nat}(i:x<4294967296)(l:y<4294967296):u_.wrap ((x:Int)*(y:Int))=((x*y:Nat):Int):=by
 have:x*y<=4294967295*4294967295:=awY Om Om;rw[show(x:Int)*(y:Int)=((x*y:Nat):Int) by simp];exact bN Om
theorem jN{a b:Nat}(h:a+b<=9223372036854775807):i_.wrap ((a:Int)+(b:Int))=((a+b:Nat):Int):=by
 rw[wrap_i64 Om Om];omega
variable{C:Ctx}
theorem Z9(a b:N_)(ha:Lim a)(hb:Lim b)(h1:l'' a<=1000)(h2:l'' b<=1000)(L:N_)(i:Nat)(hi:i<l'' a)(U:KI a b L i)(q:Nat)(K:cH)(F:PF)(H:PH)(S:(oC a b q i).le F)(hH:H q=some (.rows 1 (aO L)))
  (hK:∀L' F' H',KI a b L' (i+1)->(oC a b q i).le F'->H' q=some (.rows 1 (aO L'))->K .normal F' H') :
  aK.wp C (.block 1 (.seq (.region w9) (.seq (.region xa) (.seq (.seq (.region xb) (.block 2 (.loop gf))) (.region gi))))) K F H:=by
 have f0:=S 0 _ (by unfold oC;simp only[go_sem];rfl);have f1:=S 1 _ (by unfold oC;simp only[go_sem];rfl);have f6:=S 6 _ (by unfold oC;simp only[go_sem];rfl);have Z:=S 32 _ (by unfold oC;simp only[go_sem];rfl);have κ:=S 33 _ (by unfold oC;simp only[go_sem];rfl);have β:=S 34 _ (by unfold oC;simp only[go_sem];rfl);have hx:=ha _ (auH hi);have ε:=cV a hi;generalize η:a[i]=x at *
 have γ:(aO a)[i]?=some [.int .u32 ((x:Nat):Int)]:=by rw[cC a hi,η]
 simp only[go_sem,w9,xa,xb,Z,β,f1,γ];refine wp_loop (α:=N_ × Nat × Nat) (λt=>Qn a b q i x t.2.1 t.2.2) (λt=>h_.set q (.rows 1 (aO t.1)))
  (λt=>t.2.2<=l'' b/\t.1.length=l'' a+l'' b/\Lim t.1/\t.2.1<4294967296/\val t.1+4294967296^(i+t.2.2)*t.2.1=val (a.take i)*val b+4294967296^i*(x*val (b.take t.2.2))/\∀j y,i+l'' b<=j->t.1[j]?=some y->y=0) (λt=>l'' b-t.2.2) (L,0,0)
  ⟨by simp,U.len,U.lim,by simp,by simp[val,U.v],U.z⟩ ?_ (c_ a_ hH) ?_
 unfold Qn;exact Lq;rintro⟨M,c,j⟩ ⟨hj,hM,u,hc,E,W⟩;simp only at hj hM u hc E W;simp only[go_sem,gf,Qn];by_cases Y:j<l'' b;have J:(j:Int)<(l'' b:Nat):=Om;have V:=hb _ (auH Y);have ζ:=cV b Y;generalize θ:b[j]=y at *
 have δ:(aO b)[j]?=some [.int .u32 ((y:Nat):Int)]:=by rw[cC b Y,θ]
 have l:i+j<l'' M:=Om;have Q:=u _ (auH l);have A:=MA l;generalize ι:M[i+j]=z at *
 have O:(aO M)[i+j]?=some [.int .u32 ((z:Nat):Int)]:=by rw[cC M l,ι]
 have ex:u_.wrap ((x:Nat):Int)=((x:Nat):Int):=bN Om;have ey:u_.wrap ((y:Nat):Int)=((y:Nat):Int):=bN Om;have ez:u_.wrap ((z:Nat):Int)=((z:Nat):Int):=bN Om;have em:=Mu hx V;have ν:x*y<=4294967295*4294967295:=awY Om Om;have e1:u_.wrap (((x*y:Nat):Int)+(z:Int))=((x*y+z:Nat):Int):=gP Om;have e2:u_.wrap ((c:Int)+((x*y+z:Nat):Int))=((c+(x*y+z):Nat):Int):=gP Om;have N:i_.wrap ((i:Int)+(j:Int))=((i+j:Nat):Int):=jN Om;have hlt:((i+j:Nat):Int)<((l'' a+l'' b:Nat):Int):=Om;generalize ht:c+(x*y+z)=t at *
 have μ:t<4294967296*4294967296:=Om;have w:(aO M).set (i+j) [.int .u32 ((t%4294967296:Nat):Int)]=aO (M.set (i+j) (t%4294967296)):=iK M (i+j) _;simp only[go_sem,J,δ,ex,ey,em,N,hlt,O,ez,e1,e2,dJ,w,DU,wZz j];refine aF (M.set (i+j) (t%4294967296),t/4294967296,j+1) ⟨by simp only;omega,by simp only[avT];exact hM,u.set _ (awJ _ aU),by simp only;omega,?_,va W _ _ Om⟩ sO_ ?_ (c_ a_ Sq);simp only;have h3:=A (t%4294967296);have h4:4294967296^(i+(j+1))*(t/4294967296)+4294967296^(i+j)*(t%4294967296)=4294967296^(i+j)*t:=by rw[<-axG,awL,avK,<-auW,ayN]
 have h5:4294967296^(i+j)*t=4294967296^(i+j)*c+(4294967296^(i+j)*(x*y)+4294967296^(i+j)*z):=by rw[<-ht,auW,auW]
 have h6:4294967296^i*(x*val (b.take (j+1)))=4294967296^i*(x*val (b.take j))+4294967296^(i+j)*(x*y):=by rw[ζ,auW,auW,Nat.pow_add];congr 1;rw[Nat.mul_left_comm x,avK]
 omega;exact Lq;have he:j=l'' b:=Om;have J:¬(j:Int)<(l'' b:Nat):=Om;subst he;have l:i+l'' b<l'' M:=Om;have Q:M[i+l'' b]=0:=W _ _ (auG _) (auP l);have A:=MA l;have O:(aO M)[i+l'' b]?=some [.int .u32 ((0:Nat):Int)]:=by rw[cC M l,Q]
 have N:i_.wrap ((i:Int)+(l'' b:Int))=((i+l'' b:Nat):Int):=jN Om;have hlt:((i+l'' b:Nat):Int)<((l'' a+l'' b:Nat):Int):=Om;have w:(aO M).set (i+l'' b) [.int .u32 ((c%4294967296:Nat):Int)]=aO (M.set (i+l'' b) c):=by rw[awF hc];exact iK M _ _
 simp only[go_sem,J,gi,N,dJ,hlt,O,w];refine hK (M.set (i+l'' b) c) _ _ ⟨by rw[avT];exact hM,u.set _ hc,?_,λj y hj V=>?_⟩ (by unfold oC;exact Lq) Sq;have h3:=A c;rw[Q,Nat.mul_zero,awX]at h3;rw[h3,E,avI,ε,avV,avK];rw[List.getElem?_set_ne Om]at V;exact W j y Om V
theorem Uy(L:vM C)(a b:N_)(Z:Lim a)(hb:Lim b)(W:l'' a<=1000)(Y:l'' b<=1000)(F:PF)(f0:F 0=some (aL a))(f1:F 1=some (aL b)) :
  aK.wp C (.seq (.region wz) (.seq (.seq (.region w8) (.block 0 (.loop gh))) (.seq (.region gj) .ret))) (aX [.tmp 4,.tmp 5] (cN (szV (val a*val b)))) F .nil:=by
 have y:i_.wrap ((l'' a:Int)+(l'' b:Int))=((l'' a+l'' b:Nat):Int):=jN Om;have K:((l'' a+l'' b:Nat):Int)*((4:Nat):Int)<=140737488355328:=Om;have N:((l'' a+l'' b:Nat):Int)<=9223372036854775807:=Om;have hz:auL (l'' a+l'' b) [PV.int .u32 0]=aO (auL (l'' a+l'' b) 0):=by simp[aO]
 simp only[go_sem,wz,f0,f1,y,K,N,hz];refine aS λo ho=>?_;simp only[go_sem,w8,f0];refine wp_loop (α:=N_ × Nat) (λt=>oC a b o t.2) (λt=>h_.set o (.rows 1 (aO t.1))) (λt=>t.2<=l'' a/\KI a b t.1 t.2) (λt=>l'' a-t.2) (auL (l'' a+l'' b) 0,0)
  ⟨by simp,by simp,BN _,by simp[val,xJ],λj x _ Q=>by rw[List.getElem?_replicate]at Q;split at Q<;>simp_all⟩ ?_ (c_ a_ Sq) ?_
 unfold oC;exact Lq;rintro⟨M,i⟩ ⟨hi,u⟩;simp only at hi u;simp only[go_sem,gh,oC];by_cases S:i<l'' a;have w:(i:Int)<(l'' a:Nat):=Om;have A:=Z9 (C:=C) a b Z hb W Y M i S u o;simp only[go_sem]at A;simp only[go_sem,w];refine A _ _ _ (by unfold oC;exact Lq) Sq ?_;intro L' F' H' J l H;have E:=l 34 _ (by unfold oC;simp only[go_sem];rfl);have g0:=l 0 _ (by unfold oC;simp only[go_sem];rfl);have g1:=l 1 _ (by unfold oC;simp only[go_sem];rfl);have g6:=l 6 _ (by unfold oC;simp only[go_sem];rfl);have U:=l 32 _ (by unfold oC;simp only[go_sem];rfl);have V:=l 33 _ (by unfold oC;simp only[go_sem];rfl);simp only[go_sem,E,wZz i];refine aF (L',i+1) ⟨by simp only;omega,J⟩ sO_ ?_ (c_ a_ H);exact Lq;have he:i=l'' a:=Om;subst he;have w:¬(l'' a:Int)<(l'' a:Nat):=Om;have hV:val M=val a*val b:=by rw[u.v,avI]
 simp only[go_sem,gj];have O:=L.sized _ u.lim (by rw[u.len];omega);rw[hV]at O;refine uQ (o:=o) (s:=1) (k:=l'' a+l'' b) (rs:=aO M) (v:=szV (val a*val b)) ?_ rfl Sq (by rw[cP,u.len];exact auG _) ?_;rw[auZ (by rw[cP,u.len];exact auG _)];exact O;simp only[go_sem,szV];exact aY (.inr rfl) .nil rfl a_ ⟨.refl _,rfl⟩
theorem agO(L:vM C)(a b:N_)(u:Lim a)(hb:Lim b)(A:l'' a<=35184372087808)(E:l'' b<=35184372087808) :
  Ao.wp C (aX pF.res (cN (opV (fJ (val a) (val b)) (val a*val b)))) (g_ [aL a,aL b]) .nil:=by
 simp only[go_sem,Ao,pF];refine aA (L.large a u A) rfl ?_;by_cases i:nl (val a)>512;simp only[go_sem,i];rw[show opV (fJ (val a) (val b)) (val a*val b)=.tup [aL [],.j 2] by simp[opV,fJ,i]];exact fZ rfl;simp only[go_sem,i];refine aA (L.large b hb E) rfl ?_;by_cases l:nl (val b)>512;simp only[go_sem,l];rw[show opV (fJ (val a) (val b)) (val a*val b)=.tup [aL [],.j 2] by simp[opV,fJ,l]];exact fZ rfl;have e:opV (fJ (val a) (val b)) (val a*val b)=szV (val a*val b):=by simp[opV,fJ,i,l]
 rw[e];simp only[go_sem,l];refine bV .nil Qb a_ ?_;simp only[go_sem];have K:=iJ u;have M:=iJ hb;have w:((nl (val a):Nat):Int)<=(l'' a:Nat):=Om;have y:((nl (val b):Nat):Int)<=(l'' b:Nat):=Om;refine cB (sC a) (L.length a u A) rfl a_ ?_;simp only[go_sem,w,or_true,avR,lI u];refine cB (sC b) (L.length b hb E) rfl a_ ?_;simp only[go_sem,y,or_true,avR,lI hb];have H:=aV (val a);have J:=aV (val b);have:=Uy L (aM (val a)) (aM (val b)) (bA _) (bA _) (by rw[bD];omega) (by rw[bD];omega);rw[H,J]at this;have:=λF f0 f1=>this F f0 f1;simp only[go_sem]at this;exact this _ rfl rfl
open Go Go.Na
theorem ql{A P W Z:N_}{i:Nat}(u:l'' P=i)(hi:i<l'' W):(aO (A++(P++W.drop i)++Z))[l'' A+i]?=some [.int .u32 ((W[i]:Nat):Int)]:=by
 have l:l'' A+i<(A++(P++W.drop i)++Z).length:=by simp;omega
 rw[cC _ l];congr 4;rw[List.getElem_append_left (by simp;omega),ayY Om,ayY Om,List.getElem_drop];congr 1;omega
theorem LY{A P W Z:N_}{i:Nat}(l:l'' P=i)(hi:i<l'' W)(v:Nat):(aO (A++(P++W.drop i)++Z)).set (l'' A+i) [.int .u32 (v:Int)]=aO (A++((P++[v])++W.drop (i+1))++Z):=by
 rw[iK];congr 1;rw[List.set_append_left _ _ (by simp;omega),axS _ _ Om,axS _ _ Om,awS hi];rw[show A.length+i-l'' A-l'' P=0 by omega,avQ];simp
theorem Xu{t:Nat}(h:t<18446744073709551616):nP .and .u64 (t:Int) 4294967295=some (.int .u64 ((t%4294967296:Nat):Int)):=by
 show some (PV.int .u64 (u_.wrap (((BitVec.ofInt 64 (t:Int) &&& BitVec.ofInt 64 (4294967295:Int)).toNat:Nat):Int)))=_;have e:BitVec.ofInt 64 (4294967295:Int)=BitVec.ofNat 64 4294967295:=by rfl
 rw[e,BitVec.ofInt_natCast,BitVec.toNat_and,BitVec.toNat_ofNat,BitVec.toNat_ofNat,awF (by simpa using h)];have e2:(4294967295:Nat)%2^64=2^32-1:=by decide
 rw[e2,Nat.and_two_pow_sub_one_eq_mod];rw[bN (Nat.lt_of_lt_of_le (awJ _ aU) aU)]
theorem X1{c f x:Nat}(l:c<4294967296)(i:f<=4294967296)(u:x<4294967296):c+f*x<18446744073709551616/\(c+f*x)/4294967296<4294967296/\f*x<=4294967296*4294967295:=by
 have:f*x<=4294967296*4294967295:=awY i Om;refine⟨by omega,?_,this⟩;omega
def Ht(v:N_)(j o i c b:Nat)(f:Nat):PF:=((((((((n_.set 0 (.osl o 1 j (l'' v+1))).set 1 (aL v)).set 2 (.int .u64 f)).set 7 (.int .u64 c)).set 8 (.int .u64 b)).set 13 (aL v)).set 14 (.int .i64 (l'' v:Nat))).set 15 (.int .i64 i))
def QH(n w m:Nat):Nat:=if w<m then w+4294967296^n-m else w-m
theorem Hu(A W Z v:N_)(f:Nat)(hW:Lim W)(hv:Lim v)(hl:l'' W=l'' v+1)(h1:l'' A+l'' v<=100000)(hf:f<=4294967296)(ξ:val v*f<=val W+4294967296^(l'' v+1))(o:Nat) :
  LL.wp C (aX HT.res (λr H'=>r=.bool (decide (val W<val v*f))/\H'=h_.set o (.rows 1 (aO (A++fF (l'' v+1) (QH (l'' v+1) (val W) (val v*f))++Z)))))
   (g_ [.osl o 1 A.length (l'' v+1),aL v,.int .u64 f]) (h_.set o (.rows 1 (aO (A++W++Z)))):=by
 simp only[go_sem,LL,HT];refine wp_loop (α:=N_ × Nat × Nat) (λt=>Ht v A.length o t.1.length t.2.1 t.2.2 f) (λt=>h_.set o (.rows 1 (aO (A++(t.1++W.drop t.1.length)++Z))))
  (λt=>t.1.length<=l'' v/\Lim t.1/\t.2.1<4294967296/\t.2.2<=1/\val (W.take t.1.length)+4294967296^t.1.length*t.2.2+4294967296^t.1.length*t.2.1=val t.1+val (v.take t.1.length)*f) (λt=>l'' v-t.1.length) ([],0,0)
  ⟨by simp,by simp[Lim],by simp,by simp,by simp[val]⟩ ?_ (c_ a_ (by simp only[go_sem,avS,avR,axI])) ?_
 unfold Ht;exact Lq;rintro⟨P,c,b⟩ ⟨hP,i,hc,hb,w⟩;simp only at hP i hc hb w;simp only[go_sem,Ht];by_cases c1:l'' P<l'' v;have J:(l'' P:Int)<(l'' v:Nat):=Om;have F:l'' P<l'' W:=Om;have K:(l'' P:Int)<((l'' v+1:Nat):Int):=Om;have hx:=hv _ (auH c1);have hw:=hW _ (auH F);have θ:=cV v c1;have H:=cV W F;have N:=ql (A:=A) (Z:=Z) (P:=P) rfl F;have u:=LY (A:=A) (Z:=Z) (P:=P) rfl F;generalize ν:v[l'' P]=x at *
 generalize μ:W[l'' P]=y at *
 have κ:(aO v)[l'' P]?=some [.int .u32 ((x:Nat):Int)]:=by rw[cC v c1,ν]
 obtain⟨k1,k2,k3⟩:=X1 hc hf hx;have ex:u_.wrap ((x:Nat):Int)=((x:Nat):Int):=bN Om;have ey:u_.wrap ((y:Nat):Int)=((y:Nat):Int):=bN Om;have em:u_.wrap ((f:Int)*(x:Int))=((f*x:Nat):Int):=by rw[show(f:Int)*(x:Int)=((f*x:Nat):Int) by simp];exact bN Om
 have l:c+f*x<18446744073709551616:=k1;have ea:u_.wrap ((c:Int)+((f*x:Nat):Int))=((c+f*x:Nat):Int):=gP l;have U:=Xu l;have ι:val (v.take (l'' P+1))*f=val (v.take P.length)*f+4294967296^P.length*(f*x):=by rw[θ,avV,avK,avO x f]
 generalize f*x=E at *
 have Y:(c+E)%4294967296<4294967296:=awJ _ aU;obtain⟨s1,s2,s3,s4⟩:=Jk (a:=y) (bor:=b) (b:=(c+E)%4294967296) hw Y hb (u_.wrap (u_.wrap ((y:Int)-(((c+E)%4294967296:Nat):Int))-(b:Int))) (by rw[iY,iY];omega);generalize hd:VL y b ((c+E)%4294967296)=d at *
 generalize ε:iv y b ((c+E)%4294967296)=b' at *
 have δ:b'<=1:=by rw[<-ε];unfold iv;split<;>omega
 have hs:=u d;simp only[go_sem,J,κ,ex,em,ea,K,N,ey,U,s1,hs,Ra,s2,DU,dU (Om:l'' P<9223372036854775807)];refine aF (P++[d],(c+E)/4294967296,b') ⟨by simp;omega,i.app λz hz=>by simp at hz;omega,k2,δ,?_⟩ (by simp;omega) ?_ (c_ a_ ?_);simp only;rw[auJ,auS,lT,H,ι,awL,avK,avK];have h4:4294967296^P.length*y+4294967296^P.length*(4294967296*b')=4294967296^P.length*d+4294967296^P.length*((c+E)%4294967296)+4294967296^P.length*b:=by rw[<-auW,s3,auW,auW]
 have h5:4294967296^P.length*(4294967296*((c+E)/4294967296))+4294967296^P.length*((c+E)%4294967296)=4294967296^P.length*c+4294967296^P.length*E:=by rw[<-auW,ayN,auW]
 omega;simp only;rw[auJ,auS];exact Lq;simp only;rw[auJ,auS];simp only[go_sem];have e:l'' P=l'' v:=Om;have J:¬(l'' P:Int)<(l'' v:Nat):=Om;have F:l'' v<l'' W:=Om;have K:(l'' v:Int)<((l'' v+1:Nat):Int):=Om;have hw:=hW _ (auH F);have H:=cV W F;have N:=ql (A:=A) (Z:=Z) (P:=P) e F;have u:=LY (A:=A) (Z:=Z) (P:=P) e F;have M:val (W.take (l'' v+1))=val W:=by rw[auZ Om]
 generalize μ:W[l'' v]=y at *
 have ey:u_.wrap ((y:Nat):Int)=((y:Nat):Int):=bN Om;have γ:=gO i;rw[e]at w γ;rw[avI]at w;rw[M]at H;have β:4294967296^(l'' v+1)=4294967296^v.length*4294967296:=awL _ _;have ρ:val W+4294967296^v.length*(b+c)=val P+val v*f+4294967296^v.length*y:=by rw[H,auW];omega
 have ο:b+c<=y+4294967296:=by
  rcases avF (y+4294967296) (b+c)with h|h
  exfalso;have:4294967296^v.length*(y+4294967296+1)<=4294967296^v.length*(b+c):=awZ _ h;rw[auW,auW,Nat.mul_one]at this;omega;exact h
 have Q:∃d k:Nat,d<4294967296/\k<=1/\y+4294967296*k=d+(b+c)/\IntKind.u32.wrap (u_.wrap (u_.wrap ((y:Int)-(c:Int))-(b:Int)))=(d:Int)/\((u_.wrap (u_.wrap ((y:Int)-(c:Int))-(b:Int))/9223372036854775808==1)=decide (k=1)):=by rw[bn,iY,iY];by_cases h:y<b+c;refine⟨y+4294967296-(b+c),1,by omega,by omega,by omega,by omega,?_⟩;simp only[decide_true];exact cI Om;refine⟨y-(b+c),0,by omega,by omega,by omega,by omega,?_⟩;exact bP Om
 obtain⟨d,k,hd,hk,hy,w1,w2⟩:=Q;have hs:=u d;have hN:val (P++[d])+val v*f=val W+4294967296^(l'' v+1)*k:=by
  have:4294967296^v.length*y+4294967296^v.length*(4294967296*k)=4294967296^v.length*d+4294967296^v.length*(b+c):=by rw[<-auW,hy,auW]
  rw[lT,e,β,avK];omega
 have V:Lim (P++[d]):=i.app λz hz=>by simp at hz;omega
 have ζ:=gO V;rw[auJ,auS,e]at ζ;have O:decide (k=1)=decide (val W<val v*f):=by
  congr 1;apply propext;constructor;intro h;subst h;omega;intro h;rcases axN k with h0|h0
  subst h0;omega;omega
 have S:QH (l'' v+1) (val W) (val v*f)=val (P++[d]):=by
  unfold QH;split;rename_i h;have:k=1:=by simpa[h]using O
  subst this;omega;rename_i h;have:k=0:=by
   have:¬k=1:=by simpa[h]using O
   omega
  subst this;omega
 have hD:fF (l'' v+1) (QH (l'' v+1) (val W) (val v*f))=P++[d]:=by have:=NG V;rw[auJ,auS,e]at this;rw[S,this]
 have η:W.drop (l'' v+1)=[]:=ayS Om;simp only[go_sem,J,e,K,N,ey,w1,hs,Ra,w2,O];refine aY (vs:=[.bool (decide (val W<val v*f))]) (.inr rfl) (h_.set o (.rows 1 (aO (A++(P++[d]++W.drop (l'' v+1))++Z)))) rfl (c_ a_ Sq) ⟨rfl,?_⟩;rw[hD,η,awD]
end Go.PM
namespace Go.Na
theorem Ml{xs ys:N_}(u:Lim xs)(w:Lim ys)(i:l'' xs=l'' ys)(l:val xs=val ys):xs=ys:=by
 rw[<-NG u,<-NG w,i,l]
theorem aeH{k n:Nat}{xs:N_}(u:Lim xs)(i:l'' xs=k)(l:val xs=n%4294967296^k):fF k n=xs:=
 Ml (pZ k n) u (by rw[oR,i]) (by rw[GQ,l])
end Go.Na
namespace Go.PM
open Go Go.Na
def Hr(v:N_)(j o i c:Nat):PF:=((((((n_.set 0 (.osl o 1 j (l'' v+1))).set 1 (aL v)).set 4 (.int .u64 c)).set 7 (aL v)).set 8 (.int .i64 (l'' v:Nat))).set 9 (.int .i64 i))
variable{C:Ctx}
theorem Ky(A W Z v:N_)(hW:Lim W)(hv:Lim v)(hl:l'' W=l'' v+1)(h1:l'' A+l'' v<=100000)(o:Nat) :
  RY.wp C (aX OZ.res (λr H'=>r=.tup []/\H'=h_.set o (.rows 1 (aO (A++fF (l'' v+1) (val W+val v)++Z)))))
   (g_ [.osl o 1 A.length (l'' v+1),aL v]) (h_.set o (.rows 1 (aO (A++W++Z)))):=by
 simp only[go_sem,RY,OZ];refine wp_loop (α:=N_ × Nat) (λt=>Hr v A.length o t.1.length t.2) (λt=>h_.set o (.rows 1 (aO (A++(t.1++W.drop t.1.length)++Z))))
  (λt=>t.1.length<=l'' v/\Lim t.1/\t.2<=1/\val (W.take t.1.length)+val (v.take t.1.length)=val t.1+4294967296^t.1.length*t.2) (λt=>l'' v-t.1.length) ([],0)
  ⟨by simp,by simp[Lim],by simp,by simp[val]⟩ ?_ (c_ a_ (by simp only[go_sem,avS,avR,axI])) ?_
 unfold Hr;exact Lq;rintro⟨P,c⟩ ⟨hP,i,hc,u⟩;simp only at hP i hc u;simp only[go_sem,Hr];by_cases Q:l'' P<l'' v;have E:(l'' P:Int)<(l'' v:Nat):=Om;have w:l'' P<l'' W:=Om;have F:(l'' P:Int)<((l'' v+1:Nat):Int):=Om;have hx:=hv _ (auH Q);have hw:=hW _ (auH w);have β:=cV v Q;have K:=cV W w;have J:=ql (A:=A) (Z:=Z) (P:=P) rfl w;have l:=LY (A:=A) (Z:=Z) (P:=P) rfl w;generalize ε:v[l'' P]=x at *
 generalize δ:W[l'' P]=y at *
 have γ:(aO v)[l'' P]?=some [.int .u32 ((x:Nat):Int)]:=by rw[cC v Q,ε]
 have ex:u_.wrap ((x:Nat):Int)=((x:Nat):Int):=bN Om;have S:u_.wrap ((y:Nat):Int)=((y:Nat):Int):=bN Om;have e1:u_.wrap ((y:Int)+(x:Int))=((y+x:Nat):Int):=gP Om;have e2:u_.wrap ((c:Int)+((y+x:Nat):Int))=((c+(y+x):Nat):Int):=gP Om;have Y:=l ((c+(y+x))%4294967296);simp only[go_sem,E,γ,F,J,ex,S,e1,e2,dJ,Y,DU,dU (Om:l'' P<9223372036854775807)];refine aF (P++[(c+(y+x))%4294967296],(c+(y+x))/4294967296) ⟨by simp;omega,i.app λz O=>by simp at O;subst O;exact awJ _ aU,by simp only;omega,?_⟩ (by simp;omega) ?_ (c_ a_ ?_);simp only;rw[auJ,auS,lT,K,β,awL,avK];have h5:4294967296^P.length*(4294967296*((c+(y+x))/4294967296))+4294967296^P.length*((c+(y+x))%4294967296)=4294967296^P.length*c+(4294967296^P.length*y+4294967296^P.length*x):=by rw[<-auW,ayN,auW,auW]
 omega;simp only;rw[auJ,auS];exact Lq;simp only;rw[auJ,auS];simp only[go_sem];have e:l'' P=l'' v:=Om;have E:¬(l'' P:Int)<(l'' v:Nat):=Om;have w:l'' v<l'' W:=Om;have F:(l'' v:Int)<((l'' v+1:Nat):Int):=Om;have hw:=hW _ (auH w);have K:=cV W w;have J:=ql (A:=A) (Z:=Z) (P:=P) e w;have l:=LY (A:=A) (Z:=Z) (P:=P) e w;have H:val (W.take (l'' v+1))=val W:=by rw[auZ Om]
 generalize δ:W[l'' v]=y at *
 have U:=gO i;rw[e]at u U;rw[avI]at u;rw[H]at K;have ec:IntKind.u32.wrap ((c:Nat):Int)=((c:Nat):Int):=by rw[dJ,awF Om]
 have S:IntKind.u32.wrap ((y:Int)+(c:Int))=(((y+c)%4294967296:Nat):Int):=by rw[show(y:Int)+(c:Int)=((y+c:Nat):Int) by omega,dJ]
 have Y:=l ((y+c)%4294967296);have M:Lim (P++[(y+c)%4294967296]):=i.app λz O=>by simp at O;subst O;exact awJ _ aU
 have N:=gO M;rw[auJ,auS,e]at N;have hD:fF (l'' v+1) (val W+val v)=P++[(y+c)%4294967296]:=by
  refine aeH M (by rw[auJ,auS,e]) ?_;have:val W+val v=val (P++[(y+c)%4294967296])+4294967296^(l'' v+1)*((y+c)/4294967296):=by rw[lT,e,awL,avK,axG,<-auW,Nat.mod_add_div,auW];omega
  rw[this,Nat.add_mul_mod_self_left,awF N]
 have V:W.drop (l'' v+1)=[]:=ayS Om;simp only[go_sem,E,e,F,J,ec,S,Y];refine aY (vs:=[]) (.inl rfl) (h_.set o (.rows 1 (aO (A++(P++[(y+c)%4294967296]++W.drop (l'' v+1))++Z)))) rfl (c_ a_ Sq) ⟨rfl,?_⟩;rw[hD,V,awD]
def Ql(o n:Nat)(len:Nat):PF:=((n_.set 0 (.osl o 1 0 len)).set 3 (.int .i64 n))
theorem Kw(xs:N_)(A:Lim xs)(F:l'' xs<=35184372087808)(o:Nat):yL.wp C (aX EX.res (λr H'=>r=.j (nl (val xs):Nat)/\H'=h_.set o (.rows 1 (aO xs)))) (g_ [.osl o 1 0 xs.length]) (h_.set o (.rows 1 (aO xs))):=by
 simp only[go_sem,yL,EX];refine wp_loop (α:=Nat) (λn=>Ql o n xs.length) (λ_=>h_.set o (.rows 1 (aO xs))) (λn=>n<=l'' xs/\∀j x,n<=j->xs[j]?=some x->x=0) (λn=>n) xs.length ⟨auG _,λj x h e=>by rw[avZ h]at e;cases e⟩ ?_ b_ ?_;unfold Ql;exact Lq;rintro n ⟨y,w⟩;have out:(∀x,0<n->xs[n-1]?=some x->x≠0)->nl (val xs)=n:=λh=>Nd A y w h;simp only[go_sem,Ql];by_cases u:(n:Int)>0;have hp:0<n:=Om;have hi:=cC xs (Om:n-1<l'' xs);have hlt:((n-1:Nat):Int)<(l'' xs:Nat):=Om;simp only[go_sem,u,CB (Om:n<=9223372036854775807) hp,hi,hlt];by_cases l:xs[n-1]=0;simp only[go_sem,cI (Om:((xs[n-1]:Nat):Int)=0),CB (Om:n<=9223372036854775807) hp];refine aF (n-1) ⟨by omega,λj x E i=>?_⟩ Om ?_ b_;rcases avF j n with h|h
 have:j=n-1:=Om;subst this;rw[auP Om]at i;cases i;exact l;exact w j x h i;exact Lq;simp only[go_sem,bP (Om:((xs[n-1]:Nat):Int)≠0)];refine aY (.inr rfl) _ rfl b_ ⟨?_,rfl⟩;rw[out λx _ i=>by rw[auP Om]at i;cases i;exact l];rfl;simp only[go_sem,u];refine aY (.inr rfl) _ rfl b_ ⟨?_,rfl⟩;rw[out λx h=>by omega];rfl
end Go.PM
namespace Go.Na
structure Kn(V W top next Vr head u2 Wr p:Nat):Prop where
 hV:V=top*(4294967296*p)+next*p+Vr
 hW:W=head*(4294967296*p)+u2*p+Wr
 hVr:Vr<p
 hWr:Wr<p
 htop:2147483648<=top
 atL:next<4294967296
 hu2:u2<4294967296
 hlt:W<V*4294967296
section
variable {V W top next Vr head u2 Wr p:Nat}
theorem Kn.low(K:Kn V W top next Vr head u2 Wr p):next*p+Vr<4294967296*p/\u2*p+Wr<4294967296*p:=by
 have i:(next+1)*p<=4294967296*p:=avL _ K.atL;have l:(u2+1)*p<=4294967296*p:=avL _ K.hu2;rw[avV,Nat.one_mul]at i l;have:=K.hVr;have:=K.hWr;omega
theorem Kn.El(K:Kn V W top next Vr head u2 Wr p):0<V/\4294967296*p<=V/\0<p:=by
 have:=K.hVr;have h:1*(4294967296*p)<=top*(4294967296*p):=avL _ (by have:=K.htop;omega);have:=K.hV;omega
theorem Kn.akJ(K:Kn V W top next Vr head u2 Wr p):W/V<4294967296:=by
 rw[ayB K.El.1,avO];exact K.hlt
theorem Kn.g0(K:Kn V W top next Vr head u2 Wr p):W/V<=head/top:=by
 have i:0<top:=by have:=K.htop;omega
 rw[Nat.le_div_iff_mul_le i];have l:W/V*V<=W:=Nat.div_mul_le_self W V;have u:W/V*(top*(4294967296*p))<=W/V*V:=awZ _ (by have:=K.hV;omega);have w:=K.low.2;have y:=K.hW;have h5:(W/V*top)*(4294967296*p)<(head+1)*(4294967296*p):=by rw[avK,avV,Nat.one_mul];omega
 have:=Nat.lt_of_mul_lt_mul_right h5;omega
theorem Kn.g1(K:Kn V W top next Vr head u2 Wr p){g r:Nat}(u:g*top+r=head)(H:W/V<=g)(h:g>=4294967296\/g*next>r*4294967296+u2):1<=g/\W/V<=g-1:=by
 have y:=K.akJ;have i:=Nat.div_mul_le_self W V;generalize W/V=Q at *
 rcases h with h|h
 ·omega
 ·have w:Q≠g:=by
   intro e;have A:g*V<=W:=by rw[<-e];exact i
   have E:g*V=g*top*(4294967296*p)+g*next*p+g*Vr:=by rw[K.hV,auW,auW,avK,avK]
   have l:(r*4294967296+u2+1)*p<=g*next*p:=avL _ h
   rw[avV,avV,Nat.one_mul,avK r]at l;have F:g*top*(4294967296*p)+r*(4294967296*p)=head*(4294967296*p):=by rw[<-avV,u]
   have:=K.hW;have:=K.hWr;omega
  omega
theorem Kn.g2(K:Kn V W top next Vr head u2 Wr p){g r:Nat}(w:g*top+r=head)(y:g<=4294967296)(h:g*next<=r*4294967296+u2):g<=W/V+1:=by
 rcases axN g with e|e
 ·rw[e];exact auK _
 have l:g*V=g*top*(4294967296*p)+g*next*p+g*Vr:=by rw[K.hV,auW,auW,avK,avK]
 have i:g*next*p<=(r*4294967296+u2)*p:=avL _ h
 rw[avV,avK r]at i;have u:g*top*(4294967296*p)+r*(4294967296*p)=head*(4294967296*p):=by rw[<-avV,w]
 have h5:g*Vr<=4294967296*Vr:=avL _ y;have A:4294967296*(Vr+1)<=4294967296*p:=awZ _ K.hVr;have hV:=K.El;have hW:=K.hW;have h7:(g-1)*V<=W:=by
  have:g*V=(g-1)*V+V:=by obtain⟨k,rfl⟩:∃k,g=k+1:=⟨g-1,by omega⟩;rw[avV,Nat.one_mul];rfl
  omega
 have:=(Nat.le_div_iff_mul_le hV.1).2 h7;generalize W/V=Q at *
 clear l i u h5 h7;omega
theorem Kn.g3(K:Kn V W top next Vr head u2 Wr p){g r:Nat}(y:g*top+r=head)(A:g<=4294967296)(E:4294967296<=r):g<=W/V+1:=by
 have i:=K.low.1;have hV:=K.El;have l:g*V=g*top*(4294967296*p)+g*(next*p+Vr):=by rw[K.hV,axG,auW,avK]
 have u:g*(next*p+Vr)<=4294967296*(4294967296*p):=awY A Om;have w:g*top*(4294967296*p)+r*(4294967296*p)=head*(4294967296*p):=by rw[<-avV,y]
 have h5:4294967296*(4294967296*p)<=r*(4294967296*p):=avL _ E;have hW:=K.hW;have h7:g*V<=W:=Om;have:=(Nat.le_div_iff_mul_le hV.1).2 h7;generalize W/V=Q at *
 clear l u w h5 h7;omega
theorem Kn.g4(K:Kn V W top next Vr head u2 Wr p):head/top<=4294967296+1:=by
 have i:=K.low.1;have hV:=K.El;have hW:=K.hW;have hlt:=K.hlt;have A:=K.htop;have w:head<(top+1)*4294967296:=by
  have l:V<(top+1)*(4294967296*p):=by rw[K.hV,avV,Nat.one_mul];omega
  have y:V*4294967296<=(top+1)*(4294967296*p)*4294967296:=avL _ (Nat.le_of_lt l);have u:head*(4294967296*p)<(top+1)*4294967296*(4294967296*p):=by
   have:(top+1)*(4294967296*p)*4294967296=(top+1)*4294967296*(4294967296*p):=by rw[avK,avO (4294967296*p) 4294967296,<-avK]
   omega
  exact Nat.lt_of_mul_lt_mul_right u
 have h5:head/top<4294967296+2:=by rw[ayB Om];omega
 omega
end
theorem BH:∀(k n:Nat),fF (k+1) n=fF k n++[n/4294967296^k%4294967296]
 |0,n=>by simp[fF]
 |k+1,n=>by show(n%4294967296)::fF (k+1) (n/4294967296)=(n%4294967296)::fF k (n/4294967296)++[n/4294967296^(k+1)%4294967296];rw[BH k (n/4294967296),Nat.div_div_eq_div_mul,awL,avO 4294967296];rfl
theorem AG{xs:N_}(h:Lim xs):∀{k:Nat},k<=l'' xs->val (xs.drop k)=val xs/4294967296^k:=by
 intro k i;have e:val xs=val (xs.take k)+4294967296^k*val (xs.drop k):=by
  conv=>lhs;rw[<-axY k xs,jF,auU,axH i]
 have l:=gO (h.take k);rw[auU,axH i]at l;rw[e,Nat.add_mul_div_left _ _ (axU aU),ayO l,avA]
theorem ao{R s i l u X:Nat}(w:s<32)(h:R/4294967296^i=l+4294967296*(u+4294967296*X)):(R/2^s)/4294967296^i%4294967296=(4294967296*u+l)/2^s%4294967296:=by
 rw[Nat.div_div_eq_div_mul,avO (2^s),<-Nat.div_div_eq_div_mul,h];have hp:4294967296*4294967296=2^s*(2^(32-s)*4294967296):=by rw[<-avK,<-Nat.pow_add,show s+(32-s)=32 by omega]
 have e:l+4294967296*(u+4294967296*X)=(4294967296*u+l)+2^s*(2^(32-s)*X*4294967296):=by
  have:4294967296*(4294967296*X)=2^s*(2^(32-s)*X*4294967296):=by rw[<-avK,hp,avK,avK,avK,avO 4294967296 X]
  rw[auW,this];omega
 rw[e,Nat.add_mul_div_left _ _ (axU aU),Nat.add_mul_mod_self_right]
end Go.Na
namespace Go.PM
open Go Go.Na
theorem ahK{A W Z:N_}{i:Nat}(hi:i<l'' W):(aO (A++W++Z))[l'' A+i]?=some [.int .u32 ((W[i]:Nat):Int)]:=by
 have l:l'' A+i<(A++W++Z).length:=by simp;omega
 rw[cC _ l];congr 4;rw[List.getElem_append_left (by simp;omega),ayY Om];congr 1;omega
def dF(u v:PV)(n:Nat)(q:PV)(top next j s:Nat):PF:=((((((((n_.set 8 (.int .u64 s)).set 9 (u)).set 10 (v)).set 11 (.int .i64 n)).set 12 (q)).set 13 (.int .u64 top)).set 14 (.int .u64 next)).set 15 (.int .i64 j))
def dG(u v:PV)(n:Nat)(q:PV)(top next j s g r:Nat):PF:=((((((((((n_.set 8 (.int .u64 s)).set 9 (u)).set 10 (v)).set 11 (.int .i64 n)).set 12 (q)).set 13 (.int .u64 top)).set 14 (.int .u64 next)).set 15 (.int .i64 j)).set 17 (.int .u64 g)).set 18 (.int .u64 r))
variable{C:Ctx}
theorem Ch{V J top next Vr head l Wr p:Nat}(u:Kn V J top next Vr head l Wr p)(htop:top<4294967296)(o w m j s:Nat)(v q:PV)(ι:j+m+2<w)(κ:w<=100000)(U:N_)(hU:(aO U)[j+m]?=some [.int .u32 (l:Nat)])(K:cH)(F:PF)(H:PH)
  (hF:(dG (.osl o 1 0 w) v (m+2) q top next j s (head/top) (head%top)).le F) (hH:H o=some (.rows 1 (aO U)))
  (hK:∀g r E,J/V<=g->g<=J/V+1->g<=4294967296->(dG (.osl o 1 0 w) v (m+2) q top next j s g r).le E->K .normal E H) :
  aK.wp C (.block 4 (.loop AR)) K F H:=by
 have δ:0<top:=by have:=u.htop;omega
 have hn:=u.atL;have hu2:=u.hu2;simp only[go_sem];refine wp_loop (α:=Nat × Nat) (λt=>dG (.osl o 1 0 w) v (m+2) q top next j s t.1 t.2) (λ_=>H) (λt=>t.1*top+t.2=head/\J/V<=t.1/\t.1<=4294967296+1/\t.2<4294967296) (λt=>t.1) (head/top,head%top)
  ⟨by simp only;rw[avO];exact ayN head top,u.g0,u.g4,Nat.lt_trans (awJ _ δ) htop⟩ hF b_ ?_
 rintro⟨g,r⟩ ⟨Q,hq,γ,hr⟩;simp only at Q hq γ hr;have e1:i_.wrap ((j:Int)+((m+2:Nat):Int))=((j+(m+2):Nat):Int):=jN Om;have e2:i_.wrap (((j+(m+2):Nat):Int)-2)=((j+m:Nat):Int):=wO_
 have hlt:((j+m:Nat):Int)<(w:Nat):=Om;have Y:u_.wrap ((l:Nat):Int)=((l:Nat):Int):=bN Om;have N:shift .shl .u64 (r:Int) 32=some (.int .u64 ((2^32*r:Nat):Int)):=QE (s:=32) Om Om;have W:(2:Nat)^32=4294967296:=by decide
 have M:=orI (a:=2^32*r) (b:=l) (n:=2^32*r+l) Om Om (Nat.two_pow_add_eq_or_of_lt Om r).symm Om;rw[W]at N M;have more:(g>=4294967296\/g*next>r*4294967296+l)->∀E:PF,(dG (.osl o 1 0 w) v (m+2) q top next j s g r).le E->aK.wp C (.block 5 (.seq (.region JB) (.seq (.region JC) (.seq (.region JD) (.cond (.tmp 136) (.exit 4) .skip)))))
   (iF (λt:Nat × Nat=>dG (.osl o 1 0 w) v (m+2) q top next j s t.1 t.2) (λ_=>H) (λt=>t.1*top+t.2=head/\J/V<=t.1/\t.1<=4294967296+1/\t.2<4294967296) (λt=>t.1) g (fX 4 K)) E H:=by
  intro hc E i;obtain⟨g1,g2⟩:=u.g1 Q hq hc;have f8:=i 8 _ (by unfold dG;simp only[go_sem];rfl);have f9:=i 9 _ (by unfold dG;simp only[go_sem];rfl);have ε:=i 10 _ (by unfold dG;simp only[go_sem];rfl);have f11:=i 11 _ (by unfold dG;simp only[go_sem];rfl);have ζ:=i 12 _ (by unfold dG;simp only[go_sem];rfl);have f13:=i 13 _ (by unfold dG;simp only[go_sem];rfl);have f14:=i 14 _ (by unfold dG;simp only[go_sem];rfl);have η:=i 15 _ (by unfold dG;simp only[go_sem];rfl);have Z:=i 17 _ (by unfold dG;simp only[go_sem];rfl);have β:=i 18 _ (by unfold dG;simp only[go_sem];rfl);have w1:u_.wrap ((g:Int)-1)=((g-1:Nat):Int):=by rw[wrap_u64 Om Om];omega
  have w2:u_.wrap ((r:Int)+(top:Int))=((r+top:Nat):Int):=gP Om;have O:(g-1)*top+(r+top)=head:=by obtain⟨k,rfl⟩:∃k,g=k+1:=⟨g-1,by omega⟩;rw[avV,Nat.one_mul]at Q;simp only[Nat.add_sub_cancel];omega
  simp only[go_sem,JB,JC,JD,Z,β,f13,w1,w2];by_cases c:r+top>=4294967296
  ·have S:((r+top:Nat):Int)>=4294967296:=Om;simp only[go_sem,S];refine hK (g-1) (r+top) _ g2 (u.g3 O Om c) Om ?_;unfold dG;exact Lq
  ·have S:¬((r+top:Nat):Int)>=4294967296:=Om;simp only[go_sem,S];refine aF (g-1,r+top) ⟨O,g2,by simp only;omega,by simp only;omega⟩ sO_ ?_ b_;unfold dG;exact Lq
 simp only[go_sem,AR,dG];by_cases c1:g>=4294967296
 ·have y:(g:Int)>=4294967296:=Om;simp only[go_sem,y];have:=more (.inl c1);simp only[go_sem,dG]at this;refine this _ ?_;exact Lq
 ·have y:¬(g:Int)>=4294967296:=Om;have θ:g*next<=4294967295*4294967295:=awY Om Om
  have em:u_.wrap ((g:Int)*(next:Int))=((g*next:Nat):Int):=by rw[show(g:Int)*(next:Int)=((g*next:Nat):Int) by simp];exact bN Om
  simp only[go_sem,y,em,N,e1,e2,hlt,hH,hU,Y,M];by_cases c2:g*next>r*4294967296+l
  ·have A:((g*next:Nat):Int)>((4294967296*r+l:Nat):Int):=Om;simp only[go_sem,A];have:=more (.inr c2);simp only[go_sem,dG]at this;refine this _ ?_;exact Lq
  ·have A:¬((g*next:Nat):Int)>((4294967296*r+l:Nat):Int):=Om;simp only[go_sem,A];refine hK g r _ hq (u.g2 Q Om Om) Om ?_;unfold dG;exact Lq
end Go.PM
namespace Go.Na
theorem anS{W v:N_}{m:Nat}(hW:Lim W)(i:Lim v)(A:l'' v=m+2)(y:l'' W=m+3)(E:2147483648<=v[m+1])(hlt:val W<val v*4294967296) :
  Kn (val v) (val W) (v[m+1]) (v[m]) (val (v.take m)) (W[m+2]*4294967296+W[m+1]) (W[m]) (val (W.take m)) (4294967296^m):=by
 have w:val v=val (v.take m)+4294967296^m*(v[m]+4294967296*v[m+1]):=by
  rw[xG v (Om:m<l'' v)];congr 4;have:v.drop (m+1)=[v[m+1]]:=by rw[awS Om,ayS Om]
  rw[this];simp[val]
 have e2:val W=val (W.take m)+4294967296^m*(W[m]+4294967296*(W[m+1]+4294967296*W[m+2])):=by
  rw[xG W (Om:m<l'' W)];congr 4;have:W.drop (m+1)=[W[m+1],W[m+2]]:=by rw[awS Om,awS Om,ayS Om]
  rw[this];simp[val]
 have l:=gO (i.take m);have u:=gO (hW.take m);rw[auU,axH Om]at l u;refine⟨?_,?_,l,u,E,i _ (auH _),hW _ (auH _),hlt⟩;rw[w,auW,avO (4294967296^m) (v[m]),<-avK (4294967296^m),avO (4294967296^m*4294967296),avO (4294967296^m) 4294967296];omega;rw[e2,auW,avO (4294967296^m) (W[m]),<-avK (4294967296^m),avO (4294967296^m*4294967296),avO (4294967296^m) 4294967296,avO (W[m+2]),Nat.add_comm (4294967296*W[m+2])];omega
end Go.Na
namespace Go.PM
open Go Go.Na
structure Cv(C:Ctx):Prop where
 subtract:∀(A W Z v:N_)(f o:Nat),Lim W->Lim v->l'' W=l'' v+1->l'' A+l'' v<=100000->f<=4294967296->val v*f<=val W+4294967296^(l'' v+1) ->
  aG C 142 [.osl o 1 A.length (l'' v+1),aL v,.int .u64 f] (h_.set o (.rows 1 (aO (A++W++Z)))) (λr H'=>r=.bool (decide (val W<val v*f))/\H'=h_.set o (.rows 1 (aO (A++fF (l'' v+1) (QH (l'' v+1) (val W) (val v*f))++Z))))
 restore:∀(A W Z v:N_)(o:Nat),Lim W->Lim v->l'' W=l'' v+1->l'' A+l'' v<=100000 ->
  aG C 139 [.osl o 1 A.length (l'' v+1),aL v] (h_.set o (.rows 1 (aO (A++W++Z)))) (λr H'=>r=.tup []/\H'=h_.set o (.rows 1 (aO (A++fF (l'' v+1) (val W+val v)++Z))))
theorem Fe(k n:Nat):fF k (n%4294967296^k)=fF k n:=
 Ml (pZ _ _) (pZ _ _) (by rw[oR,oR]) (by rw[GQ,GQ,Nat.mod_mod])
variable{C:Ctx}
theorem Cg(D:Cv C)(A W Z v Q:N_)(m o oq Y s:Nat)(ε:oq≠o)(hW:Lim W)(hv:Lim v)(τ:l'' v=m+2)(σ:l'' W=m+3)(ht:2147483648<=v[m+1])(hlt:val W<val v*4294967296)
  (s':Y=l'' A+(m+3)+l'' Z) (n':Y<=10000) (d':l'' A<l'' Q) (K:cH) (F:PF) (H:PH) (hF:(dF (.osl o 1 0 Y) (aL v) (m+2) (.osl oq 1 0 Q.length) (v[m+1]) (v[m]) A.length s).le F)
  (hH:H o=some (.rows 1 (aO (A++W++Z)))) (ξ:H oq=some (.rows 1 (aO Q)))
  (hK:∀F' H',(dF (.osl o 1 0 Y) (aL v) (m+2) (.osl oq 1 0 Q.length) (v[m+1]) (v[m]) A.length s).le F'->H' o=some (.rows 1 (aO (A++fF (m+3) (val W%val v)++Z)))->H' oq=some (.rows 1 (aO (Q.set A.length (val W/val v))))->K .normal F' H') :
  aK.wp C (.block 3 (.seq (.draw IZ) (.seq (.draw JA) (.seq (.block 4 (.loop AR)) (.seq (.seq (.region JE) (.cond (.tmp 146) (.seq (.region JF) (.region JG)) .skip)) (.region AS)))))) K F H:=by
 have Kk:=anS hW hv τ σ ht hlt;have y:∀i (h:i<l'' W),(aO (A++W++Z))[l'' A+i]?=some [.int .u32 ((W[i]:Nat):Int)]:=λi h=>ahK h;have g0:=y (m+2) Om;have g1:=y (m+1) Om;have g2:=y m Om;have hq:=Kk.akJ;have htop:v[m+1]<4294967296:=hv _ (auH _);have w':=hW _ (auH (Om:m+2<l'' W));have x':=hW _ (auH (Om:m+1<l'' W));have δ:=Kk.El.1;generalize v':v[m+1]=top at *
 generalize t':v[m]=next at *
 generalize y':W[m+2]=N at *
 generalize z':W[m+1]=u1 at *
 generalize A':W[m]=u2 at *
 have f8:=hF 8 _ (by unfold dF;simp only[go_sem];rfl);have f9:=hF 9 _ (by unfold dF;simp only[go_sem];rfl);have Φ:=hF 10 _ (by unfold dF;simp only[go_sem];rfl);have f11:=hF 11 _ (by unfold dF;simp only[go_sem];rfl);have Ψ:=hF 12 _ (by unfold dF;simp only[go_sem];rfl);have f13:=hF 13 _ (by unfold dF;simp only[go_sem];rfl);have f14:=hF 14 _ (by unfold dF;simp only[go_sem];rfl);have ι:=hF 15 _ (by unfold dF;simp only[go_sem];rfl);have e1:i_.wrap ((l'' A:Int)+((m+2:Nat):Int))=((l'' A+(m+2):Nat):Int):=jN Om;have e2:i_.wrap (((l'' A+(m+2):Nat):Int)-1)=((l'' A+(m+1):Nat):Int):=wO_
 have c0:((l'' A+(m+2):Nat):Int)<(Y:Nat):=Om;have c1:((l'' A+(m+1):Nat):Int)<(Y:Nat):=Om;have Λ:u_.wrap ((N:Nat):Int)=((N:Nat):Int):=bN Om;have Ξ:u_.wrap ((u1:Nat):Int)=((u1:Nat):Int):=bN Om;have θ:shift .shl .u64 (N:Int) 32=some (.int .u64 ((2^32*N:Nat):Int)):=QE (s:=32) Om Om;have Θ:(2:Nat)^32=4294967296:=by decide
 have β:=orI (a:=2^32*N) (b:=u1) (n:=2^32*N+u1) Om Om (Nat.two_pow_add_eq_or_of_lt Om N).symm Om;rw[Θ]at θ β;have a':4294967296*N+u1=N*4294967296+u1:=Om;rw[a']at β;simp only[go_sem];refine bV H dY b_ ?_;simp only[go_sem,IZ,f9,ι,f11,e1,e2,c0,c1,hH,g0,g1,Λ,Ξ,θ,β];refine bV H dY b_ ?_;have u':0<top:=Om;have h':¬((top:Nat):Int)=0:=Om;generalize r':N*4294967296+u1=head at *
 have ζ:u_.wrap (Int.tdiv ((head:Nat):Int) ((top:Nat):Int))=((head/top:Nat):Int):=by rw[show Int.tdiv ((head:Nat):Int) ((top:Nat):Int)=((head/top:Nat):Int)from rfl];exact bN (by have:=Kk.g4;omega)
 have η:Int.tmod ((head:Nat):Int) ((top:Nat):Int)=((head%top:Nat):Int):=rfl;simp only[go_sem,JA,f13,h',ζ,η];have w:=Ch (C:=C) Kk htop o Y m A.length s (aL v) (.osl oq 1 0 Q.length) Om Om (A++W++Z) g2;simp only[go_sem]at w;refine w _ _ H ?_ hH ?_
 ·unfold dG;refine d_ (d_ (d_ (d_ (d_ (d_ (d_ (d_ (d_ (d_ e_ ?_) ?_) ?_) ?_) ?_) ?_) ?_) ?_) ?_) ?_<;>simp only[go_sem,f8,f9,Φ,f11,Ψ,f13,f14,ι]
 clear w;intro g r F' q1 q2 q3 l;have h8:=l 8 _ (by unfold dG;simp only[go_sem];rfl);have h9:=l 9 _ (by unfold dG;simp only[go_sem];rfl);have O:=l 10 _ (by unfold dG;simp only[go_sem];rfl);have S:=l 11 _ (by unfold dG;simp only[go_sem];rfl);have κ:=l 12 _ (by unfold dG;simp only[go_sem];rfl);have μ:=l 13 _ (by unfold dG;simp only[go_sem];rfl);have ν:=l 14 _ (by unfold dG;simp only[go_sem];rfl);have U:=l 15 _ (by unfold dG;simp only[go_sem];rfl);have γ:=l 17 _ (by unfold dG;simp only[go_sem];rfl);have e3:i_.wrap (((l'' A+(m+2):Nat):Int)+1)=((l'' A+(m+3):Nat):Int):=wO_
 have c3:(l'' A:Int)<=((l'' A+(m+3):Nat):Int):=Om;have c4:((l'' A+(m+3):Nat):Int)<=(Y:Nat):=Om;have e4:l'' A+(m+3)-l'' A=l'' v+1:=Om;have J:l'' v+1=m+3:=Om;have q':val v*(val W/val v)+val W%val v=val W:=ayN _ _;have ο:=gO hW;rw[σ]at ο;have Δ:val W%val v<val v:=awJ _ δ;have ψ:=gO hv;rw[τ]at ψ;have φ:4294967296^(m+3)=4294967296^(m+2)*4294967296:=awL _ _;generalize o':val W/val v=M at *
 generalize p':val W%val v=rd at *
 have α:∀(E:PF)(H2:PH),E 8=some (.int .u64 s)->E 9=some (.osl o 1 0 Y)->E 10=some (aL v)->E 11=some (.j ((m+2:Nat):Int))->E 12=some (.osl oq 1 0 Q.length)->E 13=some (.int .u64 top)->E 14=some (.int .u64 next)->E 15=some (.j A.length)->E 17=some (.int .u64 M) ->
   H2 o=some (.rows 1 (aO (A++fF (m+3) rd++Z)))->H2 oq=some (.rows 1 (aO Q))->aK.wp C (.region AS) (fX 3 K) E H2:=by
  intro E H2 k8 k9 i' j' ω k' l' Γ m' kH kQ;have g':(aO Q)[l'' A]?=some [.int .u32 ((Q[l'' A]:Nat):Int)]:=cC Q d';have f':(l'' A:Int)<(l'' Q:Nat):=Om;have eq:IntKind.u32.wrap ((M:Nat):Int)=((M:Nat):Int):=by rw[dJ,awF hq]
  have χ:=iK Q A.length M;have υ:¬o=oq:=λh=>ε h.symm;simp only[go_sem,AS,ω,Γ,m',eq,f',kQ,g',χ];refine hK _ _ ?_ (by simp only[go_sem,υ,kH]) Sq;unfold dF;refine d_ (d_ (d_ (d_ (d_ (d_ (d_ (d_ e_ ?_) ?_) ?_) ?_) ?_) ?_) ?_) ?_<;>simp only[go_sem,k8,k9,i',j',ω,k',l',Γ]
 have e':(h_.set o (.rows 1 (aO (A++W++Z)))).le H:=c_ a_ hH;have ρ:val v*g<=val W+4294967296^(l'' v+1):=by have:val v*g<=val v*(M+1):=awZ _ q2;rw[auW,Nat.mul_one]at this;rw[J,φ];omega
 simp only[go_sem,JE,h9,U,S,e1,e3,c3,c4,e4,O,γ];refine fD (D.subtract A W Z v g o hW hv Om Om q3 ρ) rfl e' ?_;rintro rr H' ⟨rfl,rfl⟩ -;rw[PH.yO];by_cases c':g=M
 ·subst c';have u:¬val W<val v*g:=Om;have hN:QH (l'' v+1) (val W) (val v*g)=rd:=by unfold QH;rw[aB u];omega
  rw[hN,J];simp only[go_sem,u];have:=α;simp only[go_sem]at this;refine this _ _ ?_ ?_ ?_ ?_ ?_ ?_ ?_ ?_ ?_ ?_ ?_<;>simp only[go_sem,h8,h9,O,S,κ,μ,ν,U,γ,ε,ξ]
 ·have b':g=M+1:=Om;subst b';rw[auW,Nat.mul_one];have u:val W<val v*M+val v:=Om;have hN:QH (l'' v+1) (val W) (val v*M+val v)=rd+4294967296^(m+3)-val v:=by unfold QH;rw[aD u,J];omega
  rw[hN];have w1:u_.wrap (((M+1:Nat):Int)-1)=((M:Nat):Int):=by rw[wrap_u64 Om Om];omega
  simp only[go_sem,u,JF,γ,w1,JG,h9,U,S,e1,e3,c3,c4,e4,O];have Ω:val (fF (l'' v+1) (rd+4294967296^(m+3)-val v))=rd+4294967296^(m+3)-val v:=sG (by rw[J];omega);refine fD (D.restore A (fF (l'' v+1) (rd+4294967296^(m+3)-val v)) Z v o (pZ _ _) hv (oR _ _) Om) rfl (c_ a_ Sq) ?_;rintro rr H' ⟨rfl,rfl⟩ -;rw[PH.yO,PH.set_set,Ω];have V:fF (l'' v+1) (rd+4294967296^(m+3)-val v+val v)=fF (m+3) rd:=by rw[J,<-Fe (m+3) (rd+4294967296^(m+3)-val v+val v)];rw[show rd+4294967296^(m+3)-val v+val v=rd+4294967296^(m+3) by omega,Nat.add_mod_right,Fe]
  rw[V];simp only[go_sem];have:=α;simp only[go_sem]at this;refine this _ _ ?_ ?_ ?_ ?_ ?_ ?_ ?_ ?_ ?_ ?_ ?_<;>simp only[go_sem,h8,h9,O,S,κ,μ,ν,U,ε,ξ]
end Go.PM
namespace Go.Na
structure sV(U0 V n lu lq:Nat)(k:Nat)(U Q:N_):Prop where
 lu':l'' U=lu
 lq':l'' Q=lq
 limU:Lim U
 limQ:Lim Q
 v:val U+val Q*V=U0
 r:val (U.drop k)<V
 z:∀i x,i<k->Q[i]?=some x->x=0
theorem Ff{S V n O E j:Nat}{U Q:N_}(h:sV S V n O E (j+1) U Q)(hV:V<4294967296^n)(hj:j<E)(hl:O=E+n) :
  val ((U.drop j).take (n+1))<V*4294967296/\sV S V n O E j (U.take j++fF (n+1) (val ((U.drop j).take (n+1))%V)++U.drop (j+(n+1))) (Q.set j (val ((U.drop j).take (n+1))/V)):=by
 have γ:=h.lu';have M:=h.lq';have l:0<V:=by have:=h.r;omega
 have w:j<l'' U:=Om;have e1:val (U.drop j)=U[j]+4294967296*val (U.drop (j+1)):=by rw[awS w];rfl
 have α:=h.limU _ (auH w);have hlt:val (U.drop j)<V*4294967296:=by have:=h.r;omega
 have K:((U.drop j).take (n+1)).length=n+1:=by rw[auU,awM];omega
 have e2:val (U.drop j)=val ((U.drop j).take (n+1))+4294967296^(n+1)*val (U.drop (j+(n+1))):=by
  conv=>lhs;rw[<-axY (n+1) (U.drop j),jF,K,List.drop_drop]
 have Y:4294967296^(n+1)=4294967296^n*4294967296:=awL _ _;have β:V*4294967296<=4294967296^n*4294967296:=avL _ (Nat.le_of_lt hV);have H:val (U.drop (j+(n+1)))=0:=by
  rcases axN (val (U.drop (j+(n+1))))with h0|h0
  ·exact h0
  ·have:=awZ (4294967296^(n+1)) h0;omega
 rw[H,Nat.mul_zero,awX]at e2;generalize hW:val ((U.drop j).take (n+1))=W at *
 have e3:val U=val (U.take j)+4294967296^j*W:=by
  conv=>lhs;rw[<-axY j U,jF,auU,axH Om,e2]
 have A:W%V<V:=awJ _ l;have J:V*(W/V)+W%V=W:=ayN _ _;have N:W/V<4294967296:=by rw[ayB l,avO];omega
 have hD:val (fF (n+1) (W%V))=W%V:=sG Om;have F:Q[j]=0:=h.z j _ Om (auP Om);have u:=MA (Om:j<l'' Q) (W/V);rw[F,Nat.mul_zero,awX]at u;have y:(U.take j).length=j:=by rw[auU];omega
 refine⟨by omega,?_,?_,?_,?_,?_,?_,?_⟩
 ·simp only[auJ,oR,awM,auU];omega
 ·rw[avT];exact M
 ·exact((h.limU.take j).app (pZ _ _)).app (h.limU.drop _)
 ·exact h.limQ.set _ N
 ·rw[avW,jF,jF,y,hD,oR,H,Nat.mul_zero,awX,u];have:=h.v;have h5:(val Q+4294967296^j*(W/V))*V=val Q*V+4294967296^j*(V*(W/V)):=by rw[avV,avK,avO (W/V) V]
  have h6:4294967296^j*W=4294967296^j*(V*(W/V))+4294967296^j*(W%V):=by rw[<-auW,J]
  omega
 ·rw[avW,List.drop_append_of_le_length Om,ayS Om,axI,jF,hD,H,Nat.mul_zero,awX];exact A
 ·intro i x hi Z;rw[List.getElem?_set_ne Om]at Z;exact h.z i x Om Z
end Go.Na
namespace Go.PM
open Go Go.Na
def dI(u v:PV)(n:Nat)(q:PV)(top next s:Nat)(j:Int):PF:=((((((((n_.set 8 (.int .u64 s)).set 9 (u)).set 10 (v)).set 11 (.int .i64 n)).set 12 (q)).set 13 (.int .u64 top)).set 14 (.int .u64 next)).set 15 (.int .i64 j))
theorem wW(o s:Nat)(rs:P2_)(L:N_):(aO L).map (λr=>r.map (PV.cZ o s rs))=aO L:=by
 unfold aO;rw[axM];rfl
variable{C:Ctx}
theorem Hm(D:Cv C)(U0 m A w o o2 y s:Nat)(v i:N_)(h2:o2≠o)(h3:y≠o)(h4:y≠o2)(hv:Lim v)(Y:l'' v=m+2)(Ξ:(aO i).take (m+2)=aO v)(Φ:m+2<=l'' i)(ht:2147483648<=v[m+1])
  (Λ:A=w+(m+2)) (Z:A<=10000) (U:N_) (M:sV U0 (val v) (m+2) A w w U (auL w 0)) (K:cH) (F:PF) (H:PH)
  (J:(dI (.osl o 1 0 A) (.osl o2 1 0 (m+2)) (m+2) (.osl y 1 0 w) (v[m+1]) (v[m]) s ((w:Int)-1)).le F) (hH:H o=some (.rows 1 (aO U))) (ρ:H o2=some (.rows 1 (aO i))) (ο:H y=some (.rows 1 (aO (auL w 0))))
  (hK:∀U' Q' F',sV U0 (val v) (m+2) A w 0 U' Q'->(dI (.osl o 1 0 A) (aL v) (m+2) (.osl y 1 0 w) (v[m+1]) (v[m]) s (-1)).le F'->K .normal F' ((h_.set o (.rows 1 (aO U'))).set y (.rows 1 (aO Q')))) :
  aK.wp C (.block 2 (.loop IX)) K F H:=by
 have f8:=J 8 _ (by unfold dI;simp only[go_sem];rfl);have f9:=J 9 _ (by unfold dI;simp only[go_sem];rfl);have δ:=J 10 _ (by unfold dI;simp only[go_sem];rfl);have f11:=J 11 _ (by unfold dI;simp only[go_sem];rfl);have ε:=J 12 _ (by unfold dI;simp only[go_sem];rfl);have f13:=J 13 _ (by unfold dI;simp only[go_sem];rfl);have f14:=J 14 _ (by unfold dI;simp only[go_sem];rfl);have ζ:=J 15 _ (by unfold dI;simp only[go_sem];rfl);have N:¬o=o2:=λh=>h2 h.symm;have O:¬y=o2:=h4;have β:¬o=y:=λh=>h3 h.symm;have ψ:∀(k:IntKind)(n:Int),PV.frz o2 1 (aO i) (.int k n)=.int k n:=λ_ _=>rfl;have Γ:∀l,PV.frz o2 1 (aO i) (.osl o 1 0 l)=.osl o 1 0 l:=λl=>by simp only[PV.frz,PV.rG,PV.cZ,aB N]
 have ω:∀l,PV.frz o2 1 (aO i) (.osl y 1 0 l)=.osl y 1 0 l:=λl=>by simp only[PV.frz,PV.rG,PV.cZ,aB O]
 have Δ:PV.frz o2 1 (aO i) (.osl o2 1 0 (m+2))=aL v:=by
  have:0+(m+2)<=(aO i).length:=by rw[cP];omega
  simp only[PV.frz,PV.rG,PV.cZ,if_true,true_and,aD this,avR,Ξ]
 simp only[go_sem];refine Lm (α:=Nat × N_ × N_) (λt=>dI (.osl o 1 0 A) (aL v) (m+2) (.osl y 1 0 w) (v[m+1]) (v[m]) s ((t.1:Int)-1)) (λt=>(h_.set o (.rows 1 (aO t.2.1))).set y (.rows 1 (aO t.2.2)))
  (λt=>t.1<=w/\sV U0 (val v) (m+2) A w t.1 t.2.1 t.2.2) (λt=>t.1) (w,U,auL w 0) o2 ρ ⟨auG _,M⟩ ?_ ?_ ?_
 unfold dI;refine d_ (d_ (d_ (d_ (d_ (d_ (d_ (d_ e_ ?_) ?_) ?_) ?_) ?_) ?_) ?_) ?_<;>simp only[go_sem,f8,f9,δ,f11,ε,f13,f14,ζ,ψ,Γ,ω,Δ];refine c_ (c_ a_ ?_) ?_;simp only[go_sem,N,hH,aW.frz,wW];simp only[go_sem,O,ο,aW.frz,wW];rintro⟨k,U,Q⟩ ⟨hk,M⟩;simp only at hk M;simp only[go_sem,IX,dI];by_cases h0:0<k;obtain⟨j,rfl⟩:∃j,k=j+1:=⟨k-1,by omega⟩;have hz:((j+1:Nat):Int)-1=(j:Int):=Om;have Θ:(j:Int)>=0:=Om;have W:val v<4294967296^(m+2):=by have:=gO hv;rw[Y]at this;exact this
 obtain⟨hlt,σ⟩:=Ff M W Om Λ;have υ:=M.lu';have τ:=M.lq';have hA:(U.take j).length=j:=by rw[auU];omega
 have φ:((U.drop j).take (m+3)).length=m+3:=by rw[auU,awM];omega
 have E:U.take j++(U.drop j).take (m+3)++U.drop (j+(m+3))=U:=by rw[avW,<-List.drop_drop,axY,axY]
 have χ:(U.drop (j+(m+3))).length=A-(j+(m+3)):=by rw[awM,υ]
 have S:=Cg (C:=C) D (U.take j) ((U.drop j).take (m+3)) (U.drop (j+(m+3))) v Q m o y A s h3 ((M.limU.drop _).take _) hv Y φ ht hlt (by rw[hA,χ];omega) Z (by rw[hA];omega);rw[hA,E,τ]at S;have γ:i_.wrap ((j:Int)-1)=(j:Int)-1:=wrap_i64 Om Om;simp only[go_sem,hz,Θ];simp only[go_sem]at S;refine S _ _ _ ?_ (by simp only[go_sem,β]) Sq ?_;unfold dF;exact Lq;intro F' H' u ξ V;have g8:=u 8 _ (by unfold dF;simp only[go_sem];rfl);have g9:=u 9 _ (by unfold dF;simp only[go_sem];rfl);have η:=u 10 _ (by unfold dF;simp only[go_sem];rfl);have θ:=u 11 _ (by unfold dF;simp only[go_sem];rfl);have ι:=u 12 _ (by unfold dF;simp only[go_sem];rfl);have κ:=u 13 _ (by unfold dF;simp only[go_sem];rfl);have μ:=u 14 _ (by unfold dF;simp only[go_sem];rfl);have ν:=u 15 _ (by unfold dF;simp only[go_sem];rfl);simp only[go_sem,ν,γ];refine aF (j,_,_) ⟨by simp only;omega,σ⟩ sO_ ?_ (c_ (c_ a_ ξ) V);refine d_ (d_ (d_ (d_ (d_ (d_ (d_ (d_ e_ ?_) ?_) ?_) ?_) ?_) ?_) ?_) ?_<;>simp only[go_sem,g8,g9,η,θ,ι,κ,μ];have:k=0:=Om;subst this;have hz:¬((0:Nat):Int)-1>=0:=by decide
 simp only[go_sem,hz];refine hK U Q _ M ?_;unfold dI;exact lE1 (show((0:Nat):Int)-1=-1 from rfl)
open Go Go.Na
def rFr(o u w l or n s i:Nat):PF:=((((((n_.set 8 (.int .u64 s)).set 9 (.osl o 1 0 u)).set 12 (.osl w 1 0 l)).set 19 (.osl or 1 0 n)).set 166 (.int .i64 n)).set 167 (.int .i64 i))
theorem akY{x s:Nat}(i:s<=64):shift .shr .u64 (x:Int) (s:Int)=some (.int .u64 ((x/2^s:Nat):Int)):=by
 unfold shift;rw[aB Om];simp only;have:min (awC (s:Int)) IntKind.u64.bits=s:=by rw[show IntKind.u64.bits=64 from rfl];omega
 rw[this,Int.fdiv_eq_ediv_of_nonneg _ (by exact_mod_cast auK _)]
 norm_cast
theorem Hn(o w i lq n s:Nat)(U Q:N_)(hs:s<32)(h3:i≠o)(hU:Lim U)(hl:l'' U=w)(hn:n<w)(η:w<=10000)(K:cH)(F:PF)
  (f8:F 8=some (.int .u64 s)) (f9:F 9=some (.osl o 1 0 w)) (f11:F 11=some (.j n)) (θ:F 12=some (.osl i 1 0 lq))
  (hK:∀or F' H',or≠o->or≠i->(rFr o w i lq or n s n).le F'->H' i=some (.rows 1 (aO Q))->H' or=some (.rows 1 (aO (fF n (val U/2^s))))->K .normal F' H') :
  aK.wp C (.seq (.region JH) (.seq (.region JI) (.block 6 (.loop IY)))) K F ((h_.set o (.rows 1 (aO U))).set i (.rows 1 (aO Q))):=by
 have ε:((n:Nat):Int)*((4:Nat):Int)<=140737488355328:=Om;have ζ:((n:Nat):Int)<=9223372036854775807:=Om;have hz:auL n [PV.int .u32 0]=aO ([]++auL n 0):=by simp[aO]
 simp only[go_sem,JH,f11,ε,ζ,hz];refine aS λor S=>?_;have n1:¬or=i:=(jL.1 S).1;have n2:¬or=o:=(jL.1 (jL.1 S).2).1;have A:¬i=or:=λh=>n1 h.symm;have E:¬o=or:=λh=>n2 h.symm;have n3:¬i=o:=h3;have H:¬o=i:=λh=>n3 h.symm;simp only[go_sem,JI];refine wp_loop (α:=N_) (λP=>rFr o w i lq or n s P.length) (λP=>((h_.set o (.rows 1 (aO U))).set i (.rows 1 (aO Q))).set or (.rows 1 (aO (P++auL (n-l'' P) 0)))) (λP=>l'' P<=n/\P=fF P.length (val U/2^s)) (λP=>n-l'' P) []
  ⟨by simp,rfl⟩ ?_ ?_ ?_
 unfold rFr;exact Lq;refine c_ (c_ (c_ a_ ?_) ?_) ?_<;>simp only[go_sem,n1,A,n2,E,n3,H,avS];rintro P ⟨hP,hD⟩;simp only[go_sem,IY,rFr];by_cases c1:l'' P<n;have u:(l'' P:Int)<(n:Nat):=Om;obtain⟨k,hk⟩:∃k,n-l'' P=k+1:=⟨n-l'' P-1,by omega⟩;have δ:(aO (P++auL (k+1) 0))[l'' P]?=some [.int .u32 ((0:Nat):Int)]:=by rw[cC _ bC];simp
 have Y:l'' P<l'' U:=Om;have a1:l'' P+1<l'' U:=Om;have b0:(l'' P:Int)<(w:Nat):=Om;have b1:((l'' P+1:Nat):Int)<(w:Nat):=Om;have ι:=hU _ (auH Y);have κ:=hU _ (auH a1);have e:val U/4294967296^P.length=U[l'' P]+4294967296*(U[l'' P+1]+4294967296*val (U.drop (l'' P+2))):=by rw[<-AG hU Om,awS Y,awS a1];rfl
 have O:=ao hs e;have g0:=cC U Y;have g1:=cC U a1;generalize μ:U[l'' P]=y at *
 generalize ν:U[l'' P+1]=l at *
 have e1:i_.wrap ((l'' P:Int)+1)=((l'' P+1:Nat):Int):=dU Om;have β:u_.wrap ((y:Nat):Int)=((y:Nat):Int):=bN Om;have γ:u_.wrap ((l:Nat):Int)=((l:Nat):Int):=bN Om;have M:shift .shl .u64 (l:Int) 32=some (.int .u64 ((2^32*l:Nat):Int)):=QE (s:=32) Om Om;have Z:(2:Nat)^32=4294967296:=by decide
 have J:=orI (a:=2^32*l) (b:=y) (n:=2^32*l+y) Om Om (Nat.two_pow_add_eq_or_of_lt Om l).symm Om;rw[Z]at M J;have N:=akY (x:=4294967296*l+y) (s:=s) Om;have W:(aO (P++auL (k+1) 0)).set P.length [.int .u32 (((4294967296*l+y)/2^s%4294967296:Nat):Int)]=aO ((P++[(4294967296*l+y)/2^s%4294967296])++auL k 0):=by rw[iK,FB]
 simp only[go_sem,u];refine bV .nil dY a_ ?_;simp only[go_sem,u,e1,b0,b1,E,H,g0,g1,β,γ,M,J,N,dJ,hk,δ,W];refine⟨a_,?_⟩
 try simp only[go_sem,e1]
 refine aF (P++[(4294967296*l+y)/2^s%4294967296]) ⟨by simp;omega,?_⟩ (by simp;omega) ?_ (c_ (c_ (c_ a_ ?_) ?_) ?_);rw[auJ,auS,BH,<-hD,O];rw[auJ,auS];exact Lq;simp only[go_sem,E,H];simp only[go_sem,A];rw[auJ,auS,show n-(l'' P+1)=k by omega];simp only[go_sem];have e:l'' P=n:=Om;have u:¬(l'' P:Int)<(n:Nat):=Om;have V:auL (n-l'' P) 0=[]:=by rw[show n-l'' P=0 by omega];rfl
 rw[e]at hD;simp only[go_sem,u,V,awD];refine hK or _ _ n2 n1 ?_ (by simp only[go_sem,A]) (by simp only[go_sem];rw[<-hD]);unfold rFr;rw[e];exact Lq
structure Ed(C:Ctx):Prop where
 L:vM C
 D:Cv C
 up:∀(a:N_)(s:Nat),Lim a->s<32->l'' a<=1000->aG C 143 [aL a,.int .u64 s] .nil (upR a s)
 short:∀(a:N_)(d:Nat),Lim a->0<d->d<4294967296->l'' a<=1000->aG C 140 [aL a,.int .u32 d] .nil (aJ (.tup [aL (aM (val a/d)),.int .u32 ((val a%d:Nat):Int)]))
 lengthO:∀(xs:N_)(o:Nat),Lim xs->l'' xs<=35184372087808->aG C 138 [.osl o 1 0 xs.length] (h_.set o (.rows 1 (aO xs))) (λr H'=>r=.int .i64 (nl (val xs):Nat)/\H'=h_.set o (.rows 1 (aO xs)))
def Yo:Spec:=λname vs=>match name,vs with
 |143,[x,.int _ s]=>some ([],λ_=>upR (jU x) s.toNat)
 |138,[.osl q _ _ _]=>some ([q],λi r H'=>H'=i/\∀xs,Lim xs->i q=some (.rows 1 (aO xs))->r=.int .i64 (nl (val xs):Nat))
 |_,_=>none
theorem L7(a:N_)(s:Nat):Yo 143 [aL a,.int .u64 s]=some ([],λ_=>upR a s):=by
 show some _=_;rw[eW,awG]
theorem J1(a:N_)(s:Nat):∀G:PH,∃r H',upR a s r H'/\oX G .nil H':=λG=>by
 obtain⟨o,l⟩:=G.fresh;refine⟨_,_,⟨o,rfl,rfl⟩,λq x i _=>?_⟩;rw[aT]at i;split at i;rename_i e;subst e;exact l;cases i
theorem UJ{xs ys:N_}(h:aO xs=aO ys):xs=ys:=by
 have:=congrArg jU (show aL xs=aL ys by show PV.sl 1 (aO xs)=PV.sl 1 (aO ys);rw[h])
 rwa[eW,eW]at this
theorem A4(q:Nat)(L:N_):(h_.set q (.rows 1 (aO L)))=(h_.set q (.rows 1 (aO L)))/\∀xs,Lim xs->(h_.set q (.rows 1 (aO L))) q=some (.rows 1 (aO xs))->(PV.int .i64 (nl (val L):Nat))=.j (nl (val xs):Nat):=by
 refine⟨rfl,λxs i e=>?_⟩;rw[cA]at e;have:aO L=aO xs:=(aW.rows.inj (awN.inj e)).2;rw[UJ this]
def uS(A B:Nat):PV:=.tup [aL (aM (A/B)),aL (aM (A%B))]
def Qf(a b:N_)(s:Nat):PF:=(((n_.set 0 (aL a)).set 1 (aL b)).set 8 (.int .u64 s))
theorem ahN{x s:Nat}(i:s<=31)(h:x*2^s<4294967296):shift .shl .u32 (x:Int) (s:Int)=some (.int .u32 ((x*2^s:Nat):Int)):=by
 unfold shift;rw[aB Om];simp only;have:min (awC (s:Int)) IntKind.u32.bits=s:=by rw[show IntKind.u32.bits=32 from rfl];omega
 rw[this,show(x:Int)*2^s=((x*2^s:Nat):Int) by simp,dJ,awF h]
theorem Kc{n i x:Nat}(l:(auL n 0)[i]?=some x):x=0:=by
 have:=awW l;rw[List.mem_replicate]at this;exact this.2
theorem Qh(K:Ed C)(A B:Nat)(hB:B≠0)(hA:nl A<=900)(k':nl B<=900) :
  UF.wp C (aX eS.res (cN (uS A B))) (g_ [aL (aM A),aL (aM B)]) .nil:=by
 have LA:=bA A;have LB:=bA B;have vA:=aV A;have vB:=aV B;have lA:(aM A).length=nl A:=rfl;have lB:(aM B).length=nl B:=rfl;simp only[go_sem,UF,eS];refine aA (K.L.cmp _ _ LA LB Om Om) rfl ?_;rw[vA,vB];by_cases c1:A<B
 ·have hc:eI A B<0:=by simp[eI,c1]
  simp only[go_sem,hc];refine aA (K.L.trim _ LA Om) rfl ?_;rw[vA];simp only[go_sem];refine aY (vs:=[.aE,aL (aM A)]) (.inr rfl) .nil rfl a_ ⟨?_,rfl⟩;rw[uS,ayO c1,awF c1,gL];refine .tup rfl λj p q hp hq=>?_
  match j with
  |0=>simp at hp hq;subst hp;subst hq;exact .nil 1
  |1=>simp at hp hq;subst hp;subst hq;exact .refl _
  |j+2=>simp at hp
 have hc:¬eI A B<0:=by unfold eI;rw[aB c1];split<;>decide
 have V:0<B:=axJ hB;have n':nl B≠0:=λh=>hB (kK.1 h);simp only[go_sem,hc];by_cases c2:nl B=1;have ε:B<4294967296:=by have:=(kY B 1).1 Om;simpa using this
 have Ψ:aM B=[B]:=sB hB ε;have hr:A%B<B:=awJ _ V;have ew:u_.wrap ((A%B:Nat):Int)=((A%B:Nat):Int):=bN Om;rw[Ψ];have ρ:=K.short (aM A) B LA V ε Om;rw[vA]at ρ;simp only[go_sem,show(((1:Nat):Int)==1)=true from rfl];refine aA ρ rfl ?_;simp only[go_sem,ew];refine aA (K.L.make (A%B) Om) rfl ?_;simp only[go_sem];exact aY (vs:=[aL (aM (A/B)),aL (aM (A%B))]) (.inr rfl) .nil rfl a_ ⟨.refl _,rfl⟩;obtain⟨m,hm⟩:∃m,nl B=m+2:=⟨nl B-2,by omega⟩;have j':nl B<=nl A:=iX Om;obtain⟨bt,E,g'⟩:=Jw LB (n:=m+1) (by rw[vB];exact hm);have O:m+1<(aM B).length:=Om;have μ:bt<4294967296:=LB bt (awW E);have l':B=val ((aM B).take (m+1))+4294967296^(m+1)*bt:=by have w:=cV (aM B) O;rw[auZ Om,vB]at w;rw[auP O]at E;rw[awN.inj E]at w;exact w
 have W:=gO (LB.take (m+1));rw[auU,axH Om]at W;have ο:(aO (aM B))[m+1]?=some [.int .u32 ((bt:Nat):Int)]:=by rw[cC _ O];rw[auP O]at E;rw[awN.inj E]
 have i1:i_.wrap ((((aM B).length:Nat):Int)-1)=((m+1:Nat):Int):=wO_
 have ν:¬(((aM B).length:Nat):Int)=1:=Om;simp only[go_sem,bP ν];refine wp_loop (α:=Nat) (λs=>Qf (aM A) (aM B) s) (λ_=>.nil) (λs=>s<=31/\bt*2^s<4294967296) (λs=>32-s) 0 ⟨by omega,by simpa using μ⟩ ?_ a_ ?_;unfold Qf;exact Lq;rintro s ⟨hs,Ξ⟩;have χ:=ahN hs Ξ;simp only[go_sem,Qf,i1,ο,χ];refine Yb ?_ ?_;intro c3;have φ:=of_decide_eq_true c3;have h':s<31:=by
  rcases avF s 31 with h|h
  exact h;exfalso;have w:2147483648<=2^s:=ayJ (show 0<2 by decide) h;have M:1*2^s<=bt*2^s:=avL _ Om;omega
 have es:u_.wrap ((s:Int)+1)=((s+1:Nat):Int):=by rw[wrap_u64 Om Om];omega
 simp only[go_sem,es];refine aF (s+1) ⟨by omega,by rw[awL,<-avK];omega⟩ Om ?_ a_;exact Lq;intro c3;have φ:=of_decide_eq_false c3;have H:s<32:=Om;have F:0<2^s:=axU aU;have U:2147483648*4294967296^(m+1)<=B*2^s:=by
  have w:2147483648*4294967296^(m+1)<=(bt*2^s)*4294967296^(m+1):=avL _ Om;have M:(4294967296^(m+1)*bt)*2^s<=B*2^s:=avL _ Om;have h3:(4294967296^(m+1)*bt)*2^s=(bt*2^s)*4294967296^(m+1):=by rw[avK,avO]
  omega
 have κ:B*2^s<4294967296^(m+2):=by
  have h0:(bt+1)*2^s<=4294967296:=by
   have i':(4294967296:Nat)=2^(32-s)*2^s:=by rw[<-Nat.pow_add,show 32-s+s=32 by omega]
   have:bt<2^(32-s):=by
    rcases avF bt (2^(32-s))with h|h
    exact h;have:=avL (2^s) h;omega
   have:=avL (2^s) (show bt+1<=2^(32-s)from this);omega
  have w:B<(bt+1)*4294967296^(m+1):=by rw[avV,Nat.one_mul,avO bt];omega
  have M:B*2^s<(bt+1)*4294967296^(m+1)*2^s:=Nat.mul_lt_mul_of_pos_right w F;have h3:(bt+1)*4294967296^(m+1)*2^s=(bt+1)*2^s*4294967296^(m+1):=Nat.mul_right_comm _ _ _;have h4:(bt+1)*2^s*4294967296^(m+1)<=4294967296*4294967296^(m+1):=avL _ h0;have h5:4294967296^(m+2)=4294967296*4294967296^(m+1):=by rw[awL,avO]
  omega
 have S:A<4294967296^nl A:=(kY A _).1 (auG _);simp only[go_sem];refine bV .nil Yo a_ ?_;simp only[go_sem];have ua:=K.up (aM A) s LA H Om;have ub:=K.up (aM B) s LB H Om;refine L5 (L7 (aM A) s) ua rfl (J1 _ _) ?_;rintro r H' ⟨o,rfl,rfl⟩ -;rw[PH.oV,lA,vA];refine⟨a_,?_⟩;simp only[go_sem];refine L5 (L7 (aM B) s) ub rfl (J1 _ _) ?_;rintro r H' ⟨o2,rfl,rfl⟩ Λ;rw[PH.oV,lB,vB,hm];refine⟨a_,?_⟩;have Φ:=Λ o2 _ (by rw[aT,aD rfl]) (by rfl);have τ:¬o2=o:=(jL.1 Φ).1;have e':¬o=o2:=λh=>τ h.symm;have k1:((m+2:Nat):Int)<=((m+2+1:Nat):Int):=Om;have k2:i_.wrap (((nl A+1:Nat):Int)-((m+2:Nat):Int))=((nl A+1-(m+2):Nat):Int):=wO_
 obtain⟨l,Ω⟩:∃l,nl A+1-(m+2)=l:=⟨_,rfl⟩;have a':nl A+1=l+(m+2):=Om;rw[Ω]at k2;have k3:((l:Nat):Int)*((4:Nat):Int)<=140737488355328:=Om;have k4:((l:Nat):Int)<=9223372036854775807:=Om;have hz:auL l [PV.int .u32 0]=aO (auL l 0):=by simp[aO]
 have k5:m+2-0=m+2:=Om;simp only[go_sem,lB,hm,k1,k5,k2,k3,k4,hz];refine aS λJ ξ=>?_;have q2:¬J=o2:=(jL.1 ξ).1;have q1:¬J=o:=(jL.1 (jL.1 ξ).2).1;have υ:¬o2=J:=λh=>q2 h.symm;have f':¬o=J:=λh=>q1 h.symm;have b':fF (m+2+1) (B*2^s)=fF (m+2) (B*2^s)++[B*2^s/4294967296^(m+2)%4294967296]:=BH _ _;have Lv:=pZ (m+2) (B*2^s);have lv:=oR (m+2) (B*2^s);have vv:val (fF (m+2) (B*2^s))=B*2^s:=sG κ;have σ:(aO (fF (m+2+1) (B*2^s))).take (m+2)=aO (fF (m+2) (B*2^s)):=by unfold aO;rw[<-axQ,b',List.take_append_of_le_length Om,auZ Om]
 generalize q':fF (m+2) (B*2^s)=v at *
 have r':(fF (m+2+1) (B*2^s)).length=m+2+1:=oR _ _;have Q:∀i (h:i<l'' v),(aO (fF (m+2+1) (B*2^s)))[i]?=some [.int .u32 ((v[i]:Nat):Int)]:=by intro i h;have w:(aO v)[i]?=some [.int .u32 ((v[i]:Nat):Int)]:=cC v h;rw[<-σ,List.getElem?_take_of_lt Om]at w;exact w
 have g1:=Q (m+1) Om;have g0:=Q m Om;have htop:2147483648<=v[m+1]:=by
  have w:=cV v (Om:m+1<l'' v);rw[auZ Om,vv]at w;have M:=gO (Lv.take (m+1));rw[auU,axH Om]at M;rcases avF v[m+1] 2147483648 with h|h
  exfalso;have h3:4294967296^(m+1)*(v[m+1]+1)<=4294967296^(m+1)*2147483648:=awZ _ h;rw[auW,Nat.mul_one]at h3;rw[avO 2147483648]at U;omega;exact h
 have p':=Lv _ (auH (Om:m+1<l'' v));have o':=Lv _ (auH (Om:m<l'' v));have w1:u_.wrap ((v[m+1]:Nat):Int)=((v[m+1]:Nat):Int):=bN Om;have w0:u_.wrap ((v[m]:Nat):Int)=((v[m]:Nat):Int):=bN Om;have j1:i_.wrap (((m+2:Nat):Int)-1)=((m+1:Nat):Int):=wO_
 have j0:i_.wrap (((m+2:Nat):Int)-2)=((m:Nat):Int):=wO_
 have d1:((m+1:Nat):Int)<((m+2:Nat):Int):=Om;have d0:((m:Nat):Int)<((m+2:Nat):Int):=Om;have jq:i_.wrap ((l:Int)-1)=(l:Int)-1:=wrap_i64 Om Om;simp only[go_sem];refine bV .nil dY a_ ?_;simp only[go_sem,j1,j0,d1,d0,υ,g1,g0,w1,w0,jq];have ι:A*2^s<4294967296^(nl A+1):=by
  have h0:2^s<=4294967296:=by have:(2:Nat)^s<=2^32:=ayJ aU Om;simpa using this
  have w:A*2^s<4294967296^nl A*2^s:=Nat.mul_lt_mul_of_pos_right S F;have M:4294967296^nl A*2^s<=4294967296^nl A*4294967296:=awZ _ h0;rw[awL];omega
 have LU:=pZ (nl A+1) (A*2^s);have lU:=oR (nl A+1) (A*2^s);have vU:val (fF (nl A+1) (A*2^s))=A*2^s:=sG ι;have hI:sV (A*2^s) (val v) (m+2) (nl A+1) l l (fF (nl A+1) (A*2^s)) (auL l 0):=by
  refine⟨lU,List.length_replicate,LU,BN _,by rw[vU,xJ];omega,?_,λi x _ hx=>Kc hx⟩;rw[AG LU Om,vU,vv,ayB (axU aU)];have w:A*2^s<4294967296^nl A*2^s:=Nat.mul_lt_mul_of_pos_right S F;have hx:nl A=m+1+l:=Om;have M:4294967296^nl A=4294967296^(m+1)*4294967296^l:=by rw[hx,Nat.pow_add]
  have h3:2^s<=2147483648:=by have:(2:Nat)^s<=2^31:=ayJ aU hs;simpa using this
  have h4:4294967296^nl A*2^s<=(2147483648*4294967296^(m+1))*4294967296^l:=by rw[M,avO (4294967296^(m+1)*4294967296^l),<-avK];exact avL _ (avL _ h3)
  have h5:(2147483648*4294967296^(m+1))*4294967296^l<=B*2^s*4294967296^l:=avL _ U;omega
 have β:=Hm (C:=C) K.D (A*2^s) m (nl A+1) l o o2 J s v (fF (m+2+1) (B*2^s)) τ q1 q2 Lv lv σ Om htop a' Om _ hI;simp only[go_sem]at β;refine β _ _ _ ?_ (by simp only[go_sem,e',f']) (by simp only[go_sem,υ]) Sq ?_;unfold dI;exact Lq;clear β;intro U' y F' u N;have hu:val U'<val v:=by have:=u.r;rwa[avR]at this
 have Z:=u.v;rw[vv]at hu Z;have Θ:0<B*2^s:=Om;have Γ:val y=A/B:=by
  have:A*2^s/(B*2^s)=val y:=by rw[<-Z,Nat.add_mul_div_right _ _ Θ,ayO hu,avA]
  rw[<-this,Nat.mul_div_mul_right _ _ F]
 have Δ:val U'/2^s=A%B:=by
  have:A*2^s%(B*2^s)=val U':=by rw[<-Z,Nat.add_mul_mod_self_right,awF hu]
  rw[<-this,Nat.mul_mod_mul_right,Nat.mul_div_cancel _ F]
 have g8:=N 8 _ (by unfold dI;simp only[go_sem];rfl);have g9:=N 9 _ (by unfold dI;simp only[go_sem];rfl);have ψ:=N 11 _ (by unfold dI;simp only[go_sem];rfl);have ω:=N 12 _ (by unfold dI;simp only[go_sem];rfl);have rest:=Hn (C:=C) o (nl A+1) J l (m+2) s U' y H q1 u.limU u.lu' Om Om;simp only[go_sem]at rest;simp only[go_sem];refine rest _ _ g8 g9 ψ ω ?_;clear rest;intro or F2 H2 r1 r2 ζ η Y;rw[Δ]at Y;have c':=ζ 12 _ (by unfold rFr;simp only[go_sem];rfl);have d':=ζ 19 _ (by unfold rFr;simp only[go_sem];rfl);have θ:A%B<4294967296^(m+2):=by have w:A%B<B:=awJ _ V;have M:B<4294967296^nl B:=(kY B _).1 (auG _);rw[hm]at M;omega
 have LR:=pZ (m+2) (A%B);have lR:=oR (m+2) (A%B);have vR:val (fF (m+2) (A%B))=A%B:=sG θ;have nQ:=iJ u.limQ;have nR:=iJ LR;have e1:=u.lq';generalize m':fF (m+2) (A%B)=R at *
 simp only[go_sem];refine bV .nil Yo a_ ?_;simp only[go_sem,c'];have γ:=K.lengthO y J u.limQ Om;rw[e1]at γ;have δ:=K.lengthO R or LR Om;rw[lR]at δ;refine cw (o:=J) (x:=.rows 1 (aO y)) (v:=.j (nl (val y):Nat)) rfl η γ (A4 J y) (λr H' hr=>⟨hr.2 y u.limQ (by rw[cA]),hr.1⟩) rfl a_ ?_;have c4:((nl (val y):Nat):Int)<=(l:Nat):=Om;simp only[go_sem,c4,d',Nat.sub_zero];refine cw (o:=or) (x:=.rows 1 (aO R)) (v:=.j (nl (val R):Nat)) rfl Y δ (A4 or R) (λr H' hr=>⟨hr.2 R LR (by rw[cA]),hr.1⟩) rfl a_ ?_;have c5:((nl (val R):Nat):Int)<=((m+2:Nat):Int):=Om;simp only[go_sem,c5];refine Vs (o1:=J) (o2:=or) (s1:=1) (s2:=1) (k1:=nl (val y)) (k2:=nl (val R)) (rs1:=aO y) (rs2:=aO R) (.inr rfl) (λh=>r2 h.symm) rfl rfl η Y (by rw[cP];exact nQ) (by rw[cP];exact nR) (wW _ _ _ _) rfl ⟨?_,rfl⟩;have t1:(aO y).take (nl (val y))=aO (aM (A/B)):=by have:=lI u.limQ;rw[Γ]at this ⊢;exact this
 have t2:(aO R).take (nl (val R))=aO (aM (A%B)):=by have:=lI LR;rw[vR]at this ⊢;exact this
 rw[t1,t2];exact .refl _
def Y6(a b:Nat):PF:=((n_.set 0 (aL (aM a))).set 1 (aL (aM b)))
theorem agN(L:vM C)(i:∀A B:Nat,B≠0->nl A<=900->nl B<=900->aG C 136 [aL (aM A),aL (aM B)] .nil (aJ (uS A B)))(a b:N_)(F:Lim a)(hb:Lim b)(J:l'' a<=35184372087808)(K:l'' b<=35184372087808) :
  An.wp C (aX Qj.res (cN (if fJ (val a) (val b)then .tup [aL [],.j 2]else .tup [aL (aM (auF (val a) (val b))),.j 0]))) (g_ [aL a,aL b]) .nil:=by
 simp only[go_sem,An,Qj];refine aA (L.large a F J) rfl ?_;by_cases l:nl (val a)>512;simp only[go_sem,l];rw[aD (by simp[fJ,l])];exact fZ rfl;simp only[go_sem,l];refine aA (L.large b hb K) rfl ?_;by_cases u:nl (val b)>512;simp only[go_sem,u];rw[aD (by simp[fJ,u])];exact fZ rfl;rw[aB (by simp[fJ,l,u])];simp only[go_sem,u];refine aA (L.trim a F J) rfl ?_;simp only[go_sem];refine aA (L.trim b hb K) rfl ?_;simp only[go_sem];refine wp_loop (α:=Nat × Nat) (λt=>Y6 t.1 t.2) (λ_=>.nil) (λt=>auF t.1 t.2=auF (val a) (val b)/\nl t.1<=512/\nl t.2<=512) (λt=>t.2) (val a,val b) ⟨rfl,by simp only;omega,by simp only;omega⟩ ?_ a_ ?_;unfold Y6;exact Lq;rintro⟨x,y⟩ ⟨E,M,H⟩;simp only at E M H;simp only[go_sem,Y6,bD];by_cases w:y=0;subst w;have:¬((nl 0:Nat):Int)>0:=by rw[EW];decide
 simp only[go_sem,this];refine aY (vs:=[aL (aM x),.j 0]) (.inr rfl) .nil rfl a_ ⟨?_,rfl⟩;rw[<-E,Nat.gcd_zero_right];exact .refl _;have N:nl y≠0:=λh=>w (kK.1 h);have:((nl y:Nat):Int)>0:=Om;simp only[go_sem,this];refine aA (i x y w Om Om) rfl ?_;simp only[go_sem,uS];have hlt:x%y<y:=awJ _ (axJ w);refine aF (y,x%y) ⟨?_,H,?_⟩ hlt ?_ a_;simp only;rw[<-E,Nat.gcd_comm y,<-Nat.gcd_rec y x,Nat.gcd_comm];have:=iX (Nat.le_of_lt hlt);simp only;omega;exact Lq
def qC(A B:Nat):PV:=if fJ A B then .tup [aL [],aL [],.int .i64 2]else if B=0 then .tup [aL [],aL [],.int .i64 3]else .tup [aL (aM (A/B)),aL (aM (A%B)),.int .i64 0]
def Qg:Spec:=λname vs=>match name,vs with
 |138,[x]=>some ([],λ_=>aJ (.int .i64 (nl (val (jU x)):Nat)))
 |136,[x,y]=>some ([],λ_=>aJ (uS (val (jU x)) (val (jU y))))
 |_,_=>none
theorem UE(xs:N_):Qg 138 [aL xs]=some ([],λ_=>aJ (.j (nl (val xs):Nat))):=by
 show some _=_;rw[eW]
theorem Hl(A B:Nat):Qg 136 [aL (aM A),aL (aM B)]=some ([],λ_=>aJ (uS A B)):=by
 show some _=_;rw[eW,eW,aV,aV]
theorem wZ{res:List dZ}{F:PF}{H:PH}{e:Int}(h:dZ.evs F H res=some [.aE,.aE,.j e]):aX res (cN (.tup [aL [],aL [],.j e])) .ret F H:=by
 refine aY (.inr rfl) .nil h a_ ⟨?_,rfl⟩;refine .tup rfl λj p q hp i=>?_
 match j with
 |0=>simp at hp i;subst hp;subst i;exact .nil 1
 |1=>simp at hp i;subst hp;subst i;exact .nil 1
 |2=>simp at hp i;subst hp;subst i;exact .refl _
 |j+3=>simp at hp
theorem agK(L:vM C)(u:∀A B:Nat,B≠0->nl A<=900->nl B<=900->aG C 136 [aL (aM A),aL (aM B)] .nil (aJ (uS A B)))(a b:N_)(y:Lim a)(hb:Lim b)(J:l'' a<=35184372087808)(H:l'' b<=35184372087808) :
  Al.wp C (aX Qe.res (cN (qC (val a) (val b)))) (g_ [aL a,aL b]) .nil:=by
 simp only[go_sem,Al,Qe];refine aA (L.large a y J) rfl ?_;by_cases i:nl (val a)>512;simp only[go_sem,i];rw[show qC (val a) (val b)=.tup [aL [],aL [],.j 2] by simp[qC,fJ,i]];exact wZ rfl;simp only[go_sem,i];refine aA (L.large b hb H) rfl ?_;by_cases w:nl (val b)>512;simp only[go_sem,w];rw[show qC (val a) (val b)=.tup [aL [],aL [],.j 2] by simp[qC,fJ,w]];exact wZ rfl;simp only[go_sem,w];refine aA (L.length b hb H) rfl ?_;by_cases l:val b=0;have:((nl (val b):Nat):Int)=0:=by rw[l,EW];rfl
 simp only[go_sem,cI this];rw[show qC (val a) (val b)=.tup [aL [],aL [],.j 3] by simp[qC,fJ,i,l,EW]];exact wZ rfl;have K:nl (val b)≠0:=λh=>l (kK.1 h);rw[show qC (val a) (val b)=.tup [aL (aM (val a/val b)),aL (aM (val a%val b)),.j 0] by simp[qC,fJ,i,w,l]];simp only[go_sem,bP (show((nl (val b):Nat):Int)≠0 by omega)];refine bV .nil Qg a_ ?_;simp only[go_sem];have M:=iJ y;have N:=iJ hb;have E:((nl (val a):Nat):Int)<=(l'' a:Nat):=Om;have F:((nl (val b):Nat):Int)<=(l'' b:Nat):=Om;refine cB (UE a) (L.length a y J) rfl a_ ?_;simp only[go_sem,E,or_true,avR,lI y];refine cB (UE b) (L.length b hb H) rfl a_ ?_;simp only[go_sem,F,or_true,avR,lI hb];refine cB (Hl (val a) (val b)) (u _ _ l Om Om) rfl a_ ?_;simp only[go_sem,uS];exact aY (.inr rfl) .nil rfl a_ ⟨.refl _,rfl⟩
def mH:=bR [] Proofs.Tryz.f55
def NN:=aC mH 5
def CX:=aC mH 6
def NO:=aC mH 7
def TN:aK:=(sq (aC mH 0) (.seq (sq (aC mH 1) (sq (aC mH 2) (.cond (Tm 18) (sq (aC mH 3) (.region (aC mH 4))) .skip))) (mM NN 40 CX (sq NO .ret))))
def mj:=bR [] Proofs.Tryz.f102
def ZK:=bX mj
def C4:=bR [1] Proofs.Tryz.f103
def mm:=bX C4
def l8:=bR [] Proofs.Tryz.f21
def l9:=bX l8
def O0:=bR [] Proofs.Tryz.f56
def y8:=bX O0
def ml:=bR [1] Proofs.Tryz.f62
def ZL:=bX ml
def KY:=bR [1] Proofs.Tryz.f123
def TQ:=bX KY
def wB:=bR [2,3] Proofs.Tryz.f63
def EN:=aC wB 3
def v6:=aC wB 4
def KV:=aC wB 5
def v7:=aC wB 6
def XL:=aC wB 7
def db:=aC wB 8
def dd:=aC wB 9
def za:aK:=(sq (aC wB 0) (mM (aC wB 1) 16 (aC wB 2) (dq (eY wB 0) (dq (eY wB 1) (.seq (.block 0 (sq EN (.cond (Tm 42) (sq v6 .ret) (sq KV (.cond (Tm 49) (sq v7 .ret) (sq XL (.cond (Tm 51) (sq db .ret) .skip))))))) (sq dd .ret))))))
def c9:=bR [2,3] Proofs.Tryz.f97
def y9:=bX c9
def wa:=bR [] Proofs.Tryz.f114
def zf:=bX wa
theorem CoL.nil:CoL [] []:=.refl _
theorem CoL.cons{p q:PV}{ps u:V_}(h:Co p q)(l:CoL ps u):CoL (p::ps) (q::u):=
 ⟨by simp[l.len],λj a b i hb=>by
  cases j with
  |zero=>simp at i hb;subst i;subst hb;exact h
  |succ j=>exact l.at_ j a b (by simpa using i) (by simpa using hb)⟩
theorem CoL.agg{ps i:V_}(h:CoL ps i):Co (.agg ps) (.agg i):=.agg h.len h.at_
theorem CoL.tup{ps i:V_}(h:CoL ps i):Co (.tup ps) (.tup i):=.tup h.len h.at_
structure xO(C:Ctx):Prop extends vM C where
 bits:∀xs,Lim xs->l'' xs<=35184372087808->aG C 128 [aL xs] .nil (aJ (.int .i64 (dC (val xs):Nat)))
 add:∀xs ys,Lim xs->Lim ys->l'' xs<=35184372087808->l'' ys<=35184372087808->aG C 127 [aL xs,aL ys] .nil (aJ (opV (fJ (val xs) (val ys)) (val xs+val ys)))
 sub:∀xs ys,Lim xs->Lim ys->l'' xs<=35184372087808->l'' ys<=35184372087808->aG C 134 [aL xs,aL ys] .nil (aJ (wN (val xs) (val ys)))
 mul:∀xs ys,Lim xs->Lim ys->l'' xs<=35184372087808->l'' ys<=35184372087808->aG C 133 [aL xs,aL ys] .nil (aJ (opV (fJ (val xs) (val ys)) (val xs*val ys)))
 gcd:∀xs ys,Lim xs->Lim ys->l'' xs<=35184372087808->l'' ys<=35184372087808->aG C 131 [aL xs,aL ys] .nil (aJ (if fJ (val xs) (val ys)then .tup [aL [],.int .i64 2]else .tup [aL (aM (auF (val xs) (val ys))),.int .i64 0]))
 div:∀xs ys,Lim xs->Lim ys->l'' xs<=35184372087808->l'' ys<=35184372087808->aG C 130 [aL xs,aL ys] .nil (aJ (qC (val xs) (val ys)))
theorem kJ{a b:Nat}(i:nl a<=512)(hb:nl b<=512):fJ a b=false:=by
 simp[fJ];omega
theorem mY{a b m n:Nat}(i:nl a<=m)(hb:nl b<=n):nl (a*b)<=m+n:=by
 rw[kY]at i hb ⊢;rw[Nat.pow_add];by_cases h:b=0
 ·subst h;exact Nat.mul_pos (axU aU) (axU aU)
 ·calc a*b<4294967296^m*b:=Nat.mul_lt_mul_of_pos_right i (axJ h)
   _<=4294967296^m*4294967296^n:=awZ _ (Nat.le_of_lt hb)
theorem GO{n:Nat}(h:nl n<=512):szV n=.tup [aL (aM n),.j 0]:=by
 have:¬nl n>512:=Om;simp[szV,szL,szE,this]
theorem T5(L:xO C)(a b:N_)(i:Lim a)(hb:Lim b)(l:l'' a<=35184372087808)(u:l'' b<=35184372087808)(w:nl (val a)<=256)(y:nl (val b)<=256) :
  ZK.wp C (aX mj.res (aJ (aL (aM (val a*val b))))) (g_ [aL a,aL b]) .nil:=by
 simp only[go_sem,ZK,mj];refine aA (L.mul a b i hb l u) rfl ?_;have:=mY w y;rw[kJ Om Om,opV,GO Om];simp only[go_sem];refine dA ?_;rfl
abbrev fI(neg:Bool)(a b:N_):V_:=[.bool neg,aL a,aL b]
theorem Y2(L:xO C)(neg:Bool)(a b:N_)(i:Lim a)(l:l'' a<=35184372087808) :
  mm.wp C (aX C4.res (aJ (.bool (decide (val a=0))))) (g_ [.agg (fI neg a b)]) .nil:=by
 simp only[go_sem,mm,C4];refine aA (L.bits a i l) rfl ?_;simp only[go_sem];refine dA ?_;have:=@mT (val a);by_cases c:val a=0;rw[cI Om,bH c];rfl;rw[bP Om,bT c];rfl
def cK(a b:Nat):Bool:=decide (0<dC b)&&decide (dC b<=4096)&&decide (dC a<=4096)
theorem T6(L:xO C)(neg:Bool)(a b:N_)(y:Lim a)(hb:Lim b)(A:l'' a<=35184372087808)(E:l'' b<=35184372087808) :
  ZL.wp C (aX ml.res (aJ (.bool (cK (val a) (val b))))) (g_ [.agg (fI neg a b)]) .nil:=by
 simp only[go_sem,ZL,ml];refine aA (L.bits b hb E) rfl ?_;by_cases u:0<dC (val b);have i:((dC (val b):Nat):Int)>0:=Om;by_cases w:dC (val b)<=4096;have l:((dC (val b):Nat):Int)<=4096:=Om;simp only[go_sem,i,l];refine aA (L.bits a y A) rfl ?_;simp only[go_sem];refine dA ?_;show PV.bool (decide _)=_;rw[cK,bH u,bH w,auV,auV];congr 1;rw[decide_eq_decide];omega;have l:¬((dC (val b):Nat):Int)<=4096:=Om;simp only[go_sem,i,l];refine dA ?_;show PV.bool _=_;simp[cK,u,w];have i:¬((dC (val b):Nat):Int)>0:=Om;simp only[go_sem,i];refine dA ?_;show PV.bool _=_;simp[cK,u]
theorem aeQ(L:xO C)(v:Int)(i:-9223372036854775808<=v)(l:v<=9223372036854775807) :
  y8.wp C (aX O0.res (aJ (aL (aM v.natAbs)))) (g_ [.j v]) .nil:=by
 simp only[go_sem,y8,O0];by_cases c:v<0;have e:u_.wrap (0-u_.wrap v)=(v.natAbs:Int):=by rw[iY,iY];omega
 simp only[go_sem,c,e];refine aA (L.make v.natAbs Om) rfl ?_;simp only[go_sem];refine dA ?_;rfl;have e:u_.wrap v=(v.natAbs:Int):=by rw[iY];omega
 simp only[go_sem,c,e];refine aA (L.make v.natAbs Om) rfl ?_;simp only[go_sem];refine dA ?_;rfl
abbrev CY(e:Int):PV:=.tup [.agg (fI false [] []),.int .i64 e]
abbrev Pa(neg:Bool)(a b:Nat):PV:=.tup [.agg (fI neg (aM a) (aM b)),.int .i64 0]
def zW(neg:Bool)(a b:Nat):PV:=
 if dC (a/auF a b)>4096\/dC (b/auF a b)>4096 then CY 2 else Pa (neg&&decide (a/auF a b≠0)) (a/auF a b) (b/auF a b)
theorem iN{res:List dZ}{F:PF}{H:PH}{e:Int}(h:dZ.evs F H res=some [.agg [.bool false,.aE,.aE],.j e]):aX res (cN (CY e)) .ret F H:=
 aY (.inr rfl) .nil h a_ ⟨CoL.tup (.cons (CoL.agg (.cons (.refl _) (.cons (.nil 1) (.cons (.nil 1) .nil)))) (.cons (.refl _) .nil)),rfl⟩
theorem Ey{n:Nat}:dC n>1↔n>1:=by
 have:=pG n 1;omega
theorem pe{a n:Nat}(g:Nat)(h:nl a<=n):nl (a/g)<=n:=avJ (iX (axT _ _)) h
theorem TO(L:xO C)(neg:Bool)(a b:N_)(w:Lim a)(hb:Lim b)(y:l'' a<=35184372087808)(A:l'' b<=35184372087808)(o:Nat)(F:PF)(H:PH)
  (f0:F 0=some (.bool neg)) (f1:F 1=some (aL a)) (f2:F 2=some (aL b)) (f6:F 6=some (.ptr o 3 0 0)) (f7:F 7=some (.j 0)) (i:H o=some (.rows 3 [[.bool false,.aE,.aE]])) :
  aK.wp C (.seq (.seq (.region NN) (.cond (.tmp 40) (.seq (.region CX) .ret) .skip)) (.seq (.region NO) .ret)) (aX mH.res (cN (if dC (val a)>4096\/dC (val b)>4096 then CY 2 else Pa (neg&&decide (val a≠0)) (val a) (val b)))) F H:=by
 have fin:∀(r:P2_) F H,F 6=some (.ptr o 3 0 0)->F 7=some (.j 2)->H o=some (.rows 3 [[.bool false,.aE,.aE]])->aX mH.res (cN (CY 2)) .ret F H:=by intro r F H K h7 h;refine iN ?_;simp only[go_sem,mH,K,h7,h]
 simp only[go_sem,NN,f1];refine aA (L.bits a w y) rfl ?_;by_cases E:dC (val a)>4096;have l:((dC (val a):Nat):Int)>4096:=Om;rw[aD (.inl E)];simp only[go_sem,l,CX,f6,i];exact fin [] _ _ (by simp only[go_sem,f6]) rfl Sq;have l:¬((dC (val a):Nat):Int)>4096:=Om;simp only[go_sem,l,f2];refine aA (L.bits b hb A) rfl ?_;by_cases J:dC (val b)>4096;have u:((dC (val b):Nat):Int)>4096:=Om;rw[aD (.inr J)];simp only[go_sem,u,CX,f6,i];exact fin [] _ _ (by simp only[go_sem,f6]) rfl Sq
 ·have u:¬((dC (val b):Nat):Int)>4096:=Om;rw[aB Om];have last:∀F:PF,F 1=some (aL a)->F 2=some (aL b)->F 6=some (.ptr o 3 0 0)->∀(q:Bool),q=(neg&&decide (val a≠0))->F 47=some (.bool q) ->
    True:=λ_ _ _ _ _ _ _=>trivial
  simp only[go_sem,u,NO,f0,f1,f2,f6,i];cases neg with
  |false =>simp only[go_sem,f0,f1,f2,f6,i];refine aA (L.trim a w y) rfl ?_;simp only[go_sem,f0,f1,f2,f6,i];refine aA (L.trim b hb A) rfl ?_;simp only[go_sem,f0,f1,f2,f6,i,auN];refine aY (.inr rfl) .nil (vs:=[.agg (fI false (aM (val a)) (aM (val b))),.int .i64 0]) ?_ a_ ⟨.refl _,rfl⟩;simp only[go_sem,mH,f6,i]
  |true=>
   simp only[go_sem,f0,f1,f2,f6,i];refine aA (L.bits a w y) rfl ?_;have e:decide (((dC (val a):Nat):Int)>0)=decide (val a≠0):=by have:=@mT (val a);rw[decide_eq_decide];omega
   simp only[go_sem,f0,f1,f2,f6,i,e];refine aA (L.trim a w y) rfl ?_;simp only[go_sem,f0,f1,f2,f6,i];refine aA (L.trim b hb A) rfl ?_;simp only[go_sem,f0,f1,f2,f6,i,auV];refine aY (.inr rfl) .nil (vs:=[.agg (fI (decide (val a≠0)) (aM (val a)) (aM (val b))),.j 0]) ?_ a_ ⟨.refl _,rfl⟩;simp only[go_sem,mH,f6,i]
theorem O6(L:xO C)(neg:Bool)(a b:N_)(A:Lim a)(hb:Lim b)(E:l'' a<=35184372087808)(J:l'' b<=35184372087808)(K:nl (val a)<=512)(w:nl (val b)<=512)(M:val b≠0) :
  TN.wp C (aX mH.res (cN (zW neg (val a) (val b)))) (g_ [.bool neg,aL a,aL b]) .nil:=by
 simp only[go_sem,TN];refine aS λo O=>?_;simp only[go_sem];refine aA (L.gcd a b A hb E J) rfl ?_;rw[kJ K w];simp only[go_sem];have l:auF (val a) (val b)≠0:=by intro h;exact M (Nat.gcd_eq_zero_iff.1 h).2
 have u:nl (auF (val a) (val b))<=512:=avJ (iX (Nat.gcd_le_right _ (axJ M))) w;have i:(aM (auF (val a) (val b))).length<=35184372087808:=by rw[bD];omega
 refine aA (L.bits _ (bA _) i) rfl ?_;rw[aV];by_cases c:auF (val a) (val b)>1;have y:((dC (auF (val a) (val b)):Nat):Int)>1:=by have:=Ey.2 c;omega
 simp only[go_sem,y];refine aA (L.div a _ A (bA _) E i) rfl ?_;rw[aV,qC,kJ K u,aB aU,aB l];simp only[go_sem];refine aA (L.div b _ hb (bA _) J i) rfl ?_;rw[aV,qC,kJ w u,aB aU,aB l];simp only[go_sem];have:=TO L neg (aM (val a/auF (val a) (val b))) (aM (val b/auF (val a) (val b))) (bA _) (bA _) (by rw[bD];have:=pe (auF (val a) (val b)) K;omega) (by rw[bD];have:=pe (auF (val a) (val b)) w;omega) o;rw[aV,aV]at this;have:=λF H=>this F H;simp only[aK.wp,go_sem]at this;exact this _ _ rfl rfl rfl rfl rfl Sq;have y:¬((dC (auF (val a) (val b)):Nat):Int)>1:=by have:=(@Ey (auF (val a) (val b)));omega
 have N:auF (val a) (val b)=1:=Om;simp only[go_sem,y];rw[zW,N,Nat.div_one,Nat.div_one];have:=TO L neg a b A hb E J o;simp only[aK.wp,go_sem]at this;exact this _ _ rfl rfl rfl rfl rfl Sq
structure HC(C:Ctx):Prop extends xO C where
 times:∀a b,Lim a->Lim b->l'' a<=35184372087808->l'' b<=35184372087808->nl (val a)<=256->nl (val b)<=256->aG C 121 [aL a,aL b] .nil (aJ (aL (aM (val a*val b))))
 zero:∀neg a b,Lim a->l'' a<=35184372087808->aG C 122 [.agg (fI neg a b)] .nil (aJ (.bool (decide (val a=0))))
 valid:∀neg a b,Lim a->Lim b->l'' a<=35184372087808->l'' b<=35184372087808->aG C 118 [.agg (fI neg a b)] .nil (aJ (.bool (cK (val a) (val b))))
 abs:∀v:Int,-9223372036854775808<=v->v<=9223372036854775807->aG C 119 [.int .i64 v] .nil (aJ (aL (aM v.natAbs)))
 lowest:∀neg a b,Lim a->Lim b->l'' a<=35184372087808->l'' b<=35184372087808->nl (val a)<=512->nl (val b)<=512->val b≠0->aG C 120 [.bool neg,aL a,aL b] .nil (aJ (zW neg (val a) (val b)))
def vQ(n d:Int):PV:=if d=0 then CY 3 else zW (decide (n<0) != decide (d<0)) n.natAbs d.natAbs
theorem iA{n k:Nat}(h:n<4294967296^k):nl n<=k:=(kY _ _).2 h
theorem d8(neg:Bool)(a b:Nat):∃i x y e,zW neg a b=.tup [.agg (fI i x y),.j e]:=by
 unfold zW;split;exact⟨_,_,_,_,rfl⟩;exact⟨_,_,_,_,rfl⟩
theorem Y1(L:HC C)(n d:Int)(l:-9223372036854775808<=n)(u:n<=9223372036854775807)(w:-9223372036854775808<=d)(A:d<=9223372036854775807) :
  l9.wp C (aX l8.res (cN (vQ n d))) (g_ [.j n,.j d]) .nil:=by
 simp only[go_sem,l9];refine aS λo F=>?_;unfold vQ;by_cases c:d=0;subst c;simp only[go_sem];refine iN ?_;simp only[go_sem,l8];rw[aB c];simp only[go_sem,bP c];refine aA (L.abs n l u) rfl ?_;simp only[go_sem];refine aA (L.abs d w A) rfl ?_;simp only[go_sem];have H:nl n.natAbs<=2:=iA Om;have J:nl d.natAbs<=2:=iA Om;have low:=L.lowest (decide (n<0) != decide (d<0)) (aM n.natAbs) (aM d.natAbs) (bA _) (bA _) (by rw[bD];omega) (by rw[bD];omega);rw[aV,aV]at low;have low:=low Om Om Om;refine aA low rfl ?_;obtain⟨i,x,y,e,E⟩:=d8 (decide (n<0) != decide (d<0)) n.natAbs d.natAbs;rw[E];simp only[go_sem];exact aY (.inr rfl) .nil (vs:=[.agg (fI i x y),.j e]) (by simp only[go_sem,l8]) a_ ⟨.refl _,rfl⟩
theorem fT{a b:Nat}:cK a b=true↔b≠0/\nl b<=128/\nl a<=128:=by
 have i:=kC b 128;have l:=kC a 128;have u:=@mT b;simp only[cK,auI,dT_];omega
def XZ(neg:Bool)(a b:Nat):PV:=if cK a b then zW neg a b else CY 1
theorem O9(L:HC C)(neg:Bool)(a b:N_)(l:Lim a)(hb:Lim b)(u:l'' a<=35184372087808)(w:l'' b<=35184372087808) :
  TQ.wp C (aX KY.res (cN (XZ neg (val a) (val b)))) (g_ [.agg (fI neg a b)]) .nil:=by
 simp only[go_sem,TQ];refine aS λo H=>?_;simp only[go_sem];refine aA (L.valid neg a b l hb u w) rfl ?_;unfold XZ;cases E:cK (val a) (val b)with
 |false =>simp only[go_sem,auY];refine iN ?_;simp only[go_sem,KY]
 |true =>obtain⟨F,J,K⟩:=fT.1 E;simp only[go_sem,auO];refine aA (L.lowest neg a b l hb u w Om Om F) rfl ?_;obtain⟨i,x,y,e,A⟩:=d8 neg (val a) (val b);rw[A];simp only[go_sem];exact aY (.inr rfl) .nil (vs:=[.agg (fI i x y),.int .i64 e]) (by simp only[go_sem,KY]) a_ ⟨.refl _,rfl⟩
def rJ(i:Bool)(a1 b1:Nat)(l:Bool)(a2 b2:Nat):Int:=
 match i&&decide (a1≠0),l&&decide (a2≠0)with
 |true,true=>- eI (a1*b2) (a2*b1)
 |true,false=>-1
 |false,true=>1
 |false,false=>eI (a1*b2) (a2*b1)
def CV(i:Bool)(a1 b1:Nat)(l:Bool)(a2 b2:Nat):PV:=
 if cK a1 b1&&cK a2 b2 then .tup [.int .i64 (rJ i a1 b1 l a2 b2),.int .i64 0]else .tup [.int .i64 0,.int .i64 1]
def fr1:PV->N_
 | .agg [_,a,_]=>jU a
 |_=>[]
def frS:Spec:=λname vs=>match name,vs with
 |121,[x,y]=>some ([],λ_=>aJ (aL (aM (val (jU x)*val (jU y)))))
 |129,[x,y]=>some ([],λ_=>aJ (.int .i64 (eI (val (jU x)) (val (jU y)))))
 |122,[x]=>some ([],λ_=>aJ (.bool (decide (val (fr1 x)=0))))
 |_,_=>none
theorem BJ(a b:N_):frS 121 [aL a,aL b]=some ([],λ_=>aJ (aL (aM (val a*val b)))):=by
 show some _=_;rw[eW,eW]
theorem aeX(a b:N_):frS 129 [aL a,aL b]=some ([],λ_=>aJ (.j (eI (val a) (val b)))):=by
 show some _=_;rw[eW,eW]
theorem de(neg:Bool)(a b:N_):frS 122 [.agg (fI neg a b)]=some ([],λ_=>aJ (.bool (decide (val a=0)))):=by
 show some _=_;rw[fr1,eW]
theorem X7(a b:Nat):i_.wrap (0-eI a b)=- eI a b:=by
 unfold eI;split;rfl;split<;>rfl
theorem aeS(L:HC C)(E y:Bool)(a1 b1 a2 b2:N_)(u:Lim a1)(H:Lim b1)(i:Lim a2)(J:Lim b2)
  (w:l'' a1<=35184372087808) (K:l'' b1<=35184372087808) (l:l'' a2<=35184372087808) (M:l'' b2<=35184372087808) :
  za.wp C (aX wB.res (cN (CV E (val a1) (val b1) y (val a2) (val b2)))) (g_ [.agg (fI E a1 b1),.agg (fI y a2 b2)]) .nil:=by
 simp only[go_sem,za];refine aA (L.valid E a1 b1 u H w K) rfl ?_;unfold CV;cases V:cK (val a1) (val b1)with
 |false =>simp only[go_sem,auY,auN];exact aY (.inr rfl) .nil (vs:=[.int .i64 0,.int .i64 1]) rfl a_ ⟨.refl _,rfl⟩
 |true=>
  obtain⟨v1,Y,Z⟩:=fT.1 V;simp only[go_sem,auO];refine aA (L.valid y a2 b2 i J l M) rfl ?_;cases W:cK (val a2) (val b2)with
  |false =>simp only[go_sem,auY,awB];exact aY (.inr rfl) .nil (vs:=[.int .i64 0,.int .i64 1]) rfl a_ ⟨.refl _,rfl⟩
  |true=>
   obtain⟨w1,w2,w3⟩:=fT.1 W;simp only[go_sem,auO,awP];refine bV .nil frS a_ ?_;simp only[go_sem];refine cB (BJ a1 b2) (L.times a1 b2 u J w M Om Om) rfl a_ ?_;simp only[go_sem];refine cB (BJ a2 b1) (L.times a2 b1 i H l K Om Om) rfl a_ ?_;simp only[go_sem];have m1:=mY Z w2;have m2:=mY w3 Y;have O:=L.cmp (aM (val a1*val b2)) (aM (val a2*val b1)) (bA _) (bA _) (by rw[bD];omega) (by rw[bD];omega);have Q:=aeX (aM (val a1*val b2)) (aM (val a2*val b1));rw[aV,aV]at O Q;refine cB Q O rfl a_ ?_;simp only[go_sem];refine bV .nil frS a_ ?_;have z1:(!decide (val a1=0))=decide (val a1≠0):=by by_cases h:val a1=0<;>simp[h]
   have S:(!decide (val a2=0))=decide (val a2≠0):=by by_cases h:val a2=0<;>simp[h]
   have fin:∀(F:PF)(A B:Bool),F 6=some (.j (eI (val a1*val b2) (val a2*val b1)))->F 7=some (.bool A)->F 8=some (.bool B)->A=(E&&decide (val a1≠0))->B=(y&&decide (val a2≠0)) ->
     aK.wp C (.seq (.block 0 (.seq (.region EN) (.cond (.tmp 42) (.seq (.region v6) .ret) (.seq (.region KV) (.cond (.tmp 49) (.seq (.region v7) .ret) (.seq (.region XL) (.cond (.tmp 51) (.seq (.region db) .ret) .skip))))))) (.seq (.region dd) .ret)) (aX wB.res (cN (.tup [.j (rJ E (val a1) (val b1) y (val a2) (val b2)),.j 0]))) F .nil:=by
    intro F A B f6 f7 N U hB;rw[rJ,<-U,<-hB];cases A<;>cases B;simp only[go_sem,EN,KV,XL,dd,f6,f7,N];exact aY (.inr rfl) .nil rfl a_ ⟨.refl _,rfl⟩;simp only[go_sem,EN,KV,XL,db,f6,f7,N];exact aY (.inr rfl) .nil rfl a_ ⟨.refl _,rfl⟩;simp only[go_sem,EN,KV,v7,f6,f7,N];exact aY (.inr rfl) .nil rfl a_ ⟨.refl _,rfl⟩;simp only[go_sem,EN,v6,f6,f7,N,X7];exact aY (.inr rfl) .nil rfl a_ ⟨.refl _,rfl⟩
   simp only[aK.wp,go_sem]at fin;simp only[go_sem];cases E with
   |false=>
    simp only[go_sem];cases y with
    |false =>simp only[go_sem];exact fin _ false false rfl rfl rfl rfl rfl
    |true =>simp only[go_sem];refine cB (de true a2 b2) (L.zero true a2 b2 i l) rfl a_ ?_;simp only[go_sem,S];exact fin _ false (decide (val a2≠0)) rfl rfl rfl rfl (by rw[auV])
   |true=>
    simp only[go_sem];refine cB (de true a1 b1) (L.zero true a1 b1 u w) rfl a_ ?_;simp only[go_sem,z1];cases y with
    |false =>simp only[go_sem];exact fin _ (decide (val a1≠0)) false rfl rfl rfl (by rw[auV]) rfl
    |true =>simp only[go_sem];refine cB (de true a2 b2) (L.zero true a2 b2 i l) rfl a_ ?_;simp only[go_sem,S];exact fin _ (decide (val a1≠0)) (decide (val a2≠0)) rfl rfl rfl (by rw[auV]) (by rw[auV])
abbrev FV:=Bool × Nat × Nat
abbrev FR:=Except Int FV
def iU(neg:Bool)(a b:Nat):FR:=
 if dC (a/auF a b)>4096\/dC (b/auF a b)>4096 then .error 2 else .ok (neg&&decide (a/auF a b≠0),a/auF a b,b/auF a b)
def frV:FR->PV
 | .ok (n,a,b)=>Pa n a b
 | .error e=>CY e
theorem ER(neg:Bool)(a b:Nat):zW neg a b=frV (iU neg a b):=by
 unfold zW iU;split<;>rfl
def gY:FV->FV->FR
 |(i,a1,b1),(l,a2,b2)=>if cK a1 b1&&cK a2 b2 then
   (if i=l then iU i (a1*b2+a2*b1) (b1*b2)else if a2*b1<=a1*b2 then iU i (a1*b2-a2*b1) (b1*b2)else iU l (a2*b1-a1*b2) (b1*b2))
  else .error 1
theorem Hq{a b m:Nat}(i:nl a<=m)(hb:nl b<=m):nl (a+b)<=m+1:=by
 rw[kY]at i hb ⊢;rw[awL];omega
theorem XB(a b:Nat):(eI a b>=0)↔b<=a:=by
 unfold eI;split;constructor;intro h;exact absurd h aU;intro h;omega;split;constructor;intro h;omega;intro h;decide;constructor;intro h;omega;intro h;decide
theorem zQ(r:FR):∃i x y e,frV r=.tup [.agg (fI i x y),.j e]:=by
 rcases r with e|⟨n,a,b⟩
 exact⟨_,_,_,_,rfl⟩;exact⟨_,_,_,_,rfl⟩
theorem aeR(L:HC C)(l w:Bool)(a1 b1 a2 b2:N_)(Q:Lim a1)(K:Lim b1)(S:Lim a2)(M:Lim b2)
  (U:l'' a1<=35184372087808) (N:l'' b1<=35184372087808) (V:l'' a2<=35184372087808) (O:l'' b2<=35184372087808) :
  y9.wp C (aX c9.res (cN (frV (gY (l,val a1,val b1) (w,val a2,val b2))))) (g_ [.agg (fI l a1 b1),.agg (fI w a2 b2)]) .nil:=by
 simp only[go_sem,y9];refine aS λo ho=>?_;simp only[go_sem];refine aA (L.valid l a1 b1 Q K U N) rfl ?_;simp only[gY];cases hv:cK (val a1) (val b1)with
 |false =>simp only[go_sem,auY,auN];refine iN ?_;simp only[go_sem,c9]
 |true=>
  obtain⟨v1,v2,v3⟩:=fT.1 hv;simp only[go_sem,auO];refine aA (L.valid w a2 b2 S M V O) rfl ?_;cases hw:cK (val a2) (val b2)with
  |false =>simp only[go_sem,auY,awB];refine iN ?_;simp only[go_sem,c9]
  |true=>
   obtain⟨w1,w2,w3⟩:=fT.1 hw;simp only[go_sem,auO,awP];refine bV .nil frS a_ ?_;simp only[go_sem];refine cB (BJ a1 b2) (L.times a1 b2 Q M U O Om Om) rfl a_ ?_;simp only[go_sem];refine cB (BJ a2 b1) (L.times a2 b1 S K V N Om Om) rfl a_ ?_;simp only[go_sem];refine cB (BJ b1 b2) (L.times b1 b2 K M N O Om Om) rfl a_ ?_;simp only[go_sem];have m1:=mY v3 w2;have m2:=mY w3 v2;have m3:=mY v2 w2;have d0:val b1*val b2≠0:=Nat.mul_ne_zero v1 w1;generalize hA:val a1*val b2=A at *
   generalize hB:val a2*val b1=B at *
   generalize hD:val b1*val b2=D at *
   have fin:∀(F:PF)(H:PH)(r:FR),(∃i x y e,frV r=.tup [.agg (fI i x y),.j e]/\F 4=some (.ptr o 3 0 0)/\F 5=some (.j e)/\H o=some (.rows 3 [fI i x y]))->aX c9.res (cN (frV r)) .ret F H:=by rintro F H r ⟨i,x,y,e,he,f4,f5,hH⟩;rw[he];exact aY (.inr rfl) .nil (vs:=[.agg (fI i x y),.j e]) (by simp only[go_sem,c9,f4,f5,hH]) a_ ⟨.refl _,rfl⟩
   have Z:(l==w)=decide (l=w):=by cases l<;>cases w<;>rfl
   have low:∀neg x,nl x<=257->aG C 120 [.bool neg,aL (aM x),aL (aM D)] .nil (aJ (frV (iU neg x D))):=by
    intro neg x hx;have h1:(aM x).length<=35184372087808:=by rw[bD];omega
    have h2:(aM D).length<=35184372087808:=by rw[bD];omega
    have:=L.lowest neg (aM x) (aM D) (bA _) (bA _) h1 h2;rw[aV,aV,ER]at this;exact this Om Om d0
   have lA:(aM A).length<=35184372087808:=by rw[bD];omega
   have lB:(aM B).length<=35184372087808:=by rw[bD];omega
   try simp only[go_sem]
   by_cases c:l=w;rw[aD c];have W:(l==w)=true:=by rw[Z,bH c]
   simp only[go_sem,W];have E:=L.add (aM A) (aM B) (bA _) (bA _) lA lB;have α:=Hq m1 m2;rw[aV,aV,kJ Om Om,opV,GO Om]at E;refine aA E rfl ?_;simp only[go_sem];refine aA (low l _ Om) rfl ?_;obtain⟨i,x,y,e,u⟩:=zQ (iU l (A+B) D);rw[u];simp only[go_sem];rw[<-u];exact fin _ _ _ ⟨i,x,y,e,u,s_,s_,s_⟩;rw[aB c];have W:(l==w)=false:=by rw[Z,bT c]
   simp only[go_sem,W];have hc:=L.cmp (aM A) (aM B) (bA _) (bA _) lA lB;rw[aV,aV]at hc;refine aA hc rfl ?_;have J:∀X Y:Nat,nl X<=256->nl Y<=256->Y<=X->aG C 134 [aL (aM X),aL (aM Y)] .nil (aJ (.tup [aL (aM (X-Y)),.j 0])):=by intro X Y h1 h2 h;have:=L.sub (aM X) (aM Y) (bA _) (bA _) (by rw[bD];omega) (by rw[bD];omega);have h3:=iX (Om:X-Y<=X);rw[aV,aV,wN,kJ Om Om,aB aU,aB Om,GO Om]at this;exact this
   by_cases g:B<=A;have g':eI A B>=0:=(XB A B).2 g;rw[aD g];simp only[go_sem,g'];refine aA (J A B Om Om g) rfl ?_;simp only[go_sem];have h3:=iX (Om:A-B<=A);refine aA (low l (A-B) Om) rfl ?_;obtain⟨i,x,y,e,u⟩:=zQ (iU l (A-B) D);rw[u];simp only[go_sem];rw[<-u];exact fin _ _ _ ⟨i,x,y,e,u,s_,s_,s_⟩;have g':¬eI A B>=0:=λh=>g ((XB A B).1 h);rw[aB g];simp only[go_sem,g'];refine aA (J B A Om Om Om) rfl ?_;simp only[go_sem];have h3:=iX (Om:B-A<=B);refine aA (low w (B-A) Om) rfl ?_;obtain⟨i,x,y,e,u⟩:=zQ (iU w (B-A) D);rw[u];simp only[go_sem];rw[<-u];exact fin _ _ _ ⟨i,x,y,e,u,s_,s_,s_⟩
structure RF where
 neg:Bool
 num:N_
 den:N_
abbrev RF.cells(x:RF):V_:=fI x.neg x.num x.den
def RF.Ok(x:RF):Prop:=Lim x.num/\Lim x.den/\l'' x.num<=35184372087808/\l'' x.den<=35184372087808
def RF.v(x:RF):FV:=(x.neg,val x.num,val x.den)
abbrev frs(l:List RF):PV:=.sl 3 (l.map RF.cells)
def FV.rf:FV->RF
 |(n,a,b)=>⟨n,aM a,aM b⟩
def FV.Small:FV->Prop
 |(_,a,b)=>nl a<=900000/\nl b<=900000
theorem FV.QA(x:FV):x.rf.v=x:=by
 obtain⟨n,a,b⟩:=x;show(n,val (aM a),val (aM b))=_;rw[aV,aV]
def qS(l:List FV):FR:=l.foldlM gY (false,0,1)
theorem rI{neg:Bool}{a b:Nat}{r:FV}(h:iU neg a b=.ok r):r.Small/\r.rf.Ok:=by
 unfold iU at h;split at h;cases h;rename_i u;have i:=(kC (a/auF a b) 128).1 Om;have l:=(kC (b/auF a b) 128).1 Om;injection h with h
 subst h;refine⟨⟨by omega,by omega⟩,bA _,bA _,?_,?_⟩;show(aM _).length<=_;rw[bD];omega;show(aM _).length<=_;rw[bD];omega
theorem WY{x y r:FV}(h:gY x y=.ok r):r.rf.Ok:=by
 obtain⟨i,a1,b1⟩:=x;obtain⟨l,a2,b2⟩:=y;simp only[gY]at h;split at h;split at h;exact(rI h).2;split at h;exact(rI h).2;exact(rI h).2;cases h
theorem ZJ{α β:Type}{f:β->α->Except Int β}(l:List α)(b:β){k:Nat}(h:k<l'' l):(l.take (k+1)).foldlM f b=((l.take k).foldlM f b).bind λx=>f x l[k]:=by
 rw[awE h,List.foldlM_append];cases(l.take k).foldlM f b with
 |error e=>rfl
 |ok x =>show([l[k]]:List α).foldlM f x=f x l[k];rw[List.foldlM_cons];cases f x l[k]<;>rfl
theorem ma{α β:Type}{f:β->α->Except Int β}(l:List α)(b:β){k:Nat}{e:Int}(h:(l.take k).foldlM f b=.error e):l.foldlM f b=.error e:=by
 conv=>lhs;rw[<-axY k l,List.foldlM_append,h]
 rfl
def abL(l:List RF)(o2 o4:Nat)(k:Nat):PF:=((((((n_.set 2 (.ptr o2 3 0 0)).set 3 (.int .i64 0)).set 4 (.ptr o4 3 0 0)).set 11 (frs l)).set 12 (.int .i64 (l'' l:Nat))).set 13 (.int .i64 k))
def ix(o2 o4:Nat)(c:V_):PH:=(h_.set o2 (.rows 3 [[.bool false,.aE,.aE]])).set o4 (.rows 3 [c])
theorem afA(L:HC C)(W:∀x y:RF,x.Ok->y.Ok->aG C 113 [.agg x.cells,.agg y.cells] .nil (aJ (frV (gY x.v y.v))))(l:List RF)(hl:∀x∈l,x.Ok)(γ:l'' l<=9223372036854775807) :
  zf.wp C (aX wa.res (cN (frV (qS (l.map RF.v))))) (g_ [frs l]) .nil:=by
 simp only[go_sem,zf];refine aS λo2 δ=>?_;simp only[go_sem];refine aA (L.make 1 aU) rfl ?_;simp only[go_sem];refine aS λo4 Y=>?_;have w:o4≠o2:=by rintro rfl;simp only[aT,if_true]at Y;cases Y
 have i:o2≠o4:=Ne.symm w;simp only[go_sem];refine wp_loop (α:=Nat × FV × PV) (λt=>abL l o2 o4 t.1) (λt=>ix o2 o4 [.bool t.2.1.1,t.2.2,aL (aM t.2.1.2.2)]) (λt=>t.1<=l'' l/\((l.map RF.v).take t.1).foldlM gY (false,0,1)=.ok t.2.1/\(t.2.2=.aE/\t.2.1.2.1=0\/t.2.2=aL (aM t.2.1.2.1))/\(FV.rf t.2.1).Ok) (λt=>l'' l-t.1)
  (0,(false,0,1),.aE) ⟨auK _,rfl,.inl ⟨rfl,rfl⟩,⟨bA _,bA _,?_,?_⟩⟩ ?_ ?_ ?_
 ·show(aM 0).length<=_;rw[gL];simp
 ·show(aM 1).length<=_;rw[sB aU aU];simp
 ·unfold abL;exact lM
 ·unfold ix;exact c_ (c_ a_ (by simp only[go_sem,i,w])) (by simp only[go_sem,i,w])
 rintro⟨k,⟨V,Z,U⟩,cy⟩ ⟨hk,hf,S,N⟩;simp only at hk hf S N ⊢;have O:CoL [.bool V,cy,aL (aM U)] (FV.rf (V,Z,U)).cells:=by
  refine .cons (.refl _) (.cons ?_ (.cons (.refl _) .nil));rcases S with⟨rfl,rfl⟩|rfl
  ·show Co .aE (aL (aM 0));rw[gL];exact .nil 1
  ·exact .refl _
 simp only[go_sem,abL];by_cases hlt:k<l'' l
 ·have F:(k:Int)<(l'' l:Nat):=Om;have hr:(l.map RF.cells)[k]?=some (l[k]).cells:=by simp[hlt]
  simp only[go_sem,F,hr];refine aS λo6 K=>?_;have H:o4≠o6:=by rintro rfl;simp only[ix,aT,if_true]at K;cases K
  have E:o2≠o6:=by rintro rfl;simp only[ix,aT,if_true,aB i]at K;cases K
  simp only[go_sem,ix,H,E,w,i];refine aA ((W (FV.rf (V,Z,U)) l[k] N (hl _ (auH hlt))).args (.cons (CoL.agg O) (.cons (.refl _) .nil))) rfl ?_;rw[FV.QA];have u:=ZJ (f:=gY) (l.map RF.v) (false,0,1) (k:=k) (by simpa using hlt);rw[hf]at u;simp only[Except.bind,awA]at u;cases he:gY (V,Z,U) (l[k]).v with
  |error e=>
   simp only[go_sem,frV];refine aS λo7 A=>?_;have β:e≠0:=by
    revert he;obtain⟨n2,a2,b2⟩:=(l[k]).v;simp only[gY,iU]
    repeat' split
    all_goals (intro h;first|(injection h with h;subst h;decide)|cases h)
   have J:o2≠o7:=by rintro rfl;simp only[aT,E,i,if_true,if_false]at A;cases A
   simp only[go_sem,eZ β,J,E,i];rw[he]at u;rw[qS,ma _ _ u];refine iN ?_;simp only[go_sem,wa]
  |ok r=>
   obtain⟨rn,ra,rb⟩:=r;simp only[go_sem,frV];refine aS λo7 A=>?_;have M:o4≠o7:=by rintro rfl;simp only[aT,H,if_true,if_false]at A;cases A
   have J:o2≠o7:=by rintro rfl;simp only[aT,E,i,if_true,if_false]at A;cases A
   simp only[go_sem,M,J,H,E,w,i,Ne.symm M,wZz k];rw[he]at u;refine aF (k+1,(rn,ra,rb),aL (aM ra)) ⟨hlt,u,.inr rfl,WY he⟩ sO_ ?_ ?_
   ·exact Lq
   ·refine c_ (c_ a_ ?_) ?_
    ·simp only[go_sem,i,w,M,J,H,E]
    ·simp only[go_sem,i,w,M,J,H,E]
 ·have F:¬(k:Int)<(l'' l:Nat):=Om;have:k=l'' l:=Om;subst this;rw[auZ bC]at hf;rw[qS,hf];have Q:cN (frV (.ok (V,Z,U))) (bO [.agg [.bool V,cy,aL (aM U)],.j 0]) .nil:=⟨CoL.tup (.cons (CoL.agg O) (.cons (.refl _) .nil)),rfl⟩;rcases S with⟨rfl,rfl⟩|rfl
  ·simp only[go_sem,F,ix,w,i];refine aY (.inr rfl) .nil ?_ a_ Q;simp only[go_sem,wa,w,i]
  ·simp only[go_sem,F,ix,w,i];refine aY (.inr rfl) .nil ?_ a_ Q;simp only[go_sem,wa,w,i]
def LF:=bR [] Proofs.Tryz.f145
def qN:=bX LF
def TV:=bR [] Proofs.Tryz.f163
def AO:=bX TV
def TX:=bR [] Proofs.Tryz.f146
def ZQ:=bX TX
def nz:=bR [] Proofs.Tryz.f118
def DC:=bX nz
def gin:=bR [] Proofs.Tryz.f78
def NR:=bX gin
def mo:=bR [1] Proofs.Tryz.f112
def ZM:=bX mo
def Pe:=bR [1] Proofs.Tryz.f111
def zh:=bX Pe
def gone:=bR [1] Proofs.Tryz.f144
def zj:=bX gone
def C6:=bR [] Proofs.Tryz.f113
def mq:=bX C6
def C7:=bR [] Proofs.Tryz.f141
def mr:=bX C7
def C5:=bR [] Proofs.Tryz.f139
def mp:=bX C5
def mu:=bR [] Proofs.Tryz.f140
def ZN:=bX mu
def nY:=bR [1] Proofs.Tryz.f115
def dg:=aC nY 8
def HO:aK:=(iP (aC nY 9) 45 4 (aC nY 12) (sq (aC nY 10) (.region (aC nY 11))))
def TS:=aC nY 13
def HP:aK:=(iP (aC nY 5) 21 2 TS (sq (aC nY 6) (sq (aC nY 7) (eH dg 4 HO))))
def mw:aK:=(sq (aC nY 0) (sq (aC nY 1) (.seq (eH (aC nY 2) 0 (fY (aC nY 3) 15 0 (aC nY 14) (eH (aC nY 4) 2 HP))) (sq (aC nY 15) .ret))))
def tF:=bR [1] Proofs.Tryz.f80
def dh:=aC tF 10
def NS:=aC tF 11
def NT:=aC tF 12
def zT:=aC tF 13
def zg:aK:=(sq (aC tF 0) (sq (aC tF 1) (mM (aC tF 2) 43 (aC tF 3) (.seq (eH (aC tF 4) 0 (iP (aC tF 5) 48 0 (aC tF 9) (sq (aC tF 6) (sq (aC tF 7) (.cond (Tm 67) (sq (aC tF 8) .ret) .skip))))) (sq dh (sq NS (sq NT (sq zT .ret))))))))
def Da:=bR [] Proofs.Tryz.f82
def ni:=bX Da
def F9:=bR [1] Proofs.Tryz.f79
def TR:=bX F9
def C8:=bR [] Proofs.Tryz.f142
def my:=bX C8
def Pf:=bR [7] Proofs.Tryz.f116
def zi:=bX Pf
def mz:=bR [1] Proofs.Tryz.f143
def ZO:=bX mz
def C9:=bR [6,7] Proofs.Tryz.f117
def na:=bX C9
def Pg:=bR [2] Proofs.Tryz.f81
def zk:=bX Pg
def gC:=bR [1,76,94,128,141,183,204] Proofs.Tryz.f43
def wb:=aC gC 5
def NW:aK:=(iP (aC gC 6) 70 0 (aC gC 10) (sq (aC gC 7) (sq (aC gC 8) (.region (aC gC 9)))))
def dl:=aC gC 11
def NX:aK:=(iP (aC gC 12) 88 2 (aC gC 16) (sq (aC gC 13) (sq (aC gC 14) (.region (aC gC 15)))))
def dp:=aC gC 17
def NY:aK:=(iP (aC gC 18) 122 4 (aC gC 21) (sq (aC gC 19) (.region (aC gC 20))))
def dt:=aC gC 22
def NZ:aK:=(iP (aC gC 23) 135 6 (aC gC 27) (sq (aC gC 24) (sq (aC gC 25) (.region (aC gC 26)))))
def du:=aC gC 28
def OA:aK:=(iP (aC gC 29) 177 8 (aC gC 33) (sq (aC gC 30) (sq (aC gC 31) (.region (aC gC 32)))))
def dw:=aC gC 34
def OB:aK:=(iP (aC gC 35) 198 10 (aC gC 39) (sq (aC gC 36) (sq (aC gC 37) (.region (aC gC 38)))))
def FZ:=aC gC 40
def rH:=aC gC 41
def OC:=aC gC 42
def zm:aK:=(sq (aC gC 0) (mM (aC gC 1) 65 (aC gC 2) (sq (aC gC 3) (sq (aC gC 4) (.seq (eH wb 0 NW) (.seq (eH dl 2 NX) (.seq (eH dp 4 NY) (.seq (eH dt 6 NZ) (.seq (eH du 8 OA) (.seq (eH dw 10 OB) (mM FZ 243 rH (sq OC .ret))))))))))))
def gG(n:Nat):Bool:=decide (97<=n)&&decide (n<=122)||decide (65<=n)&&decide (n<=90)
def pM(n:Nat):Bool:=decide (48<=n)&&decide (n<=57)
def iI(n:Nat):Bool:=gG n||pM n||decide (n=45)||decide (n=46)
theorem P1(n:Nat):qN.wp C (aX LF.res (aJ (.bool (gG n)))) (g_ [.int .u8 n]) .nil:=by
 have fin:∀(F:PF)(b:Bool),F 2=some (.bool b)->b=gG n->aX LF.res (aJ (.bool (gG n))) .ret F .nil:=by intro F b h e;subst e;refine fH (.inr rfl) (vs:=[.bool (gG n)]) (by simp only[go_sem,LF,h]) rfl
 unfold gG at *
 by_cases a:97<=n;have i:(n:Int)>=97:=Om;by_cases b:n<=122;have b':(n:Int)<=122:=Om;simp only[go_sem,qN,i,b'];exact fin _ _ rfl (by simp[a,b]);have b':¬(n:Int)<=122:=Om;by_cases c:65<=n;have l:(n:Int)>=65:=Om;have d:¬(n:Int)<=90:=Om;simp only[go_sem,qN,i,b',l,d];exact fin _ _ rfl (by simp[a,b,c];omega);omega;have i:¬(n:Int)>=97:=Om;by_cases c:65<=n;have l:(n:Int)>=65:=Om;by_cases d:n<=90;have u:(n:Int)<=90:=Om;simp only[go_sem,qN,i,l,u];exact fin _ _ rfl (by simp[a,c,d]);have u:¬(n:Int)<=90:=Om;simp only[go_sem,qN,i,l,u];exact fin _ _ rfl (by simp[a,c,d]);have l:¬(n:Int)>=65:=Om;simp only[go_sem,qN,i,l];exact fin _ _ rfl (by simp[a,c])
theorem Uf(n:Nat):AO.wp C (aX TV.res (aJ (.bool (pM n)))) (g_ [.int .u8 n]) .nil:=by
 have fin:∀(F:PF)(b:Bool),F 2=some (.bool b)->b=pM n->aX TV.res (aJ (.bool (pM n))) .ret F .nil:=by intro F b h e;subst e;refine fH (.inr rfl) (vs:=[.bool (pM n)]) (by simp only[go_sem,TV,h]) rfl
 unfold pM at *
 by_cases a:48<=n;have i:(n:Int)>=48:=Om;by_cases b:n<=57;have b':(n:Int)<=57:=Om;simp only[go_sem,AO,i,b'];exact fin _ _ rfl (by simp[a,b]);have b':¬(n:Int)<=57:=Om;simp only[go_sem,AO,i,b'];exact fin _ _ rfl (by simp[a,b]);have i:¬(n:Int)>=48:=Om;simp only[go_sem,AO,i];exact fin _ _ rfl (by simp[a])
theorem Uj(u:∀n:Nat,aG C 126 [.int .u8 n] .nil (aJ (.bool (gG n))))(w:∀n:Nat,aG C 124 [.int .u8 n] .nil (aJ (.bool (pM n))))(n:Nat) :
  ZQ.wp C (aX TX.res (aJ (.bool (iI n)))) (g_ [.int .u8 n]) .nil:=by
 have fin:∀(F:PF)(b:Bool),F 2=some (.bool b)->b=iI n->aX TX.res (aJ (.bool (iI n))) .ret F .nil:=by intro F b h e;subst e;refine fH (.inr rfl) (vs:=[.bool (iI n)]) (by simp only[go_sem,TX,h]) rfl
 simp only[go_sem,ZQ];refine aA (u n) rfl ?_;cases l:gG n with
 |true =>simp only[go_sem];exact fin _ _ rfl (by simp[iI,l])
 |false=>
  simp only[go_sem];refine aA (w n) rfl ?_;cases i:pM n with
  |true =>simp only[go_sem];exact fin _ _ rfl (by simp[iI,i])
  |false =>by_cases c:n=45;simp only[go_sem,cI (Om:(n:Int)=45)];exact fin _ _ rfl (by simp[iI,c]);by_cases d:n=46;simp only[go_sem,bP (Om:(n:Int)≠45),cI (Om:(n:Int)=46)];exact fin _ _ rfl (by simp[iI,d]);simp only[go_sem,bP (Om:(n:Int)≠45),bP (Om:(n:Int)≠46)];exact fin _ _ rfl (by simp[iI,c,d,l,i])
def isName(s:List UInt8):Bool:=match s with
 |[]=>false
 |c::_=>decide (l'' s<=16)&&gG c.toNat&&s.all λc=>iI c.toNat
theorem sX{α:Type}{p:α->Bool}{l:List α}{k:Nat}(i:k<l'' l)(h:(l.take k).all p=true)(hp:p l[k]=true):(l.take (k+1)).all p=true:=by
 rw[awE i,List.all_append,h];simp[hp]
theorem sY{α:Type}{p:α->Bool}{l:List α}{k:Nat}(i:k<l'' l)(hp:p l[k]=false):l.all p=false:=by
 rw[List.all_eq_false];exact⟨l[k],auH i,by simp[hp]⟩
def Gs(s:List UInt8)(k:Nat):PF:=((n_.set 0 (.str s)).set 3 (.int .i64 k))
theorem Zs(H:∀n:Nat,aG C 126 [.int .u8 n] .nil (aJ (.bool (gG n))))(J:∀n:Nat,aG C 125 [.int .u8 n] .nil (aJ (.bool (iI n))))(s:List UInt8) :
  DC.wp C (aX nz.res (aJ (.bool (isName s)))) (g_ [.str s]) .nil:=by
 have fin:∀(F:PF)(b:Bool),F 2=some (.bool b)->b=isName s->aX nz.res (aJ (.bool (isName s))) .ret F .nil:=by intro F b h e;subst e;refine fH (.inr rfl) (vs:=[.bool (isName s)]) (by simp only[go_sem,nz,h]) rfl
 cases s with
 |nil =>simp only[go_sem,DC];exact fin _ _ rfl rfl
 |cons c t=>
  have M:(c::t)[0]?=some c:=rfl;have w:(c::t==[])=false:=rfl;have u:isName (c::t)=(decide ((c::t).length<=16)&&gG c.toNat&&(c::t).all λc=>iI c.toNat):=rfl;generalize c::t=s at *
  by_cases E:l'' s<=16
  ·have l:¬(l'' s:Int)>16:=Om;rw[bH E,auV]at u;simp only[go_sem,DC,w,l,M,avB];refine aA (H c.toNat) rfl ?_;cases A:gG c.toNat with
   |false =>simp only[go_sem,auY];exact fin _ _ rfl (by rw[u,A];rfl)
   |true=>
    rw[A,auV]at u;simp only[go_sem,auO];refine wp_loop (α:=Nat) (λk=>Gs s k) (λ_=>.nil) (λk=>k<=l'' s/\(s.take k).all (λc=>iI c.toNat)=true) (λk=>l'' s-k) 0 ⟨auK _,rfl⟩ ?_ a_ ?_;unfold Gs;exact Lq;rintro k ⟨N,y⟩;simp only[go_sem,Gs];by_cases hlt:k<l'' s
    ·have i:(k:Int)<(l'' s:Nat):=Om;have K:s[k]?=some s[k]:=auP hlt;simp only[go_sem,i,K,avB];refine aA (J (s[k]).toNat) rfl ?_;cases hi:iI (s[k]).toNat with
     |false =>simp only[go_sem,auY];refine fin _ false rfl ?_;rw[u,sY hlt hi]
     |true =>simp only[go_sem,auO,wZz k];refine aF (k+1) ⟨hlt,auX.1 (sX hlt y hi)⟩ Om ?_ a_;exact Lq
    have i:¬(k:Int)<(l'' s:Nat):=Om;simp only[go_sem,i];have:k=l'' s:=Om;subst this;rw[auZ (auG _)]at y;exact fin _ true rfl (by rw[u,y])
  have l:(l'' s:Int)>16:=Om;simp only[go_sem,DC,w,l];exact fin _ _ rfl (by rw[u,bT E];rfl)
abbrev dS(x:Int):Prop:=-9223372036854775808<=x/\x<=9223372036854775807
structure cT where
 name:List UInt8
 start:List RF
 asU:List (List RF)
 exit:List RF
structure dN where
 name:List UInt8
 atF:Int
 port:Int
 law:Int
structure cQ where
 name:List UInt8
 level:Int
 parent:Int
 atJ:Int
 atE:RF
structure eE where
 name:List UInt8
 model:Int
 machine:Int
structure cJ where
 name:List UInt8
 k:Int
 m:Int
 atO:Int
 s0:Int
 s1:Int
 s2:Int
 s3:Int
 s4:Int
 asQ:I_
 repair:List RF
 target:RF
 asZ:RF
structure dW where
 name:List UInt8
 atB:Int
structure aH where
 atV:Int
 asW:List cT
 asQ:List dN
 asS:List cQ
 asP:List eE
 asT:List cJ
 asR:List dW
abbrev I(x:Int):PV:=.int .i64 x
abbrev Q4(l:List (List RF)):PV:=.sl 1 (l.map λr=>[frs r])
abbrev cT.cells(x:cT):V_:=[.str x.name,frs x.start,Q4 x.asU,frs x.exit]
abbrev dN.cells(x:dN):V_:=[.str x.name,.int .i64 x.atF,.int .i64 x.port,.int .i64 x.law]
abbrev cQ.cells(x:cQ):V_:=[.str x.name,.int .i64 x.level,.int .i64 x.parent,.int .i64 x.atJ,.bool x.atE.neg,aL x.atE.num,aL x.atE.den]
abbrev eE.cells(x:eE):V_:=[.str x.name,.int .i64 x.model,.int .i64 x.machine]
abbrev cJ.cells(x:cJ):V_:=[.str x.name,.int .i64 x.k,.int .i64 x.m,.int .i64 x.atO,.int .i64 x.s0,.int .i64 x.s1,.int .i64 x.s2,.int .i64 x.s3,.int .i64 x.s4,ints x.asQ,frs x.repair,
 .bool x.target.neg,aL x.target.num,aL x.target.den,.bool x.asZ.neg,aL x.asZ.num,aL x.asZ.den]
abbrev dW.cells(x:dW):V_:=[.str x.name,.int .i64 x.atB]
abbrev aH.cells(f:aH):V_:=[.int .i64 f.atV,.sl 4 (f.asW.map cT.cells),.sl 4 (f.asQ.map dN.cells),.sl 7 (f.asS.map cQ.cells),.sl 3 (f.asP.map eE.cells),.sl 17 (f.asT.map cJ.cells),.sl 2 (f.asR.map dW.cells)]
def cJ.spread(p:cJ)(level:Nat):Int:=match level with
 |0=>p.s0
 |1=>p.s1
 |2=>p.s2
 |3=>p.s3
 |_=>p.s4
abbrev Fits{α:Type}(l:List α):Prop:=l'' l<=9223372036854775807
structure mG(l:List RF):Prop where
 fits:Fits l
 all:∀x∈l,x.Ok
structure cT.Ok(x:cT):Prop where
 start:mG x.start
 exit:mG x.exit
 asU:Fits x.asU
 row:∀r∈x.asU,mG r
structure cJ.Ok(x:cJ):Prop where
 k:dS x.k
 m:dS x.m
 atO:dS x.atO
 asQ:Fits x.asQ
 each:∀m∈x.asQ,dS m
 repair:mG x.repair
 target:x.target.Ok
 asZ:x.asZ.Ok
structure aH.Ok(f:aH):Prop where
 asW:Fits f.asW
 asQ:Fits f.asQ
 asS:Fits f.asS
 asP:Fits f.asP
 asT:Fits f.asT
 asR:Fits f.asR
 law:∀x∈f.asW,x.Ok
 dom:∀x∈f.asS,x.atE.Ok/\dS x.level/\dS x.parent
 drive:∀x∈f.asP,dS x.model/\dS x.machine
 atB:∀x∈f.asT,x.Ok
 volume:∀x∈f.asR,dS x.atB
def oF(x:RF):FR:=if cK (val x.num) (val x.den)then iU x.neg (val x.num) (val x.den)else .error 1
theorem Qz(x:RF):XZ x.neg (val x.num) (val x.den)=frV (oF x):=by
 unfold XZ oF;split;exact ER _ _ _;rfl
def dQ(x:RF):Bool:=match oF x with
 | .ok (n,a,b)=>!n&&(decide (dC a<=32)&&decide (dC b<=32))
 | .error _=>false
def bW(x:RF):Bool:=decide (val x.num≠0)
def CH(x:RF):Bool:=cK (val x.num) (val x.den)&&decide (rJ x.neg (val x.num) (val x.den) false 1 1<=0)
def within(n lo hi:Int):Bool:=decide (lo<=n)&&decide (n<=hi)
def dH(R:List Bool)(i:Nat)(row:List RF):Nat->List Bool
 |0=>R
 |k+1=>let l:=dH R i row k
  l.set i (l.getD i false||(row.map bW).getD k false&&l.getD k false)
def nM(l:cT)(R:List Bool)(i:Nat):List Bool:=
 dH (R.set i (R.getD i false||(l.exit.map bW).getD i false)) i (l.asU.getD i []) (l.asU.getD i []).length
def dT(l:cT)(R:List Bool):Nat->List Bool
 |0=>R
 |i+1=>nM l (dT l R i) i
def dV(l:cT):Nat->List Bool
 |0=>auL l.exit.length false
 |r+1=>dT l (dV l r) l.exit.length
def sN(l:cT):Bool:=(dV l (l'' l.exit+1)).all id
def mW(l:cT):Bool:=
 within l.start.length 1 4&&decide (l'' l.exit=l'' l.start)&&decide (l'' l.asU=l'' l.start)&&l.start.all dQ&&l.exit.all dQ
 && (auE l.asU.length).all (λi=>decide ((l.asU.getD i []).length=l'' l.start)&&(l.asU.getD i []).all dQ&&!((l.asU.getD i []).map bW).getD i false)
 && (match qS (l.start.map RF.v)with
  | .ok (n,a,b)=>decide (rJ n a b false 1 1=0)
  | .error _=>false)&&sN l
def distinct(l:List (List UInt8)):Bool:=(auE l.length).all λi=>isName (l.getD i [])&&!(l.take i).contains (l.getD i [])
def NH(f:aH)(i:Nat)(d:cQ):Bool:=
 within d.parent 0 i&&decide ((f.asS.map cQ.level).getD d.parent.toNat 0=i_.wrap (d.level-1))&&within d.level 1 4&&within d.atJ 1 64&&dQ d.atE
def HM(f:aH)(r:cQ)(t:List cQ):Bool:=
 decide (r.name=[])&&decide (r.level=0)&&decide (r.parent=-1)&&decide (r.atJ=0)&&dQ r.atE&&!bW r.atE
  && (auE t.length).all λi=>match t[i]? with
   |some d=>NH f i d
   |none=>false
def rE(f:aH):Bool:=match f.asS with
 |[]=>false
 |r::t=>HM f r t
def PA(p:cJ):Bool:=
 within p.k 1 6&&within p.m 0 4&&decide (p.k+p.m<=8)&&within p.atO p.k (p.k+p.m)&&decide (p.s0=0)&&([p.s0,p.s1,p.s2,p.s3,p.s4].all λn=>within n 0 8)
def HW(p:cJ):Bool:=
 decide ((l'' p.repair:Int)=max p.m 1)&&(p.repair.all λx=>dQ x&&bW x)&&dQ p.target&&CH p.target&&dQ p.asZ
def lL(asQ:Nat)(p:cJ):Bool:=
 PA p&&decide (l'' p.asQ≠0)&&HW p&&(auE p.asQ.length).all λj=>within (p.asQ.getD j 0) 0 ((asQ:Int)-1)&&!(p.asQ.take j).contains (p.asQ.getD j 0)
def mX(f:aH)(m:dN):Bool:=within m.atF 1 16&&within m.port 1 64&&within m.law 0 ((l'' f.asW:Int)-1)
def kT(f:aH)(d:eE):Bool:=within d.model 0 ((l'' f.asQ:Int)-1)&&within d.machine 0 ((l'' f.asS:Int)-1)&&decide ((f.asS.map cQ.level).getD d.machine.toNat 0=4)
def rR(f:aH)(v:dW):Bool:=within v.atB 0 ((l'' f.asT:Int)-1)
def pV(f:aH):Bool:=within f.atV 1 4&&decide (l'' f.asW<=4)&&decide (l'' f.asQ<=4)&&decide (l'' f.asS<=40)&&decide (l'' f.asP<=24)&&decide (l'' f.asT<=4)&&decide (l'' f.asR<=12)
def dR(f:aH):Bool:=
 pV f&&rE f&&(f.asW.all mW&&f.asQ.all (mX f)&&f.asP.all (kT f)&&f.asT.all (lL f.asQ.length)&&f.asR.all (rR f))
 && (distinct (f.asW.map cT.name)&&distinct (f.asQ.map dN.name)&&distinct ((f.asS.drop 1).map cQ.name++f.asP.map eE.name)&&distinct (f.asT.map cJ.name)&&distinct (f.asR.map dW.name))
theorem bL{t:Nat}{b b':Bool}{F:PF}{H:PH}(h:F t=some (.bool b))(e:b=b'):aX [.tmp t] (cN (.bool b')) .ret F H:=by
 subst e;exact aY (.inr rfl) .nil (vs:=[.bool b]) (by rw[kM,nF,h,oM]) a_ ⟨.refl _,rfl⟩
theorem ajN(n lo hi:Int):NR.wp C (aX gin.res (cN (.bool (within n lo hi)))) (g_ [.j n,.j lo,.j hi]) .nil:=by
 by_cases a:lo<=n;by_cases b:n<=hi;simp only[go_sem,NR,gin,show n>=lo from a,b];exact bL Ev (by simp[within,a,b]);simp only[go_sem,NR,gin,show n>=lo from a,b];exact bL Ev (by simp[within,a,b]);have i:¬n>=lo:=a;simp only[go_sem,NR,gin,i];exact bL Ev (by simp[within,a])
theorem T7(L:xO C)(x:RF)(i:x.Ok):ZM.wp C (aX mo.res (cN (.bool (bW x)))) (g_ [.agg x.cells]) .nil:=by
 simp only[go_sem,ZM,mo];refine aA (L.bits x.num i.1 i.2.2.1) Ev ?_;simp only[go_sem];refine bL Ev ?_;have:=@mT (val x.num);rw[bW,decide_eq_decide];omega
structure HB(C:Ctx):Prop extends HC C where
 sJ:∀n d:Int,dS n->dS d->aG C 115 [.int .i64 n,.int .i64 d] .nil (aJ (vQ n d))
 red:∀x:RF,x.Ok->aG C 116 [.agg x.cells] .nil (aJ (frV (oF x)))
 ord:∀x y:RF,x.Ok->y.Ok->aG C 114 [.agg x.cells,.agg y.cells] .nil (aJ (CV x.neg (val x.num) (val x.den) y.neg (val y.num) (val y.den)))
 plus:∀x y:RF,x.Ok->y.Ok->aG C 113 [.agg x.cells,.agg y.cells] .nil (aJ (frV (gY x.v y.v)))
 tot:∀l:List RF,mG l->aG C 117 [frs l] .nil (aJ (frV (qS (l.map RF.v))))
theorem OI{neg:Bool}{a b:Nat}{e:Int}(h:iU neg a b=.error e):e=2:=by
 unfold iU at h;split at h;injection h with h;exact h.symm
 cases h
theorem im{x:RF}{e:Int}(h:oF x=.error e):e≠0:=by
 unfold oF at h;split at h;rw[OI h];decide;injection h with h;subst h;decide
theorem M5{x:RF}{r:FV}(h:oF x=.ok r):r.rf.Ok:=by
 unfold oF at h;split at h;exact(rI h).2;cases h
theorem afD(L:HB C)(x:RF)(y:x.Ok):zh.wp C (aX Pe.res (cN (.bool (dQ x)))) (g_ [.agg x.cells]) .nil:=by
 simp only[go_sem,zh,Pe];refine aA (L.red x y) Ev ?_;unfold dQ;cases u:oF x with
 |error e =>have:=bP (im u);simp only[go_sem,frV];refine aS λo w=>?_;simp only[go_sem,this];exact bL Ev rfl
 |ok r=>
  obtain⟨n,a,b⟩:=r;obtain⟨A,E,F,H⟩:=M5 u;simp only[go_sem,frV];refine aS λo w=>?_;cases n with
  |true =>simp only[go_sem];exact bL Ev rfl
  |false =>simp only[go_sem];refine aA (L.bits _ A F) Ev ?_;rw[show val (FV.rf (false,a,b)).num=a from aV a];by_cases l:dC a<=32;have i:((dC a:Nat):Int)<=32:=Om;simp only[go_sem,i];refine aA (L.bits _ E H) Ev ?_;rw[show val (FV.rf (false,a,b)).den=b from aV b];simp only[go_sem];refine bL Ev ?_;rw[bH l];simp;omega;have i:¬((dC a:Nat):Int)<=32:=Om;simp only[go_sem,i];refine bL Ev ?_;rw[bT l];rfl
theorem Gv:iU false 1 1=.ok (false,1,1):=by
 have:dC 1=1:=by rw[tB aU,lZ]
 simp[iU,this]
theorem Gw:vQ 1 1=frV (.ok (false,1,1)):=by
 rw[vQ,aB aU,ER];show frV (iU false 1 1)=_;rw[Gv]
theorem Vb:(FV.rf (false,1,1)).Ok:=(rI Gv).2
theorem Bm:cK 1 1=true:=by
 have:dC 1=1:=by rw[tB aU,lZ]
 simp[cK,this]
theorem afF(L:HB C)(x:RF)(i:x.Ok):zj.wp C (aX gone.res (cN (.bool (CH x)))) (g_ [.agg x.cells]) .nil:=by
 simp only[go_sem,zj,gone];refine aA (L.sJ 1 1 aU aU) Ev ?_;rw[Gw];simp only[go_sem,frV];refine aS λo l=>?_;simp only[go_sem];refine aA (L.ord x (FV.rf (false,1,1)) i Vb) Ev ?_;rw[show val (FV.rf (false,1,1)).num=1 from aV 1,show val (FV.rf (false,1,1)).den=1 from aV 1,show(FV.rf (false,1,1)).neg=false from rfl];unfold CV CH;rw[Bm,awP];cases u:cK (val x.num) (val x.den)with
 |false =>simp only[go_sem];exact bL Ev rfl
 |true =>simp only[go_sem];exact bL Ev rfl
theorem Y4(p:RF->Bool)(fn:Nat)(l:List RF)(y:Fits l)(h:∀x∈l,aG C fn [.agg x.cells] .nil (aJ (.bool (p x)))) :
  mq.wp C (aX C6.res (cN (.bool (l.all p)))) (g_ [frs l,.fn fn []]) .nil:=by
 simp only[go_sem,mq,C6];refine wp_loop (α:=Nat) (λk=>((((n_.set 1 (.fn fn [])).set 7 (frs l)).set 8 (.j (l'' l:Nat))).set 9 (.j k))) (λ_=>.nil) (λk=>k<=l'' l/\(l.take k).all p=true) (λk=>l'' l-k) 0 ⟨auK _,rfl⟩ ?_ a_ ?_;exact lM;rintro k ⟨A,u⟩;simp only[go_sem];by_cases hlt:k<l'' l
 ·have i:(k:Int)<(l'' l:Nat):=Om;have w:(l.map RF.cells)[k]?=some (l[k]).cells:=by simp[hlt]
  simp only[go_sem,i,w];refine aS λo E=>?_;simp only[go_sem];refine aA (h _ (auH hlt)) Ev ?_;cases hp:p l[k]with
  |false =>simp only[go_sem];exact bL (b:=false) Ev (sY (p:=p) hlt hp).symm
  |true =>simp only[go_sem,wZz k];refine aF (k+1) ⟨hlt,auX.1 (sX hlt u hp)⟩ Om ?_ a_;exact Lq
 have i:¬(k:Int)<(l'' l:Nat):=Om;simp only[go_sem,i];have:k=l'' l:=Om;subst this;rw[auZ (auG _)]at u;exact bL Ev u.symm
theorem Y5(p:Int->Bool)(fn:Nat)(l:I_)(y:Fits l)(h:∀x∈l,aG C fn [.j x] .nil (aJ (.bool (p x)))) :
  mr.wp C (aX C7.res (cN (.bool (l.all p)))) (g_ [ints l,.fn fn []]) .nil:=by
 simp only[go_sem,mr,C7];refine wp_loop (α:=Nat) (λk=>((((n_.set 1 (.fn fn [])).set 7 (ints l)).set 8 (.j (l'' l:Nat))).set 9 (.j k))) (λ_=>.nil) (λk=>k<=l'' l/\(l.take k).all p=true) (λk=>l'' l-k) 0 ⟨auK _,rfl⟩ ?_ a_ ?_;exact lM;rintro k ⟨A,u⟩;simp only[go_sem];by_cases hlt:k<l'' l
 ·have i:(k:Int)<(l'' l:Nat):=Om;have w:(l.map λn=>[PV.int .i64 n])[k]?=some [.j l[k]]:=by simp[hlt]
  simp only[go_sem,i,w];refine aA (h _ (auH hlt)) Ev ?_;cases hp:p l[k]with
  |false =>simp only[go_sem];exact bL (b:=false) Ev (sY (p:=p) hlt hp).symm
  |true =>simp only[go_sem,wZz k];refine aF (k+1) ⟨hlt,auX.1 (sX hlt u hp)⟩ Om ?_ a_;exact Lq
 have i:¬(k:Int)<(l'' l:Nat):=Om;simp only[go_sem,i];have:k=l'' l:=Om;subst this;rw[auZ (auG _)]at u;exact bL Ev u.symm
abbrev N9(l:List Bool):PV:=.sl 1 (l.map λb=>[PV.bool b])
theorem Y3(p:Bool->Bool)(fn:Nat)(l:List Bool)(y:Fits l)(h:∀x∈l,aG C fn [.bool x] .nil (aJ (.bool (p x)))) :
  mp.wp C (aX C5.res (cN (.bool (l.all p)))) (g_ [N9 l,.fn fn []]) .nil:=by
 simp only[go_sem,mp,C5];refine wp_loop (α:=Nat) (λk=>((((n_.set 1 (.fn fn [])).set 7 (N9 l)).set 8 (.j (l'' l:Nat))).set 9 (.j k))) (λ_=>.nil) (λk=>k<=l'' l/\(l.take k).all p=true) (λk=>l'' l-k) 0 ⟨auK _,rfl⟩ ?_ a_ ?_;exact lM;rintro k ⟨A,u⟩;simp only[go_sem];by_cases hlt:k<l'' l
 ·have i:(k:Int)<(l'' l:Nat):=Om;have w:(l.map λb=>[PV.bool b])[k]?=some [.bool l[k]]:=by simp[hlt]
  simp only[go_sem,i,w];refine aA (h _ (auH hlt)) Ev ?_;cases hp:p l[k]with
  |false =>simp only[go_sem];exact bL (b:=false) Ev (sY (p:=p) hlt hp).symm
  |true =>simp only[go_sem,wZz k];refine aF (k+1) ⟨hlt,auX.1 (sX hlt u hp)⟩ Om ?_ a_;exact Lq
 have i:¬(k:Int)<(l'' l:Nat):=Om;simp only[go_sem,i];have:k=l'' l:=Om;subst this;rw[auZ (auG _)]at u;exact bL Ev u.symm
theorem T8(b:Bool):ZN.wp C (aX mu.res (cN (.bool b))) (g_ [.bool b]) .nil:=by
 simp only[go_sem,ZN,mu];exact bL Ev rfl
theorem Y8(i:∀n lo hi:Int,aG C 104 [.j n,.j lo,.j hi] .nil (aJ (.bool (within n lo hi))))(n:Int):my.wp C (aX C8.res (cN (.bool (within n 0 8)))) (g_ [.j n]) .nil:=by
 simp only[go_sem,my,C8];refine aA (i n 0 8) Ev ?_;simp only[go_sem];exact bL Ev rfl
theorem Ub(l:∀x:RF,x.Ok->aG C 105 [.agg x.cells] .nil (aJ (.bool (dQ x))))(u:∀x:RF,x.Ok->aG C 97 [.agg x.cells] .nil (aJ (.bool (bW x))))(x:RF)(i:x.Ok) :
  ZO.wp C (aX mz.res (cN (.bool (dQ x&&bW x)))) (g_ [.agg x.cells]) .nil:=by
 simp only[go_sem,ZO,mz];refine aA (l x i) Ev ?_;cases w:dQ x with
 |false =>simp only[go_sem];exact bL Ev rfl
 |true =>simp only[go_sem];refine aA (u x i) Ev ?_;simp only[go_sem];exact bL Ev rfl
structure xL(C:Ctx):Prop extends HB C where
 inn:∀n lo hi:Int,aG C 104 [.int .i64 n,.int .i64 lo,.int .i64 hi] .nil (aJ (.bool (within n lo hi)))
 AI:∀x:RF,x.Ok->aG C 97 [.agg x.cells] .nil (aJ (.bool (bW x)))
 lim:∀x:RF,x.Ok->aG C 105 [.agg x.cells] .nil (aJ (.bool (dQ x)))
 one:∀x:RF,x.Ok->aG C 101 [.agg x.cells] .nil (aJ (.bool (CH x)))
 allf:∀(p:RF->Bool)(fn:Nat)(l:List RF),Fits l->(∀x∈l,aG C fn [.agg x.cells] .nil (aJ (.bool (p x))))->aG C 99 [frs l,.fn fn []] .nil (aJ (.bool (l.all p)))
 alli:∀(p:Int->Bool)(fn:Nat)(l:I_),Fits l->(∀x∈l,aG C fn [.int .i64 x] .nil (aJ (.bool (p x))))->aG C 100 [ints l,.fn fn []] .nil (aJ (.bool (l.all p)))
 allb:∀(p:Bool->Bool)(fn:Nat)(l:List Bool),Fits l->(∀x∈l,aG C fn [.bool x] .nil (aJ (.bool (p x))))->aG C 98 [N9 l,.fn fn []] .nil (aJ (.bool (l.all p)))
 ends1:∀b:Bool,aG C 103 [.bool b] .nil (aJ (.bool b))
 num1:∀n:Int,aG C 107 [.int .i64 n] .nil (aJ (.bool (within n 0 8)))
 rate1:∀x:RF,x.Ok->aG C 109 [.agg x.cells] .nil (aJ (.bool (dQ x&&bW x)))
 name:∀s:List UInt8,aG C 123 [.str s] .nil (aJ (.bool (isName s)))
theorem xL.Zr(L:xL C)(l:List RF)(h:mG l):aG C 99 [frs l,.fn 105 []] .nil (aJ (.bool (l.all dQ))):=
 L.allf dQ 105 l h.fits λx i=>L.lim x (h.all x i)
theorem within_iff{n lo hi:Int}:within n lo hi=true↔lo<=n/\n<=hi:=by simp[within]
theorem afE(L:xL C)(p:cJ)(hp:p.Ok) :
  zi.wp C (aX Pf.res (cN (.bool (PA p)))) (g_ [.j p.k,.j p.m,.j p.atO,.agg [.j p.s0,.j p.s1,.j p.s2,.j p.s3,.j p.s4]]) .nil:=by
 simp only[go_sem,zi,Pf];refine aA (L.inn p.k 1 6) rfl ?_;unfold PA;cases A:within p.k 1 6 with
 |false =>simp only[go_sem,auY];exact bL rfl (by simp only[auN])
 |true=>
  obtain⟨k1,k2⟩:=within_iff.1 A;simp only[go_sem,auO];refine aA (L.inn p.m 0 4) rfl ?_;cases E:within p.m 0 4 with
  |false =>simp only[go_sem,auY];exact bL rfl (by simp only[auN,awB])
  |true=>
   obtain⟨J,K⟩:=within_iff.1 E;have y:i_.wrap (p.k+p.m)=p.k+p.m:=wrap_i64 Om Om;by_cases w:p.k+p.m<=8
   ·have i:¬p.k+p.m>8:=Om;simp only[go_sem,auO,y,i];refine aA (L.inn p.atO p.k (p.k+p.m)) rfl ?_;cases H:within p.atO p.k (p.k+p.m)with
    |false =>simp only[go_sem,auY];exact bL rfl (by simp only[auN,awB])
    |true=>
     have l:(0:Int)<((5:Nat):Int):=by decide
     by_cases h5:p.s0=0;have u:chunks 1 5 [PV.int .i64 p.s0,.j p.s1,.j p.s2,.j p.s3,.j p.s4]=([p.s0,p.s1,p.s2,p.s3,p.s4].map λn=>[PV.int .i64 n]):=rfl;have F:5<=maxLen:=by decide
     simp only[go_sem,auO,l,dM h5,u,F];refine aA (L.alli (λn=>within n 0 8) 107 [p.s0,p.s1,p.s2,p.s3,p.s4] (show 5<=9223372036854775807 by decide) λx _=>L.num1 x) rfl ?_;simp only[go_sem];exact bL rfl (by rw[bH w,bH h5];simp only[auV]);simp only[go_sem,auO,l,eZ h5];exact bL rfl (by rw[bT h5];simp only[auN,awB])
   have i:p.k+p.m>8:=Om;simp only[go_sem,auO,y,i];exact bL rfl (by rw[bT w];simp only[auN,awB])
theorem max_eq(a b:Int):(if a<b then b else a)=max a b:=by
 rw[Int.max_def];by_cases h:a<b;rw[aD h,aD Om];by_cases i:a<=b;rw[aB h,aD i];omega;rw[aB h,aB i]
theorem Za(L:xL C)(p:cJ)(hp:p.Ok) :
  na.wp C (aX C9.res (cN (.bool (HW p)))) (g_ [.j p.m,frs p.repair,.agg p.target.cells,.agg p.asZ.cells]) .nil:=by
 simp only[go_sem,na,C9,max_eq,auD];unfold HW;by_cases i:(l'' p.repair:Int)=max p.m 1
 ·simp only[go_sem,cI i];refine aA (L.allf (λx=>dQ x&&bW x) 109 p.repair hp.repair.fits λx l=>L.rate1 x (hp.repair.all x l)) rfl ?_;rw[bH i,auV];cases u:p.repair.all λx=>dQ x&&bW x with
  |false =>simp only[go_sem];exact bL rfl rfl
  |true=>
   simp only[go_sem];refine aA (L.lim _ hp.target) rfl ?_;cases w:dQ p.target with
   |false =>simp only[go_sem];exact bL rfl rfl
   |true=>
    simp only[go_sem];refine aA (L.one _ hp.target) rfl ?_;cases y:CH p.target with
    |false =>simp only[go_sem];exact bL rfl rfl
    |true =>simp only[go_sem];refine aA (L.lim _ hp.asZ) rfl ?_;simp only[go_sem];exact bL rfl rfl
 simp only[go_sem,bP i];exact bL rfl (by rw[bT i];rfl)
def uO(l:List (List UInt8))(k:List KS):Option PV:=match k with
 |[.str s]=>if l.contains s then some (.bool true)else none
 |_=>none
theorem V4(l:List (List UInt8))(s:List UInt8):(λk=>if k=[KS.str s]then some (PV.bool true)else uO l k)=uO (l++[s]):=by
 funext k
 match k with
 |[]=>rfl
 |[.int a b]=>simp[uO]
 |[.bool a]=>simp[uO]
 |[.str t] =>by_cases h:t=s;subst h;simp[uO];simp[uO,h]
 |a::b::c=>simp[uO]
abbrev texts(l:List (List UInt8)):PV:=.sl 1 (l.map λs=>[PV.str s])
theorem V3:uO []=(λ_=>none:mA):=by
 funext k
 match k with
 |[]=>rfl
 |[.int a b]=>rfl
 |[.bool a]=>rfl
 |[.str t]=>rfl
 |a::b::c=>cases a<;>rfl
theorem V5(l:List (List UInt8))(s:List UInt8):mA.upd (uO l) [KS.str s] (.bool true)=uO (l++[s]):=V4 l s
theorem Ja(l:List (List UInt8))(s:List UInt8):(uO l [KS.str s]).getD (.bool false)=.bool (l.contains s):=by
 show(if l.contains s then some (PV.bool true)else none).getD (.bool false)=_;cases l.contains s<;>rfl
theorem xj{p:Nat->Bool}{k:Nat}(h:(auE k).all p=true)(hp:p k=true):(auE (k+1)).all p=true:=by
 rw[ayA,List.all_append,h];simp[hp]
theorem gI{p:Nat->Bool}{n k:Nat}(i:k<n)(hp:p k=false):(auE n).all p=false:=by
 rw[List.all_eq_false];exact⟨k,avM.2 i,by simp[hp]⟩
def vK(p:Nat->Bool)(k:Nat):Prop:=(auE k).all p=true
theorem vK.zero{p:Nat->Bool}:vK p 0:=rfl
theorem vK.step{p:Nat->Bool}{k:Nat}(h:vK p k)(hp:p k=true):vK p (k+1):=xj h hp
def Rt(l:List (List UInt8))(o k:Nat):PF:=((((n_.set 3 (.map o)).set 7 (texts l)).set 8 (.int .i64 (l'' l:Nat))).set 9 (.int .i64 k))
theorem Ze(L:xL C)(l:List (List UInt8))(K:Fits l):ni.wp C (aX Da.res (cN (.bool (distinct l)))) (g_ [texts l]) .nil:=by
 simp only[go_sem,ni,Da];refine aS λo N=>?_;simp only[go_sem];have H:(h_.set o (.map (false,[.str]) (λ_=>none)))=h_.set o (.map (false,[.str]) (uO (l.take 0))):=by rw[List.take_zero,V3]
 unfold distinct;generalize hp:(λi=>isName (l.getD i [])&&!(l.take i).contains (l.getD i []))=p;have A:∀k (h:k<l'' l),p k=(isName l[k]&&!(l.take k).contains l[k]):=by intro k h;rw[<-hp];simp only[auM,auP h,axC]
 refine wp_loop (α:=Nat) (λk=>Rt l o k) (λk=>h_.set o (.map (false,[.str]) (uO (l.take k)))) (λk=>k<=l'' l/\vK p k) (λk=>l'' l-k) 0 ⟨auK _,.zero⟩ ?_ ?_ ?_;unfold Rt;exact lM;rw[H];exact b_;rintro k ⟨M,F⟩;simp only[go_sem,Rt];by_cases hlt:k<l'' l
 ·have w:(k:Int)<(l'' l:Nat):=Om;have J:(l.map λs=>[PV.str s])[k]?=some [.str l[k]]:=by simp[hlt]
  simp only[go_sem,w,J];refine aA (L.name l[k]) rfl ?_;have u:=A k hlt;cases E:isName l[k]with
  |false =>rw[E,auN]at u;simp only[go_sem,auY];exact bL (b:=false) rfl (gI hlt u).symm
  |true=>
   rw[E,auV]at u;cases y:(l.take k).contains l[k]with
   |true =>rw[y]at u;simp only[go_sem,auO,Ja,y];exact bL (b:=false) rfl (gI hlt u).symm
   |false =>rw[y]at u;simp only[go_sem,auO,Ja,y,V5,wZz k];refine aF (k+1) ⟨hlt,F.step u⟩ Om ?_ ?_;exact Lq;rw[awE hlt];exact c_ a_ Sq
 have w:¬(k:Int)<(l'' l:Nat):=Om;simp only[go_sem,w];have:k=l'' l:=Om;subst this;exact bL (b:=true) rfl (show vK p l.length from F).symm
def marks(n:Nat)(l:I_):List Bool:=(auE n).map λ(i:Nat)=>l.contains (i:Int)
theorem TY(n:Nat)(l:I_):(marks n l).length=n:=by simp[marks]
theorem z8(n:Nat):marks n []=auL n false:=by
 refine axK (by simp[marks]) λi l u=>by simp[marks]
theorem GG{n:Nat}{l:I_}{m:Int}(i:0<=m)(u:m<n):(marks n l)[m.toNat]?=some (l.contains m):=by
 have:m.toNat<n:=Om;simp only[marks,avC,List.getElem?_range this,avB];rw[Int.toNat_of_nonneg i]
theorem TZ{n:Nat}{l:I_}{m:Int}(w:0<=m)(y:m<n):(marks n l).set m.toNat true=marks n (l++[m]):=by
 refine axK (by simp[marks]) λi A E=>?_;simp only[marks,awA,List.getElem_range,List.getElem_set,List.contains_append];by_cases h:m.toNat=i;subst h;rw[aD rfl,Int.toNat_of_nonneg w];simp;have u:((i:Nat):Int)≠m:=Om;rw[aB h];simp[u]
abbrev eK(l:List Bool):P2_:=l.map λb=>[PV.bool b]
theorem mU(l:List Bool)(i:Nat)(b:Bool):(eK l).set i [.bool b]=eK (l.set i b):=by unfold eK;rw[List.map_set]
structure D8(C:Ctx):Prop extends xL C where
 num:∀p:cJ,p.Ok->aG C 106 [.int .i64 p.k,.int .i64 p.m,.int .i64 p.atO,.agg [.int .i64 p.s0,.int .i64 p.s1,.int .i64 p.s2,.int .i64 p.s3,.int .i64 p.s4]] .nil (aJ (.bool (PA p)))
 rate:∀p:cJ,p.Ok->aG C 108 [.int .i64 p.m,frs p.repair,.agg p.target.cells,.agg p.asZ.cells] .nil (aJ (.bool (HW p)))
 uniq:∀l:List (List UInt8),Fits l->aG C 110 [texts l] .nil (aJ (.bool (distinct l)))
def aaJ(p:cJ)(asQ:Nat)(o k:Nat):PF:=(((((n_.set 1 (.int .i64 asQ)).set 5 (.osl o 1 0 asQ)).set 39 (ints p.asQ)).set 40 (.int .i64 (l'' p.asQ:Nat))).set 41 (.int .i64 k))
theorem afH(L:D8 C)(p:cJ)(hp:p.Ok)(asQ:Nat)(Y:asQ<=4):zk.wp C (aX Pg.res (cN (.bool (lL asQ p)))) (g_ [.agg p.cells,.j asQ]) .nil:=by
 simp only[go_sem,zk,Pg];refine aA (L.num p hp) rfl ?_;unfold lL;cases y:PA p with
 |false =>simp only[go_sem,auY];exact bL rfl (by simp only[auN])
 |true=>
  by_cases w:l'' p.asQ=0;simp only[go_sem,auO,auD,cI (Om:(l'' p.asQ:Int)=0)];refine bL rfl ?_;have:decide (l'' p.asQ≠0)=false:=by simp[w]
  rw[this];simp only[auN,awB]
  ·have F:decide (l'' p.asQ≠0)=true:=by simp[w]
   simp only[go_sem,auO,auD,bP (Om:(l'' p.asQ:Int)≠0)];refine aA (L.rate p hp) rfl ?_;rw[F];cases V:HW p with
   |false =>simp only[go_sem,auY];exact bL rfl (by simp only[auN,awB])
   |true=>
    have H:((asQ:Nat):Int)*((1:Nat):Int)<=140737488355328:=Om;have J:((asQ:Nat):Int)<=9223372036854775807:=Om;simp only[auV];simp only[go_sem,auO,H,J];refine aS λo Z=>?_;simp only[go_sem];have O:auL asQ [PV.bool false]=eK (marks asQ (p.asQ.take 0)):=by rw[List.take_zero,z8];simp[eK]
    rw[O];generalize Q:(λj=>within (p.asQ.getD j 0) 0 ((asQ:Int)-1)&&!(p.asQ.take j).contains (p.asQ.getD j 0))=q;have K:∀k (h:k<l'' p.asQ),q k=(within p.asQ[k] 0 ((asQ:Int)-1)&&!(p.asQ.take k).contains p.asQ[k]):=by intro k h;rw[<-Q];simp only[auM,auP h,axC]
    refine wp_loop (α:=Nat) (λk=>aaJ p asQ o k) (λk=>h_.set o (.rows 1 (eK (marks asQ (p.asQ.take k))))) (λk=>k<=l'' p.asQ/\vK q k) (λk=>l'' p.asQ-k) 0 ⟨auK _,.zero⟩ ?_ (b_) ?_;unfold aaJ;exact lM;rintro k ⟨W,M⟩;simp only[go_sem,aaJ];have N:=hp.asQ;by_cases hlt:k<l'' p.asQ
    ·have l:(k:Int)<(l'' p.asQ:Nat):=Om;have S:(p.asQ.map λn=>[PV.int .i64 n])[k]?=some [.j p.asQ[k]]:=by simp[hlt]
     have U:i_.wrap ((asQ:Int)-1)=(asQ:Int)-1:=wrap_i64 Om Om;simp only[go_sem,l,S,U];refine aA (L.inn p.asQ[k] 0 ((asQ:Int)-1)) rfl ?_;have i:=K k hlt;cases y:within p.asQ[k] 0 ((asQ:Int)-1)with
     |false =>rw[y,auN]at i;simp only[go_sem,auY];exact bL (b:=false) rfl (gI hlt i).symm
     |true=>
      rw[y,auV]at i;obtain⟨A,i2⟩:=within_iff.1 y;have E:p.asQ[k]<(asQ:Nat):=Om;have u:(eK (marks asQ (p.asQ.take k)))[p.asQ[k].toNat]?=some [.bool ((p.asQ.take k).contains p.asQ[k])]:=by unfold eK;rw[avC,GG A E];rfl
      cases w:(p.asQ.take k).contains p.asQ[k]with
      |true =>rw[w]at i u;simp only[go_sem,auO,A,E,avA,u];exact bL (b:=false) rfl (gI hlt i).symm
      |false =>rw[w]at i u;simp only[go_sem,auO,A,E,avA,u,mU,TZ A E,wZz k];refine aF (k+1) ⟨hlt,M.step i⟩ Om ?_ ?_;exact Lq;rw[awE hlt];exact c_ a_ Sq
    have l:¬(k:Int)<(l'' p.asQ:Nat):=Om;simp only[go_sem,l];have:k=l'' p.asQ:=Om;subst this;exact bL (b:=true) rfl (show vK q p.asQ.length from M).symm
def Yk:PV->RF
 | .agg [.bool n,a,b]=>⟨n,jU a,jU b⟩
 |_=>⟨false,[],[]⟩
theorem Ou(x:RF):Yk (.agg x.cells)=x:=by
 show(⟨x.neg,jU (aL x.num),jU (aL x.den)⟩:RF)=x;rw[eW,eW]
def flS:Spec:=λname vs=>match name,vs with
 |104,[.int _ n,.int _ lo,.int _ hi]=>some ([],λ_=>aJ (.bool (within n lo hi)))
 |105,[x]=>some ([],λ_=>aJ (.bool (dQ (Yk x))))
 |97,[x]=>some ([],λ_=>aJ (.bool (bW (Yk x))))
 |_,_=>none
theorem Fv(n lo hi:Int):flS 104 [.j n,.j lo,.j hi]=some ([],λ_=>aJ (.bool (within n lo hi))):=rfl
theorem aeU(x:RF):flS 105 [.agg x.cells]=some ([],λ_=>aJ (.bool (dQ x))):=by
 show some _=_;rw[Ou]
def Pd(f:aH)(t:List cQ)(k:Nat):PF:=((((n_.set 1 (.bQ f.cells)).set 45 (.sl 7 (t.map cQ.cells))).set 46 (.int .i64 (l'' t:Nat))).set 47 (.int .i64 k))
theorem afB(L:xL C)(f:aH)(hf:f.Ok):TR.wp C (aX F9.res (cN (.bool (rE f)))) (g_ [.agg f.cells]) .nil:=by
 obtain⟨atV,asW,asQ,asS,asP,asT,asR⟩:=f;cases asS with
 |nil =>rw[show rE ⟨atV,asW,asQ,[],asP,asT,asR⟩=false from rfl];simp only[go_sem,TR,F9,avY,avS];have:(((0:Nat):Int)==0)=true:=rfl;simp only[go_sem,this];exact bL rfl rfl
 |cons r t=>
  generalize hF:(⟨atV,asW,asQ,r::t,asP,asT,asR⟩:aH)=f at *
  have J:f.asS=r::t:=by rw[<-hF]
  have hP:rE f=HM f r t:=by unfold rE;rw[J]
  rw[hP];unfold HM;have u:l'' f.asS=l'' t+1:=by rw[J];rfl
  have β:=hf.asS;have O:(f.asS.map cQ.cells)[0]?=some r.cells:=by rw[J];rfl
  have γ:(f.asS.map cQ.cells)[awC 0]?=some r.cells:=O;have M:=hf.dom;have A:=M r (by rw[J];exact List.mem_cons_self ..);simp only[go_sem,TR,F9,auD,u,bP (Om:((l'' t+1:Nat):Int)≠0),O];refine aS λo ho=>?_;by_cases E:r.name=[];rw[bH E];by_cases H:r.level=0;rw[bH H];by_cases K:r.parent=-1;rw[bH K];by_cases Q:r.atJ=0
  ·rw[bH Q];simp only[go_sem,tX E,auO,dM H,dM K,dM Q];refine aA (L.lim r.atE A.1) rfl ?_;cases c5:dQ r.atE with
   |false =>simp only[go_sem,auY];exact bL rfl (by simp only[awB,auN])
   |true=>
    simp only[go_sem,auO];refine aA (L.AI r.atE A.1) rfl ?_;cases c6:bW r.atE with
    |true =>simp only[go_sem];exact bL rfl (by simp only[auO,awB,auN])
    |false=>
     have Z:(0:Int)<=1/\(1:Int)<=((l'' t+1:Nat):Int):=Om;have F:((f.asS.map cQ.cells).take (l'' t+1)).drop (awC 1)=t.map cQ.cells:=by rw[auZ (by simp[u]),J];rfl
     have y:((f.asS.map cQ.cells).take (l'' t+1)).drop 1=t.map cQ.cells:=F;simp only[go_sem,auD,u,Z,y,awG];generalize hq:(λi=>match t[i]? with|some d=>NH f i d|none=>false)=q;have W:∀k (h:k<l'' t),q k=NH f k t[k]:=by intro k h;rw[<-hq];simp only[auP h]
     refine wp_loop (α:=Nat) (λk=>Pd f t k) (λk=>.nil) (λk=>k<=l'' t/\vK q k) (λk=>l'' t-k) 0 ⟨auK _,.zero⟩ ?_ a_ ?_;unfold Pd;exact lM;rintro k ⟨hk,ha⟩;simp only[go_sem,Pd];by_cases hlt:k<l'' t
     ·have w:(k:Int)<(l'' t:Nat):=Om;have Y:(t.map cQ.cells)[k]?=some (t[k]).cells:=by simp[hlt]
      have U:=M t[k] (by rw[J];exact ayV _ (auH hlt));have l:=W k hlt;unfold NH at l;simp only[go_sem,w,Y];refine aS λo2 δ=>?_;simp only[go_sem];refine bV .nil flS a_ ?_;simp only[go_sem];refine cB (Fv _ 0 k) (L.inn (t[k]).parent 0 k) rfl a_ ?_;cases S:within (t[k]).parent 0 k with
      |false =>simp only[S,auN]at l;simp only[go_sem,auY];exact bL (b:=false) rfl (gI hlt l).symm
      |true=>
       obtain⟨i1,i2⟩:=within_iff.1 S;have i3:(t[k]).parent.toNat<l'' f.asS:=Om;have N:(f.asS.map cQ.cells)[(t[k]).parent.toNat]?=some (f.asS[(t[k]).parent.toNat]).cells:=by simp[i3]
       have V:(f.asS.map cQ.level).getD (t[k]).parent.toNat 0=(f.asS[(t[k]).parent.toNat]).level:=by simp[i3]
       rw[V,S,auV]at l;by_cases e2:(f.asS[(t[k]).parent.toNat]).level=i_.wrap ((t[k]).level-1)
       ·rw[bH e2,auV]at l;simp only[go_sem,auO,i1,N,dM e2];refine cB (Fv _ 1 4) (L.inn (t[k]).level 1 4) rfl a_ ?_;cases e3:within (t[k]).level 1 4 with
        |false =>simp only[e3,auN]at l;simp only[go_sem,auY];exact bL (b:=false) rfl (gI hlt l).symm
        |true=>
         rw[e3,auV]at l;simp only[go_sem,auO];refine cB (Fv _ 1 64) (L.inn (t[k]).atJ 1 64) rfl a_ ?_;cases e4:within (t[k]).atJ 1 64 with
         |false =>simp only[e4,auN]at l;simp only[go_sem,auY];exact bL (b:=false) rfl (gI hlt l).symm
         |true=>
          rw[e4,auV]at l;simp only[go_sem,auO];refine cB (aeU (t[k]).atE) (L.lim _ U.1) rfl a_ ?_;cases e5:dQ (t[k]).atE with
          |false =>rw[e5]at l;simp only[go_sem,auY];exact bL (b:=false) rfl (gI hlt l).symm
          |true =>rw[e5]at l;simp only[go_sem,auO,wZz k];refine aF (k+1) ⟨hlt,ha.step l⟩ Om ?_ a_;exact Lq
       simp only[bT e2,auN]at l;simp only[go_sem,auO,i1,N,eZ e2];exact bL (b:=false) rfl (gI hlt l).symm
     have w:¬(k:Int)<(l'' t:Nat):=Om;simp only[go_sem,w];have:k=l'' t:=Om;subst this;exact bL (b:=true) rfl (show vK q t.length from ha).symm
  simp only[go_sem,tX E,auO,dM H,dM K,eZ Q];exact bL rfl (by rw[bT Q];simp only[awB,auN]);simp only[go_sem,tX E,auO,dM H,eZ K];exact bL rfl (by rw[bT K];simp only[awB,auN]);simp only[go_sem,tX E,auO,eZ H];exact bL rfl (by rw[bT H];simp only[awB,auN]);simp only[go_sem,j5 E,auY];exact bL rfl (by rw[bT E];simp only[awB,auN])
end Go.PM
