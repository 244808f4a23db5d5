/-
  Texts of ours, joined. No condition.
-/
import Derived.Test.YtjdkjdadjfbopaaGreatDoorLE1
import Derived.Shelf.Strconv.Itoa3
import Derived.Test.YtjdkjdadjfbopaaGreatDoorProg
import Derived.ProofKit
import Derived.OpenShut
set_option linter.unusedSimpArgs false
set_option linter.unusedVariables false
open Nat renaming reduceEqDiff→γ,reduceAdd→δ,reduceSub→ε,reduceMul→ζ,reduceLT→η,reduceLeDiff→θ,reduceBEq→τ
open Int renaming reduceLT→ι,reduceLE→κ,reduceEq→μ,reduceToNat→ν,reduceAdd→ξ,reduceNeg→ο,reduceBEq→ρ,reduceBNe→σ
open List renaming reduceReplicate→υ
open List renaming length_map→a7Z,range→a8A,replicate→a8D,length_append→a8F,getElem_mem→a8G,length_singleton→a8J,mem_cons→a8M,getElem?_eq_getElem→a8N,length_take→a8S,take_of_length_le→a8T,all_eq_true→a8U,getD_eq_getElem?_getD→a8V,getElem?_map→a8Y,mem_map→a9B,map_cons→a9D,take_length→a9E,append_assoc→a9G,getElem?_eq_some_iff→a9I,drop_zero→a9L,mem_range→a9M,getElem?_eq_none→a9N,length_cons→a9O,getElem_map→a9Q,length_set→a9R,mem_append→a9T,append_nil→a9W,getElem_of_mem→a9X,map_nil→baB,take_succ_eq_append_getElem→baC,length_nil→baE,length_drop→baG,mem_of_getElem?→baH,drop_eq_getElem_cons→baJ,getElem?_append_right→baP,mem_singleton→baQ,getElem?_append_left→baW,ext_getElem→baX,map_take→baY,set_append_right→bbB,take_append_drop→bbC,map_map→bbG,all_cons→bbP,nil_append→bbS,range_succ→bbT,set_cons_zero→bbW,drop_of_length_le→bcB,getElem?_drop→bcC,mem_or_eq_of_mem_set→bcE,getElem_append_right→bcF
open Nat renaming gcd→a8B,le_refl→a8E,zero_le→a8H,mul_add→a8O,zero_add→a8Q,lt_or_ge→a9A,mul_assoc→a9C,le_trans→a9F,mul_comm→a9H,add_mul→a9J,mul_le_mul_right→a9K,mod_eq_of_lt→a9P,add_zero→a9Y,mod_lt→a9Z,pow_succ→baD,add_assoc→baL,eq_zero_or_pos→baR,min_eq_left→baS,mul_le_mul_left→baT,pos_of_ne_zero→baU,sub_self→baV,pow_pos→bbD,div_le_self→bbH,succ_mul→bbI,div_lt_iff_lt_mul→bbJ,mul_le_mul→bbM,pow_le_pow_right→bbU,div_add_mod→bbX,div_eq_of_lt→bbY
open Bool renaming and_eq_true→a8C,not_true→a8I,false_and→a8L,not_false→a8P,true_and→a8R,and_false→a9S,and_true→baN,and_self→bbL
open Option renaming map_eq_some_iff→a8K,map_some→a8X,some→a9V,getD_some→bbE,bind_some→bbN,bind_eq_some_iff→bbZ
open Int renaming toNat_natCast→baA,tdiv→baO
open Array renaming length_toList→bbF
open List renaming length→Z'
set_option maxRecDepth 100000
set_option maxHeartbeats 800000
noncomputable section
namespace Go.Proofs
open Go.Shelf
def Tryz.ajD:Go.Shelf.Ren:=⟨λ|171=>74|243=>125|246=>163|283=>193|284=>194|285=>195|286=>196|129=>191|317=>215|318=>216|319=>217|320=>218|337=>220|338=>221|n=>n,λ|3=>3|9=>9|2=>2|4=>4|171=>237|0=>0|53=>163|37=>22|5=>5|173=>239|212=>254|51=>199|20=>20|213=>255|46=>204|232=>258|233=>259|n=>n,λ|17=>0|18=>1|19=>2|n=>n⟩
theorem Tryz.aTS:Go.Proofs.Lays.n171 Tryz.prog Tryz.ajD:={
 mixed:=by kernel_rfl
 f129:=Tryz.func191.trans (congrArg some (by kernel_rfl))
 f171:=Tryz.func74.trans (congrArg some (by kernel_rfl))
 f243:=Tryz.func125.trans (congrArg some (by kernel_rfl))
 f246:=Tryz.func163.trans (congrArg some (by kernel_rfl))
 f283:=Tryz.func193.trans (congrArg some (by kernel_rfl))
 f284:=Tryz.func194.trans (congrArg some (by kernel_rfl))
 f285:=Tryz.func195.trans (congrArg some (by kernel_rfl))
 f286:=Tryz.func196.trans (congrArg some (by kernel_rfl))
 f317:=Tryz.func215.trans (congrArg some (by kernel_rfl))
 f318:=Tryz.func216.trans (congrArg some (by kernel_rfl))
 f319:=Tryz.func217.trans (congrArg some (by kernel_rfl))
 f320:=Tryz.func218.trans (congrArg some (by kernel_rfl))
 f337:=Tryz.func220.trans (congrArg some (by kernel_rfl))
 f338:=Tryz.func221.trans (congrArg some (by kernel_rfl))
 t0:=Tryz.underlying0
 a0:=Tryz.isAgg0
 z0:=Tryz.sizeOf0
 v0:=Tryz.zeroValue0
 t2:=Tryz.underlying2
 a2:=Tryz.isAgg2
 z2:=Tryz.sizeOf2
 v2:=Tryz.zeroValue2
 t3:=Tryz.underlying3
 a3:=Tryz.isAgg3
 z3:=Tryz.sizeOf3
 v3:=Tryz.zeroValue3
 t4:=Tryz.underlying4
 a4:=Tryz.isAgg4
 z4:=Tryz.sizeOf4
 v4:=Tryz.zeroValue4
 t5:=Tryz.underlying5
 a5:=Tryz.isAgg5
 z5:=Tryz.sizeOf5
 v5:=Tryz.zeroValue5
 t9:=Tryz.underlying9
 a9:=Tryz.isAgg9
 z9:=Tryz.sizeOf9
 v9:=Tryz.zeroValue9
 t20:=Tryz.underlying20
 a20:=Tryz.isAgg20
 z20:=Tryz.sizeOf20
 v20:=Tryz.zeroValue20
 t37:=Tryz.underlying22
 a37:=Tryz.isAgg22
 z37:=Tryz.sizeOf22
 v37:=Tryz.zeroValue22
 t46:=Tryz.underlying204
 a46:=Tryz.isAgg204
 z46:=Tryz.sizeOf204
 v46:=Tryz.zeroValue204
 t51:=Tryz.underlying199
 a51:=Tryz.isAgg199
 z51:=Tryz.sizeOf199
 v51:=Tryz.zeroValue199
 t53:=Tryz.underlying163
 a53:=Tryz.isAgg163
 z53:=Tryz.sizeOf163
 v53:=Tryz.zeroValue163
 t171:=Tryz.underlying237
 a171:=Tryz.isAgg237
 z171:=Tryz.sizeOf237
 v171:=Tryz.zeroValue237
 t173:=Tryz.underlying239
 a173:=Tryz.isAgg239
 z173:=Tryz.sizeOf239
 v173:=Tryz.zeroValue239
 t212:=Tryz.underlying254
 a212:=Tryz.isAgg254
 z212:=Tryz.sizeOf254
 v212:=Tryz.zeroValue254
 t213:=Tryz.underlying255
 a213:=Tryz.isAgg255
 z213:=Tryz.sizeOf255
 t232:=Tryz.underlying258
 a232:=Tryz.isAgg258
 z232:=Tryz.sizeOf258
 v232:=Tryz.zeroValue258
 t233:=Tryz.underlying259
 a233:=Tryz.isAgg259
 z233:=Tryz.sizeOf259
 v233:=Tryz.zeroValue259
 g17:=by kernel_rfl
 g18:=by kernel_rfl
 g19:=by kernel_rfl }
end Go.Proofs
namespace Go.PM
open Go
inductive Co:PV→PV→Prop
 |refl (v:PV):Co v v
 |junk (v:PV):Co v .junk
 |nil (s:Nat):Co .aF (.sl s [])
 |osl0 (o s off s':Nat):Co (.osl o s off 0) (.sl s' [])
 |agg {cs ds:List PV} (hl:Z' ds=Z' cs) (h:∀(j:Nat) p q,cs[j]?=some p→ds[j]?=some q→Co p q):Co (.agg cs) (.agg ds)
 |tup {cs ds:List PV} (hl:Z' ds=Z' cs) (h:∀(j:Nat) p q,cs[j]?=some p→ds[j]?=some q→Co p q):Co (.tup cs) (.tup ds)
 |bM {cs ds:List PV} (hl:Z' ds=Z' cs) (h:∀(j:Nat) p q,cs[j]?=some p→ds[j]?=some q→Co p q):Co (.bM cs) (.bM ds)
 |sl {s:Nat} {rs ts:List (List PV)} (hl:Z' ts=Z' rs) (hr:∀(i:Nat) r t,rs[i]?=some r→ts[i]?=some t→Z' t=Z' r)
   (h:∀(i j:Nat) p q,at2 rs i j=some p→at2 ts i j=some q→Co p q):Co (.sl s rs) (.sl s ts)
structure CoL(ps qs:List PV):Prop where
 len:Z' qs=Z' ps
 at_:∀(j:Nat) p q,ps[j]?=some p→qs[j]?=some q→Co p q
theorem CoL.refl(ps:List PV):CoL ps ps:=⟨rfl,λj p q h k=>by rw[h]at k;cases k;exact .refl p⟩
theorem Co.sound{E:Env}{p q:PV}(h:Co p q):∀{v:Value},bF E p v→bF E q v:=by
 induction h with
 |refl=>intro v r;exact r
 |junk=>intro v _;exact .junk v
 |nil s =>intro v r;cases r;exact .sl (λ_ _=>.bool false) bD aV bD bD (λ_ _=>rfl) (by simp[at2])
 |osl0 o s Z s'=>
  intro v r;cases r with
  |osl hb J V U x hn Q=>exact .sl (λ_ _=>.bool false) bD x bD bD (λ_ _=>rfl) (by simp[at2])
 |agg w h B=>
  intro v r;cases r with
  |agg vs A F y=>
  refine .agg vs (A.trans w.symm) F λj q u d R=>?_;have l:=(a9I.1 d).1;have hp:=a8N (show j<_ by rw[w]at l;exact l);exact B j _ q hp d (y j _ u hp R)
 |tup w h B=>
  intro v r;cases r with
  |tup vs A y=>
  refine .tup vs (A.trans w.symm) λj q u d R=>?_;have l:=(a9I.1 d).1;have hp:=a8N (show j<_ by rw[w]at l;exact l);exact B j _ q hp d (y j _ u hp R)
 |bM w h B=>
  intro v r;cases r with
  |bM u J N F y=>
  refine .bM u J (λj q d=>?_) F λj q d=>?_
  ·have l:=(a9I.1 d).1;exact N j _ (a8N (show j<_ by rw[w]at l;exact l))
  ·have l:=(a9I.1 d).1;have hp:=a8N (show j<_ by rw[w]at l;exact l);exact B j _ q hp d (y j _ hp)
 |@sl s rs ts w H h B=>
  intro v r;have K:∀(i j:Nat) q,at2 ts i j=some q→∃p,at2 rs i j=some p:=by intro i j q d;unfold at2 at d ⊢;rw[bbZ]at d;obtain⟨t,M,d⟩:=d;have hi:=(a9I.1 M).1;have y:=a8N (Om:i<Z' rs);have:=H i _ t y M;have l:=(a9I.1 d).1;rw[y];exact⟨(rs[i])[j]'Om,by simp⟩
  cases r with
  |sl u S x Y X F y=>
  rw[←w];refine .sl u Om x (λt M=>?_) (λO=>?_) F λi j q d=>?_
  ·obtain⟨i,hi,rfl⟩:=a9X M;have:=H i rs[i] ts[i] bD bD;rw[this];exact Y _ bD
  ·obtain⟨W,e,sp,N⟩:=X (by rintro rfl;exact O (List.eq_nil_of_length_eq_zero (by simpa using w)));refine⟨W,e,sp,λi j q d=>?_⟩;obtain⟨p,hp⟩:=K i j q d;exact N i j p hp
  ·obtain⟨p,hp⟩:=K i j q d;exact B i j p q hp d (y i j p hp)
theorem CoL.sound{E:Env}:∀{ps d:List PV}{vs:List Value},CoL ps d→fU E ps vs→fU E d vs
 |[],d,vs,h,r=>by cases r;have:d=[]:=List.eq_nil_of_length_eq_zero h.len;subst this;exact .nil
 |p::ps,d,vs,h,r=>by
  cases r with
  |cons r1 r2=>
  cases d with
  |nil=>have:=h.len;simp at this
  |cons q d =>refine .cons ((h.at_ 0 p q rfl rfl).sound r1) (CoL.sound ⟨by simpa using h.len,λj x y a b=>h.at_ (j+1) x y (by simpa using a) (by simpa using b)⟩ r2)
theorem aH.args{C:Ctx}{name:Nat}{args d:List PV}{H:PH}{R:PV→PH→Prop}(h:aH C name d H R)(l:CoL args d):aH C name args H R:=
 ⟨h.1,λE w vs i hW e=>h.2 E w vs i hW (l.sound e)⟩
theorem aH.post{C:Ctx}{name:Nat}{args:List PV}{H:PH}{R x:PV→PH→Prop}(h:aH C name args H R)(F:∀r H',R r H'→∃r',Co r r'∧x r' H'):aH C name args H x:=
 ⟨h.1,λE w vs B hW p=>(h.2 E w vs B hW p).mono λe M J=>by obtain⟨v,pv,y,H',rfl,d,K,A,hp⟩:=J;obtain⟨u,i,l⟩:=F pv H' hp;exact⟨v,u,y,H',rfl,d,i.sound K,A,l⟩⟩
attribute [go_sem] List.getElem?_cons_succ List.getElem?_cons_zero and_self and_true true_and or_true true_or or_false false_or a8I a8P a8X bbN if_true if_false a9O baE List.drop_succ_cons a9L List.take_succ_cons List.take_zero a9D baB a9V.injEq PV.bool.injEq PV.int.injEq aP PV.bin
@[go_sem] theorem aZM(k:IntKind)(a b:Int):oR .add k a b=some (.int k (k.wrap (a+b))):=(rfl)
@[go_sem] theorem aZW(k:IntKind)(a b:Int):oR .sub k a b=some (.int k (k.wrap (a-b))):=(rfl)
@[go_sem] theorem aZS(k:IntKind)(a b:Int):oR .mul k a b=some (.int k (k.wrap (a*b))):=(rfl)
@[go_sem] theorem aZU(k:IntKind)(a b:Int):oR .quo k a b=if b=0 then none else some (.int k (k.wrap (a.tdiv b))):=(rfl)
@[go_sem] theorem aZV(k:IntKind)(a b:Int):oR .rem k a b=if b=0 then none else some (.int k (a.tmod b)):=(rfl)
@[go_sem] theorem aZN(k:IntKind)(a b:Int):oR .eql k a b=some (.bool (a==b)):=(rfl)
@[go_sem] theorem aZT(k:IntKind)(a b:Int):oR .neq k a b=some (.bool (a != b)):=(rfl)
@[go_sem] theorem aZR(k:IntKind)(a b:Int):oR .lss k a b=some (.bool (decide (a<b))):=(rfl)
@[go_sem] theorem aZQ(k:IntKind)(a b:Int):oR .leq k a b=some (.bool (decide (a≤b))):=(rfl)
@[go_sem] theorem aZP(k:IntKind)(a b:Int):oR .gtr k a b=some (.bool (decide (a>b))):=(rfl)
@[go_sem] theorem aZO(k:IntKind)(a b:Int):oR .geq k a b=some (.bool (decide (a≥b))):=(rfl)
section
variable {C:Ctx} {K:cD} {F:PF} {H:PH}
@[go_sem] theorem a4Q:aC.wp C .skip K F H=K .normal F H:=(rfl)
@[go_sem] theorem a1J(ops:List aW):aC.wp C (.region ops) K F H=wpOps C ops (K .normal) F H:=(rfl)
@[go_sem] theorem Gc(a b:aC):aC.wp C (.seq a b) K F H=a.wp C (jW C (b.wp C) K) F H:=(rfl)
@[go_sem] theorem a2S(id:Nat)(c:aC):aC.wp C (.block id c) K F H=c.wp C (fQ id K) F H:=(rfl)
@[go_sem] theorem a4P(id:Nat):aC.wp C (.exit id) K F H=K (.exit id) F H:=(rfl)
@[go_sem] theorem a5C:aC.wp C .ret K F H=K .ret F H:=(rfl)
def gf(C:Ctx)(v:Option PV)(a b:aC)(K:cD)(F:PF)(H:PH):Prop:=
 match v with
 |some (.bool t)=>if t then a.wp C K F H else b.wp C K F H
 |_=>False
@[go_sem] theorem aQU(c:aQ)(a b:aC):aC.wp C (.cond c a b) K F H=gf C (c.ev F) a b K F H:=(rfl)
@[go_sem] theorem a0B(a b:aC):gf C (some (.bool true)) a b K F H=a.wp C K F H:=(rfl)
@[go_sem] theorem aYP(a b:aC):gf C (some (.bool false)) a b K F H=b.wp C K F H:=(rfl)
theorem aKQ{t:Bool}{a b:aC}(d:t=true→a.wp C K F H)(e:t=false→b.wp C K F H):gf C (some (.bool t)) a b K F H:=by
 cases t
 ·exact e rfl
 ·exact d rfl
@[go_sem] theorem aYX(w:cD→PF→PH→Prop):jW C w K .normal F H=w K F H:=(rfl)
@[go_sem] theorem aXZ(w:cD→PF→PH→Prop):jW C w K .normal=w K:=(rfl)
@[go_sem] theorem a2F(w:cD→PF→PH→Prop)(id:Nat):jW C w K (.exit id)=K (.exit id):=(rfl)
@[go_sem] theorem a4E(w:cD→PF→PH→Prop):jW C w K .ret=K .ret:=(rfl)
@[go_sem] theorem aWE(id:Nat):fQ id K .normal=K .normal:=(rfl)
@[go_sem] theorem aZZ(id:Nat):fQ id K .ret=K .ret:=(rfl)
@[go_sem] theorem LC(id d:Nat):fQ id K (.exit d) F H=if d=id then K .normal F H else K (.exit d) F H:=(rfl)
@[go_sem] theorem a1H(K:PF→PH→Prop):wpOps C [] K F H=K F H:=(rfl)
@[go_sem] theorem a1I(d:Option Nat)(op:POp)(rest:List aW)(K:PF→PH→Prop):wpOps C (⟨d,op,none⟩::rest) K F H=wpOp C op d (wpOps C rest K) F H:=(rfl)
def CN(C:Ctx)(v:Option PV)(e:Bool)(op:POp)(d:Option Nat)(rest:List aW)(K:PF→PH→Prop)(F:PF)(H:PH):Prop:=
 match v with
 |some (.bool b)=>if b=e then wpOp C op d (wpOps C rest K) F H else wpOps C rest K (F.put d (.tup [])) H
 |some (.tup [])=>wpOps C rest K (F.put d (.tup [])) H
 |_=>False
@[go_sem] theorem akG(d:Option Nat)(op:POp)(t:Nat)(e:Bool)(rest:List aW)(K:PF→PH→Prop) :
  wpOps C (⟨d,op,some (t,e)⟩::rest) K F H=CN C (F t) e op d rest K F H:=(rfl)
@[go_sem] theorem a2B(op:POp)(d:Option Nat)(rest:List aW)(K:PF→PH→Prop):CN C (some (.bool true)) true op d rest K F H=wpOp C op d (wpOps C rest K) F H:=(rfl)
@[go_sem] theorem a1Y(op:POp)(d:Option Nat)(rest:List aW)(K:PF→PH→Prop):CN C (some (.bool false)) false op d rest K F H=wpOp C op d (wpOps C rest K) F H:=(rfl)
@[go_sem] theorem a2A(op:POp)(d:Option Nat)(rest:List aW)(K:PF→PH→Prop):CN C (some (.bool true)) false op d rest K F H=wpOps C rest K (F.put d (.tup [])) H:=(rfl)
@[go_sem] theorem a1Z(op:POp)(d:Option Nat)(rest:List aW)(K:PF→PH→Prop):CN C (some (.bool false)) true op d rest K F H=wpOps C rest K (F.put d (.tup [])) H:=(rfl)
@[go_sem] theorem aYU(e:Bool)(op:POp)(d:Option Nat)(rest:List aW)(K:PF→PH→Prop):CN C (some (.tup [])) e op d rest K F H=wpOps C rest K (F.put d (.tup [])) H:=(rfl)
@[go_sem] theorem a3V(d:Nat)(v:PV):F.put (some d) v=F.set d v:=(rfl)
@[go_sem] theorem a3U(v:PV):F.put none v=F:=(rfl)
@[go_sem] theorem oS(i j:Nat)(v:PV):(F.set i v) j=if j=i then some v else F j:=(rfl)
@[go_sem] theorem args_at(vs:List PV)(i:Nat):PF.args vs i=vs[i]?:=(rfl)
@[go_sem] theorem a5H(i:Nat):PF.nil i=none:=(rfl)
@[go_sem] theorem wc(t:Nat):(aQ.tmp t).ev F=F t:=(rfl)
@[go_sem] theorem a3K(v:PV):(aQ.const v).ev F=some v:=(rfl)
@[go_sem] theorem aS(i j:Nat)(x:aU):(H.set i x) j=if j=i then some x else H j:=(rfl)
@[go_sem] theorem gr(i:Nat):PH.nil i=none:=(rfl)
@[go_sem] theorem gi:aQ.evs F []=some []:=(rfl)
@[go_sem] theorem HF(x:aQ)(xs:List aQ):aQ.evs F (x::xs)=(match x.ev F,aQ.evs F xs with|some v,some vs=>some (v::vs)|_,_=>none):=(rfl)
theorem kD{i j:Nat}{x:aU}:(H.set i x) j=none↔j≠i∧H j=none:=by
 rw[aS];split<;>simp_all
@[go_sem] theorem aYY(v:PV)(d:Option Nat)(K:PF→PH→Prop):cM (some v) d K F H=K (F.put d v) H:=by
 simp[cM]
theorem aR{e:Nat→PV}{x:aU}{d:Option Nat}{K:PF→PH→Prop}(h:∀o,H o=none→K (F.put d (e o)) (H.set o x)):pX (some (e,x)) d K F H:=⟨e,x,rfl,h⟩
@[go_sem] theorem a5A(x:aQ)(d:Option Nat)(K:PF→PH→Prop):wpOp C (.mv x) d K F H=cM (aP (.mv x) F H) d K F H:=(rfl)
@[go_sem] theorem a2R(x:aQ)(d:Option Nat)(K:PF→PH→Prop):wpOp C (.same x) d K F H=cM (aP (.same x) F H) d K F H:=(rfl)
@[go_sem] theorem a2Q(c a b:aQ)(d:Option Nat)(K:PF→PH→Prop):wpOp C (.pick c a b) d K F H=cM (aP (.pick c a b) F H) d K F H:=(rfl)
@[go_sem] theorem a4K(o:BinOp)(x y:aQ)(d:Option Nat)(K:PF→PH→Prop):wpOp C (.bin o x y) d K F H=cM (aP (.bin o x y) F H) d K F H:=(rfl)
@[go_sem] theorem a4M(n:Bool)(x y:aQ)(d:Option Nat)(K:PF→PH→Prop):wpOp C (.eqb n x y) d K F H=cM (aP (.eqb n x y) F H) d K F H:=(rfl)
@[go_sem] theorem a4N(n:Bool)(e:List Sc)(x y:aQ)(d:Option Nat)(K:PF→PH→Prop):wpOp C (.eqs n e x y) d K F H=cM (aP (.eqs n e x y) F H) d K F H:=(rfl)
@[go_sem] theorem a5B(o:UnOp)(x:aQ)(d:Option Nat)(K:PF→PH→Prop):wpOp C (.un o x) d K F H=cM (aP (.un o x) F H) d K F H:=(rfl)
@[go_sem] theorem a2J(k:IntKind)(x:aQ)(d:Option Nat)(K:PF→PH→Prop):wpOp C (.conv k x) d K F H=cM (aP (.conv k x) F H) d K F H:=(rfl)
@[go_sem] theorem a1A(z:List PV)(ps:List (Nat × Nat × aQ))(d:Option Nat)(K:PF→PH→Prop):wpOp C (.build z ps) d K F H=cM (aP (.build z ps) F H) d K F H:=(rfl)
@[go_sem] theorem a2O(n:Option Nat)(p:aQ)(d:Option Nat)(K:PF→PH→Prop):wpOp C (.load n p) d K F H=cM (aP (.load n p) F H) d K F H:=(rfl)
@[go_sem] theorem aZJ(x:aQ)(d:Option Nat)(K:PF→PH→Prop):wpOp C (.a7B x) d K F H=cM (aP (.a7B x) F H) d K F H:=(rfl)
@[go_sem] theorem aZC(e:Nat)(x:aQ)(d:Option Nat)(K:PF→PH→Prop):wpOp C (.a7R e x) d K F H=cM (aP (.a7R e x) F H) d K F H:=(rfl)
@[go_sem] theorem a1C(e:Nat)(n:Option Nat)(x:aQ)(d:Option Nat)(K:PF→PH→Prop):wpOp C (.field e n x) d K F H=cM (aP (.field e n x) F H) d K F H:=(rfl)
@[go_sem] theorem a2L(s:Nat)(x i:aQ)(d:Option Nat)(K:PF→PH→Prop):wpOp C (.a7F s x i) d K F H=cM (aP (.a7F s x i) F H) d K F H:=(rfl)
@[go_sem] theorem a2K(n s:Nat)(x i:aQ)(d:Option Nat)(K:PF→PH→Prop):wpOp C (.idxA n s x i) d K F H=cM (aP (.idxA n s x i) F H) d K F H:=(rfl)
@[go_sem] theorem a2M(n s:Nat)(g:Bool)(x i:aQ)(d:Option Nat)(K:PF→PH→Prop):wpOp C (.idxV n s g x i) d K F H=cM (aP (.idxV n s g x i) F H) d K F H:=(rfl)
@[go_sem] theorem aZD(x i:aQ)(d:Option Nat)(K:PF→PH→Prop):wpOp C (.a7P x i) d K F H=cM (aP (.a7P x i) F H) d K F H:=(rfl)
@[go_sem] theorem a1F(s:Nat)(x:aQ)(lo hi mx:Option aQ)(d:Option Nat)(K:PF→PH→Prop):wpOp C (.slice s x lo hi mx) d K F H=cM (aP (.slice s x lo hi mx) F H) d K F H:=(rfl)
@[go_sem] theorem aZK(n s:Nat)(x:aQ)(lo hi mx:Option aQ)(d:Option Nat)(K:PF→PH→Prop):wpOp C (.sliceA n s x lo hi mx) d K F H=cM (aP (.sliceA n s x lo hi mx) F H) d K F H:=(rfl)
@[go_sem] theorem aWH(x:aQ)(lo hi:Option aQ)(d:Option Nat)(K:PF→PH→Prop):wpOp C (.a7L x lo hi) d K F H=cM (aP (.a7L x lo hi) F H) d K F H:=(rfl)
@[go_sem] theorem a2C:PV.tB .aF=some (.int .i64 0):=(rfl)
@[go_sem] theorem a4Z(s:Nat)(rows:List (List PV)):PV.tB (.sl s rows)=some (.int .i64 rows.length):=(rfl)
@[go_sem] theorem a3R(o s d n:Nat):PV.tB (.osl o s d n)=some (.int .i64 n):=(rfl)
@[go_sem] theorem a4O(x:aQ)(d:Option Nat)(K:PF→PH→Prop):wpOp C (.len x) d K F H=cM (aP (.len x) F H) d K F H:=(rfl)
@[go_sem] theorem aZF(x:aQ)(d:Option Nat)(K:PF→PH→Prop):wpOp C (.a7O x) d K F H=cM (aP (.a7O x) F H) d K F H:=(rfl)
@[go_sem] theorem a2N(x:aQ)(d:Option Nat)(K:PF→PH→Prop):wpOp C (.lenM x) d K F H=cM (aP (.lenM x) F H) d K F H:=(rfl)
@[go_sem] theorem a1D(n:Bool)(x:aQ)(d:Option Nat)(K:PF→PH→Prop):wpOp C (.isNil n x) d K F H=cM (aP (.isNil n x) F H) d K F H:=(rfl)
@[go_sem] theorem aYW:PV.wG .aF=some true:=(rfl)
@[go_sem] theorem a0Q(o s d len:Nat):PV.wG (.osl o s d len)=some false:=(rfl)
@[go_sem] theorem aYV(s:Nat)(r:List PV)(rs:List (List PV)):PV.wG (.sl s (r::rs))=some false:=(rfl)
@[go_sem] theorem aZB(x:aQ)(d:Option Nat)(K:PF→PH→Prop):wpOp C (.a7Y x) d K F H=cM (aP (.a7Y x) F H) d K F H:=(rfl)
@[go_sem] theorem aYK(x:aQ)(i:Nat)(d:Option Nat)(K:PF→PH→Prop):wpOp C (.extract x i) d K F H=cM (aP (.extract x i) F H) d K F H:=(rfl)
@[go_sem] theorem aZI(m:Bool)(x y:aQ)(d:Option Nat)(K:PF→PH→Prop):wpOp C (.a7J m x y) d K F H=cM (aP (.a7J m x y) F H) d K F H:=(rfl)
@[go_sem] theorem a2P(n:Nat)(cs:List aQ)(d:Option Nat)(K:PF→PH→Prop):wpOp C (.mkfn n cs) d K F H=cM (aP (.mkfn n cs) F H) d K F H:=(rfl)
@[go_sem] theorem aZG(sh:MSh)(z:PV)(x k:aQ)(ok:Bool)(d:Option Nat)(K:PF→PH→Prop):wpOp C (.lookup sh z x k ok) d K F H=cM (aP (.lookup sh z x k ok) F H) d K F H:=(rfl)
@[go_sem] theorem aVU(x:aQ)(d:Option Nat)(K:PF→PH→Prop):wpOp C (.a7C x) d K F H=cM (aP (.a7C x) F H) d K F H:=(rfl)
@[go_sem] theorem a2H(x:aQ)(d:Option Nat)(K:PF→PH→Prop):wpOp C (.box true x) d K F H=cM (aP (.box true x) F H) d K F H:=(rfl)
@[go_sem] theorem aYJ(s l:Nat)(z:List PV)(ps:List (Nat × aQ))(d:Option Nat)(K:PF→PH→Prop):wpOp C (.a6U true s l z ps) d K F H=cM (aP (.a6U true s l z ps) F H) d K F H:=(rfl)
@[go_sem] theorem a0Z(cs:List PV)(d:Option Nat)(K:PF→PH→Prop):wpOp C (.alloc cs) d K F H=pX (cT (.alloc cs) F) d K F H:=(rfl)
@[go_sem] theorem aYL(s b:Nat)(z:List PV)(l c:aQ)(d:Option Nat)(K:PF→PH→Prop):wpOp C (.a6W s b z l c) d K F H=pX (cT (.a6W s b z l c) F) d K F H:=(rfl)
@[go_sem] theorem a1E(sh:MSh)(d:Option Nat)(K:PF→PH→Prop):wpOp C (.a7U sh) d K F H=pX (cT (.a7U sh) F) d K F H:=(rfl)
@[go_sem] theorem a4L(x:aQ)(d:Option Nat)(K:PF→PH→Prop):wpOp C (.box false x) d K F H=pX (cT (.box false x) F) d K F H:=(rfl)
@[go_sem] theorem aZA(s l:Nat)(z:List PV)(ps:List (Nat × aQ))(d:Option Nat)(K:PF→PH→Prop):wpOp C (.a6U false s l z ps) d K F H=pX (cT (.a6U false s l z ps) F) d K F H:=(rfl)
@[go_sem] theorem a1G(n:Nat)(p x:aQ)(d:Option Nat)(K:PF→PH→Prop):wpOp C (.store n p x) d K F H=bZ (.store n p x) F H (λr H'=>K (F.put d r) H'):=(rfl)
@[go_sem] theorem aYZ(s b:Nat)(x y:aQ)(d:Option Nat)(K:PF→PH→Prop):wpOp C (.append s b x y) d K F H=bZ (.append s b x y) F H (λr H'=>K (F.put d r) H'):=(rfl)
@[go_sem] theorem aZH(sh:MSh)(x k v:aQ)(d:Option Nat)(K:PF→PH→Prop):wpOp C (.a7G sh x k v) d K F H=bZ (.a7G sh x k v) F H (λr H'=>K (F.put d r) H'):=(rfl)
@[go_sem] theorem aZE(sh:MSh)(x k v:aQ)(d:Option Nat)(K:PF→PH→Prop):wpOp C (.insert sh x k v) d K F H=bZ (.insert sh x k v) F H (λr H'=>K (F.put d r) H'):=(rfl)
@[go_sem] theorem a2I(n:Nat)(e:List aQ)(d:Option Nat)(K:PF→PH→Prop):wpOp C (.call n e) d K F H=kY C n e [] d K F H:=(rfl)
@[go_sem] theorem a1B(x:aQ)(e:List aQ)(d:Option Nat)(K:PF→PH→Prop):wpOp C (.a7Q x e) d K F H=vN C (x.ev F) e d K F H:=(rfl)
@[go_sem] theorem a0Y(n:Nat)(cs:List PV)(e:List aQ)(d:Option Nat)(K:PF→PH→Prop):vN C (some (.fn n cs)) e d K F H=kY C n e cs d K F H:=(rfl)
theorem PF.nil_le:PF.nil.le F:=λ_ _ h=>(by cases h)
abbrev d_:=@PF.nil_le
theorem PF.aI{i:Nat}{v:PV}{G:PF}(l:F.le G)(p:G i=some v):(F.set i v).le G:=by
 intro j u d;rw[oS]at d;split at d
 ·rename_i e;subst e;cases d;exact p
 ·exact l _ _ d
abbrev c_:=@PF.aI
theorem PF.le_refl:F.le F:=λ_ _ h=>h
theorem PH.nil_le:PH.nil.le H:=λ_ _ h=>(by cases h)
abbrev a_:=@PH.nil_le
theorem PH.aI{i:Nat}{x:aU}{G:PH}(l:H.le G)(p:G i=some x):(H.set i x).le G:=by
 intro j u d;rw[aS]at d;split at d
 ·rename_i e;subst e;cases d;exact p
 ·exact l _ _ d
abbrev e_:=@PH.aI
theorem PH.le_refl:H.le H:=λ_ _ h=>h
abbrev b_:=@PH.le_refl
theorem wp_loop{c:aC}{α:Type}(d:α→PF)(Hs:α→PH)(e:α→Prop)(m:α→Nat)(i:α)(l:e i)(p:(d i).le F)(u:(Hs i).le H)
  (hb:∀a,e a→c.wp C (gV d Hs e m (m a) K) (d a) (Hs a)):aC.wp C (.loop c) K F H:=
 ⟨α,d,Hs,e,m,i,F,H,.refl F H,l,p,u,hb⟩
theorem aJ{α:Type}{d:α→PF}{Hs:α→PH}{e:α→Prop}{m:α→Nat}{n:Nat}(a:α)(i:e a)(u:m a<n)(l:(d a).le F)(p:(Hs a).le H):gV d Hs e m n K .normal F H:=
 ⟨a,F,H,.refl F H,i,u,l,p⟩
@[go_sem] theorem a0T{α:Type}{d:α→PF}{Hs:α→PH}{e:α→Prop}{m:α→Nat}{n:Nat}(id:Nat):gV d Hs e m n K (.exit id)=K (.exit id):=(rfl)
@[go_sem] theorem a2D{α:Type}{d:α→PF}{Hs:α→PH}{e:α→Prop}{m:α→Nat}{n:Nat}:gV d Hs e m n K .ret=K .ret:=(rfl)
def aK(v:PV)(r:PV)(H:PH):Prop:=r=v∧H=PH.nil
theorem PH.HU:H.over .nil .nil=H:=PH.ext λo=>rfl
theorem akF{name:Nat}{vs cs:List PV}{v:PV}{args:List aQ}{d:Option Nat}{K:PF→PH→Prop}(h:aH C name (vs++cs) .nil (aK v))(e:aQ.evs F args=some vs)
  (i:K (F.put d v) H):kY C name args cs d K F H:=by
 refine .inl ⟨vs++cs,.nil,_,by rw[e];rfl,a_,h,?_⟩;rintro r H' ⟨rfl,rfl⟩ _;rw[PH.HU];exact i
theorem aB{name:Nat}{vs:List PV}{v:PV}{args:List aQ}{d:Option Nat}{K:PF→PH→Prop}(h:aH C name vs .nil (aK v))(e:aQ.evs F args=some vs)
  (i:K (F.put d v) H):kY C name args [] d K F H:=akF (cs:=[]) (by rw[a9W];exact h) e i
theorem aX{res:List eN}{vs:List PV}{v:PV}{e:mZ}(p:e=.normal∨e=.ret)(h:eN.evs F H res=some vs)(w:bR vs=v):aY res (aK v) e F H:=by
 have d:∃vs,eN.evs F H res=some vs∧∃i l H2,kC (PF.nil.set 0 (bR vs)) H i l∧H2.le l∧∃u,i 0=some u∧aK v u H2:=
  ⟨vs,h,_,H,.nil,.refl _ _,a_,v,by rw[oS,aG rfl,w],rfl,rfl⟩
 rcases p with rfl|rfl<;>exact d
@[go_sem] theorem sY:eN.evs F H []=some []:=(rfl)
@[go_sem] theorem oM(x:eN)(xs:List eN):eN.evs F H (x::xs)=(match x.ev F H,eN.evs F H xs with|some v,some vs=>some (v::vs)|_,_=>none):=(rfl)
@[go_sem] theorem rK(t:Nat):eN.ev F H (.tmp t)=F t:=(rfl)
@[go_sem] theorem a3W(t:Nat):eN.ev F H (.cell t none)=(match F t with|some p=>(match loadCells H p 1 with|some [v]=>some v|_=>none)|none=>none):=(rfl)
@[go_sem] theorem a2E(t k:Nat):eN.ev F H (.cell t (some k))=(match F t with|some p=>(loadCells H p k).map .agg|none=>none):=(rfl)
end
section
variable {C:Ctx} {K:cD} {F:PF} {H Hs:PH} {S:Spec}
theorem cP{ops:List (aW × Bool)}(Hs:PH)(S:Spec)(d:Hs.le H)(h:wpD C Hs S ops (K .normal) F H):aC.wp C (.draw ops) K F H:=⟨Hs,S,d,h⟩
def fT:Spec:=λ_ _=>none
def dOp(C:Ctx)(Hs:PH)(S:Spec)(st:Bool)(op:POp)(d:Option Nat)(K:PF→PH→Prop)(F:PF)(H:PH):Prop:=(op.kind F).run C Hs S st (λv H'=>K (F.put d v) H') H
@[go_sem] theorem a4I(K:PF→PH→Prop):wpD C Hs S [] K F H=K F H:=(rfl)
@[go_sem] theorem a4J(d:Option Nat)(op:POp)(st:Bool)(rest:List (aW × Bool))(K:PF→PH→Prop):wpD C Hs S ((⟨d,op,none⟩,st)::rest) K F H=dOp C Hs S st op d (wpD C Hs S rest K) F H:=(rfl)
def HL(C:Ctx)(Hs:PH)(S:Spec)(v:Option PV)(e st:Bool)(op:POp)(d:Option Nat)(rest:List (aW × Bool))(K:PF→PH→Prop)(F:PF)(H:PH):Prop:=
 match v with
 |some (.bool b)=>if b=e then dOp C Hs S st op d (wpD C Hs S rest K) F H else wpD C Hs S rest K (F.put d (.tup [])) H
 |some (.tup [])=>wpD C Hs S rest K (F.put d (.tup [])) H
 |_=>False
@[go_sem] theorem a2G(d:Option Nat)(op:POp)(t:Nat)(e st:Bool)(rest:List (aW × Bool))(K:PF→PH→Prop) :
  wpD C Hs S ((⟨d,op,some (t,e)⟩,st)::rest) K F H=HL C Hs S (F t) e st op d rest K F H:=by
 have i:wpD C Hs S ((⟨d,op,some (t,e)⟩,st)::rest) K F H=((⟨d,op,some (t,e)⟩:aW).kind F).run C Hs S st (λv H'=>wpD C Hs S rest K (F.put d v) H') H:=(rfl);rw[i];unfold aW.kind HL;simp only;cases F t with
 |none=>rfl
 |some v=>
  cases v
  case bool b=>
   simp only;by_cases hb:b=e
   ·rw[aG hb,aG hb];rfl
   ·rw[aD hb,aD hb];simp[Kind.run]
  case tup vs=>cases vs<;>simp[Kind.run]
  all_goals rfl
@[go_sem] theorem a1X(op:POp)(st:Bool)(d:Option Nat)(rest:List (aW × Bool))(K:PF→PH→Prop):HL C Hs S (some (.bool true)) true st op d rest K F H=dOp C Hs S st op d (wpD C Hs S rest K) F H:=(rfl)
@[go_sem] theorem a1U(op:POp)(st:Bool)(d:Option Nat)(rest:List (aW × Bool))(K:PF→PH→Prop):HL C Hs S (some (.bool false)) false st op d rest K F H=dOp C Hs S st op d (wpD C Hs S rest K) F H:=(rfl)
@[go_sem] theorem a1W(op:POp)(st:Bool)(d:Option Nat)(rest:List (aW × Bool))(K:PF→PH→Prop):HL C Hs S (some (.bool true)) false st op d rest K F H=wpD C Hs S rest K (F.put d (.tup [])) H:=(rfl)
@[go_sem] theorem a1V(op:POp)(st:Bool)(d:Option Nat)(rest:List (aW × Bool))(K:PF→PH→Prop):HL C Hs S (some (.bool false)) true st op d rest K F H=wpD C Hs S rest K (F.put d (.tup [])) H:=(rfl)
@[go_sem] theorem aYT(e:Bool)(op:POp)(st:Bool)(d:Option Nat)(rest:List (aW × Bool))(K:PF→PH→Prop):HL C Hs S (some (.tup [])) e st op d rest K F H=wpD C Hs S rest K (F.put d (.tup [])) H:=(rfl)
@[go_sem] theorem a5D(x:aQ)(st:Bool)(d:Option Nat)(K:PF→PH→Prop):dOp C Hs S st (.mv x) d K F H=cM (aP (.mv x) F (if st then Hs else H)) d K F H:=(rfl)
@[go_sem] theorem a3I(x:aQ)(st:Bool)(d:Option Nat)(K:PF→PH→Prop):dOp C Hs S st (.same x) d K F H=cM (aP (.same x) F (if st then Hs else H)) d K F H:=(rfl)
@[go_sem] theorem a3H(c a b:aQ)(st:Bool)(d:Option Nat)(K:PF→PH→Prop):dOp C Hs S st (.pick c a b) d K F H=cM (aP (.pick c a b) F (if st then Hs else H)) d K F H:=(rfl)
@[go_sem] theorem a4S(o:BinOp)(x y:aQ)(st:Bool)(d:Option Nat)(K:PF→PH→Prop):dOp C Hs S st (.bin o x y) d K F H=cM (aP (.bin o x y) F (if st then Hs else H)) d K F H:=(rfl)
@[go_sem] theorem a4U(n:Bool)(x y:aQ)(st:Bool)(d:Option Nat)(K:PF→PH→Prop):dOp C Hs S st (.eqb n x y) d K F H=cM (aP (.eqb n x y) F (if st then Hs else H)) d K F H:=(rfl)
@[go_sem] theorem a4V(n:Bool)(e:List Sc)(x y:aQ)(st:Bool)(d:Option Nat)(K:PF→PH→Prop):dOp C Hs S st (.eqs n e x y) d K F H=cM (aP (.eqs n e x y) F (if st then Hs else H)) d K F H:=(rfl)
@[go_sem] theorem a5E(o:UnOp)(x:aQ)(st:Bool)(d:Option Nat)(K:PF→PH→Prop):dOp C Hs S st (.un o x) d K F H=cM (aP (.un o x) F (if st then Hs else H)) d K F H:=(rfl)
@[go_sem] theorem a3A(k:IntKind)(x:aQ)(st:Bool)(d:Option Nat)(K:PF→PH→Prop):dOp C Hs S st (.conv k x) d K F H=cM (aP (.conv k x) F (if st then Hs else H)) d K F H:=(rfl)
@[go_sem] theorem a1L(z:List PV)(ps:List (Nat × Nat × aQ))(st:Bool)(d:Option Nat)(K:PF→PH→Prop):dOp C Hs S st (.build z ps) d K F H=cM (aP (.build z ps) F (if st then Hs else H)) d K F H:=(rfl)
@[go_sem] theorem a3F(n:Option Nat)(p:aQ)(st:Bool)(d:Option Nat)(K:PF→PH→Prop):dOp C Hs S st (.load n p) d K F H=cM (aP (.load n p) F (if st then Hs else H)) d K F H:=(rfl)
@[go_sem] theorem a0L(x:aQ)(st:Bool)(d:Option Nat)(K:PF→PH→Prop):dOp C Hs S st (.a7B x) d K F H=cM (aP (.a7B x) F (if st then Hs else H)) d K F H:=(rfl)
@[go_sem] theorem a0F(e:Nat)(x:aQ)(st:Bool)(d:Option Nat)(K:PF→PH→Prop):dOp C Hs S st (.a7R e x) d K F H=cM (aP (.a7R e x) F (if st then Hs else H)) d K F H:=(rfl)
@[go_sem] theorem a1M(e:Nat)(n:Option Nat)(x:aQ)(st:Bool)(d:Option Nat)(K:PF→PH→Prop):dOp C Hs S st (.field e n x) d K F H=cM (aP (.field e n x) F (if st then Hs else H)) d K F H:=(rfl)
@[go_sem] theorem a3C(s:Nat)(x i:aQ)(st:Bool)(d:Option Nat)(K:PF→PH→Prop):dOp C Hs S st (.a7F s x i) d K F H=cM (aP (.a7F s x i) F (if st then Hs else H)) d K F H:=(rfl)
@[go_sem] theorem a3B(n s:Nat)(x i:aQ)(st:Bool)(d:Option Nat)(K:PF→PH→Prop):dOp C Hs S st (.idxA n s x i) d K F H=cM (aP (.idxA n s x i) F (if st then Hs else H)) d K F H:=(rfl)
@[go_sem] theorem a3D(n s:Nat)(g:Bool)(x i:aQ)(st:Bool)(d:Option Nat)(K:PF→PH→Prop):dOp C Hs S st (.idxV n s g x i) d K F H=cM (aP (.idxV n s g x i) F (if st then Hs else H)) d K F H:=(rfl)
@[go_sem] theorem a0G(x i:aQ)(st:Bool)(d:Option Nat)(K:PF→PH→Prop):dOp C Hs S st (.a7P x i) d K F H=cM (aP (.a7P x i) F (if st then Hs else H)) d K F H:=(rfl)
@[go_sem] theorem a1P(s:Nat)(x:aQ)(lo hi mx:Option aQ)(st:Bool)(d:Option Nat)(K:PF→PH→Prop):dOp C Hs S st (.slice s x lo hi mx) d K F H=cM (aP (.slice s x lo hi mx) F (if st then Hs else H)) d K F H:=(rfl)
@[go_sem] theorem aWU(x:aQ)(lo hi:Option aQ)(st:Bool)(d:Option Nat)(K:PF→PH→Prop):dOp C Hs S st (.a7L x lo hi) d K F H=cM (aP (.a7L x lo hi) F (if st then Hs else H)) d K F H:=(rfl)
@[go_sem] theorem a4W(x:aQ)(st:Bool)(d:Option Nat)(K:PF→PH→Prop):dOp C Hs S st (.len x) d K F H=cM (aP (.len x) F (if st then Hs else H)) d K F H:=(rfl)
@[go_sem] theorem a0H(x:aQ)(st:Bool)(d:Option Nat)(K:PF→PH→Prop):dOp C Hs S st (.a7O x) d K F H=cM (aP (.a7O x) F (if st then Hs else H)) d K F H:=(rfl)
@[go_sem] theorem a3E(x:aQ)(st:Bool)(d:Option Nat)(K:PF→PH→Prop):dOp C Hs S st (.lenM x) d K F H=cM (aP (.lenM x) F (if st then Hs else H)) d K F H:=(rfl)
@[go_sem] theorem a1N(n:Bool)(x:aQ)(st:Bool)(d:Option Nat)(K:PF→PH→Prop):dOp C Hs S st (.isNil n x) d K F H=cM (aP (.isNil n x) F (if st then Hs else H)) d K F H:=(rfl)
@[go_sem] theorem a0E(x:aQ)(st:Bool)(d:Option Nat)(K:PF→PH→Prop):dOp C Hs S st (.a7Y x) d K F H=cM (aP (.a7Y x) F (if st then Hs else H)) d K F H:=(rfl)
@[go_sem] theorem aYR(x:aQ)(i:Nat)(st:Bool)(d:Option Nat)(K:PF→PH→Prop):dOp C Hs S st (.extract x i) d K F H=cM (aP (.extract x i) F (if st then Hs else H)) d K F H:=(rfl)
@[go_sem] theorem a0K(m:Bool)(x y:aQ)(st:Bool)(d:Option Nat)(K:PF→PH→Prop):dOp C Hs S st (.a7J m x y) d K F H=cM (aP (.a7J m x y) F (if st then Hs else H)) d K F H:=(rfl)
@[go_sem] theorem a3G(n:Nat)(cs:List aQ)(st:Bool)(d:Option Nat)(K:PF→PH→Prop):dOp C Hs S st (.mkfn n cs) d K F H=cM (aP (.mkfn n cs) F (if st then Hs else H)) d K F H:=(rfl)
@[go_sem] theorem a0I(sh:MSh)(z:PV)(x k:aQ)(ok:Bool)(st:Bool)(d:Option Nat)(K:PF→PH→Prop):dOp C Hs S st (.lookup sh z x k ok) d K F H=cM (aP (.lookup sh z x k ok) F (if st then Hs else H)) d K F H:=(rfl)
@[go_sem] theorem aWG(x:aQ)(st:Bool)(d:Option Nat)(K:PF→PH→Prop):dOp C Hs S st (.a7C x) d K F H=cM (aP (.a7C x) F (if st then Hs else H)) d K F H:=(rfl)
@[go_sem] theorem a2Z(x:aQ)(st:Bool)(d:Option Nat)(K:PF→PH→Prop):dOp C Hs S st (.box true x) d K F H=cM (aP (.box true x) F (if st then Hs else H)) d K F H:=(rfl)
@[go_sem] theorem aYQ(s l:Nat)(z:List PV)(ps:List (Nat × aQ))(st:Bool)(d:Option Nat)(K:PF→PH→Prop):dOp C Hs S st (.a6U true s l z ps) d K F H=cM (aP (.a6U true s l z ps) F (if st then Hs else H)) d K F H:=(rfl)
@[go_sem] theorem a1K(cs:List PV)(st:Bool)(d:Option Nat)(K:PF→PH→Prop):dOp C Hs S st (.alloc cs) d K F H=pX (cT (.alloc cs) F) d K F H:=(rfl)
@[go_sem] theorem aYS(s b:Nat)(z:List PV)(l c:aQ)(st:Bool)(d:Option Nat)(K:PF→PH→Prop):dOp C Hs S st (.a6W s b z l c) d K F H=pX (cT (.a6W s b z l c) F) d K F H:=(rfl)
@[go_sem] theorem a1O(sh:MSh)(st:Bool)(d:Option Nat)(K:PF→PH→Prop):dOp C Hs S st (.a7U sh) d K F H=pX (cT (.a7U sh) F) d K F H:=(rfl)
@[go_sem] theorem a4T(x:aQ)(st:Bool)(d:Option Nat)(K:PF→PH→Prop):dOp C Hs S st (.box false x) d K F H=pX (cT (.box false x) F) d K F H:=(rfl)
@[go_sem] theorem a0D(s l:Nat)(z:List PV)(ps:List (Nat × aQ))(st:Bool)(d:Option Nat)(K:PF→PH→Prop):dOp C Hs S st (.a6U false s l z ps) d K F H=pX (cT (.a6U false s l z ps) F) d K F H:=(rfl)
@[go_sem] theorem a1Q(n:Nat)(p x:aQ)(st:Bool)(d:Option Nat)(K:PF→PH→Prop):dOp C Hs S st (.store n p x) d K F H=bZ (.store n p x) F H (λr H'=>Hs.le H'∧K (F.put d r) H'):=(rfl)
@[go_sem] theorem a0C(s b:Nat)(x y:aQ)(st:Bool)(d:Option Nat)(K:PF→PH→Prop):dOp C Hs S st (.append s b x y) d K F H=bZ (.append s b x y) F H (λr H'=>Hs.le H'∧K (F.put d r) H'):=(rfl)
@[go_sem] theorem a0J(sh:MSh)(x k v:aQ)(st:Bool)(d:Option Nat)(K:PF→PH→Prop):dOp C Hs S st (.a7G sh x k v) d K F H=bZ (.a7G sh x k v) F H (λr H'=>Hs.le H'∧K (F.put d r) H'):=(rfl)
theorem TQ:H.only []=PH.nil:=PH.ext λo=>by simp[PH.only,PH.nil]
theorem cR{name:Nat}{vs:List PV}{v:PV}{args:List aQ}{st:Bool}{d:Option Nat}{K:PF→PH→Prop}(i:S name vs=some ([],λ_=>aK v))(h:aH C name vs .nil (aK v))(l:aQ.evs F args=some vs)
  (e:Hs.le H) (p:K (F.put d v) H):dOp C Hs S st (.call name args) d K F H:=by
 refine⟨vs,[],λ_=>aK v,l,i,λo u=>by simp at u,by rw[TQ];exact h,λG=>⟨v,.nil,⟨rfl,rfl⟩,λo x w=>by simp[PH.nil]at w⟩,?_⟩;rintro r H' ⟨rfl,rfl⟩ -;rw[TQ,PH.HU];exact⟨e,p⟩
end
theorem wrap_i64{n:Int}(d:-9223372036854775808≤n)(i:n≤9223372036854775807):IntKind.i64.wrap n=n:=by
 have e:IntKind.i64.wrap n=if decide (n%18446744073709551616≥9223372036854775808)=true then n%18446744073709551616-18446744073709551616 else n%18446744073709551616:=by simp[IntKind.wrap,IntKind.bits,IntKind.signed]
 rw[e];split
 ·rename_i h;simp only[decide_eq_true_eq]at h;omega
 ·rename_i h;simp only[decide_eq_true_eq]at h;omega
theorem sv{k:Nat}(h:k≤9223372036854775807):IntKind.i64.wrap (k:Int)=k:=wrap_i64 Om Om
theorem eQ{k:Nat}(h:k<9223372036854775807):IntKind.i64.wrap ((k:Int)+1)=((k+1:Nat):Int):=by
 rw[wrap_i64 Om Om];omega
theorem wZz(k:Nat)(h:k<9223372036854775807:=by omega):IntKind.i64.wrap ((k:Int)+1)=((k+1:Nat):Int):=eQ h
theorem wrap_u64{n:Int}(d:0≤n)(i:n<18446744073709551616):IntKind.u64.wrap n=n:=by
 have e:IntKind.u64.wrap n=n%18446744073709551616:=by simp[IntKind.wrap,IntKind.bits,IntKind.signed]
 rw[e];omega
abbrev ints(xs:List Int):PV:=.sl 1 (xs.map λn=>[.int .i64 n])
open Go Go.RowKit
inductive CT where
 |int (k:IntKind)
 |bool
 |str
 |sl (es:List CT)
 deriving Inhabited
def wC(P:Program)(rec:TypeId→Option (List CT)):Nat→List Field→Option (List CT)
 |_,[]=>some []
 |k,f::d=>match rec f.type with
  |some cts=>if f.offset=k∧P.cellsOf f.type=cts.length then(wC P rec (k+Z' cts) d).map (cts++·)else none
  |none=>none
def kJ(P:Program):Nat→TypeId→Option (List CT)
 |0,_=>none
 |n+1,t=>match P.underlying t with
  |some .bool=>some [.bool]
  |some (.int k)=>some [.int k]
  |some .string=>some [.str]
  |some (.slice e)=>match kJ P n e with
   |some cts=>if P.cellsOf e=Z' cts∧0<cts.length then some [.sl cts]else none
   |none=>none
  |some (.struct d)=>match wC P (kJ P n) 0 d.toList with
   |some cts=>if P.cellsOf t=cts.length then some cts else none
   |none=>none
  |some (.array k e)=>match kJ P n e with
   |some cts=>if P.cellsOf e=Z' cts∧P.cellsOf t=k*cts.length then some (a8D k cts).flatten else none
   |none=>none
  |_=>none
inductive PV.Ty:CT→PV→Prop
 |int {k:IntKind} {n:Int} (h:(Lit.int k n).wf=true):PV.Ty (.int k) (.int k n)
 |bool (b:Bool):PV.Ty .bool (.bool b)
 |str {s:List UInt8} (h:Z' s≤maxLen):PV.Ty .str (.str s)
 |sl {es:List CT} {rows:List (List PV)} (hr:∀r∈rows,Z' r=Z' es) (hl:Z' rows≤maxLen) (h:∀(i j:Nat) pv ct,at2 rows i j=some pv→es[j]?=some ct→PV.Ty ct pv):PV.Ty (.sl es) (.sl es.length rows)
def Env.of(W:World)(num:Nat→FuncId):Env:=⟨λb=>match W.heap[b]? with|some (.cells cs _ _)=>some cs|_=>none,λ_=>none,num⟩
theorem bW.start(W:World)(num:Nat→FuncId):bW (Env.of W num) PH.nil W:=by
 refine⟨λb cs hb=>⟨λx d=>(by cases d),?_⟩,λo x d=>(by cases d),λo n h=>(by cases h)⟩;simp only[Env.of]at hb;split at hb
 ·rename_i c ty fr h;cases hb;exact⟨ty,fr,h⟩
 ·cases hb
structure Reads(E:Env)(cts:List CT)(pvs:List PV)(cs:List Value):Prop where
 lp:Z' pvs=Z' cts
 lc:Z' cs=Z' cts
 rep:∀(j:Nat) pv c,pvs[j]?=some pv→cs[j]?=some c→bF E pv c∧c.oneCell'=true
 ty:∀(j:Nat) pv ct,pvs[j]?=some pv→cts[j]?=some ct→PV.Ty ct pv
theorem Reads.one{E:Env}{ct:CT}{pv:PV}{c:Value}(h:bF E pv c)(d:c.oneCell'=true)(e:PV.Ty ct pv):Reads E [ct] [pv] [c]:=by
 refine⟨rfl,rfl,λj p u a b=>?_,λj p u a b=>?_⟩
 ·cases j with
  |zero=>simp at a b;subst a;subst b;exact⟨h,d⟩
  |succ j=>simp at a
 ·cases j with
  |zero=>simp at a b;subst a;subst b;exact e
  |succ j=>simp at a
theorem Reads.append{E:Env}{d i:List CT}{e x:List PV}{l w:List Value}(h:Reads E d e l)(k:Reads E i x w):Reads E (d++i) (e++x) (l++w):=by
 refine⟨by simp[h.lp,k.lp],by simp[h.lc,k.lc],λj p u a b=>?_,λj p u a b=>?_⟩
 ·rcases a9A j e.length with hj|hj
  ·rw[baW hj]at a;rw[baW (by rw[h.lc,←h.lp];exact hj)]at b;exact h.rep j p u a b
  ·rw[baP hj]at a;rw[baP (by rw[h.lc,←h.lp];exact hj)]at b;rw[show j-Z' l=j-e.length by rw[h.lc,h.lp]]at b;exact k.rep _ p u a b
 ·rcases a9A j e.length with hj|hj
  ·rw[baW hj]at a;rw[baW (by rw[←h.lp];exact hj)]at b;exact h.ty j p u a b
  ·rw[baP hj]at a;rw[baP (by rw[←h.lp];exact hj)]at b;rw[show j-Z' d=j-e.length by rw[h.lp]]at b;exact k.ty _ p u a b
theorem uu{W:World}{num:Nat→FuncId}{a:Addr}{v:Value}(h:W.cell? a=some v):a.spot=none∧(Env.of W num).cell a.block a.off=some v:=by
 unfold World.cell? at h;split at h
 ·rename_i c ty fr hb;split at h
  ·cases h
  ·rename_i d;refine⟨by simpa using d,?_⟩;simp only[Env.cell,Env.of,hb];exact h
 ·cases h
inductive PV.Len (N:Nat):PV→Prop
 |flat {pv:PV} (h1:∀n rows,pv≠.sl n rows) (h2:∀vs,pv≠.agg vs):PV.Len N pv
 |sl {n:Nat} {rows:List (List PV)} (h:Z' rows≤N) (hr:∀r∈rows,∀v∈r,PV.Len N v):PV.Len N (.sl n rows)
 |agg {vs:List PV} (h:∀v∈vs,PV.Len N v):PV.Len N (.agg vs)
theorem PV.Len.int{N:Nat}(k:IntKind)(n:Int):PV.Len N (.int k n):=.flat (λ_ _ h=>by cases h) λ_ h=>by cases h
theorem PV.Len.bool{N:Nat}(b:Bool):PV.Len N (.bool b):=.flat (λ_ _ h=>by cases h) λ_ h=>by cases h
theorem PV.Len.str{N:Nat}(s:List UInt8):PV.Len N (.str s):=.flat (λ_ _ h=>by cases h) λ_ h=>by cases h
theorem PV.Len.rows{N n:Nat}{rows:List (List PV)}(h:PV.Len N (.sl n rows)):Z' rows≤N∧∀r∈rows,∀v∈r,PV.Len N v:=by
 cases h with
 |flat d _=>exact absurd rfl (d n rows)
 |sl d e=>exact⟨d,e⟩
theorem PV.Len.parts{N:Nat}{vs:List PV}(h:PV.Len N (.agg vs)):∀v∈vs,PV.Len N v:=by
 cases h with
 |flat _ d=>exact absurd rfl (d vs)
 |agg h=>exact h
structure m5{H:Type}(P:Program)(N:Nat)(S:TypeId→DataW H→Prop):Prop where
 sl:∀t e elems spare,P.underlying t=some (.slice e)→S t (.slice elems spare)→Z' elems≤N∧∀d∈elems,S e d
 st:∀t fs parts,P.underlying t=some (.struct fs)→S t (.agg parts)→∀(i:Nat) g d,fs[i]?=some g→parts[i]?=some d→S g.type d
 ar:∀t n e parts,P.underlying t=some (.array n e)→S t (.agg parts)→∀d∈parts,S e d
theorem fy{H:Type}{P:Program}{A:(TypeId→DataW H→Prop)→Prop}{pv:PV}(h:∀{N},PV.Len N pv):∀N S,m5 P N S→A S→∀v∈[pv],PV.Len N v:=λN S _ _ v d=>by
 obtain rfl:=baQ.1 d;exact h
theorem wd{P:Program}{E:Env}{rec:TypeId→Option (List CT)}{H:Type}{f:TypeId→List Value→Option (DataW H × List MemPlace)}
  (F:∀t cs x cts,f t cs=some x→rec t=some cts→∃d,Reads E cts d cs∧∀N S,m5 P N S→S t x.1→∀v∈d,PV.Len N v) (cs:List Value) :
  ∀(i:List Field)(k:Nat)(cts:List CT),(∀g∈i,∃x,f g.type ((cs.drop g.offset).take (P.cellsOf g.type))=some x)→wC P rec k i=some cts →
   ∃d,Reads E cts d ((cs.drop k).take cts.length)∧∀N S,m5 P N S→(∀g∈i,∀x,f g.type ((cs.drop g.offset).take (P.cellsOf g.type))=some x→S g.type x.1)→∀v∈d,PV.Len N v
 |[],k,cts,_,h=>by simp[wC]at h;subst h;exact⟨[],⟨rfl,by simp,λj p c a=>by simp at a,λj p c a=>by simp at a⟩,λ_ _ _ _ v hv=>by cases hv⟩
 |g::i,k,cts,A,h=>by
  simp only[wC]at h;split at h
  ·rename_i J M;split at h
   ·rename_i y;simp only[a8K]at h;obtain⟨K,O,rfl⟩:=h;obtain⟨x,B⟩:=A g bD;obtain⟨U,r1,Q⟩:=F _ _ _ _ B M;rw[y.1,y.2]at r1;obtain⟨V,r2,R⟩:=wd F cs i (k+Z' J) K (λl e=>A l (by simp[e])) O;refine⟨U++V,?_,λN S u w v hv=>?_⟩
    ·have:=r1.append r2;rw[a8F,List.take_add,List.drop_drop];exact this
    ·rcases a9T.1 hv with hv|hv
     ·exact Q N S u (w g bD x B) v hv
     ·exact R N S u (λl e=>w l (by simp[e])) v hv
   ·cases h
  ·cases h
theorem H7{E:Env}{cts:List CT}{R:List PV→Prop}(e:R [])(l:∀a b,R a→R b→R (a++b))(cs:List Value) :
  ∀n:Nat,(∀i,i<n→∃d,Reads E cts d ((cs.drop (i*Z' cts)).take cts.length)∧R d)→∃d,Reads E (a8D n cts).flatten d (cs.take (n*Z' cts))∧R d
 |0,_=>⟨[],⟨rfl,by simp,λj p c a=>by simp at a,λj p c a=>by simp at a⟩,e⟩
 |n+1,h=>by obtain⟨u,r1,x⟩:=H7 e l cs n λi hi=>h i Om;obtain⟨w,r2,y⟩:=h n Om;refine⟨u++w,?_,l _ _ x y⟩;rw[List.replicate_succ',List.flatten_append,List.flatten_singleton,bbI,List.take_add];exact r1.append r2
theorem aPN{H:Type}{enc:TypeId × Value→H}{P:Program}{W:World}{base:Nat}{sp:Nat→Bool}{α:Bool}(num:Nat→FuncId) :
  ∀(fuel m:Nat)(t:TypeId)(cs:List Value)(x:DataW H × List MemPlace)(cts:List CT),DataW.trod enc P W base sp α fuel t cs=some x→kJ P m t=some cts→∃l,Reads (Env.of W num) cts l cs∧∀N S,m5 P N S→S t x.1→∀v∈l,PV.Len N v:=by
 intro fuel
 induction fuel with
 |zero=>intro m t cs x cts h;simp[DataW.trod]at h
 |succ fuel ih=>
  intro m t cs x cts h u;cases m with
  |zero=>simp[kJ]at u
  |succ m=>
   simp only[kJ]at u;split at u
   ·rename_i M;cases u;obtain⟨b,rfl,-⟩:=DataW.trod_bool M h;exact⟨[.bool b],.one (.bool b) rfl (.bool b),fy (.bool b)⟩
   ·rename_i k M;cases u;obtain⟨n,rfl,-,hw⟩:=DataW.trod_int M h;exact⟨[.int k n],.one (.int k n) rfl (.int hw),fy (.int k n)⟩
   ·rename_i M;cases u;obtain⟨s,rfl,-,hs⟩:=DataW.trod_string M h;exact⟨[.str s.data.toList],.one (.str s) rfl (.str (by rw[bbF];exact hs)),fy (.str _)⟩
   ·rename_i e M;split at u
    ·rename_i p he;split at u
     ·rename_i A;cases u;rcases DataW.trod_slice M h with⟨rfl,-⟩|⟨a,len,cap,elems,rest,n,hn,rfl,V,-,β,hcap,hel,helem,-⟩
      ·refine⟨[.sl p.length []],.one ?_ rfl (.sl bD bD (by simp[at2])),fy (.sl (a8H _) (λr Q=>by cases Q))⟩;exact .sl (λ_ _=>.bool false) bD aV bD bD (λ_ _=>rfl) (by simp[at2])
      ·cases hn;have each:∀i,i<len→∃l X,(Reads (Env.of W num) p l X∧∀N S,m5 P N S→(∀d∈elems.map (·.1),S e d)→∀v∈l,PV.Len N v)∧W.cells? base (a.add (i*Z' p)) p.length=some X:=by intro i hi;have Z:=helem i hi;rw[a8N Om,bbZ]at Z;obtain⟨X,h2,h3⟩:=Z;obtain⟨l,r,rl⟩:=ih m e X _ p h3 he;rw[A.1]at h2;exact⟨l,X,⟨r,λN S F J=>rl N S F (J _ (a9B.2 ⟨_,a8G _,rfl⟩))⟩,h2⟩
       have γ:∀i,∃l,∃X,i<len→(Reads (Env.of W num) p l X∧∀N S,m5 P N S→(∀d∈elems.map (·.1),S e d)→∀v∈l,PV.Len N v)∧W.cells? base (a.add (i*Z' p)) p.length=some X:=by
        intro i;by_cases hi:i<len
        ·obtain⟨l,X,Z⟩:=each i hi;exact⟨l,X,λ_=>Z⟩
        ·exact⟨[],[],λh=>(hi h).elim⟩
       obtain⟨pf,ν⟩:=Classical.axiomOfChoice γ;obtain⟨uf,K⟩:=Classical.axiomOfChoice ν;have δ:∀i j pv,at2 ((a8A len).map pf) i j=some pv→i<len∧(pf i)[j]?=some pv:=by
        intro i j pv hp;unfold at2 at hp;rw[a8Y,bbZ]at hp;obtain⟨r,Q,hp⟩:=hp;rw[a8K]at Q;obtain⟨i',O,rfl⟩:=Q;have hi:i<len:=by simpa using(a9I.1 O).1
        have:i'=i:=by simp[hi]at O;exact O.symm
        subst this;exact⟨hi,hp⟩
       have hu2:∀i j pv,at2 ((a8A len).map pf) i j=some pv→∃v,(uf i)[j]?=some v∧j<Z' p∧bF (Env.of W num) pv v∧v.oneCell'=true:=by
        intro i j pv hp;obtain⟨hi,U⟩:=δ i j pv hp;obtain⟨⟨r,-⟩,-⟩:=K i hi;have hj:j<Z' p:=by rw[←r.lp];exact(a9I.1 U).1
        have B:(uf i)[j]?=some ((uf i)[j]'(by rw[r.lc];exact hj)):=a8N _;exact⟨_,B,hj,(r.rep j pv _ U B).1,(r.rep j pv _ U B).2⟩
       have Y:((a8A len).map pf).length=len:=by simp
       refine⟨[.sl p.length ((a8A len).map pf)],.one ?_ rfl (.sl (λr Q=>?_) (by rw[Y];omega) λi j pv ct hp ι=>?_),λN S F J v B=>?_⟩
       ·have ζ:=bF.sl (E:=Env.of W num) (size:=Z' p) (rows:=(a8A len).map pf) (a:=some a) (cap:=cap)
         (λi j=>match at2 ((a8A len).map pf) i j with|some _=>((uf i)[j]?).getD (.bool false)|none=>.bool false) (by rw[Y];exact β) hcap
         (λr Q=>by simp only[a9B,a9M]at Q;obtain⟨i,hi,rfl⟩:=Q;exact(K i hi).1.1.lp)
         (λμ=>by
          have κ:0<len:=by
           rcases baR len with h|h
           ·subst h;exact(μ rfl).elim
           ·exact h
          have ε:a.spot=none:=by obtain⟨⟨r,-⟩,u⟩:=K 0 κ;have h3:=(World.cells?_some u).2.2 0 A.2;rw[Nat.zero_mul,Addr.add_zero',Addr.add_zero',a8N (by rw[r.lc];exact A.2)]at h3;exact(uu (num:=num) h3).1
          refine⟨a,rfl,ε,λi j pv hp=>?_⟩;obtain⟨hi,-⟩:=δ i j pv hp;obtain⟨v,B,hj,-⟩:=hu2 i j pv hp;have h3:=(World.cells?_some (K i hi).2).2.2 j hj;rw[rW ε,add_plain,add_plain,B]at h3;have h4:=(uu (num:=num) h3).2;simp only[hp,B,bbE];exact h4)
         (λi j=>by
          split
          ·rename_i pv hp;obtain⟨v,B,-,-,Z⟩:=hu2 i j pv hp;simp[B,Z]
          ·rfl)
         (λi j pv hp=>by obtain⟨v,B,-,Z,-⟩:=hu2 i j pv hp;simp only[hp,B,bbE];exact Z)
        rw[Y]at ζ;exact ζ
       ·simp only[a9B,a9M]at Q;obtain⟨i,hi,rfl⟩:=Q;exact(K i hi).1.1.lp
       ·obtain⟨hi,U⟩:=δ i j pv hp;exact(K i hi).1.1.ty j pv ct U ι
       ·rw[V]at J;obtain⟨m1,m2⟩:=F.sl t e _ _ M J;obtain rfl:=baQ.1 B;refine .sl (by rw[Y];simpa[hel]using m1) λr Q w hw=>?_;simp only[a9B,a9M]at Q;obtain⟨i,hi,rfl⟩:=Q;exact(K i hi).1.2 N S F m2 w hw
     ·cases u
    ·cases u
   ·rename_i fs M;split at u
    ·rename_i ο η;split at u
     ·rename_i β;cases u;obtain⟨xs,n,hn,V,θ,ξ,hx⟩:=DataW.trod_struct M h;cases hn;have:=wd (f:=DataW.trod enc P W base sp α fuel) (λt cs x cts a b=>ih m t cs x cts a b) cs fs.toList 0 cts (λg hg=>by obtain⟨i,hi,rfl⟩:=a9X hg;have:=hx i fs.toList[i] (by simp at hi;simp[hi]);rw[this];exact⟨_,a8N (by simp at hi;omega)⟩) η
      rw[a9L,a8T Om]at this;obtain⟨l,r,rl⟩:=this;refine⟨l,r,λN S F J=>rl N S F λg hg y hy=>?_⟩;rw[V]at J;obtain⟨i,hi,rfl⟩:=a9X hg;have O:i<fs.size:=by simpa using hi
      have:=hx i fs.toList[i] (by simp[O]);rw[hy,a8N Om]at this;refine F.st t fs _ M J i fs.toList[i] y.1 (by simp[O]) ?_;rw[a8Y,a8N Om,←this];rfl
     ·cases u
    ·cases u
   ·rename_i k e M;split at u
    ·rename_i p he;split at u
     ·rename_i A;cases u;obtain⟨xs,n,hn,V,θ,ξ,hx⟩:=DataW.trod_array M h;cases hn;obtain⟨l,r,hq⟩:=H7 (E:=Env.of W num) (cts:=p) (R:=λl=>∀N S,m5 P N S→(∀d:DataW H,d∈xs.map (λy:DataW H × List MemPlace=>y.1)→S e d)→∀v∈l,PV.Len N v) (λ_ _ _ _ v B=>by cases B)
       (λa b ha hb N S F J v B=>(a9T.1 B).elim (ha N S F J v) (hb N S F J v)) cs k λi hi=>by have h2:=hx i hi;rw[a8N Om,A.1]at h2;obtain⟨l,r,rl⟩:=ih m e _ _ p h2 he;exact⟨l,r,λN S F J=>rl N S F (J _ (a9B.2 ⟨_,a8G _,rfl⟩))⟩
      rw[a8T Om]at r;exact⟨l,r,λN S F J=>hq N S F (F.ar t k e _ M (by rw[V]at J;exact J))⟩
     ·cases u
    ·cases u
   ·cases u
theorem A0{H:Type}{enc:TypeId × Value→H}{P:Program}{W:World}{base:Nat}{l:Nat→Bool}{d:Bool}(num:Nat→FuncId)
  (fuel m:Nat) (t:TypeId) (cs:List Value) (x:DataW H × List MemPlace) (cts:List CT) (h:DataW.trod enc P W base l d fuel t cs=some x) (i:kJ P m t=some cts):∃e,Reads (Env.of W num) cts e cs:=
 (aPN num fuel m t cs x cts h i).imp λ_ r=>r.1
open Go Go.RowKit Go.ChangeShapes Go.WideShapes
theorem Ext.below{E e:Env}{H':PH}{w d:World}(h:Ext E PH.nil w e H' d):Below w.heap.size w d:=
 ⟨h.os,h.tape,h.output,h.size,λk i=>h.block k i rfl⟩
theorem Below.trodAll{H:Type}{enc:TypeId × Value→H}{P:Program}(w:laidOutB P=true){W i:World}(hb:Below W.heap.size W i) :
  ∀{ts:List TypeId}{vs:List Value}{ds:List (DataW H)}{ps:List MemPlace},(∀t∈ts,P.readableRec t=true∧t<P.types.size)→DataW.TrodAll enc P W 0 (λ_=>true) true ts vs ds ps →
   DataW.TrodAll enc P i 0 (λb=>decide (b<W.heap.size)) true ts vs ds ps
 |[],[],[],ps,_,h=>h
 |[],_::_,_,_,_,h=>h.elim
 |[],[],_::_,_,_,h=>h.elim
 |_::_,[],_,_,_,h=>h.elim
 |_::_,_::_,[],_,_,h=>h.elim
 |t::ts,v::vs,d::ds,ps,e,h=>by obtain⟨p,q,l,y,rfl⟩:=h;have hlt:∀x∈p,x.block<W.heap.size:=λx B=>DataW.TrodAll.lt (ts:=[t]) (vs:=[v]) (ds:=[d]) ⟨p,[],l,rfl,(a9W p).symm⟩ x B;exact⟨p,q,Below.trod w (e t bD).1 (e t bD).2 l hb hlt,Below.trodAll w hb (λu A=>e u (by simp[A])) y,rfl⟩
theorem aHB{H:Type}{enc:TypeId × Value→H}{P:Program}{f:Func}{s:ChangeSpec}{d apart fresh:Bool}{W A:World}{args:Array Value}{ds i:List (DataW H)}{e:List MemPlace}{bt:TypeId}
  (F:laidOutB P=true) (hW:DataW.Whole enc P f.params.toList s.vars apart W args.toList ds i e) (hb:Below W.heap.size W A) (w:∀t∈f.params.toList,P.readableRec t=true∧t<P.types.size)
  (u:f.resultTypes=#[bt]) (l:P.underlying bt=some .bool) (x:s.vars=[]) (K:(s.fn H (ds++i)).results=[.lit (.bool true)]) (E:(s.fn H (ds++i)).args=ds) (y:(s.fn H (ds++i)).vars=[]) :
  s.post enc P f apart fresh d false W args (.bool true) A:=by
 obtain⟨p,q,B,hV,rfl,M,J⟩:=hW;rw[x]at hV;obtain⟨rfl,rfl⟩:=trodVars_none hV;refine⟨ds,[],p++[],[],p,[],⟨p,[],B,by rw[x];exact hV,rfl,M,J⟩,?_,?_,?_,hb.frame _,λh=>by cases h⟩
 ·rw[K,u];refine⟨[],[],⟨1,?_⟩,rfl,rfl⟩;simp[DataW.trod,l,Value.cells,Value.resultList]
 ·rw[E];exact Below.trodAll F hb w B
 ·rw[x,y];exact rfl
theorem aEV{C:Ctx}{name:Nat}{W:World}{args:Array Value}{i:List PV}(h:aH C name i PH.nil (aK (.bool true)))(w:fU (Env.of W C.num) i args.toList) :
  Calls C.P (C.num name) args W λe l=>e=.returned (.bool true)∧Below W.heap.size W l:=
 (h.2 (Env.of W C.num) W args rfl (bW.start W C.num) w).mono λe l u=>by obtain⟨v,pv,x,H',rfl,-,d,p,rfl,-⟩:=u;cases d;exact⟨rfl,p.below⟩
theorem avM{H:Type}{enc:TypeId × Value→H}{P:Program}{W:World}{r:Reach}{base:Nat}{F:Nat→Bool}{l:Bool}(num:Nat→FuncId){t:TypeId}{v:Value}{d:DataW H}{ps:List MemPlace}{y:Array Field}{n:Nat}{cts:List CT}
  (w:P.underlying t=some (.struct y)) (p:Value.okWide P W r base t v) (B:DataW.Trod enc P W 0 F l t v d ps) (A:kJ P n t=some cts) :
  ∃e,bF (Env.of W num) (.agg e) v∧Z' e=Z' cts∧∀(j:Nat) pv ct,e[j]?=some pv→cts[j]?=some ct→PV.Ty ct pv:=by
 obtain⟨cs,rfl,-⟩:=okWide_struct w p;obtain⟨fuel,h⟩:=B;obtain⟨e,i⟩:=A0 num fuel n t _ _ cts h A;have E:cs.size=Z' e:=by have:=i.lc;rw[i.lp,←this];simp[Value.cells]
 refine⟨e,.agg cs E (λu w=>?_) (λj pv u a b=>(i.rep j pv u a (by simpa[Value.cells]using b)).1),i.lp,i.ty⟩;obtain⟨j,x,rfl⟩:=a9X w;simp only[bbF]at x;exact(i.rep j _ _ (a8N Om) (by simp[Value.cells,x])).2
theorem AJ{H:Type}{enc:TypeId × Value→H}{P:Program}{W:World}{y:Nat→Bool}{e:Bool}(num:Nat→FuncId){t:TypeId}{v:Value}{d:DataW H}{ps:List MemPlace}{n:Nat}{ct:CT}
  (x:v.cells=#[v]) (u:DataW.Trod enc P W 0 y e t v d ps) (p:kJ P n t=some [ct]):∃pv,bF (Env.of W num) pv v∧PV.Ty ct pv:=by
 obtain⟨fuel,h⟩:=u;obtain⟨l,i⟩:=A0 num fuel n t _ _ [ct] h p;rw[x]at i;have w:=i.lp;cases l with
 |nil=>simp at w
 |cons pv rest=>exact⟨pv,(i.rep 0 pv v rfl rfl).1,i.ty 0 pv ct rfl rfl⟩
def InK(k:IntKind)(n:Int):Prop:=k.min≤n∧n≤k.max
def azA(k:IntKind)(xs:List Int):PV:=.sl 1 (xs.map λn=>[.int k n])
theorem Ty.gt{k:IntKind}{pv:PV}(h:PV.Ty (.int k) pv):∃n,pv=.int k n∧InK k n:=by
 cases h with
 |int h=>simp only[Lit.wf,a8C,decide_eq_true_eq]at h;exact⟨_,rfl,h⟩
theorem Ty.aVE{ct:CT}{pv:PV}(h:PV.Ty (.sl [ct]) pv):∃vs:List PV,pv=.sl 1 (vs.map λv=>[v])∧Z' vs≤maxLen∧∀v∈vs,PV.Ty ct v:=by
 cases h with
 |@sl A rows y w h=>
 have d:∀r∈rows,r=[r.headD .junk]:=λr l=>by
  have:=y r l
  match r,this with
  |[x],_=>rfl
 have e:rows=(rows.map λr=>r.headD .junk).map λv=>[v]:=by rw[bbG];apply baX bD;intro n u B;simp only[a9Q,Function.comp];exact d _ (a8G u)
 refine⟨rows.map λr=>r.headD .junk,by rw[←e];rfl,by simpa using w,λv p=>?_⟩;rw[a9B]at p;obtain⟨r,l,rfl⟩:=p;obtain⟨i,hi,rfl⟩:=a9X l;refine h i 0 _ ct ?_ rfl;have:=d rows[i] l;unfold at2;rw[a8N hi,bbN,this];rfl
theorem Ty.aMM{k:IntKind}{pv:PV}(h:PV.Ty (.sl [.int k]) pv):∃xs:List Int,pv=azA k xs∧Z' xs≤maxLen∧∀x∈xs,InK k x:=by
 obtain⟨vs,rfl,w,i⟩:=Ty.aVE h;have e:vs=(vs.map λv=>match v with | .int _ n=>n|_=>0).map λn=>PV.int k n:=by rw[bbG];apply baX bD;intro n p y;simp only[a9Q,Function.comp];obtain⟨m,d,-⟩:=Ty.gt (i _ (a8G p));rw[d]
 refine⟨vs.map λv=>match v with | .int _ n=>n|_=>0,?_,by simpa using w,λx l=>?_⟩
 ·unfold azA
  conv=>lhs;rw[e]
  rw[bbG];rfl
 ·rw[a9B]at l;obtain⟨v,d,rfl⟩:=l;obtain⟨m,rfl,u⟩:=Ty.gt (i v d);exact u
end Go.PM
namespace Go.Proofs.YtjdkjdadjfbopaaGreatDoor
open Go Go.PM
def aXK:List Nat:=[12,73,32,0,31,36,0,35,0,0,0,0,0,0,0,0,0,0,0,0,0,0,0,0,0,0,0,4,11,33,167,197,132,127,126,76,170,169,83,165,201,164,200,202,199,198,130,34,203,88,37,84,85,82,43,81,42,168,75,77,131,86,78,166,129,128,87,13,41,46,40,79,45,39,44,80,38,0,0,0,0,47,0,0,0,0,0,0,89,0,0,0,0,0,0,106,59,145,173,146,175,178,148,174,104,144,149,176,150,177,108,105,107,124,69,52,157,147,116,96,95,118,119,151,208,180,179,161,137,117,138,136,140,159,162,139,172,171,158,207,204,192,206,205,0,0,0,0,0,0,20,25,24,0,64,0,152,67,111,153,110,63,163,125,216,195,196,217,215,194,193,155,0,191,0,0,0,0,0,0,112,183,184,182,181,212,213,210,219,186,188,189,154,185,209,74,0,0,0,0,0,156,0,113,0,66,60,61,121,0,62,109,0,0,0,15,0,14,16,5,0,0,0,0,0,0,0,0,0,114,19,71,120,0,0,0,0,0,0,0,0,0,0,0,0,0,0,0,0,0,0,0,0,0,0,0,0,0,0,0,0,0,0,0,0,0,0,0,0,0,0,0,0,0,0,0,0,0,122,160,0,0,99,100,58,98,55,57,18,0,0,141,101,0,142,143,102,103,56,0,0,0,0,0,0,0,0,0,0,0,0,0,0,0,0,0,0,0,0,0,0,0,0,0,0,0,0,0,29,0,28,0,0,17,0,68,54,70,72,0,0,0,48,49,50,51,53,0,115,123,0,90,91,92,93,94,97,0,133,134,135,3,6,7,8,9,10,21,22,23,26,27,30,65]
def aUC:List (Option Nat):=[none,none,none,some 361,some 27,some 219,some 362,some 363,some 364,some 365,some 366,some 28,some 0,some 67,some 217,some 215,some 218,some 333,some 288,some 230,some 150,some 367,some 368,some 369,some 152,some 151,some 370,some 371,some 330,some 328,some 372,some 4,some 2,some 29,some 47,some 7,some 5,some 50,some 76,some 73,some 70,some 68,some 56,some 54,some 74,some 72,some 69,some 81,some 342,some 343,some 344,some 345,some 115,some 346,some 336,some 286,some 298,some 287,some 284,some 96,some 206,some 207,some 210,some 161,some 154,some 373,some 205,some 157,some 335,some 114,some 337,some 231,some 338,some 1,some 195,some 58,some 35,some 59,some 62,some 71,some 75,some 55,some 53,some 38,some 51,some 52,some 61,some 66,some 49,some 88,some 351,some 352,some 353,some 354,some 355,some 120,some 119,some 356,some 285,some 282,some 283,some 292,some 296,some 297,some 104,some 111,some 95,some 112,some 110,some 211,some 160,some 158,some 180,some 203,some 229,some 348,some 118,some 129,some 121,some 122,some 232,some 208,some 278,some 349,some 113,some 163,some 34,some 33,some 65,some 64,some 46,some 60,some 32,some 358,some 359,some 360,some 131,some 128,some 130,some 135,some 132,some 291,some 294,some 295,some 105,some 97,some 99,some 117,some 102,some 106,some 108,some 123,some 156,some 159,some 192,some 171,some 201,some 116,some 138,some 133,some 279,some 127,some 134,some 162,some 41,some 39,some 63,some 30,some 57,some 37,some 36,some 137,some 136,some 98,some 103,some 100,some 107,some 109,some 101,some 126,some 125,some 184,some 183,some 181,some 182,some 193,some 189,none,some 190,some 191,none,some 173,some 141,some 170,some 169,some 165,some 166,some 31,some 45,some 44,some 42,some 40,some 43,some 48,some 140,some 143,some 142,some 139,some 124,some 194,some 187,none,some 185,some 186,none,some 168,some 164,some 167,none,some 188]
def num(n:Nat):FuncId:=aXK.getD n 0
def nameOf(f:FuncId):Option Nat:=aUC.getD f none
noncomputable def T(ro:List Nat):Tbl:={ P:=Tryz.prog,num:=num,name:=nameOf,ro:=ro }
end Go.Proofs.YtjdkjdadjfbopaaGreatDoor
namespace Go.PM
open Go
abbrev Rg:=List aW
abbrev Rd:=List (aW×Bool)
def aC.rs : aC→List Rg
 | .region r=>[r] | .seq a b=>a.rs++b.rs | .cond _ a b=>a.rs++b.rs | .block _ a=>a.rs | .loop a=>a.rs | _=>[]
def aC.ds : aC→List Rd
 | .draw r=>[r] | .seq a b=>a.ds++b.ds | .cond _ a b=>a.ds++b.ds | .block _ a=>a.ds | .loop a=>a.ds | _=>[]
theorem arL (n:Nat) (h:n<2^8):UInt8.ofBitVec (BitVec.ofFin ⟨n,h⟩)=UInt8.ofNat n:=by
 apply UInt8.toNat_inj.1;have d:n<256:=h;simp [UInt8.toNat_ofNat'];omega
def bU(ro:List Nat)(f:Func)(x:{p:bC//(Go.Proofs.YtjdkjdadjfbopaaGreatDoor.T ro).func f=some p}:=by refine⟨?p,?h⟩;case h=>conv=>lhs;reduce):bC:=x.1
def aA(q:bC)(k:Nat)(x:{l:Rg//(q.body.rs).getD k []=l}:=by refine⟨?p,?h⟩;case h=>conv=>lhs;reduce;try simp only[arL,UInt8.reduceOfNat,Int.reduceOfNat,Int.reduceNegSucc]):Rg:=x.1
def dB(q:bC)(k:Nat)(x:{l:Rd//(q.body.ds).getD k []=l}:=by refine⟨?p,?h⟩;case h=>conv=>lhs;reduce;try simp only[arL,UInt8.reduceOfNat,Int.reduceOfNat,Int.reduceNegSucc]):Rd:=x.1
@[go_sem ↓] theorem a3X(q:bC)(k:Nat)(l:Rg)(h:(q.body.rs).getD k []=l):aA q k ⟨l,h⟩=l:=(rfl)
@[go_sem ↓] theorem a3J(q:bC)(k:Nat)(l:Rd)(h:(q.body.ds).getD k []=l):dB q k ⟨l,h⟩=l:=(rfl)
def iM(d s:Nat):aW:=⟨some d,.mv (.tmp s),none⟩
def iI(d:Nat)(n:Int):aW:=⟨some d,.mv (.const (.int .i64 n)),none⟩
def iB(d:Nat)(o:BinOp)(x y:Nat):aW:=⟨some d,.bin o (.tmp x) (.tmp y),none⟩
def iC(d:Nat)(o:BinOp)(x:Nat)(n:Int):aW:=⟨some d,.bin o (.tmp x) (.const (.int .i64 n)),none⟩
def iL(d s:Nat):aW:=⟨some d,.load none (.tmp s),none⟩
def iX(d n x y:Nat):aW:=⟨some d,.a7F n (.tmp x) (.tmp y),none⟩
def iN(d x:Nat):aW:=⟨some d,.len (.tmp x),none⟩
def iF(d n x:Nat):aW:=⟨some d,.a7R n (.tmp x),none⟩
def iS(n p x:Nat):aW:=⟨none,.store n (.tmp p) (.tmp x),none⟩
def iA(d:Nat)(o:POp):aW:=⟨some d,o,none⟩
def iG(d:Nat)(o:POp)(g:Nat)(b:Bool):aW:=⟨some d,o,some (g,b)⟩
def iP(d a b:Nat):aW:=⟨some d,.pick (.tmp a) (.tmp b) (.const (.bool false)),none⟩
def iQ(d a b:Nat):aW:=⟨some d,.pick (.tmp a) (.const (.bool true)) (.tmp b),none⟩
def iO(d s a:Nat):aW:=⟨some d,.load (some s) (.tmp a),none⟩
def iE(d a n:Nat):aW:=⟨some d,.extract (.tmp a) n,none⟩
def iK(d f a:Nat):aW:=⟨some d,.call f [.tmp a],none⟩
def iK2(d f a b:Nat):aW:=⟨some d,.call f [.tmp a,.tmp b],none⟩
def iT(d:Nat)(b:Bool):aW:=⟨some d,.mv (.const (.bool b)),none⟩
def iZ(d:Nat):aW:=⟨some d,.mv (.const .aF),none⟩
def gM(d s g:Nat)(b:Bool):aW:=⟨some d,.mv (.tmp s),some (g,b)⟩
def gL(d s g:Nat)(b:Bool):aW:=⟨some d,.load none (.tmp s),some (g,b)⟩
def gF(d n s g:Nat)(b:Bool):aW:=⟨some d,.a7R n (.tmp s),some (g,b)⟩
def gN(d s g:Nat)(b:Bool):aW:=⟨some d,.len (.tmp s),some (g,b)⟩
def gO(d n s g:Nat)(b:Bool):aW:=⟨some d,.load (some n) (.tmp s),some (g,b)⟩
def gK(d f a g:Nat)(b:Bool):aW:=⟨some d,.call f [.tmp a],some (g,b)⟩
def gK2(d f a c g:Nat)(b:Bool):aW:=⟨some d,.call f [.tmp a,.tmp c],some (g,b)⟩
def gC(d:Nat)(o:BinOp)(x:Nat)(n:Int)(g:Nat)(b:Bool):aW:=⟨some d,.bin o (.tmp x) (.const (.int .i64 n)),some (g,b)⟩
def gB(d:Nat)(o:BinOp)(x y g:Nat)(b:Bool):aW:=⟨some d,.bin o (.tmp x) (.tmp y),some (g,b)⟩
def zI:PV:=.int .i64 0
def zB:PV:=.bool false
def sq(r:Rg)(c:aC):aC:=.seq (.region r) c
def dq(r:Rd)(c:aC):aC:=.seq (.draw r) c
def Tm(n:Nat):aQ:=.tmp n
def Ci(n:Int):aQ:=.const (.int .i64 n)
@[go_sem] theorem a6C(d s:Nat):iM d s=⟨some d,.mv (.tmp s),none⟩:=(rfl)
@[go_sem] theorem a5Z(d:Nat)(n:Int):iI d n=⟨some d,.mv (.const (.int .i64 n)),none⟩:=(rfl)
@[go_sem] theorem a5U(d:Nat)(o:BinOp)(x y:Nat):iB d o x y=⟨some d,.bin o (.tmp x) (.tmp y),none⟩:=(rfl)
@[go_sem] theorem a5V(d:Nat)(o:BinOp)(x:Nat)(n:Int):iC d o x n=⟨some d,.bin o (.tmp x) (.const (.int .i64 n)),none⟩:=(rfl)
@[go_sem] theorem a6B(d s:Nat):iL d s=⟨some d,.load none (.tmp s),none⟩:=(rfl)
@[go_sem] theorem a6J(d n x y:Nat):iX d n x y=⟨some d,.a7F n (.tmp x) (.tmp y),none⟩:=(rfl)
@[go_sem] theorem a6D(d x:Nat):iN d x=⟨some d,.len (.tmp x),none⟩:=(rfl)
@[go_sem] theorem a5X(d n x:Nat):iF d n x=⟨some d,.a7R n (.tmp x),none⟩:=(rfl)
@[go_sem] theorem a6H(n p x:Nat):iS n p x=⟨none,.store n (.tmp p) (.tmp x),none⟩:=(rfl)
@[go_sem] theorem a5T(d:Nat)(o:POp):iA d o=⟨some d,o,none⟩:=(rfl)
@[go_sem] theorem a5Y(d:Nat)(o:POp)(g:Nat)(b:Bool):iG d o g b=⟨some d,o,some (g,b)⟩:=(rfl)
@[go_sem] theorem a6F(d a b:Nat):iP d a b=⟨some d,.pick (.tmp a) (.tmp b) (.const (.bool false)),none⟩:=(rfl)
@[go_sem] theorem a6G(d a b:Nat):iQ d a b=⟨some d,.pick (.tmp a) (.const (.bool true)) (.tmp b),none⟩:=(rfl)
@[go_sem] theorem a6E(d s a:Nat):iO d s a=⟨some d,.load (some s) (.tmp a),none⟩:=(rfl)
@[go_sem] theorem a5W(d a n:Nat):iE d a n=⟨some d,.extract (.tmp a) n,none⟩:=(rfl)
@[go_sem] theorem a6A(d f a:Nat):iK d f a=⟨some d,.call f [.tmp a],none⟩:=(rfl)
@[go_sem] theorem a5G(d f a b:Nat):iK2 d f a b=⟨some d,.call f [.tmp a,.tmp b],none⟩:=(rfl)
@[go_sem] theorem a6I(d:Nat)(b:Bool):iT d b=⟨some d,.mv (.const (.bool b)),none⟩:=(rfl)
@[go_sem] theorem a6K(d:Nat):iZ d=⟨some d,.mv (.const .aF),none⟩:=(rfl)
@[go_sem] theorem a5Q(d s g:Nat)(b:Bool):gM d s g b=⟨some d,.mv (.tmp s),some (g,b)⟩:=(rfl)
@[go_sem] theorem a5P(d s g:Nat)(b:Bool):gL d s g b=⟨some d,.load none (.tmp s),some (g,b)⟩:=(rfl)
@[go_sem] theorem a5N(d n s g:Nat)(b:Bool):gF d n s g b=⟨some d,.a7R n (.tmp s),some (g,b)⟩:=(rfl)
@[go_sem] theorem a5R(d s g:Nat)(b:Bool):gN d s g b=⟨some d,.len (.tmp s),some (g,b)⟩:=(rfl)
@[go_sem] theorem a5S(d n s g:Nat)(b:Bool):gO d n s g b=⟨some d,.load (some n) (.tmp s),some (g,b)⟩:=(rfl)
@[go_sem] theorem a5O(d f a g:Nat)(b:Bool):gK d f a g b=⟨some d,.call f [.tmp a],some (g,b)⟩:=(rfl)
@[go_sem] theorem a5F(d f a c g:Nat)(b:Bool):gK2 d f a c g b=⟨some d,.call f [.tmp a,.tmp c],some (g,b)⟩:=(rfl)
@[go_sem] theorem a5M(d:Nat)(o:BinOp)(x:Nat)(n:Int)(g:Nat)(b:Bool):gC d o x n g b=⟨some d,.bin o (.tmp x) (.const (.int .i64 n)),some (g,b)⟩:=(rfl)
@[go_sem] theorem a5L(d:Nat)(o:BinOp)(x y g:Nat)(b:Bool):gB d o x y g b=⟨some d,.bin o (.tmp x) (.tmp y),some (g,b)⟩:=(rfl)
@[go_sem] theorem a6N:zI=.int .i64 0:=(rfl)
@[go_sem] theorem a6M:zB=.bool false:=(rfl)
@[go_sem] theorem a6L(r:Rg)(c:aC):sq r c=.seq (.region r) c:=(rfl)
@[go_sem] theorem a5K(r:Rd)(c:aC):dq r c=.seq (.draw r) c:=(rfl)
@[go_sem] theorem a5J(n:Nat):Tm n=.tmp n:=(rfl)
@[go_sem] theorem a5I(n:Int):Ci n=.const (.int .i64 n):=(rfl)
def eW(r:Rg)(t k:Nat)(s:Rg)(b:aC):aC:=sq r (.seq (.cond (Tm t) .skip (.exit k)) (.seq (.block (k+1) b) (.region s)))
@[go_sem] theorem a3S(r:Rg)(t k:Nat)(s:Rg)(b:aC):eW r t k s b=sq r (.seq (.cond (Tm t) .skip (.exit k)) (.seq (.block (k+1) b) (.region s))):=(rfl)
def dY(r:Rg)(t k:Nat)(s:Rg)(b:aC):aC:=.seq (sq r (.cond (Tm t) .skip (.exit k))) (.seq (.block (k+1) b) (.region s))
@[go_sem] theorem a3T(r:Rg)(t k:Nat)(s:Rg)(b:aC):dY r t k s b=.seq (sq r (.cond (Tm t) .skip (.exit k))) (.seq (.block (k+1) b) (.region s)):=(rfl)
def dM(r:Rg)(n:Nat)(y:Rg)(b:aC):aC:=.seq (sq r (.cond (Tm n) (sq y .ret) .skip)) b
@[go_sem] theorem a2Y(r:Rg)(n:Nat)(y:Rg)(b:aC):dM r n y b=.seq (sq r (.cond (Tm n) (sq y .ret) .skip)) b:=(rfl)
def gE(r:Rg)(n:Nat)(a b:aC):aC:=.seq (sq r (.cond (Tm n) a .skip)) b
@[go_sem] theorem a2X(r:Rg)(n:Nat)(a b:aC):gE r n a b=.seq (sq r (.cond (Tm n) a .skip)) b:=(rfl)
def cJ(r:Rg)(k:Nat)(l:aC):aC:=sq r (.block k (.loop l))
@[go_sem] theorem a4R(r:Rg)(k:Nat)(l:aC):cJ r k l=sq r (.block k (.loop l)):=(rfl)
end Go.PM
namespace Go.PM
open Go
open Go
def tX:=bU [] Proofs.Tryz.f158
def TG:=aA tX 0
def TH:=aA tX 1
def TI:=aA tX 2
def TJ:=aA tX 3
def TF:aC:=(.seq (sq TI (.cond (Tm 15) .skip (.exit 0))) (.block 1 (.region TJ)))
def zH:=aA tX 4
def tW:aC:=(sq TG (sq TH (.seq (.block 0 (.loop TF)) (sq zH .ret))))
def PE:bC:=⟨1,19,tW,[.tmp 2]⟩
def j9:=bU [] Proofs.Tryz.f171
def J0:=aA j9 0
def J1:=aA j9 1
def MR:aC:=(sq J0 (sq J1 .ret))
def Zz:bC:=⟨1,6,MR,[.tmp 2]⟩
def wI:=bU [] Proofs.Tryz.f192
def Kd:=aA wI 0
def Ke:=aA wI 1
def Kf:=aA wI 2
def Kg:=aA wI 3
def Kh:=aA wI 4
def MT:aC:=(sq Kd (sq Ke (dM Kf 8 Kg (sq Kh .ret))))
def aaD:bC:=⟨1,13,MT,[.tmp 2,.tmp 3]⟩
def TL:=bU [9] Proofs.Tryz.f140
def Z1:=aA TL 0
def Z2:=aA TL 1
def Z3:=aA TL 2
def TK:aC:=(sq Z1 (sq Z2 (sq Z3 .ret)))
def aAF:bC:=⟨1,14,TK,[.tmp 2]⟩
def zc:=bU [] Proofs.Tryz.f139
def aaK:=aA zc 0
def aaL:=aA zc 1
def TM:aC:=(sq aaK (sq aaL .ret))
def aAH:bC:=⟨1,8,TM,[.tmp 2]⟩
def kP:=bU [] Proofs.Tryz.f117
def apG:=aA kP 0
def apH:=aA kP 1
def apI:=aA kP 2
def apJ:=aA kP 3
def apK:=aA kP 4
def apL:=aA kP 5
def apM:=aA kP 6
def apN:=aA kP 7
def apO:=dB kP 0
def apP:=aA kP 8
def Zq:=dB kP 1
def Zr:=aA kP 9
def Zs:=aA kP 10
def Zp:aC:=(dY apN 23 1 Zs (.block 3 (dq apO (.cond (Tm 26) (sq apP .ret) (dq Zq (.cond (Tm 36) (sq Zr .ret) .skip))))))
def Zt:=aA kP 11
def ZX:aC:=(sq apG (sq apH (.seq (.block 0 (sq apI (.cond (Tm 12) (sq apJ .ret) (sq apK (.cond (Tm 16) (sq apL .ret) .skip))))) (.seq (cJ apM 1 Zp) (sq Zt .ret)))))
def aNY:bC:=⟨2,46,ZX,[.tmp 4]⟩
def gX:=bU [] Proofs.Tryz.f161
def apA:=aA gX 0
def apB:=aA gX 1
def Ei:=aA gX 2
def apC:=dB gX 0
def apD:=aA gX 3
def apE:=aA gX 4
def Ej:=aA gX 5
def Ek:=aA gX 6
def El:=aA gX 7
def apF:=aA gX 8
def Y9:=aA gX 9
def Za:=aA gX 10
def Zb:=aA gX 11
def Zc:=aA gX 12
def qi:=aA gX 13
def qj:=aA gX 14
def qk:=aA gX 15
def qh:aC:=(eW apF 37 0 qk (sq Y9 (sq Za (gE Zb 49 (.region Zc) (sq qi (.region qj))))))
def ql:=aA gX 16
def qn:=aA gX 17
def ZW:aC:=(sq apA (dM apB 14 Ei (dq apC (gE apD 27 (.region apE) (sq Ej (sq Ek (.seq (cJ El 0 qh) (sq ql (sq qn .ret)))))))))
def aNV:bC:=⟨2,75,ZW,[.tmp 4,.tmp 5]⟩
def iW:=bU [] Proofs.Tryz.f162
def aqI:=aA iW 0
def aqJ:=aA iW 1
def Ez:=aA iW 2
def aqK:=aA iW 3
def aqL:=aA iW 4
def aqM:=dB iW 0
def E0:=aA iW 5
def E4:=aA iW 6
def E5:=aA iW 7
def aqN:=aA iW 8
def aaE:=aA iW 9
def aaF:=aA iW 10
def aaG:=aA iW 11
def aaH:=aA iW 12
def qy:=aA iW 13
def qz:=aA iW 14
def q9:=aA iW 15
def qx:aC:=(eW aqN 36 1 q9 (sq aaE (sq aaF (gE aaG 48 (.region aaH) (sq qy (.region qz))))))
def rc:=aA iW 16
def ao:aC:=(sq aqI (.seq (.block 0 (sq aqJ (.cond (Tm 10) (sq Ez .ret) (sq aqK (.cond (Tm 17) (sq aqL .ret) .skip))))) (dq aqM (sq E0 (sq E4 (.seq (cJ E5 1 qx) (sq rc .ret)))))))
def aOE:bC:=⟨2,68,ao,[.tmp 4,.tmp 5]⟩
def gY:=bU [] Proofs.Tryz.f159
def aqE:=aA gY 0
def aqF:=aA gY 1
def Er:=aA gY 2
def aqG:=dB gY 0
def Es:=aA gY 3
def Et:=aA gY 4
def aqH:=aA gY 5
def Eu:=aA gY 6
def Ew:=aA gY 7
def Ex:=aA gY 8
def Z4:=aA gY 9
def Z5:=aA gY 10
def Z6:=aA gY 11
def Z7:=aA gY 12
def Z8:=aA gY 13
def Z9:=aA gY 14
def qq:aC:=(eW Z4 42 2 Z9 (sq Z5 (sq Z6 (sq Z7 (.region Z8)))))
def qt:=aA gY 15
def aaA:=aA gY 16
def qr:aC:=(eW aqH 35 0 aaA (sq Eu (sq Ew (.seq (cJ Ex 2 qq) (.region qt)))))
def qu:=aA gY 17
def ai:aC:=(sq aqE (dM aqF 17 Er (dq aqG (sq Es (.seq (cJ Et 0 qr) (sq qu .ret))))))
def aOC:bC:=⟨2,84,ai,[.tmp 4,.tmp 5]⟩
def nC:=bU [] Proofs.Tryz.f137
def Zg:=aA nC 0
def Zh:=aA nC 1
def Zi:=aA nC 2
def Zj:=aA nC 3
def Zk:=aA nC 4
def Zl:=aA nC 5
def Zm:=aA nC 6
def Zn:=aA nC 7
def Zo:=aA nC 8
def Zf:aC:=(dY Zm 19 0 Zo (.region Zn))
def Jy:=aA nC 9
def TC:aC:=(sq Zg (sq Zh (dM Zi 9 Zj (sq Zk (.seq (cJ Zl 0 Zf) (sq Jy .ret))))))
def azW:bC:=⟨1,25,TC,[.tmp 2]⟩
def rR:=bU [] Proofs.Tryz.f136
def apX:=aA rR 0
def apY:=aA rR 1
def Ep:=aA rR 2
def apZ:=aA rR 3
def aqA:=aA rR 4
def aqB:=aA rR 5
def aqC:=aA rR 6
def apW:aC:=(.seq (sq aqA (.cond (Tm 20) .skip (.exit 0))) (.block 1 (sq aqB (.region aqC))))
def aqD:=aA rR 7
def ac:aC:=(sq apX (dM apY 13 Ep (sq apZ (.seq (.block 0 (.loop apW)) (sq aqD .ret)))))
def aOA:bC:=⟨2,30,ac,[.tmp 4,.tmp 5]⟩
def tV:=bU [] Proofs.Tryz.f138
def apQ:=aA tV 0
def apR:=aA tV 1
def En:=aA tV 2
def apS:=aA tV 3
def apT:=aA tV 4
def apU:=dB tV 0
def apV:=aA tV 5
def ZZ:aC:=(sq apQ (.seq (.block 0 (sq apR (.cond (Tm 9) (sq En .ret) (sq apS (.cond (Tm 16) (sq apT .ret) .skip))))) (dq apU (sq apV .ret))))
def aNZ:bC:=⟨2,34,ZZ,[.tmp 4,.tmp 5,.tmp 6]⟩
def lY:=bU [] Proofs.Tryz.f204
def J4:=aA lY 0
def J5:=aA lY 1
def J6:=aA lY 2
def J7:=aA lY 3
def J8:=aA lY 4
def J9:=aA lY 5
def Ka:=aA lY 6
def Kb:=aA lY 7
def Kc:=aA lY 8
def J3:aC:=(dY J8 16 0 Kc (sq J9 (sq Ka (.region Kb))))
def za:=aA lY 9
def MS:aC:=(sq J4 (sq J5 (sq J6 (.seq (cJ J7 0 J3) (sq za .ret)))))
def aaC:bC:=⟨2,45,MS,[.tmp 4,.tmp 5]⟩
def oK:=bU [] Proofs.Tryz.f205
def aGA:=aA oK 0
def aGB:=aA oK 1
def aGC:=aA oK 2
def aGD:=aA oK 3
def aGE:=aA oK 4
def aGF:=aA oK 5
def aGG:=aA oK 6
def aGH:=aA oK 7
def aGI:=aA oK 8
def aGJ:=aA oK 9
def aqO:aC:=(eW aGE 16 0 aGJ (sq aGF (sq aGG (sq aGH (.region aGI)))))
def aqP:=aA oK 10
def aqQ:=aA oK 11
def re:aC:=(sq aGA (sq aGB (sq aGC (.seq (cJ aGD 0 aqO) (sq aqP (sq aqQ .ret))))))
def nup:bC:=⟨2,41,re,[.tmp 4]⟩
def cS:=bU [] Proofs.Tryz.f172
def yu:=aA cS 0
def yv:=aA cS 1
def yw:=aA cS 2
def yx:=aA cS 3
def yy:=aA cS 4
def yz:=aA cS 5
def y6:=aA cS 6
def y7:=aA cS 7
def y8:=aA cS 8
def yr:aC:=(.seq (sq y7 (.cond (Tm 50) .skip (.exit 0))) (.block 1 (.region y8)))
def ju:=dB cS 0
def jv:=aA cS 9
def jw:=aA cS 10
def jx:=dB cS 1
def jy:=aA cS 11
def jz:=aA cS 12
def MH:=dB cS 2
def MI:=dB cS 3
def j2:=aA cS 13
def MJ:=aA cS 14
def MK:=aA cS 15
def ML:=aA cS 16
def BR:aC:=(.seq (sq j2 (.cond (Tm 129) .skip (.exit 4))) (.block 5 (sq MJ (sq MK (sq ML (.cond (Tm 136) (.exit 4) .skip))))))
def MM:=aA cS 17
def MN:=aA cS 18
def MO:=aA cS 19
def BS:=aA cS 20
def j3:=aA cS 21
def MF:aC:=(dY jz 85 2 j3 (dq MH (dq MI (.seq (.block 4 (.loop BR)) (gE MM 146 (sq MN (.region MO)) (.region BS))))))
def MP:=aA cS 22
def MQ:=aA cS 23
def j4:=aA cS 24
def j5:=aA cS 25
def j6:=dB cS 4
def j7:=aA cS 26
def MG:aC:=(eW j4 168 6 j7 (sq j5 (.draw j6)))
def j8:=dB cS 5
def HT:aC:=(sq yu (dM yv 24 yw (gE yx 29 (sq yy (sq yz .ret)) (sq y6 (.seq (.block 0 (.loop yr)) (dq ju (sq jv (sq jw (dq jx (.seq (cJ jy 2 MF) (sq MP (.seq (cJ MQ 6 MG) (dq j8 .ret)))))))))))))
def Eo:bC:=⟨2,198,HT,[.tmp 4,.tmp 5]⟩
def fL:=bU [] Proofs.Tryz.f206
def av:=aA fL 0
def aw:=aA fL 1
def ay:=aA fL 2
def ba:=aA fL 3
def bb:=aA fL 4
def bc:=aA fL 5
def be:=aA fL 6
def bf:=aA fL 7
def bg:=aA fL 8
def bi:=aA fL 9
def XG:=aA fL 10
def XF:aC:=(eW ba 16 0 XG (sq bb (sq bc (sq be (sq bf (sq bg (.region bi)))))))
def XH:=aA fL 11
def XI:=aA fL 12
def XJ:=aA fL 13
def AY:aC:=(sq av (sq aw (.seq (cJ ay 0 XF) (sq XH (sq XI (sq XJ .ret))))))
def au:bC:=⟨3,65,AY,[.tmp 6]⟩
def lF:=bU [] Proofs.Tryz.f207
def kb:=aA lF 0
def kc:=aA lF 1
def kd:=aA lF 2
def kf:=aA lF 3
def kg:=aA lF 4
def kh:=aA lF 5
def ki:=aA lF 6
def kj:=aA lF 7
def ka:aC:=(eW kd 10 0 kj (sq kf (sq kg (sq kh (.region ki)))))
def kk:=aA lF 8
def DM:aC:=(sq kb (.seq (cJ kc 0 ka) (.region kk)))
def qw:bC:=⟨2,41,DM,[]⟩
open Go Go.RowKit Go.ChangeShapes Go.WideShapes
inductive AT where
 |one (ct:CT)
 |struct (cts:List CT)
 deriving Inhabited
def avL(P:Program)(n:Nat)(t:TypeId):Option AT:=
 match P.underlying t with
 |some .bool=>some (.one .bool)
 |some (.int k)=>some (.one (.int k))
 |some .string=>some (.one .str)
 |some (.slice _)=>match kJ P n t with
  |some [ct]=>some (.one ct)
  |_=>none
 |some (.struct _)=>(kJ P n t).map .struct
 |_=>none
def OO(P:Program)(n:Nat):List TypeId→Option (List AT)
 |[]=>some []
 |t::ts=>match avL P n t,OO P n ts with
  |some a,some d=>some (a::d)
  |_,_=>none
inductive AT.Ty:AT→PV→Prop
 |one {ct:CT} {pv:PV} (h:PV.Ty ct pv):AT.Ty (.one ct) pv
 |struct {cts:List CT} {pvs:List PV} (hl:Z' pvs=Z' cts) (h:∀(j:Nat) pv ct,pvs[j]?=some pv→cts[j]?=some ct→PV.Ty ct pv):AT.Ty (.struct cts) (.agg pvs)
def AT.TyL:List AT→List PV→Prop
 |[],[]=>True
 |a::d,p::ps=>AT.Ty a p∧AT.TyL d ps
 |_,_=>False
section
variable {H:Type} {enc:TypeId × Value→H} {P:Program} {W:World} {sp:Nat→Bool} {held:Bool}
theorem aWQ{r:Reach}{base:Nat}(num:Nat→FuncId){t:TypeId}{v:Value}{d:DataW H}{ps:List MemPlace}{n:Nat}{a:AT}
  (i:Value.okWide P W r base t v) (y:DataW.Trod enc P W 0 sp held t v d ps) (p:avL P n t=some a):∃pv,bF (Env.of W num) pv v∧AT.Ty a pv:=by
 unfold avL at p;cases n with
 |zero=>
  split at p
  ·rename_i l;cases p;obtain⟨b,rfl⟩:=okWide_bool l i;obtain⟨pv,u,w⟩:=AJ (n:=1) (ct:=.bool) num (by simp[Value.cells]) y (by simp[kJ,l]);exact⟨pv,u,.one w⟩
  ·rename_i k l;cases p;obtain⟨b,rfl⟩:=okWide_int l i;obtain⟨pv,u,w⟩:=AJ (n:=1) (ct:=.int k) num (by simp[Value.cells]) y (by simp[kJ,l]);exact⟨pv,u,.one w⟩
  ·rename_i l;cases p;obtain⟨b,rfl⟩:=okWide_string l i;obtain⟨pv,u,w⟩:=AJ (n:=1) (ct:=.str) num (by simp[Value.cells]) y (by simp[kJ,l]);exact⟨pv,u,.one w⟩
  ·simp[kJ]at p
  ·simp[kJ]at p
  ·cases p
 |succ n=>
  split at p
  ·rename_i l;cases p;obtain⟨b,rfl⟩:=okWide_bool l i;obtain⟨pv,u,w⟩:=AJ (n:=n+1) (ct:=.bool) num (by simp[Value.cells]) y (by simp[kJ,l]);exact⟨pv,u,.one w⟩
  ·rename_i k l;cases p;obtain⟨b,rfl⟩:=okWide_int l i;obtain⟨pv,u,w⟩:=AJ (n:=n+1) (ct:=.int k) num (by simp[Value.cells]) y (by simp[kJ,l]);exact⟨pv,u,.one w⟩
  ·rename_i l;cases p;obtain⟨b,rfl⟩:=okWide_string l i;obtain⟨pv,u,w⟩:=AJ (n:=n+1) (ct:=.str) num (by simp[Value.cells]) y (by simp[kJ,l]);exact⟨pv,u,.one w⟩
  ·rename_i e l;split at p
   ·rename_i ct A;cases p;obtain⟨x,len,cap,rfl⟩:=okWide_slice l i;obtain⟨pv,u,w⟩:=AJ num (by simp[Value.cells]) y A;exact⟨pv,u,.one w⟩
   ·cases p
  ·rename_i F l;rw[a8K]at p;obtain⟨cts,A,rfl⟩:=p;obtain⟨E,u,w,B⟩:=avM num l i y A;exact⟨_,u,.struct w B⟩
  ·cases p
theorem akM{r:Reach}{base:Nat}(num:Nat→FuncId){n:Nat}:∀{ts:List TypeId}{vs:List Value}{ds:List (DataW H)}{ps:List MemPlace}{i:List AT},DataW.TrodAll enc P W 0 sp held ts vs ds ps →
  (∀(j:Nat) t v,ts[j]?=some t→vs[j]?=some v→Value.okWide P W r base t v)→OO P n ts=some i→∃e,fU (Env.of W num) e vs∧AT.TyL i e
 |[],[],_,_,i,_,_,h=>by simp[OO]at h;subst h;exact⟨[],.nil,trivial⟩
 |[],_::_,_,_,_,h,_,_=>h.elim
 |_::_,[],[],_,_,h,_,_=>h.elim
 |_::_,[],_::_,_,_,h,_,_=>h.elim
 |_::_,_::_,[],_,_,h,_,_=>h.elim
 |t::ts,v::vs,d::ds,ps,i,h,u,l=>by
  obtain⟨p,q,y,A,rfl⟩:=h;simp only[OO]at l;split at l
  ·rename_i a w x e2;cases l;obtain⟨pv,r1,B⟩:=aWQ num (u 0 t v rfl rfl) y x;obtain⟨e,r2,E⟩:=akM num A (λj t v a b=>u (j+1) t v (by simpa using a) (by simpa using b)) e2;exact⟨pv::e,.cons r1 r2,B,E⟩
  ·cases l
theorem TrodAll.length:∀{ts:List TypeId}{vs:List Value}{ds:List (DataW H)}{ps:List MemPlace},DataW.TrodAll enc P W 0 sp held ts vs ds ps→Z' ds=Z' ts
 |[],[],[],_,_=>rfl
 |[],[],_::_,_,h=>h.elim
 |[],_::_,_,_,h=>h.elim
 |_::_,[],[],_,h=>h.elim
 |_::_,[],_::_,_,h=>h.elim
 |_::_,_::_,[],_,h=>h.elim
 |t::ts,v::vs,d::ds,ps,h=>by obtain⟨p,q,i,e,rfl⟩:=h;simp[TrodAll.length e]
end
theorem Sd{H:Type}{enc:TypeId × Value→H}{P:Program}{f:FuncId}{fn:Func}{s:ChangeSpec}{apart fresh d:Bool}{bt:TypeId}{num:Nat→FuncId}{name n:Nat}{ats:List AT}
  (S:laidOutB P=true) (J:fn.params.toList.all (λt=>P.readableRec t&&decide (t<P.types.size))=true) (E:fn.resultTypes=#[bt]) (B:P.underlying bt=some .bool) (N:s.vars=[])
  (V:∀ds:List (DataW H),Z' ds=Z' fn.params.toList→(s.fn H ds).results=[.lit (.bool true)]∧(s.fn H ds).args=ds∧(s.fn H ds).vars=[])
  (w:num name=f) (Q:OO P n fn.params.toList=some ats) (h:∀l,AT.TyL ats l→aH ⟨P,num⟩ name l PH.nil (aK (.bool true)))
  {W:World} {base:Nat} {args:Array Value} {ds O:List (DataW H)} {i:List MemPlace}
  (y:∀(j:Nat) t v,fn.params[j]?=some t→args[j]?=some v→Value.okWide P W .any base t v) (hW:DataW.Whole enc P fn.params.toList s.vars apart W args.toList ds O i) :
  Calls P f args W λe K=>∃v,e=.returned v∧s.post enc P fn apart fresh d false W args v K:=by
 have x:∀t∈fn.params.toList,P.readableRec t=true∧t<P.types.size:=λt F=>by have:=a8U.1 J t F;simpa using this
 have A:=hW;obtain⟨p,q,M,hV,rfl,Z,Y⟩:=hW;rw[N]at hV;obtain⟨rfl,rfl⟩:=trodVars_none hV;obtain⟨l,U,F⟩:=akM num M (λj t v a b=>y j t v (by simpa using a) (by simpa using b)) Q;have u:=TrodAll.length M;subst w;obtain⟨r1,r2,X⟩:=V (ds++[]) (by simpa using u);refine(aEV (C:=⟨P,num⟩) (h l F) U).mono λe K R=>?_;obtain⟨rfl,hb⟩:=R;exact⟨_,rfl,aHB S A hb x E B N r1 (by rw[r2];simp) X⟩
attribute [go_sem] qI iR setCells PV.cells PV.one bZ storeAt cT loadCells dW bnd PV.slice PV.intOf PV.eqs PV.eq1 PV.un keyOf KS.of KS.ofs KS.sh bbP List.all_nil bbW List.set_cons_succ a8R baN a8L a9S a8U bbL
attribute [go_sem] Bool.bne_false Bool.bne_true Int.le_refl Int.lt_irrefl decide_true decide_false exists_eq_left exists_eq_left' a7Z List.length_replicate baA Int.natCast_nonneg Option.isSome_some Option.isSome_none bbE Option.getD_none decide_eq_true_eq decide_eq_false_iff_not a8Q a9Y a8E Nat.sub_zero
def bA(xs:List Int):List (List PV):=xs.map λn=>[.int .i64 n]
theorem bO{a b:Int}(h:a≠b):(a==b)=false:=by simp[h]
theorem cC{a b:Int}(h:a=b):(a==b)=true:=by simp[h]
theorem eC{a b:Int}(h:a≠b):(a != b)=true:=by simp[h]
theorem dL{a b:Int}(h:a=b):(a != b)=false:=by simp[h]
section
variable {H:PH}
@[go_sem] theorem PH.set_set(o:Nat)(x y:aU):(H.set o x).set o y=H.set o y:=PH.ext λq=>by
 simp only[aS];split<;>rfl
@[go_sem] theorem dK(o:Nat)(x:aU):(H.set o x) o=some x:=by simp only[aS,if_true]
end
section
variable {C:Ctx} {K:cD} {F:PF} {H:PH}
theorem PH.uB(o:Nat)(x:aU):H.over .nil (PH.nil.set o x)=H.set o x:=PH.ext λq=>by
 rw[kT];simp only[aS,gr];split<;>simp_all
theorem PH.zL(o:Nat)(x y:aU):H.over (PH.nil.set o x) (PH.nil.set o y)=H.set o y:=PH.ext λq=>by
 rw[kT];simp only[aS,gr];split<;>simp_all
theorem pB{name:Nat}{vs:List PV}{e:PH}{R:PV→PH→Prop}{args:List aQ}{d:Option Nat}{K:PF→PH→Prop}(h:aH C name vs e R)(l:aQ.evs F args=some vs)(i:e.le H)
  (p:∀r H',R r H'→pU H e H'→K (F.put d r) (H.over e H')):kY C name args [] d K F H:=
 .inl ⟨vs,e,R,by rw[l];simp,i,h,p⟩
theorem bE{res:List eN}{R:PV→PH→Prop}{vs:List PV}{e:mZ}(y:e=.normal∨e=.ret)(d:PH)(h:eN.evs F H res=some vs)(i:d.le H)(x:R (bR vs) d):aY res R e F H:=by
 have l:∃vs,eN.evs F H res=some vs∧∃p w H2,kC (PF.nil.set 0 (bR vs)) H p w∧H2.le w∧∃u,p 0=some u∧R u H2:=
  ⟨vs,h,_,H,d,.refl _ _,i,bR vs,by rw[oS,aG rfl],x⟩
 rcases y with rfl|rfl<;>exact l
theorem abO{t o s k:Nat}{rs:List (List PV)}{R:PV→PH→Prop}{e:mZ}(w:e=.normal∨e=.ret)(h:F t=some (.osl o s 0 k))(x:H o=some (.rows s rs))(y:k≤Z' rs)(p:R (.sl s (rs.take k)) .nil) :
  aY [.tmp t] R e F H:=by
 have d:∃vs,eN.evs F H [.tmp t]=some vs∧∃i l H2,kC (PF.nil.set 0 (bR vs)) H i l∧H2.le l∧∃u,i 0=some u∧R u H2:=by refine⟨[.osl o s 0 k],by rw[oM,rK,h,sY],_,_,.nil,.step o x (.refl _ _),a_,.sl s (rs.take k),?_,p⟩;have:0+k≤Z' rs:=Om;simp only[PF.frz,oS,if_true,bR,a8X,PV.frz,PV.sC,PV.dZ,true_and,aG this,a9L]
 rcases w with rfl|rfl<;>exact d
def cN(v:PV)(r:PV)(H:PH):Prop:=Co r v∧H=PH.nil
theorem aH.aXY{name:Nat}{args:List PV}{H:PH}{v:PV}(h:aH C name args H (cN v)):aH C name args H (aK v):=
 h.post λr H' ⟨d,e⟩=>⟨v,d,rfl,e⟩
theorem aK.aXY{v r:PV}{H:PH}(h:aK v r H):cN v r H:=by
 obtain⟨rfl,rfl⟩:=h;exact⟨.refl _,rfl⟩
theorem AB{s b:Nat}{y:PV}{src:List (List PV)}{K:PV→PH→Prop}(l:dW H s y=some src)(i:roomFor 0 src.length b)(d:src=[]→K .aF H)
  (e:src≠[]→∀o,H o=none→K (.osl o s 0 src.length) (H.set o (.rows s src))):oP H s b .aF y K:=⟨src,l,i,d,e⟩
theorem ahD{o s b len:Nat}{rs:List (List PV)}{y:PV}{src:List (List PV)}{K:PV→PH→Prop}(u:dW H s y=some src)(p:roomFor len src.length b)(l:H o=some (.rows s rs))(i:len≤Z' rs)
  (d:K (.osl o s 0 (len+Z' src)) (H.set o (.rows s (rs.take len++src))))
  (e:∀o',H o'=none→K (.osl o' s 0 (len+Z' src)) (H.set o' (.rows s (rs.take len++src)))):oP H s b (.osl o s 0 len) y K:=
 ⟨src,u,rfl,rfl,p,rs,l,i,d,e⟩
end
def bJ(H:PH)(s:Nat)(v:PV)(rows:List (List PV)):Prop:=
 (rows=[]∧v=.aF)∨∃q rs,v=.osl q s 0 rows.length∧H q=some (.rows s rs)∧Z' rows≤Z' rs∧rs.take rows.length=rows
def Seen(s:Nat)(v:PV)(rows:List (List PV)):Prop:=(rows=[]∧v=.aF)∨v=.sl s rows
section
variable {C:Ctx} {K:cD} {F:PF} {H:PH} {s b:Nat} {v y:PV} {rows src:List (List PV)}
theorem bJ.nil:bJ H s .aF []:=.inl ⟨rfl,rfl⟩
theorem bJ.view(h:bJ H s v rows):dW H s v=some rows:=by
 rcases h with⟨rfl,rfl⟩|⟨q,rs,rfl,h1,h2,h3⟩
 ·rfl
 ·have:0+Z' rows≤Z' rs:=Om;simp only[dW,if_true,h1,true_and,aG this,a9L,h3]
theorem Seen.view(h:Seen s v rows):dW H s v=some rows:=by
 rcases h with⟨rfl,rfl⟩|rfl
 ·rfl
 ·simp[dW]
theorem bJ.ext{H':PH}(h:bJ H s v rows)(d:∀o x,H o=some x→H' o=some x):bJ H' s v rows:=by
 rcases h with h|⟨q,rs,h0,h1,h2,h3⟩
 ·exact .inl h
 ·exact .inr ⟨q,rs,h0,d q _ h1,h2,h3⟩
theorem jD{K:PV→PH→Prop}(h:bJ H s v rows)(B:dW H s y=some src)(A:roomFor rows.length src.length b)
  (w:∀v' H',bJ H' s v' (rows++src)→(∀o x,H o=some x→(∀l,v≠.osl o s 0 l)→H' o=some x)→K v' H'):oP H s b v y K:=by
 rcases h with⟨rfl,rfl⟩|⟨q,rs,rfl,h1,h2,h3⟩
 ·refine⟨src,B,A,λe=>?_,λe o u=>?_⟩
  ·subst e;exact w _ _ (.inl ⟨rfl,rfl⟩) λo x u _=>u
  ·refine w _ _ (.inr ⟨o,src,rfl,by simp only[aS,if_true],a8E _,by simp⟩) λo' x d _=>?_;have:o'≠o:=by rintro rfl;rw[u]at d;cases d
   simp only[aS,aD this,d]
 ·have i:(rows++src).length=Z' rows+Z' src:=a8F;refine⟨src,B,rfl,rfl,A,rs,h1,h2,?_,λo u=>?_⟩
  ·rw[h3];refine w _ _ (.inr ⟨q,rows++src,by rw[i],by simp only[aS,if_true],a8E _,a9E⟩) λo' x d p=>?_;have:o'≠q:=by rintro rfl;exact p _ rfl
   simp only[aS,aD this,d]
  ·rw[h3];refine w _ _ (.inr ⟨o,rows++src,by rw[i],by simp only[aS,if_true],a8E _,a9E⟩) λo' x d p=>?_;have E:o'≠o:=by rintro rfl;rw[u]at d;cases d
   simp only[aS,aD E,d]
def Pure(u:PV):Prop:=∀q s rs,PV.frz q s rs u=u
theorem bJ.frz(h:bJ H s v rows):∃e,Seen s e rows∧∀F:PF,∃d l,kC F H d l∧(∀t,F t=some v→d t=some e)∧∀i u,F i=some u→Pure u→d i=some u:=by
 rcases h with⟨rfl,rfl⟩|⟨q,rs,rfl,h1,h2,h3⟩
 ·exact⟨.aF,.inl ⟨rfl,rfl⟩,λF=>⟨F,H,.refl _ _,λt h=>h,λi u h _=>h⟩⟩
 ·refine⟨.sl s rows,.inr rfl,λF=>⟨_,_,.step q h1 (.refl _ _),λt p=>?_,λi u hi hp=>?_⟩⟩
  ·have:0+Z' rows≤Z' rs:=Om;simp only[PF.frz,p,a8X,PV.frz,PV.sC,PV.dZ,if_true,true_and,aG this,a9L,h3]
  ·simp only[PF.frz,hi,a8X];rw[hp]
theorem oZ{t:Nat}{e:mZ}(d:e=.normal∨e=.ret)(h:bJ H s v rows)(i:F t=some v):aY [.tmp t] (cN (.sl s rows)) e F H:=by
 rcases h with⟨rfl,rfl⟩|⟨q,rs,rfl,h1,h2,h3⟩
 ·exact bE (vs:=[.aF]) d .nil (by rw[oM,rK,i,sY]) a_ ⟨.nil s,rfl⟩
 ·exact abO d i h1 h2 ⟨by rw[h3];exact .refl _,rfl⟩
end
end Go.PM
namespace Go.PM
open Go
section
variable {C:Ctx} {F:PF} {H:PH}
@[go_sem] theorem wD(o s:Nat)(rs:List (List PV))(i:Nat):(F.frz o s rs) i=(F i).map (PV.frz o s rs):=(rfl)
theorem vO{name t o s k:Nat}{rs:List (List PV)}{v:PV}{d:Option Nat}{K:PF→PH→Prop}(h:aH C name [.sl s (rs.take k)] .nil (aK v))(l:F t=some (.osl o s 0 k))(i:H o=some (.rows s rs))(p:k≤Z' rs)
  (e:K ((F.frz o s rs).put d v) (H.frz o s rs)):kY C name [.tmp t] [] d K F H:=by
 refine .inr ⟨_,_,.step o i (.refl _ _),[.sl s (rs.take k)],.nil,aK v,?_,a_,h,?_⟩
 ·have:0+k≤Z' rs:=Om;simp only[HF,gi,wc,wD,l,a8X,PV.frz,PV.sC,PV.dZ,if_true,true_and,aG this,a9L,a9W]
 ·rintro r H' ⟨rfl,rfl⟩ -;rw[PH.HU];exact e
end
end Go.PM
namespace Go.Na
def val:List Nat→Nat
 |[]=>0
 |x::xs=>x+4294967296*val xs
def Lim(xs:List Nat):Prop:=∀x∈xs,x<4294967296
def aM(n:Nat):List Nat:=if h:n=0 then[]else(n%4294967296)::aM (n/4294967296)
termination_by n
decreasing_by exact Nat.div_lt_self (baU h) aV
def nl(n:Nat):Nat:=(aM n).length
theorem jO:aM 0=[]:=by rw[aM];simp
theorem xU{n:Nat}(h:n≠0):aM n=(n%4294967296)::aM (n/4294967296):=by rw[aM];simp[h]
theorem sV{n:Nat}(h:n≠0)(hb:n<4294967296):aM n=[n]:=by
 rw[xU h,a9P hb,bbY hb,jO]
theorem aZ(n:Nat):val (aM n)=n:=by
 induction n using Nat.strongRecOn with
 |_ n d=>
  by_cases h:n=0
  ·subst h;rw[jO];rfl
  ·rw[xU h,val,d _ (Nat.div_lt_self (baU h) aV)];exact Nat.mod_add_div n 4294967296
theorem bB(n:Nat):Lim (aM n):=by
 induction n using Nat.strongRecOn with
 |_ n d=>
  by_cases h:n=0
  ·subst h;rw[jO];intro x hx;cases hx
  ·rw[xU h];intro x hx;rw[a8M]at hx;rcases hx with rfl|hx
   ·exact a9Z _ aV
   ·exact d _ (Nat.div_lt_self (baU h) aV) x hx
theorem GK:nl 0=0:=by rw[nl,jO];rfl
theorem aFU{n:Nat}(h:n≠0):nl n=nl (n/4294967296)+1:=by rw[nl,xU h];rfl
theorem lS(n k:Nat):nl n≤k↔n<4294967296^k:=by
 induction k generalizing n with
 |zero=>
  by_cases h:n=0
  ·subst h;simp[GK]
  ·rw[aFU h];simp;omega
 |succ k d=>
  by_cases h:n=0
  ·subst h;simp[GK,bbD]
  ·rw[aFU h,Nat.succ_le_succ_iff,d,baD,bbJ aV]
theorem lE{n:Nat}:nl n=0↔n=0:=by
 have:=lS n 0;simp at this;exact this
theorem kA(xs ys:List Nat):val (xs++ys)=val xs+4294967296^xs.length*val ys:=by
 induction xs with
 |nil=>simp[val]
 |cons x xs d =>simp only[List.cons_append,val,a9O,d,baD];rw[a8O,baL,←a9C,a9H 4294967296 (4294967296^xs.length)]
theorem hZ{xs:List Nat}(h:Lim xs):val xs<4294967296^xs.length:=by
 induction xs with
 |nil=>simp[val]
 |cons x xs i =>have l:=h x bD;have d:=i λy e=>h y (by simp[e]);simp only[val,a9O,baD];have:4294967296*(val xs+1)≤4294967296*4294967296^xs.length:=baT _ d;rw[a8O,Nat.mul_one]at this;rw[a9H (4294967296^xs.length)];omega
theorem Lim.app{xs ys:List Nat}(h:Lim xs)(k:Lim ys):Lim (xs++ys):=λx d=>by
 rw[a9T]at d;exact d.elim (h x) (k x)
theorem Lim.take{xs:List Nat}(h:Lim xs)(n:Nat):Lim (xs.take n):=λx d=>h x (List.mem_of_mem_take d)
theorem Lim.drop{xs:List Nat}(h:Lim xs)(n:Nat):Lim (xs.drop n):=λx d=>h x (List.mem_of_mem_drop d)
theorem Lim.set{xs:List Nat}(h:Lim xs)(i:Nat){v:Nat}(d:v<4294967296):Lim (xs.set i v):=λx e=>by
 rcases bcE e with h1|h1
 ·exact h x h1
 ·subst h1;exact d
theorem CP(n:Nat):Lim (a8D n 0):=λx d=>by
 rw[List.mem_replicate]at d;rw[d.2];decide
theorem yG(n:Nat):val (a8D n 0)=0:=by
 induction n with
 |zero=>rfl
 |succ n d=>simp[List.replicate_succ,val,d]
theorem aFI{xs:List Nat}(h:Lim xs)(u:∀x,xs.getLast?=some x→x≠0):aM (val xs)=xs:=by
 induction xs with
 |nil=>simp[val,jO]
 |cons x xs F=>
  have l:=h x bD;have p:Lim xs:=λy B=>h y (by simp[B]);cases xs with
  |nil =>have:=u x bD;simp only[val,Nat.mul_zero,a9Y];exact sV this l
  |cons y ys=>
   have d:=F p λz E=>u z (by rw[List.getLast?_cons_cons];exact E);have A:val (y::ys)≠0:=λe=>by rw[e,jO]at d;cases d
   have i:x+4294967296*val (y::ys)≠0:=by have:0<4294967296*val (y::ys):=Nat.mul_pos aV (baU A);omega
   show aM (x+4294967296*val (y::ys))=_;rw[xU i];have w:(x+4294967296*val (y::ys))%4294967296=x:=by rw[Nat.add_mul_mod_self_left,a9P l]
   have e2:(x+4294967296*val (y::ys))/4294967296=val (y::ys):=by rw[Nat.add_mul_div_left _ _ aV,bbY l,a8Q]
   rw[w,e2,d]
theorem agB{xs:List Nat}{n:Nat}(h:∀j x,n≤j→xs[j]?=some x→x=0):val (xs.take n)=val xs:=by
 have e:xs.drop n=a8D (xs.drop n).length 0:=by apply baX bD;intro i d l;rw[List.getElem_replicate,List.getElem_drop];exact h (n+i) _ Om (a8N _)
 conv=>rhs;rw[←bbC n xs,kA,e,yG]
 simp
theorem UR{xs:List Nat}(p:Lim xs){n:Nat}(l:n≤Z' xs)(h:∀j x,n≤j→xs[j]?=some x→x=0)(i:∀x,0<n→xs[n-1]?=some x→x≠0):xs.take n=aM (val xs):=by
 rw[←agB h,aFI (p.take n)];intro x d;rw[List.getLast?_eq_getElem?,a8S,baS l]at d;rcases baR n with e|e
 ·subst e;simp at d
 ·rw[List.getElem?_take_of_lt Om]at d;exact i x e d
theorem arJ{xs:List Nat}(i:Lim xs){n:Nat}(e:n≤Z' xs)(h:∀j x,n≤j→xs[j]?=some x→x=0)(d:∀x,0<n→xs[n-1]?=some x→x≠0):nl (val xs)=n:=by
 rw[nl,←UR i e h d,a8S];omega
theorem jL{xs:List Nat}(h:Lim xs):nl (val xs)≤Z' xs:=(lS _ _).2 (hZ h)
theorem oN {xs : List Nat} (h : Lim xs) : xs.take (nl (val xs)) = aM (val xs) := by
  have hl := jL h;have e : val (xs.take (nl (val xs)) ++ xs.drop (nl (val xs))) = val xs := by rw [bbC]
  rw [kA, a8S, baS hl] at e;have h1 := hZ (h.take (nl (val xs)));rw [a8S, baS hl] at h1;have h2 := (lS (val xs) (nl (val xs))).1 (a8E _);have hd : val (xs.drop (nl (val xs))) = 0 := by
    rcases baR (val (xs.drop (nl (val xs)))) with h | h
    · exact h
    · have := baT (4294967296 ^ nl (val xs)) h
      omega
  have hz : ∀ j x, nl (val xs) ≤ j → xs[j]? = some x → x = 0 := by
    have zero : ∀ ys : List Nat, val ys = 0 → ∀ y ∈ ys, y = 0 := by
      intro ys
      induction ys with
      | nil => intro _ y hy; cases hy
      | cons z zs ih =>
        intro hv y hy;simp only [val] at hv;rw [a8M] at hy;rcases hy with rfl | hy
        · omega
        · exact ih (by have : 4294967296 * val zs = 0 := Om
                       rcases Nat.mul_eq_zero.1 this with h | h
                       · cases h
                       · exact h) y hy
    intro j x hj hx;refine zero _ hd x ?_;rw [List.mem_iff_getElem?];exact ⟨j - nl (val xs), by rw [bcC, Nat.add_sub_cancel' hj]; exact hx⟩
  refine UR h hl hz fun x hpos hx e => ?_;subst e;have hz2 : ∀ j x, nl (val xs) - 1 ≤ j → xs[j]? = some x → x = 0 := fun j y hj hy => by
    rcases a9A j (nl (val xs)) with h3 | h3
    · have : j = nl (val xs) - 1 := Om
      subst this; rw [hx] at hy; cases hy; rfl
    · exact hz j y h3 hy
  have h3 := agB hz2;have h4 := hZ (h.take (nl (val xs) - 1));rw [h3, a8S, baS Om] at h4;have := (lS (val xs) (nl (val xs) - 1)).2 h4;omega
theorem adA{xs:List Nat}(h:Lim xs){n:Nat}(p:nl (val xs)=n+1):∃x,xs[n]?=some x∧x≠0:=by
 have u:=jL h;refine⟨xs[n]'Om,a8N _,λe=>?_⟩;have l:=oN h;have d:=aZ (val xs);rw[←l,p,baC Om,e,kA]at d;simp only[val,Nat.mul_zero,a9Y]at d;have i:=hZ (h.take n);rw[d,a8S,baS Om]at i;have:=(lS (val xs) n).2 i;omega
theorem yB(xs:List Nat){k:Nat}(h:k<Z' xs):val xs=val (xs.take k)+4294967296^k*(xs[k]+4294967296*val (xs.drop (k+1))):=by
 conv=>lhs;rw[←bbC k xs,kA,a8S,baS Om,baJ h]
 rfl
theorem uy{xs ys:List Nat}(u:Lim xs){k:Nat}(d:k<Z' xs)(e:k<Z' ys)(p:xs.drop (k+1)=ys.drop (k+1))(h:xs[k]<ys[k]):val xs<val ys:=by
 rw[yB xs d,yB ys e,p];have i:=hZ (u.take k);rw[a8S,baS Om]at i;have l:4294967296^k*(xs[k]+4294967296*val (ys.drop (k+1))+1)≤4294967296^k*(ys[k]+4294967296*val (ys.drop (k+1))):=baT _ Om;rw[a8O _ _ 1,Nat.mul_one]at l;omega
def fA(a b:Nat):Int:=if a<b then -1 else if b<a then 1 else 0
theorem Hy{xs ys:List Nat}{k:Nat}(d:k<Z' xs)(e:k<Z' ys)(i:xs.drop (k+1)=ys.drop (k+1))(h:xs[k]=ys[k]):xs.drop k=ys.drop k:=by
 rw[baJ d,baJ e,i,h]
theorem jS{a b:Nat}(h:a≤b):nl a≤nl b:=(lS a _).2 (Nat.lt_of_le_of_lt h ((lS b _).1 (a8E _)))
theorem Rz{xs:List Nat}(h:Lim xs){j:Nat}(d:j<nl (val xs)):∃(i:j<Z' xs)(l:j<(aM (val xs)).length),xs[j]=(aM (val xs))[j]:=by
 have p:=jL h;refine⟨by omega,d,?_⟩;have e:=oN h;have:(xs.take (nl (val xs)))[j]?=(aM (val xs))[j]?:=by rw[e]
 rw[List.getElem?_take_of_lt d,a8N Om,a8N d]at this;exact a9V.inj this
def dJ(n:Nat):Nat:=if h:n=0 then 0 else dJ (n/2)+1
termination_by n
decreasing_by exact Nat.div_lt_self (baU h) aV
theorem mN:dJ 0=0:=by rw[dJ];simp
theorem tP{n:Nat}(h:n≠0):dJ n=dJ (n/2)+1:=by rw[dJ];simp[h]
theorem pZ(n k:Nat):dJ n≤k↔n<2^k:=by
 induction k generalizing n with
 |zero=>
  by_cases h:n=0
  ·subst h;simp[mN]
  ·rw[tP h];simp;omega
 |succ k d=>
  by_cases h:n=0
  ·subst h;simp[mN,bbD]
  ·rw[tP h,Nat.succ_le_succ_iff,d,baD,bbJ aV]
theorem nN{n:Nat}:dJ n=0↔n=0:=by
 have:=pZ n 0;simp at this;exact this
theorem R2{hi lo k:Nat}(l:lo<2^k)(e:hi≠0):dJ (lo+2^k*hi)=k+dJ hi:=by
 apply Nat.le_antisymm
 ·rw[pZ,Nat.pow_add];have d:=(pZ hi _).1 (a8E _);have:2^k*(hi+1)≤2^k*2^dJ hi:=baT _ d;rw[a8O,Nat.mul_one]at this;omega
 ·obtain⟨b,hb⟩:∃b,dJ hi=b+1:=⟨dJ hi-1,by have:=mt nN.1 e;omega⟩;rw[hb];rcases a9A (dJ (lo+2^k*hi)) (k+(b+1))with h|h
  ·have d:=(pZ (lo+2^k*hi) (k+b)).1 Om;rw[Nat.pow_add]at d;have i:¬hi<2^b:=λh=>by have:=(pZ hi b).2 h;omega
   have:2^k*2^b≤2^k*hi:=baT _ Om;omega
  ·exact h
theorem qA(n k:Nat):dJ n≤32*k↔nl n≤k:=by
 rw[pZ,lS,Nat.pow_mul]
end Go.Na
namespace Go.PM
theorem Lq{F d:PF}(h:F.le d:=by(repeat' (first|exact d_|refine c_ ?_ ?_))<;>first|(simp only[go_sem]<;>rfl)|rfl|assumption):F.le d:=h
end Go.PM
namespace Go.PM
open Go Go.Na
abbrev aO(xs:List Nat):List (List PV):=xs.map λ(n:Nat)=>[PV.int .u32 (n:Int)]
abbrev aN(xs:List Nat):PV:=.sl 1 (xs.map λ(n:Nat)=>[PV.int .u32 (n:Int)])
theorem cW(xs:List Nat):(aO xs).length=Z' xs:=by simp
theorem cF(xs:List Nat){i:Nat}(h:i<Z' xs):(aO xs)[i]?=some [.int .u32 (xs[i]:Nat)]:=by simp[h]
theorem Jx(xs:List Nat)(k:Nat):aN (xs.take k)=.sl 1 ((xs.map λ(n:Nat)=>[PV.int .u32 (n:Int)]).take k):=by rw[aN,baY]
theorem dH(n:Nat):IntKind.u32.wrap (n:Int)=((n%4294967296:Nat):Int):=by
 have e:IntKind.u32.wrap (n:Int)=(n:Int)%4294967296:=by simp[IntKind.wrap,IntKind.bits,IntKind.signed]
 rw[e];rfl
theorem DF{k:Nat}(h:k≤9223372036854775807)(d:0<k):IntKind.i64.wrap ((k:Int)-1)=((k-1:Nat):Int):=by
 rw[wrap_i64 Om Om];omega
def aAC(xs:List Nat)(n:Nat):PF:=((PF.nil.set 0 (aN xs)).set 3 (.int .i64 n))
theorem aAE{C:Ctx}(xs:List Nat)(w:Lim xs)(A:Z' xs≤35184372087808):tW.wp C (aY PE.res (aK (.int .i64 (nl (val xs):Nat)))) (PF.args [aN xs]) .nil:=by
 simp only[go_sem,tW,TG,TH,PE];refine wp_loop (α:=Nat) (aAC xs) (λ_=>.nil) (λn=>n≤Z' xs∧∀j x,n≤j→xs[j]?=some x→x=0) (λn=>n) xs.length ⟨a8E _,λj x h e=>by rw[a9N h]at e;cases e⟩ ?_ a_ ?_
 ·unfold aAC;exact Lq
 rintro n ⟨u,p⟩;have out:(∀x,0<n→xs[n-1]?=some x→x≠0)→nl (val xs)=n:=λh=>arJ w u p h;simp only[go_sem,TF,TI,aAC];by_cases l:(n:Int)>0
 ·have hp:0<n:=Om;have hi:=cF xs (Om:n-1<Z' xs);simp only[go_sem,l,DF (Om:n≤9223372036854775807) hp,hi];by_cases i:xs[n-1]=0
  ·simp only[go_sem,cC (Om:((xs[n-1]:Nat):Int)=0),TJ,DF (Om:n≤9223372036854775807) hp];refine aJ (n-1) ⟨by omega,λj x y d=>?_⟩ Om ?_ a_
   ·rcases a9A j n with h|h
    ·have:j=n-1:=Om;subst this;rw[a8N Om]at d;cases d;exact i
    ·exact p j x h d
   ·exact Lq
  ·simp only[go_sem,bO (Om:((xs[n-1]:Nat):Int)≠0),zH];refine aX (.inr rfl) rfl ?_;rw[out λx _ d=>by rw[a8N Om]at d;cases d;exact i];rfl
 ·simp only[go_sem,l,zH];refine aX (.inr rfl) rfl ?_;rw[out λx h=>by omega];rfl
theorem aFV{C:Ctx}(xs:List Nat)(d:aH C 138 [aN xs] .nil (aK (.int .i64 (nl (val xs):Nat)))):MR.wp C (aY Zz.res (aK (.bool (decide (nl (val xs)>512))))) (PF.args [aN xs]) .nil:=by
 simp only[go_sem,MR,J0,J1,Zz];refine aB d rfl ?_;simp only[go_sem];refine aX (.inr rfl) rfl ?_;simp only[bR,PV.bool.injEq,decide_eq_decide];omega
def szL(n:Nat):List Nat:=if nl n>512 then[]else aM n
def szE(n:Nat):Int:=if nl n>512 then 2 else 0
def szV(n:Nat):PV:=.tup [aN (szL n),.int .i64 (szE n)]
theorem aFY{C:Ctx}(xs:List Nat)(l:Lim xs)(d:aH C 138 [aN xs] .nil (aK (.int .i64 (nl (val xs):Nat)))):MT.wp C (aY aaD.res (cN (szV (val xs)))) (PF.args [aN xs]) .nil:=by
 simp only[go_sem,MT,Kd,Ke,aaD];refine aB d rfl ?_;simp only[go_sem,Kf];by_cases h:nl (val xs)>512
 ·have i:((nl (val xs):Nat):Int)>512:=Om;simp only[go_sem,i,Kg];refine bE (vs:=[.aF,.int .i64 2]) (.inr rfl) .nil rfl a_ ⟨?_,rfl⟩;rw[szV,szL,szE,aG h,aG h];refine .tup rfl λj p q hp e=>?_
  match j with
  |0=>simp at hp e;subst hp;subst e;exact .nil 1
  |1=>simp at hp e;subst hp;subst e;exact .refl _
  |j+2=>simp at hp
 ·have i:¬((nl (val xs):Nat):Int)>512:=Om;have w:=jL l;have u:((nl (val xs):Nat):Int)≤(Z' xs:Nat):=Om;simp only[go_sem,i,Kh,u,or_true,a9L];refine bE (.inr rfl) .nil rfl a_ ⟨?_,rfl⟩;rw[szV,szL,szE,aD h,aD h,←oN l,Jx];exact .refl _
theorem aOB{C:Ctx}(v:Nat)(F:v<18446744073709551616)(e:∀xs,Lim xs→Z' xs≤35184372087808→aH C 138 [aN xs] .nil (aK (.int .i64 (nl (val xs):Nat)))) :
  TK.wp C (aY aAF.res (aK (aN (aM v)))) (PF.args [.int .u64 v]) .nil:=by
 have y:IntKind.u32.wrap ((v:Nat):Int)=((v%4294967296:Nat):Int):=dH v;have e2:Int.fdiv ((v:Nat):Int) 4294967296=((v/4294967296:Nat):Int):=by rw[Int.fdiv_eq_ediv_of_nonneg _ aV];rfl
 have p:v/4294967296<4294967296:=Om;have A:IntKind.u32.wrap ((v/4294967296:Nat):Int)=((v/4294967296:Nat):Int):=by rw[dH,a9P p]
 have i:Lim [v%4294967296,v/4294967296]:=by
  intro x w;simp only[a8M,List.mem_nil_iff,or_false]at w;rcases w with rfl|rfl
  ·exact a9Z _ aV
  ·exact p
 have d:val [v%4294967296,v/4294967296]=v:=by simp only[val,Nat.mul_zero,a9Y];exact Nat.mod_add_div v 4294967296
 have E:∀a b:Int,PV.bin .shr (.int .u64 a) (.int .u64 b)=shift .shr .u64 a b:=λ_ _=>rfl;have l:shift .shr .u64 (v:Int) 32=some (.int .u64 ((v/4294967296:Nat):Int)):=by
  unfold shift;rw[aD aV];simp only;have:min (Int.toNat 32) IntKind.u64.bits=32:=by decide
  rw[this];rw[show(2:Int)^32=4294967296 by decide,e2]
 simp only[go_sem,TK,Z1,Z2,aAF,y,l,A];have hb:(2:Nat)*1≤16777216:=by decide
 simp only[go_sem,Z3];refine aB (e [v%4294967296,v/4294967296] i bD) rfl ?_;have u:=jL i;rw[d]at u ⊢;have B:((nl v:Nat):Int)≤((2:Nat):Int):=by simp at u;omega
 simp only[go_sem,B,or_true,a9L];refine aX (.inr rfl) rfl ?_;have:=oN i;rw[d]at this;rw[←this,Jx];rfl
theorem aOF{C:Ctx}(xs:List Nat)(e:Lim xs)(p:Z' xs≤35184372087808)(d:aH C 138 [aN xs] .nil (aK (.int .i64 (nl (val xs):Nat)))) :
  TM.wp C (aY aAH.res (cN (aN (aM (val xs))))) (PF.args [aN xs]) .nil:=by
 simp only[go_sem,TM,aaK,aaL,aAH];refine aB d rfl ?_;have u:=jL e;have i:((nl (val xs):Nat):Int)≤(Z' xs:Nat):=Om;simp only[go_sem,i,or_true,a9L];refine jD (rows:=[]) (src:=aO (aM (val xs))) .nil ?_ ?_ λv H' l _=>?_
 ·simp only[go_sem];rw[←oN e,←baY]
 ·unfold roomFor;rw[cW];have:(aM (val xs)).length=nl (val xs):=rfl;simp only[baE,maxLen];omega
 ·exact oZ (.inr rfl) (by simpa using l) rfl
end Go.PM
theorem Sq{p:Prop}(h:p:=by simp only[go_sem]):p:=h
theorem Ev{p:Prop}(h:p:=by simp only[go_sem]<;>rfl):p:=h
namespace Go.PM
open Go Go.Na
def azX(xs ys:List Nat)(i:Int):PF:=(((PF.nil.set 0 (aN xs)).set 1 (aN ys)).set 7 (.int .i64 i))
theorem aUD{C:Ctx}(xs ys:List Nat)(H:Lim xs)(J:Lim ys)(lx:Z' xs≤35184372087808)(ly:Z' ys≤35184372087808)(w:aH C 138 [aN xs] .nil (aK (.int .i64 (nl (val xs):Nat))))(x:aH C 138 [aN ys] .nil (aK (.int .i64 (nl (val ys):Nat)))) :
  ZX.wp C (aY aNY.res (aK (.int .i64 (fA (val xs) (val ys))))) (PF.args [aN xs,aN ys]) .nil:=by
 simp only[go_sem,ZX,apG,apH,aNY];refine aB w Ev ?_;simp only[go_sem];refine aB x Ev ?_;simp only[go_sem,apI];have V:=jL H;have Q:=jL J;by_cases W:nl (val xs)<nl (val ys)
 ·have d:((nl (val xs):Nat):Int)<(nl (val ys):Nat):=Om;simp only[go_sem,d,apJ];refine aX (.inr rfl) Ev ?_;have:val xs<val ys:=by
   rcases a9A (val xs) (val ys)with h|h
   ·exact h
   ·have:=jS h;omega
  simp[bR,fA,this]
 have d:¬((nl (val xs):Nat):Int)<(nl (val ys):Nat):=Om;simp only[go_sem,d,apK];by_cases X:nl (val xs)>nl (val ys)
 ·have e:((nl (val xs):Nat):Int)>(nl (val ys):Nat):=Om;simp only[go_sem,e,apL];refine aX (.inr rfl) Ev ?_;have:val ys<val xs:=by
   rcases a9A (val ys) (val xs)with h|h
   ·exact h
   ·have:=jS h;omega
  have p:¬val xs<val ys:=Om;simp[bR,fA,this,p]
 have e:¬((nl (val xs):Nat):Int)>(nl (val ys):Nat):=Om;have U:nl (val xs)=nl (val ys):=Om;simp only[go_sem,e,apM];have ex:=aZ (val xs);have l:=aZ (val ys);have N:=bB (val xs);have O:=bB (val ys);refine wp_loop (α:=Nat) (λk=>azX xs ys ((k:Int)-1)) (λ_=>.nil) (λk=>k≤nl (val xs)∧(aM (val xs)).drop k=(aM (val ys)).drop k) (λk=>k) (nl (val xs)) ⟨a8E _,?_⟩ ?_ a_ ?_
 ·rw[bcB (by rw[nl];exact a8E _),bcB (by rw[U,nl];exact a8E _)]
 ·unfold azX
  (repeat' (first|exact d_|refine c_ ?_ ?_))<;>first|(simp only[go_sem,wrap_i64 (show -9223372036854775808≤((nl (val xs):Nat):Int)-1 by omega) (show((nl (val xs):Nat):Int)-1≤9223372036854775807 by omega)]<;>rfl)|rfl
 rintro k ⟨Z,i⟩;simp only[go_sem,Zp,apN,azX];by_cases Y:0<k
 ·obtain⟨m,rfl⟩:∃m,k=m+1:=⟨k-1,by omega⟩;have y:((m+1:Nat):Int)-1=(m:Int):=Om;have u:(m:Int)≥0:=Om;obtain⟨K,A,B⟩:=Rz H (Om:m<nl (val xs));obtain⟨M,E,F⟩:=Rz J (Om:m<nl (val ys));simp only[go_sem,y,u];refine cP .nil fT a_ ?_;simp only[go_sem,apO,cF xs K,cF ys M];by_cases R:xs[m]<ys[m]
  ·simp only[go_sem,show((xs[m]:Nat):Int)<(ys[m]:Nat) by omega,apP];refine aX (.inr rfl) Ev ?_;have:=uy N A E i (by rw[←B,←F];exact R);rw[ex,l]at this;simp[bR,fA,this]
  ·simp only[go_sem,show ¬((xs[m]:Nat):Int)<(ys[m]:Nat) by omega];refine cP .nil fT a_ ?_;simp only[go_sem,Zq,cF xs K,cF ys M];by_cases S:xs[m]>ys[m]
   ·simp only[go_sem,show((xs[m]:Nat):Int)>(ys[m]:Nat) by omega,Zr];refine aX (.inr rfl) Ev ?_;have:=uy O E A i.symm (by rw[←B,←F];exact S);rw[ex,l]at this;have p:¬val xs<val ys:=Om;simp[bR,fA,this,p]
   ·simp only[go_sem,show ¬((xs[m]:Nat):Int)>(ys[m]:Nat) by omega,Zs];refine aJ m ⟨by omega,Hy A E i (by rw[←B,←F];omega)⟩ Om ?_ a_
    (repeat' (first|exact d_|refine c_ ?_ ?_))<;>first|(simp only[go_sem,wrap_i64 (Om:-9223372036854775808≤(m:Int)-1) (Om:(m:Int)-1≤9223372036854775807)]<;>rfl)|rfl
 ·have:k=0:=Om;subst this;have y:¬((0:Nat):Int)-1≥0:=by decide
  simp only[go_sem,y,Zt];refine aX (.inr rfl) Ev ?_;rw[a9L,a9L]at i;have:val xs=val ys:=by rw[←ex,←l,i]
  simp[bR,fA,this]
def Ze(k:Nat)(v:Nat):PF:=((PF.nil.set 4 (.int .i64 k)).set 5 (.int .u32 v))
theorem aNX{C:Ctx}(xs:List Nat)(x:Lim xs)(S:Z' xs≤35184372087808)(y:aH C 138 [aN xs] .nil (aK (.int .i64 (nl (val xs):Nat)))) :
  TC.wp C (aY azW.res (aK (.int .i64 (dJ (val xs):Nat)))) (PF.args [aN xs]) .nil:=by
 simp only[go_sem,TC,Zg,Zh,azW];refine aB y Ev ?_;simp only[go_sem,Zi];have R:=jL x;by_cases M:nl (val xs)=0
 ·simp only[go_sem,cC (show((nl (val xs):Nat):Int)=0 by omega),Zj];refine aX (.inr rfl) Ev ?_;have:val xs=0:=lE.1 M;simp[bR,this,mN]
 obtain⟨n,K⟩:∃n,nl (val xs)=n+1:=⟨nl (val xs)-1,by omega⟩;obtain⟨t,u,A⟩:=adA x K;have w:t<4294967296:=x t (baH u);have d:n<Z' xs:=Om;have Q:val xs=val (xs.take n)+4294967296^n*t:=by
  have e:=oN x;have:=aZ (val xs);have O:xs[n]=t:=by rw[a8N d]at u;exact a9V.inj u
  rw[←e,K,baC d,O,kA,a8S,baS Om]at this;simp only[val,Nat.mul_zero,a9Y]at this;exact this.symm
 have hb:dJ (val xs)=32*n+dJ t:=by
  have F:=hZ (x.take n);rw[a8S,baS Om]at F;rw[Q,show(4294967296:Nat)^n=2^(32*n) by rw[Nat.pow_mul]]at *
  exact R2 F A
 have i:(aO xs)[n]?=some [.int .u32 (t:Nat)]:=by rw[cF xs d];rw[a8N d]at u;rw[a9V.inj u]
 have N:IntKind.i64.wrap (((nl (val xs):Nat):Int)-1)=(n:Int):=by rw[wrap_i64 Om Om];omega
 have e2:IntKind.i64.wrap ((n:Int)*32)=((32*n:Nat):Int):=by rw[wrap_i64 Om Om];omega
 simp only[go_sem,bO (show((nl (val xs):Nat):Int)≠0 by omega),Zk,Zl,N,e2,i];refine wp_loop (α:=Nat × Nat) (λa=>Ze a.1 a.2) (λ_=>.nil) (λa=>a.1+dJ a.2=32*n+dJ t∧a.2<4294967296) (λa=>a.2) (32*n,t) ⟨rfl,w⟩ ?_ a_ ?_
 ·unfold Ze;exact Lq
 rintro⟨k,v⟩ ⟨H,hlt⟩;simp only at H hlt;have J:dJ t≤32:=(pZ t 32).2 w;simp only[go_sem,Zf,Zm,Ze];by_cases E:(v:Int)>0
 ·have B:v≠0:=Om;have l:PV.bin .shr (.int .u32 (v:Int)) (.int .u64 1)=some (.int .u32 ((v/2:Nat):Int)):=by
   show shift .shr .u32 (v:Int) 1=_;unfold shift;rw[aD aV];simp only;have:min (Int.toNat 1) IntKind.u32.bits=1:=by decide
   rw[this,show(2:Int)^1=2 by decide,Int.fdiv_eq_ediv_of_nonneg _ aV];rfl
  have p:shift .shr .u32 (v:Int) 1=some (.int .u32 ((v/2:Nat):Int)):=l;simp only[go_sem,E,Zn,Zo,l,p,wZz k];refine aJ (k+1,v/2) ⟨?_,?_⟩ (Nat.div_lt_self Om aV) ?_ a_
  ·have:=tP B;simp only;omega
  ·simp only;omega
  ·exact Lq
 ·have:v=0:=Om;subst this;simp only[go_sem,E,Jy];refine aX (.inr rfl) Ev ?_;rw[mN]at H;simp only[bR,PV.int.injEq,true_and];omega
structure wO(C:Ctx):Prop where
 length:∀xs,Lim xs→Z' xs≤35184372087808→aH C 138 [aN xs] .nil (aK (.int .i64 (nl (val xs):Nat)))
 large:∀xs,Lim xs→Z' xs≤35184372087808→aH C 137 [aN xs] .nil (aK (.bool (decide (nl (val xs)>512))))
 sized:∀xs,Lim xs→Z' xs≤35184372087808→aH C 141 [aN xs] .nil (aK (szV (val xs)))
 trim:∀xs,Lim xs→Z' xs≤35184372087808→aH C 135 [aN xs] .nil (aK (aN (aM (val xs))))
 make:∀v:Nat,v<18446744073709551616→aH C 132 [.int .u64 v] .nil (aK (aN (aM v)))
 cmp:∀xs ys,Lim xs→Lim ys→Z' xs≤35184372087808→Z' ys≤35184372087808→aH C 129 [aN xs,aN ys] .nil (aK (.int .i64 (fA (val xs) (val ys))))
def mB:PV→List Nat
 | .sl _ rows=>rows.map λr=>match r with|[.int _ n]=>n.toNat|_=>0
 |_=>[]
theorem fP(xs:List Nat):mB (aN xs)=xs:=by
 simp[mB,bbG,Function.comp_def]
def azV:Spec:=λname vs=>match name,vs with
 |138,[x]=>some ([],λ_=>aK (.int .i64 (nl (val (mB x)):Nat)))
 |_,_=>none
theorem sW(xs:List Nat):azV 138 [aN xs]=some ([],λ_=>aK (.int .i64 (nl (val xs):Nat))):=by
 show some _=_;rw[fP]
theorem GN(P:List Nat)(k v:Nat):(P++a8D (k+1) 0).set P.length v=(P++[v])++a8D k 0:=by
 rw[bbB _ _ (a8E _),baV,List.replicate_succ,bbW,a9G];rfl
theorem jM(L:List Nat)(i v:Nat):(aO L).set i [.int .u32 (v:Int)]=aO (L.set i v):=by
 unfold aO;rw[List.map_set]
theorem mH(P:List Nat)(v:Nat):val (P++[v])=val P+4294967296^P.length*v:=by
 rw[kA];simp[val]
theorem cZ(xs:List Nat){i:Nat}(h:i<Z' xs):val (xs.take (i+1))=val (xs.take i)+4294967296^i*xs[i]:=by
 rw[baC h,mH,a8S,baS Om]
theorem FA{v:Nat}:shift .shr .u64 (v:Int) 32=some (.int .u64 ((v/4294967296:Nat):Int)):=by
 unfold shift;rw[aD aV];simp only;have:min (Int.toNat 32) IntKind.u64.bits=32:=by decide
 rw[this,show(2:Int)^32=4294967296 by decide,Int.fdiv_eq_ediv_of_nonneg _ aV];rfl
theorem iD{a b:Nat}(h:a+b<18446744073709551616):IntKind.u64.wrap ((a:Int)+(b:Int))=((a+b:Nat):Int):=by
 rw[wrap_u64 Om Om];omega
theorem bP{a:Nat}(h:a<18446744073709551616):IntKind.u64.wrap (a:Int)=(a:Int):=wrap_u64 Om Om
def yo(a b:List Nat)(o i c:Nat):PF:=(((((((PF.nil.set 0 (aN a)).set 1 (aN b)).set 6 (.osl o 1 0 (Z' a+1))).set 7 (.int .u64 c)).set 35 (.int .i64 (Z' a:Nat))).set 34 (aN a)).set 36 (.int .i64 i))
theorem Jw{C:Ctx}(L:wO C)(a b:List Nat)(ha:Lim a)(hb:Lim b)(hl:Z' b≤Z' a)(h1:Z' a≤1000)(F:PF)(f0:F 0=some (aN a))(f1:F 1=some (aN b)) :
  aC.wp C (.seq (.region Ej) (.seq (.region Ek) (.seq (.seq (.region El) (.block 0 (.loop qh))) (.seq (.region ql) (.seq (.region qn) .ret))))) (aY [.tmp 4,.tmp 5] (cN (szV (val a+val b)))) F .nil:=by
 have O:IntKind.i64.wrap ((Z' a:Int)+1)=((Z' a+1:Nat):Int):=eQ Om;have η:((Z' a+1:Nat):Int)*((4:Nat):Int)≤140737488355328:=Om;have θ:((Z' a+1:Nat):Int)≤9223372036854775807:=Om;have hz:a8D (Z' a+1) [PV.int .u32 0]=aO ([]++a8D (Z' a+1) 0):=by simp[aO]
 simp only[go_sem,Ej,f0,O,η,θ,hz];refine aR λo ho=>?_;simp only[go_sem,Ek,El,f0];refine wp_loop (α:=List Nat × Nat × Nat) (λs=>yo a b s.2.2 s.1.length s.2.1) (λs=>PH.nil.set s.2.2 (.rows 1 (aO (s.1++a8D (Z' a+1-s.1.length) 0))))
  (λs=>s.1.length≤Z' a∧Lim s.1∧s.2.1≤1∧val s.1+4294967296^s.1.length*s.2.1=val (a.take s.1.length)+val (b.take s.1.length)) (λs=>Z' a-s.1.length) ([],0,o) ⟨by simp,by simp[Lim],by simp,by simp[val]⟩ ?_ ?_ ?_
 ·unfold yo;exact Lq
 ·exact e_ a_ (by simp only[go_sem,baE])
 rintro⟨P,c,q⟩ ⟨hP,d,hc,w⟩;simp only at hP d hc w;simp only[go_sem,qh,apF,yo];by_cases V:Z' P<Z' a
 ·have A:(Z' P:Int)<(Z' a:Nat):=Om;have ι:=ha _ (a8G V);obtain⟨k,S⟩:∃k,Z' a+1-Z' P=k+1:=⟨Z' a-Z' P,by omega⟩;have H:(aO (P++a8D (k+1) 0))[Z' P]?=some [.int .u32 ((0:Nat):Int)]:=by rw[cF _ bD];simp
  have i:Z' a+1-(Z' P+1)=k:=Om;have B:(Z' P:Int)<((Z' a+1:Nat):Int):=Om;have fin:∀(t:Nat)(p:PF)(H':PH),t<2*4294967296→val P+4294967296^P.length*t=val (a.take (Z' P+1))+val (b.take (Z' P+1)) →
    p 0=some (aN a)→p 1=some (aN b)→p 6=some (.osl q 1 0 (Z' a+1))→p 7=some (.int .u64 (t:Nat))→p 8=some (.int .i64 P.length)→p 34=some (aN a)→p 35=some (.int .i64 (Z' a:Nat))→p 36=some (.int .i64 P.length) →
    H' q=some (.rows 1 (aO (P++a8D (k+1) 0)))→∀K:cD,(∀u y R H2,Z' u=Z' P+1→Lim u→y≤1→val u+4294967296^u.length*y=val (a.take (Z' P+1))+val (b.take (Z' P+1))→(yo a b q u.length y).le R→H2 q=some (.rows 1 (aO (u++a8D k 0)))→K .normal R H2) →
    aC.wp C (.seq (.region qi) (.region qj)) (fQ 1 (jW C (aC.wp C (.region qk)) K)) p H':=by
   intro t p H' ht hv g0 g1 g6 g7 g8 γ δ ε gH K hK;have l:(aO (P++a8D (k+1) 0)).set P.length [.int .u32 ((t%4294967296:Nat):Int)]=aO ((P++[t%4294967296])++a8D k 0):=by rw[jM,GN]
   simp only[go_sem,qi,g6,g8,g7,dH,B,gH,H,l,qj,FA,qk,ε,eQ (Om:Z' P<9223372036854775807)];refine hK (P++[t%4294967296]) (t/4294967296) _ _ bD (d.app λx U=>by simp at U;subst U;exact a9Z _ aV) Om ?_ ?_ Sq
   ·rw[mH,a8F,a8J,baD,a9C,baL,←a8O,Nat.mod_add_div];exact hv
   ·unfold yo;rw[a8F,a8J];refine c_ (c_ (c_ (c_ (c_ (c_ (c_ d_ ?_) ?_) ?_) ?_) ?_) ?_) ?_<;>simp only[go_sem,g0,g1,g6,γ,δ]
  have Q:=cZ a V;have ea:IntKind.u64.wrap ((a[Z' P]:Nat):Int)=((a[Z' P]:Nat):Int):=bP Om;have es:IntKind.u64.wrap ((c:Nat)+((a[Z' P]:Nat):Int))=((c+a[Z' P]:Nat):Int):=iD Om;simp only[go_sem,A,Y9,Za,cF a V,ea,es,Zb];by_cases W:Z' P<Z' b
  ·have E:(Z' P:Int)<(Z' b:Nat):=Om;have κ:=hb _ (a8G W);have J:=cZ b W;have eb:IntKind.u64.wrap ((b[Z' P]:Nat):Int)=((b[Z' P]:Nat):Int):=bP Om;have β:IntKind.u64.wrap (((c+a[Z' P]:Nat):Int)+((b[Z' P]:Nat):Int))=((c+a[Z' P]+b[Z' P]:Nat):Int):=iD Om;simp only[go_sem,E,Zc,cF b W,eb,β];refine fin (c+a[Z' P]+b[Z' P]) _ _ Om ?_ ?_ ?_ ?_ ?_ ?_ ?_ ?_ ?_ ?_ _ ?_
   ·rw[Q,J,a8O,a8O];omega
   any_goals simp only[go_sem,S]
   intro u y R H2 M e2 X N Y Z;rw[←M]at N;refine aJ (u,y,q) ⟨by simp only;omega,e2,X,N⟩ (by simp only;omega) Y (e_ a_ ?_);simp only;rw[M,i];exact Z
  ·have E:¬(Z' P:Int)<(Z' b:Nat):=Om;have J:val (b.take (Z' P+1))=val (b.take P.length):=by rw[a8T Om,a8T Om]
   simp only[go_sem,E];refine fin (c+a[Z' P]) _ _ Om ?_ ?_ ?_ ?_ ?_ ?_ ?_ ?_ ?_ ?_ _ ?_
   ·rw[Q,J,a8O];omega
   any_goals simp only[go_sem,S]
   intro u y R H2 M e2 X N Y Z;rw[←M]at N;refine aJ (u,y,q) ⟨by simp only;omega,e2,X,N⟩ (by simp only;omega) Y (e_ a_ ?_);simp only;rw[M,i];exact Z
 ·have e:Z' P=Z' a:=Om;have A:¬(Z' P:Int)<(Z' a:Nat):=Om;have S:a8D (Z' a+1-Z' P) 0=[0]:=by rw[show a.length+1-Z' P=1 by omega];rfl
  have H:(aO (P++[0]))[Z' a]?=some [.int .u32 ((0:Nat):Int)]:=by rw[cF _ (by simp;omega)];simp[e]
  have l:(aO (P++[0])).set a.length [.int .u32 ((c%4294967296:Nat):Int)]=aO (P++[c]):=by have:=GN P 0 (c%4294967296);simp only[List.replicate_zero,a9W,a8Q,List.replicate_one]at this;rw[←e,jM,this,a9P Om]
  have B:(Z' a:Int)<((Z' a+1:Nat):Int):=Om;have hV:val (P++[c])=val a+val b:=by rw[mH,w,e,a9E,a8T hl]
  have ζ:Lim (P++[c]):=d.app λx U=>by simp at U;omega
  simp only[go_sem,A,ql,dH,S,H,B,l,qn];have hs:=L.sized _ ζ (by simp;omega);rw[hV]at hs;refine vO (o:=q) (s:=1) (k:=Z' a+1) (rs:=aO (P++[c])) (v:=szV (val a+val b)) ?_ rfl Sq (by rw[cW];simp;omega) ?_
  ·rw[a8T (by rw[cW];simp;omega)];exact hs
  ·simp only[go_sem,szV];exact bE (.inr rfl) .nil rfl a_ ⟨.refl _,rfl⟩
def opV(big:Bool)(n:Nat):PV:=if big then .tup [aN [],.int .i64 2]else szV n
def fI(a b:Nat):Bool:=decide (nl a>512)||decide (nl b>512)
theorem gG{res:List eN}{F:PF}{H:PH}{e:Int}(h:eN.evs F H res=some [.aF,.int .i64 e]):aY res (cN (.tup [aN [],.int .i64 e])) .ret F H:=by
 refine bE (.inr rfl) .nil h a_ ⟨?_,rfl⟩;refine .tup rfl λj p q hp d=>?_
 match j with
 |0=>simp at hp d;subst hp;subst d;exact .nil 1
 |1=>simp at hp d;subst hp;subst d;exact .refl _
 |j+2=>simp at hp
theorem bG(n:Nat):(aM n).length=nl n:=rfl
theorem mE{xs:List Nat}(h:Lim xs):(xs.map λ(n:Nat)=>[PV.int .u32 (n:Int)]).take (nl (val xs))=(aM (val xs)).map λ(n:Nat)=>[PV.int .u32 (n:Int)]:=by
 rw[←baY,oN h]
theorem aUB{C:Ctx}(L:wO C)(a b:List Nat)(p:Lim a)(hb:Lim b)(x:Z' a≤35184372087808)(y:Z' b≤35184372087808) :
  ZW.wp C (aY aNV.res (cN (opV (fI (val a) (val b)) (val a+val b)))) (PF.args [aN a,aN b]) .nil:=by
 simp only[go_sem,ZW,apA,apB,aNV];refine aB (L.large a p x) rfl ?_;by_cases i:nl (val a)>512
 ·simp only[go_sem,i,Ei];rw[show opV (fI (val a) (val b)) (val a+val b)=.tup [aN [],.int .i64 2] by simp[opV,fI,i]];exact gG rfl
 simp only[go_sem,i];refine aB (L.large b hb y) rfl ?_;by_cases l:nl (val b)>512
 ·simp only[go_sem,l,Ei];rw[show opV (fI (val a) (val b)) (val a+val b)=.tup [aN [],.int .i64 2] by simp[opV,fI,l]];exact gG rfl
 have e:opV (fI (val a) (val b)) (val a+val b)=szV (val a+val b):=by simp[opV,fI,i,l]
 rw[e];simp only[go_sem,l];refine cP .nil azV a_ ?_;simp only[go_sem,apC];have F:=jL p;have H:=jL hb;have u:((nl (val a):Nat):Int)≤(Z' a:Nat):=Om;have w:((nl (val b):Nat):Int)≤(Z' b:Nat):=Om;refine cR (sW a) (L.length a p x) rfl a_ ?_;simp only[go_sem,u,or_true,a9L,mE p];refine cR (sW b) (L.length b hb y) rfl a_ ?_;simp only[go_sem,w,or_true,a9L,mE hb,apD,bG];have A:=aZ (val a);have B:=aZ (val b);by_cases E:nl (val a)<nl (val b)
 ·have d:((nl (val a):Nat):Int)<(nl (val b):Nat):=Om;simp only[go_sem,d,apE];have:=Jw L (aM (val b)) (aM (val a)) (bB _) (bB _) (by rw[bG,bG];omega) (by rw[bG];omega);rw[A,B,Nat.add_comm]at this;exact this _ rfl rfl
 ·have d:¬((nl (val a):Nat):Int)<(nl (val b):Nat):=Om;simp only[go_sem,d];have:=Jw L (aM (val a)) (aM (val b)) (bB _) (bB _) (by rw[bG,bG];omega) (by rw[bG];omega);rw[A,B]at this;exact this _ rfl rfl
theorem jU(n:Int):IntKind.u64.wrap n=n%18446744073709551616:=by simp[IntKind.wrap,IntKind.bits,IntKind.signed]
theorem mj(n:Int):IntKind.u32.wrap n=n%4294967296:=by simp[IntKind.wrap,IntKind.bits,IntKind.signed]
theorem aBF{v:Int}:shift .shr .u64 v 63=some (.int .u64 (v/9223372036854775808)):=by
 unfold shift;rw[aD aV];simp only;have:min (Int.toNat 63) IntKind.u64.bits=63:=by decide
 rw[this,show(2:Int)^63=9223372036854775808 by decide,Int.fdiv_eq_ediv_of_nonneg _ aV]
def cz(a bor b:Nat):Nat:=(a+4294967296-bor-b)%4294967296
def sd(a bor b:Nat):Nat:=if a<bor+b then 1 else 0
theorem acO{a bor b:Nat}(d:a<4294967296)(hb:b<4294967296)(e:bor≤1)(v:Int)(i:v=((a:Int)-bor-b)%18446744073709551616) :
  IntKind.u32.wrap v=((cz a bor b:Nat):Int)∧v/9223372036854775808=((sd a bor b:Nat):Int)∧a+4294967296*sd a bor b=cz a bor b+b+bor∧cz a bor b<4294967296:=by
 rw[mj];unfold cz sd;split<;>omega
def zb(a b:List Nat)(o i c:Nat):PF:=(((((((PF.nil.set 0 (aN a)).set 1 (aN b)).set 6 (.osl o 1 0 a.length)).set 7 (.int .u64 c)).set 33 (aN a)).set 34 (.int .i64 (Z' a:Nat))).set 35 (.int .i64 i))
theorem aFZ{C:Ctx}(L:wO C)(a b:List Nat)(ha:Lim a)(hb:Lim b)(ζ:val b≤val a)(hl:Z' b≤Z' a)(h1:Z' a≤1000)(F:PF)(f0:F 0=some (aN a))(f1:F 1=some (aN b)) :
  aC.wp C (.seq (.region E0) (.seq (.region E4) (.seq (.seq (.region E5) (.block 1 (.loop qx))) (.seq (.region rc) .ret)))) (aY [.tmp 4,.tmp 5] (cN (szV (val a-val b)))) F .nil:=by
 have γ:(Z' a:Int)*((4:Nat):Int)≤140737488355328:=Om;have δ:(Z' a:Int)≤9223372036854775807:=Om;have hz:a8D a.length [PV.int .u32 0]=aO ([]++a8D a.length 0):=by simp[aO]
 simp only[go_sem,E0,f0,γ,δ,hz];refine aR λo ho=>?_;simp only[go_sem,E4,E5,f0];refine wp_loop (α:=List Nat × Nat × Nat) (λs=>zb a b s.2.2 s.1.length s.2.1) (λs=>PH.nil.set s.2.2 (.rows 1 (aO (s.1++a8D (Z' a-s.1.length) 0))))
  (λs=>s.1.length≤Z' a∧Lim s.1∧s.2.1≤1∧val (a.take s.1.length)+4294967296^s.1.length*s.2.1=val s.1+val (b.take s.1.length)) (λs=>Z' a-s.1.length) ([],0,o) ⟨by simp,by simp[Lim],by simp,by simp[val]⟩ ?_ ?_ ?_
 ·unfold zb;exact Lq
 ·exact e_ a_ (by simp only[go_sem,baE])
 rintro⟨P,c,q⟩ ⟨hP,d,hc,y⟩;simp only at hP d hc y;simp only[go_sem,qx,aqN,zb];by_cases Q:Z' P<Z' a
 ·have w:(Z' P:Int)<(Z' a:Nat):=Om;have Y:=ha _ (a8G Q);obtain⟨k,O⟩:∃k,Z' a-Z' P=k+1:=⟨Z' a-Z' P-1,by omega⟩;have β:(aO (P++a8D (k+1) 0))[Z' P]?=some [.int .u32 ((0:Nat):Int)]:=by rw[cF _ bD];simp
  have i:Z' a-(Z' P+1)=k:=Om;have ε:=cZ a Q;have fin:∀(t:Nat)(v:Int)(p:PF)(H':PH),t<4294967296→v=((a[Z' P]:Int)-c-t)%18446744073709551616→val (b.take (Z' P+1))=val (b.take P.length)+4294967296^P.length*t →
    p 0=some (aN a)→p 1=some (aN b)→p 6=some (.osl q 1 0 a.length)→p 9=some (.int .u64 v)→p 8=some (.int .i64 P.length)→p 33=some (aN a)→p 34=some (.int .i64 (Z' a:Nat))→p 35=some (.int .i64 P.length) →
    H' q=some (.rows 1 (aO (P++a8D (k+1) 0)))→∀K:cD,(∀u A N H2,Z' u=Z' P+1→Lim u→A≤1→val (a.take (Z' P+1))+4294967296^u.length*A=val u+val (b.take (Z' P+1))→(zb a b q u.length A).le N→H2 q=some (.rows 1 (aO (u++a8D k 0)))→K .normal N H2) →
    aC.wp C (.seq (.region qy) (.region qz)) (fQ 2 (jW C (aC.wp C (.region q9)) K)) p H':=by
   intro t v p H' ht hv l g0 g1 g6 g9 g8 V W X gH K hK;obtain⟨E,e2,J,H⟩:=acO Y ht hc v hv;have M:(aO (P++a8D (k+1) 0)).set P.length [.int .u32 ((cz a[Z' P] c t:Nat):Int)]=aO ((P++[cz a[Z' P] c t])++a8D k 0):=by rw[jM,GN]
   simp only[go_sem,qy,g6,g8,g9,E,w,gH,β,M,qz,aBF,e2,q9,X,eQ (Om:Z' P<9223372036854775807)];refine hK (P++[cz a[Z' P] c t]) (sd a[Z' P] c t) _ _ bD (d.app λx hx=>by simp at hx;subst hx;exact H) (by unfold sd;split<;>omega) ?_ ?_ Sq
   ·rw[mH,a8F,a8J,baD,a9C,ε,l,baL,←a8O,J,a8O,a8O];omega
   ·unfold zb;rw[a8F,a8J];refine c_ (c_ (c_ (c_ (c_ (c_ (c_ d_ ?_) ?_) ?_) ?_) ?_) ?_) ?_<;>simp only[go_sem,g0,g1,g6,V,W]
  have ea:IntKind.u64.wrap ((a[Z' P]:Nat):Int)=((a[Z' P]:Nat):Int):=bP Om;simp only[go_sem,w,aaE,aaF,cF a Q,ea,aaG];by_cases R:Z' P<Z' b
  ·have B:(Z' P:Int)<(Z' b:Nat):=Om;have Z:=hb _ (a8G R);have l:=cZ b R;have eb:IntKind.u64.wrap ((b[Z' P]:Nat):Int)=((b[Z' P]:Nat):Int):=bP Om;simp only[go_sem,B,aaH,cF b R,eb];refine fin b[Z' P] (IntKind.u64.wrap (IntKind.u64.wrap ((a[Z' P]:Int)-(c:Int))-(b[Z' P]:Int))) _ _ Z (by rw[jU,jU];omega) l ?_ ?_ ?_ ?_ ?_ ?_ ?_ ?_ ?_ _ ?_
   any_goals simp only[go_sem,O]
   intro u A N H2 E e2 J H S U;rw[←E]at H;refine aJ (u,A,q) ⟨by simp only;omega,e2,J,H⟩ (by simp only;omega) S (e_ a_ ?_);simp only;rw[E,i];exact U
  ·have B:¬(Z' P:Int)<(Z' b:Nat):=Om;have l:val (b.take (Z' P+1))=val (b.take P.length)+4294967296^P.length*0:=by rw[a8T Om,a8T Om];simp
   simp only[go_sem,B];refine fin 0 (IntKind.u64.wrap ((a[Z' P]:Int)-(c:Int))) _ _ aV (by rw[jU];omega) l ?_ ?_ ?_ ?_ ?_ ?_ ?_ ?_ ?_ _ ?_
   any_goals simp only[go_sem,O]
   intro u A N H2 E e2 J H S U;rw[←E]at H;refine aJ (u,A,q) ⟨by simp only;omega,e2,J,H⟩ (by simp only;omega) S (e_ a_ ?_);simp only;rw[E,i];exact U
 ·have e:Z' P=Z' a:=Om;have w:¬(Z' P:Int)<(Z' a:Nat):=Om;have O:a8D (Z' a-Z' P) 0=[]:=by rw[show a.length-Z' P=0 by omega];rfl
  have hV:val P=val a-val b:=by
   rw[e,a9E,a8T hl]at y;have hlt:=hZ d;rw[e]at hlt;rcases baR c with h|h
   ·subst h;omega
   ·have:c=1:=Om;subst this;omega
  simp only[go_sem,w,O,a9W,rc];have hs:=L.sized _ d Om;rw[hV]at hs;refine vO (o:=q) (s:=1) (k:=Z' a) (rs:=aO P) (v:=szV (val a-val b)) ?_ rfl Sq (by rw[cW];omega) ?_
  ·rw[a8T (by rw[cW];omega)];exact hs
  ·simp only[go_sem,szV];exact bE (.inr rfl) .nil rfl a_ ⟨.refl _,rfl⟩
def xK(a b:Nat):PV:=if fI a b then .tup [aN [],.int .i64 2]else if a<b then .tup [aN [],.int .i64 4]else szV (a-b)
theorem aUI{C:Ctx}(L:wO C)(a b:List Nat)(i:Lim a)(hb:Lim b)(x:Z' a≤35184372087808)(y:Z' b≤35184372087808) :
  ao.wp C (aY aOE.res (cN (xK (val a) (val b)))) (PF.args [aN a,aN b]) .nil:=by
 simp only[go_sem,ao,aqI,aqJ,aOE];refine aB (L.large a i x) rfl ?_;by_cases d:nl (val a)>512
 ·simp only[go_sem,d,Ez];rw[show xK (val a) (val b)=.tup [aN [],.int .i64 2] by simp[xK,fI,d]];exact gG rfl
 simp only[go_sem,d];refine aB (L.large b hb y) rfl ?_;by_cases e:nl (val b)>512
 ·simp only[go_sem,e,Ez];rw[show xK (val a) (val b)=.tup [aN [],.int .i64 2] by simp[xK,fI,e]];exact gG rfl
 simp only[go_sem,e,aqK];refine aB (L.cmp a b i hb x y) rfl ?_;by_cases l:val a<val b
 ·have w:fA (val a) (val b)<0:=by simp[fA,l]
  simp only[go_sem,w,aqL];rw[show xK (val a) (val b)=.tup [aN [],.int .i64 4] by simp[xK,fI,d,e,l]];exact gG rfl
 have w:¬fA (val a) (val b)<0:=by unfold fA;rw[aD l];split<;>decide
 rw[show xK (val a) (val b)=szV (val a-val b) by simp[xK,fI,d,e,l]];simp only[go_sem,w];refine cP .nil azV a_ ?_;simp only[go_sem,aqM];have E:=jL i;have F:=jL hb;have p:((nl (val a):Nat):Int)≤(Z' a:Nat):=Om;have u:((nl (val b):Nat):Int)≤(Z' b:Nat):=Om;refine cR (sW a) (L.length a i x) rfl a_ ?_;simp only[go_sem,p,or_true,a9L,mE i];refine cR (sW b) (L.length b hb y) rfl a_ ?_;simp only[go_sem,u,or_true,a9L,mE hb];have A:=aZ (val a);have B:=aZ (val b);have H:=jS (Om:val b≤val a);have:=aFZ L (aM (val a)) (aM (val b)) (bB _) (bB _) Om (by rw[bG,bG];omega) (by rw[bG];omega);rw[A,B]at this;exact this _ rfl rfl
end Go.PM
namespace Go.Na
def fH:Nat→Nat→List Nat
 |0,_=>[]
 |k+1,n=>(n%4294967296)::fH k (n/4294967296)
theorem pN:∀k n,(fH k n).length=k
 |0,_=>rfl
 |k+1,n=>by simp[fH,pN k]
theorem QS{xs:List Nat}(h:Lim xs):fH xs.length (val xs)=xs:=by
 induction xs with
 |nil=>rfl
 |cons x xs i =>have l:=h x bD;have d:(x+4294967296*val xs)%4294967296=x:=Om;have e2:(x+4294967296*val xs)/4294967296=val xs:=Om;simp only[a9O,fH,val];rw[d,e2,i λy e=>h y (by simp[e])]
theorem qT:∀k n,Lim (fH k n)
 |0,_=>λx hx=>by cases hx
 |k+1,n=>λx hx=>by
  simp only[fH,a8M]at hx;rcases hx with rfl|hx
  ·exact a9Z _ aV
  ·exact qT k _ x hx
theorem IL:∀k n,val (fH k n)=n%4294967296^k
 |0,n=>by simp[fH,val,Nat.mod_one]
 |k+1,n=>by simp only[fH,val,IL k];rw[baD,a9H (4294967296^k) 4294967296,Nat.mod_mul]
theorem tA{k n:Nat}(h:n<4294967296^k):val (fH k n)=n:=by rw[IL,a9P h]
end Go.Na
namespace Go.PM
open Go Go.Na
theorem a0A{a b:Nat}(d:a<18446744073709551616)(hb:b<18446744073709551616):(BitVec.ofInt 64 (a:Int) ||| BitVec.ofInt 64 (b:Int)).toNat=a ||| b:=by
 rw[BitVec.ofInt_natCast,BitVec.ofInt_natCast,BitVec.toNat_or,BitVec.toNat_ofNat,BitVec.toNat_ofNat,a9P (by simpa using d),a9P (by simpa using hb)]
theorem aaV{c x s:Nat}(d:c<2^s)(h:c+2^s*x<18446744073709551616):c ||| (2^s*x)=c+2^s*x:=by
 rw[Nat.or_comm,←Nat.two_pow_add_eq_or_of_lt d,Nat.add_comm]
theorem orI{a b n:Nat}(d:a<18446744073709551616)(hb:b<18446744073709551616)(h:a ||| b=n)(e:n<18446744073709551616):oR .or .u64 (a:Int) (b:Int)=some (.int .u64 (n:Int)):=by
 show some (PV.int .u64 (IntKind.u64.wrap (((BitVec.ofInt 64 (a:Int) ||| BitVec.ofInt 64 (b:Int)).toNat:Nat):Int)))=_;rw[a0A d hb,h,bP e]
theorem UN{x s:Nat}(d:s≤64)(h:x*2^s<18446744073709551616):shift .shl .u64 (x:Int) (s:Int)=some (.int .u64 ((2^s*x:Nat):Int)):=by
 unfold shift;rw[aD Om];simp only;have:min (Int.toNat (s:Int)) IntKind.u64.bits=s:=by rw[show IntKind.u64.bits=64 from rfl];omega
 rw[this,show(x:Int)*2^s=((x*2^s:Nat):Int) by simp,bP h,a9H]
def aOG(a:List Nat)(s o i c:Nat):PF:=(((((((PF.nil.set 0 (aN a)).set 1 (.int .u64 s)).set 5 (.osl o 1 0 (Z' a+1))).set 6 (.int .u64 c)).set 13 (aN a)).set 14 (.int .i64 (Z' a:Nat))).set 15 (.int .i64 i))
def upR(a:List Nat)(s:Nat)(r:PV)(H:PH):Prop:=∃o,r=.osl o 1 0 (Z' a+1)∧H=PH.nil.set o (.rows 1 (aO (fH (Z' a+1) (val a*2^s))))
theorem aXL{C:Ctx}(a:List Nat)(s:Nat)(ha:Lim a)(hs:s<32)(h1:Z' a≤1000):re.wp C (aY nup.res (upR a s)) (PF.args [aN a,.int .u64 s]) .nil:=by
 have F:IntKind.i64.wrap ((Z' a:Int)+1)=((Z' a+1:Nat):Int):=eQ Om;have S:((Z' a+1:Nat):Int)*((4:Nat):Int)≤140737488355328:=Om;have U:((Z' a+1:Nat):Int)≤9223372036854775807:=Om;have hz:a8D (Z' a+1) [PV.int .u32 0]=aO ([]++a8D (Z' a+1) 0):=by simp[aO]
 have N:2^s≤2147483648:=bbU (show 0<2 by decide) (Om:s≤31);have B:0<2^s:=bbD aV;simp only[go_sem,re,aGA,aGB,nup,F,S,U,hz];refine aR λo ho=>?_;simp only[go_sem,aGC,aGD];refine wp_loop (α:=List Nat × Nat × Nat) (λt=>aOG a s t.2.2 t.1.length t.2.1) (λt=>PH.nil.set t.2.2 (.rows 1 (aO (t.1++a8D (Z' a+1-t.1.length) 0))))
  (λt=>t.1.length≤Z' a∧Lim t.1∧t.2.1<2^s∧val t.1+4294967296^t.1.length*t.2.1=val (a.take t.1.length)*2^s) (λt=>Z' a-t.1.length) ([],0,o) ⟨by simp,by simp[Lim],B,by simp[val]⟩ ?_ ?_ ?_
 ·unfold aOG;exact Lq
 ·exact e_ a_ (by simp only[go_sem,baE])
 rintro⟨P,c,q⟩ ⟨Z,d,X,l⟩;simp only at Z d X l;simp only[go_sem,aqO,aGE,aOG];by_cases J:Z' P<Z' a
 ·have p:(Z' P:Int)<(Z' a:Nat):=Om;have β:=ha _ (a8G J);obtain⟨k,R⟩:∃k,Z' a+1-Z' P=k+1:=⟨Z' a-Z' P,by omega⟩;have w:(aO (P++a8D (k+1) 0))[Z' P]?=some [.int .u32 ((0:Nat):Int)]:=by rw[cF _ bD];simp
  have A:Z' a+1-(Z' P+1)=k:=Om;have u:(Z' P:Int)<((Z' a+1:Nat):Int):=Om;have V:=cZ a J;generalize W:a[Z' P]=x at *
  have γ:x*2^s≤4294967295*2147483648:=bbM Om N;have ex:IntKind.u64.wrap ((x:Nat):Int)=((x:Nat):Int):=bP Om;have H:2^s*x=x*2^s:=a9H _ _;have M:shift .shl .u64 (x:Int) (s:Int)=some (.int .u64 ((2^s*x:Nat):Int)):=UN Om Om;have K:=orI (a:=c) (b:=2^s*x) (n:=c+2^s*x) Om Om (aaV X Om) Om;have E:(c+2^s*x)/4294967296<2^s:=by rw[bbJ aV];have:2^s*(x+1)≤2^s*4294967296:=baT _ Om;rw[a8O,Nat.mul_one]at this;omega
  have i:(aO (P++a8D (k+1) 0)).set P.length [.int .u32 (((c+2^s*x)%4294967296:Nat):Int)]=aO ((P++[(c+2^s*x)%4294967296])++a8D k 0):=by rw[jM,GN]
  have Q:(aO a)[Z' P]?=some [.int .u32 ((x:Nat):Int)]:=by rw[cF a J,W]
  simp only[go_sem,p,aGF,aGG,Q,ex,M,K,aGH,dH,R,u,w,i,aGI,FA,aGJ,eQ (Om:Z' P<9223372036854775807)];refine aJ (P++[(c+2^s*x)%4294967296],(c+2^s*x)/4294967296,q) ⟨by simp;omega,d.app λy Y=>by simp at Y;subst Y;exact a9Z _ aV,E,?_⟩ (by simp;omega) ?_ (e_ a_ ?_)
  ·simp only;rw[mH,a8F,a8J,baD,a9C,baL,←a8O,Nat.mod_add_div,V,a8O,a9J,←baL,l,H,a9C]
  ·simp only;rw[a8F,a8J];exact Lq
  ·simp only;rw[a8F,a8J,A];simp only[go_sem]
 ·have e:Z' P=Z' a:=Om;have p:¬(Z' P:Int)<(Z' a:Nat):=Om;have R:a8D (Z' a+1-Z' P) 0=[0]:=by rw[show a.length+1-Z' P=1 by omega];rfl
  have w:(aO (P++[0]))[Z' a]?=some [.int .u32 ((0:Nat):Int)]:=by rw[cF _ (by simp;omega)];simp[e]
  have i:(aO (P++[0])).set a.length [.int .u32 ((c%4294967296:Nat):Int)]=aO (P++[c]):=by have:=GN P 0 (c%4294967296);simp only[List.replicate_zero,a9W,a8Q,List.replicate_one]at this;rw[←e,jM,this,a9P Om]
  have u:(Z' a:Int)<((Z' a+1:Nat):Int):=Om;have hV:val (P++[c])=val a*2^s:=by rw[mH,l,e,a9E]
  have O:Lim (P++[c]):=d.app λx W=>by simp at W;omega
  have hD:fH (Z' a+1) (val a*2^s)=P++[c]:=by have:=QS O;rw[hV,a8F,a8J,e]at this;exact this
  simp only[go_sem,p,aqP,dH,R,w,u,i,aqQ];exact bE (vs:=[.osl q 1 0 (Z' a+1)]) (.inr rfl) (PH.nil.set q (.rows 1 (aO (P++[c])))) Ev (e_ a_ Sq) ⟨q,rfl,by rw[hD]⟩
def Ey(a:List Nat)(d o k r:Nat):PF:=(((((PF.nil.set 0 (aN a)).set 1 (.int .u32 d)).set 6 (.osl o 1 0 a.length)).set 7 (.int .u64 r)).set 8 (.int .i64 ((k:Int)-1)))
theorem aFX{C:Ctx}(L:wO C)(a:List Nat)(d:Nat)(ha:Lim a)(l:0<d)(hd:d<4294967296)(h1:Z' a≤1000) :
  MS.wp C (aY aaC.res (aK (.tup [aN (aM (val a/d)),.int .u32 ((val a%d:Nat):Int)]))) (PF.args [aN a,.int .u32 d]) .nil:=by
 have X:(Z' a:Int)*((4:Nat):Int)≤140737488355328:=Om;have Y:(Z' a:Int)≤9223372036854775807:=Om;have hz:a8D a.length [PV.int .u32 0]=aO (a8D a.length 0++[]):=by simp[aO]
 simp only[go_sem,MS,J4,J5,aaC,X,Y,hz];refine aR λo ho=>?_;simp only[go_sem,J6,J7];refine wp_loop (α:=Nat × List Nat × Nat × Nat) (λt=>Ey a d t.2.2.2 t.1 t.2.2.1) (λt=>PH.nil.set t.2.2.2 (.rows 1 (aO (a8D t.1 0++t.2.1))))
  (λt=>t.1+t.2.1.length=Z' a∧Lim t.2.1∧t.2.2.1<d∧val t.2.1*d+t.2.2.1=val (a.drop t.1)) (λt=>t.1) (Z' a,[],0,o) ⟨by simp,by simp[Lim],l,by simp[val]⟩ ?_ ?_ ?_
 ·unfold Ey
  (repeat' (first|exact d_|refine c_ ?_ ?_))<;>first|(simp only[go_sem,wrap_i64 (Om:-9223372036854775808≤(Z' a:Int)-1) (Om:(Z' a:Int)-1≤9223372036854775807)]<;>rfl)|rfl
 ·exact e_ a_ Sq
 rintro⟨k,S,r,q⟩ ⟨hk,e,M,i⟩;simp only at hk e M i;simp only[go_sem,J3,J8,Ey];by_cases h0:0<k
 ·obtain⟨m,rfl⟩:∃m,k=m+1:=⟨k-1,by omega⟩;have w:((m+1:Nat):Int)-1=(m:Int):=Om;have V:(m:Int)≥0:=Om;have u:m<Z' a:=Om;have hlt:(m:Int)<(Z' a:Nat):=Om;have β:=ha _ (a8G u);have p:val (a.drop m)=a[m]+4294967296*val (a.drop (m+1)):=by rw[baJ u];rfl
  generalize hx:a[m]=x at *
  have O:(aO a)[m]?=some [.int .u32 ((x:Nat):Int)]:=by rw[cF a u,hx]
  have ex:IntKind.u64.wrap ((x:Nat):Int)=((x:Nat):Int):=bP Om;have ed:IntKind.u64.wrap ((d:Nat):Int)=((d:Nat):Int):=bP Om;have F:shift .shl .u64 (r:Int) 32=some (.int .u64 ((2^32*r:Nat):Int)):=UN (s:=32) Om Om;have N:(2:Nat)^32=4294967296:=by decide
  have A:=orI (a:=2^32*r) (b:=x) (n:=2^32*r+x) Om Om (Nat.two_pow_add_eq_or_of_lt Om r).symm Om;rw[N]at F A;have K:(4294967296*r+x)/d<4294967296:=by rw[bbJ l];have:4294967296*(r+1)≤4294967296*d:=baT _ M;omega
  have Q:¬((d:Nat):Int)=0:=Om;have B:IntKind.u64.wrap (baO ((4294967296*r+x:Nat):Int) ((d:Nat):Int))=(((4294967296*r+x)/d:Nat):Int):=by rw[show baO ((4294967296*r+x:Nat):Int) ((d:Nat):Int)=(((4294967296*r+x)/d:Nat):Int)from rfl];exact bP Om
  have E:Int.tmod ((4294967296*r+x:Nat):Int) ((d:Nat):Int)=(((4294967296*r+x)%d:Nat):Int):=rfl;have ec:IntKind.u32.wrap (((4294967296*r+x)/d:Nat):Int)=(((4294967296*r+x)/d:Nat):Int):=by rw[dH,a9P K]
  have H:a8D (m+1) 0++S=a8D m 0++(0::S):=by rw[List.replicate_succ',a9G];rfl
  have W:(aO (a8D m 0++(0::S)))[m]?=some [.int .u32 ((0:Nat):Int)]:=by rw[cF _ bD];simp
  have J:(aO (a8D m 0++(0::S))).set m [.int .u32 (((4294967296*r+x)/d:Nat):Int)]=aO (a8D m 0++(((4294967296*r+x)/d)::S)):=by rw[jM,bbB _ _ bD];simp
  simp only[go_sem,w,V,J9,F,O,ex,A,Ka,ed,Q,B,ec,hlt,H,W,J,Kb,E,Kc];refine aJ (m,((4294967296*r+x)/d)::S,(4294967296*r+x)%d,q) ⟨by simp only[a9O];omega,λy hy=>?_,a9Z _ l,?_⟩ (by simp only;omega) ?_ (e_ a_ Sq)
  ·rw[a8M]at hy;rcases hy with rfl|hy
   ·exact K
   ·exact e y hy
  ·simp only[val];rw[p,←i,a9J,a8O,a9C];have:=bbX (4294967296*r+x) d;rw[a9H d]at this;omega
  ·(repeat' (first|exact d_|refine c_ ?_ ?_))<;>first|(simp only[go_sem,wrap_i64 (Om:-9223372036854775808≤(m:Int)-1) (Om:(m:Int)-1≤9223372036854775807)]<;>rfl)|rfl
 ·have:k=0:=Om;subst this;have w:¬((0:Nat):Int)-1≥0:=by decide
  rw[a9L]at i;have hS:Z' S=Z' a:=Om;have K:val S=val a/d:=by rw[←i,a9H,Nat.mul_add_div l,bbY M,a9Y]
  have Z:r=val a%d:=by rw[←i,a9H,Nat.mul_add_mod,a9P M]
  have γ:a8D 0 0++S=S:=by simp
  simp only[go_sem,w,za,bbS];have hl:=L.length S e Om;have δ:=jL e;have hc:((nl (val S):Nat):Int)≤(Z' S:Nat):=Om;refine vO (o:=q) (s:=1) (k:=Z' a) (rs:=aO S) (v:=.int .i64 (nl (val S):Nat)) ?_ Sq Sq (by rw[cW];omega) ?_
  ·rw[a8T (by rw[cW];omega)];exact hl
  ·have U:PV.frz q 1 (aO S) (.osl q 1 0 a.length)=aN S:=by
    have:0+Z' a≤(aO S).length:=by rw[cW];omega
    simp only[PV.frz,PV.sC,PV.dZ,if_true,true_and,aG this,a9L];rw[a8T (by rw[cW];omega)]
   have R:∀n:Int,∀k,PV.frz q 1 (aO S) (.int k n)=.int k n:=λ_ _=>rfl;have er:IntKind.u32.wrap ((r:Nat):Int)=((r:Nat):Int):=by rw[dH,a9P Om]
   simp only[go_sem,U,R,hc,or_true,a9L,mE e,er];refine bE (vs:=[aN (aM (val S)),.int .u32 ((r:Nat):Int)]) (.inr rfl) .nil Ev a_ ⟨?_,rfl⟩;simp only[bR,←K,←Z]
end Go.PM
namespace Go.Na
theorem PP{L:List Nat}{i:Nat}(h:i<Z' L)(v:Nat):val (L.set i v)+4294967296^i*L[i]=val L+4294967296^i*v:=by
 have d:i<(L.set i v).length:=by rw[a9R];exact h
 rw[yB L h,yB (L.set i v) d,List.getElem_set_self,List.take_set_of_le (a8E _),List.drop_set_of_lt Om,a8O,a8O];omega
theorem Cj{L:List Nat}{i:Nat}(h:∀(j x:Nat),i≤j→L[j]?=some x→x=0)(k v:Nat)(l:k<i):∀(j x:Nat),i≤j→(L.set k v)[j]?=some x→x=0:=λj x e d=>by
 rw[List.getElem?_set_ne Om]at d;exact h j x e d
end Go.Na
namespace Go.PM
open Go Go.Na
def oX(a b:List Nat)(o i:Nat):PF:=((((((PF.nil.set 0 (aN a)).set 1 (aN b)).set 6 (.osl o 1 0 (Z' a+Z' b))).set 32 (aN a)).set 33 (.int .i64 (Z' a:Nat))).set 34 (.int .i64 i))
def aAG(a b:List Nat)(o i x c j:Nat):PF:=((((((((((((PF.nil.set 0 (aN a)).set 1 (aN b)).set 6 (.osl o 1 0 (Z' a+Z' b))).set 32 (aN a)).set 33 (.int .i64 (Z' a:Nat))).set 34 (.int .i64 i)).set 7 (.int .i64 i)).set 8 (.int .u32 x)).set 9 (.int .u64 c)).set 39 (aN b)).set 40 (.int .i64 (Z' b:Nat))).set 41 (.int .i64 j))
structure OK(a b L:List Nat)(i:Nat):Prop where
 len:Z' L=Z' a+Z' b
 lim:Lim L
 v:val L=val (a.take i)*val b
 z:∀j x,i+Z' b≤j→L[j]?=some x→x=0
theorem aoZ{x y:Nat}(d:x<4294967296)(e:y<4294967296):IntKind.u64.wrap ((x:Int)*(y:Int))=((x*y:Nat):Int):=by
 have:x*y≤4294967295*4294967295:=bbM Om Om;rw[show(x:Int)*(y:Int)=((x*y:Nat):Int) by simp];exact bP Om
theorem kF{a b:Nat}(h:a+b≤9223372036854775807):IntKind.i64.wrap ((a:Int)+(b:Int))=((a+b:Nat):Int):=by
 rw[wrap_i64 Om Om];omega
theorem aOD{C:Ctx}(a b:List Nat)(ha:Lim a)(hb:Lim b)(h1:Z' a≤1000)(h2:Z' b≤1000)(L:List Nat)(i:Nat)(hi:i<Z' a)(N:OK a b L i)(q:Nat)(K:cD)(F:PF)(H:PH)(J:(oX a b q i).le F)(hH:H q=some (.rows 1 (aO L)))
  (hK:∀L' F' H',OK a b L' (i+1)→(oX a b q i).le F'→H' q=some (.rows 1 (aO L'))→K .normal F' H') :
  aC.wp C (.block 1 (.seq (.region Eu) (.seq (.region Ew) (.seq (.seq (.region Ex) (.block 2 (.loop qq))) (.region qt))))) K F H:=by
 have f0:=J 0 _ (by unfold oX;simp only[go_sem];rfl);have f1:=J 1 _ (by unfold oX;simp only[go_sem];rfl);have f6:=J 6 _ (by unfold oX;simp only[go_sem];rfl);have S:=J 32 _ (by unfold oX;simp only[go_sem];rfl);have η:=J 33 _ (by unfold oX;simp only[go_sem];rfl);have U:=J 34 _ (by unfold oX;simp only[go_sem];rfl);have hx:=ha _ (a8G hi);have β:=cZ a hi;generalize δ:a[i]=x at *
 have X:(aO a)[i]?=some [.int .u32 ((x:Nat):Int)]:=by rw[cF a hi,δ]
 simp only[go_sem,Eu,Ew,Ex,S,U,f1,X];refine wp_loop (α:=List Nat × Nat × Nat) (λt=>aAG a b q i x t.2.1 t.2.2) (λt=>PH.nil.set q (.rows 1 (aO t.1)))
  (λt=>t.2.2≤Z' b∧t.1.length=Z' a+Z' b∧Lim t.1∧t.2.1<4294967296∧val t.1+4294967296^(i+t.2.2)*t.2.1=val (a.take i)*val b+4294967296^i*(x*val (b.take t.2.2))∧∀j y,i+Z' b≤j→t.1[j]?=some y→y=0) (λt=>Z' b-t.2.2) (L,0,0)
  ⟨by simp,N.len,N.lim,by simp,by simp[val,N.v],N.z⟩ ?_ (e_ a_ hH) ?_
 ·unfold aAG;exact Lq
 rintro⟨M,c,j⟩ ⟨hj,W,e,Z,u,Q⟩;simp only at hj W e Z u Q;simp only[go_sem,qq,Z4,aAG];by_cases R:j<Z' b
 ·have w:(j:Int)<(Z' b:Nat):=Om;have O:=hb _ (a8G R);have γ:=cZ b R;generalize ε:b[j]=y at *
  have Y:(aO b)[j]?=some [.int .u32 ((y:Nat):Int)]:=by rw[cF b R,ε]
  have d:i+j<Z' M:=Om;have E:=e _ (a8G d);have p:=PP d;generalize ζ:M[i+j]=z at *
  have B:(aO M)[i+j]?=some [.int .u32 ((z:Nat):Int)]:=by rw[cF M d,ζ]
  have ex:IntKind.u64.wrap ((x:Nat):Int)=((x:Nat):Int):=bP Om;have ey:IntKind.u64.wrap ((y:Nat):Int)=((y:Nat):Int):=bP Om;have ez:IntKind.u64.wrap ((z:Nat):Int)=((z:Nat):Int):=bP Om;have em:=aoZ hx O;have ι:x*y≤4294967295*4294967295:=bbM Om Om;have e1:IntKind.u64.wrap (((x*y:Nat):Int)+(z:Int))=((x*y+z:Nat):Int):=iD Om;have e2:IntKind.u64.wrap ((c:Int)+((x*y+z:Nat):Int))=((c+(x*y+z):Nat):Int):=iD Om;have A:IntKind.i64.wrap ((i:Int)+(j:Int))=((i+j:Nat):Int):=kF Om;have hlt:((i+j:Nat):Int)<((Z' a+Z' b:Nat):Int):=Om;generalize ht:c+(x*y+z)=t at *
  have θ:t<4294967296*4294967296:=Om;have l:(aO M).set (i+j) [.int .u32 ((t%4294967296:Nat):Int)]=aO (M.set (i+j) (t%4294967296)):=jM M (i+j) _;simp only[go_sem,w,Z5,Y,Z6,ex,ey,em,A,hlt,B,ez,e1,e2,Z7,dH,l,Z8,FA,Z9,wZz j];refine aJ (M.set (i+j) (t%4294967296),t/4294967296,j+1) ⟨by simp only;omega,by simp only[a9R];exact W,e.set _ (a9Z _ aV),by simp only;omega,?_,Cj Q _ _ Om⟩ (by simp only;omega) ?_ (e_ a_ Sq)
  ·simp only;have V:=p (t%4294967296);have h4:4294967296^(i+(j+1))*(t/4294967296)+4294967296^(i+j)*(t%4294967296)=4294967296^(i+j)*t:=by rw[←baL,baD,a9C,←a8O,bbX]
   have h5:4294967296^(i+j)*t=4294967296^(i+j)*c+(4294967296^(i+j)*(x*y)+4294967296^(i+j)*z):=by rw[←ht,a8O,a8O]
   have h6:4294967296^i*(x*val (b.take (j+1)))=4294967296^i*(x*val (b.take j))+4294967296^(i+j)*(x*y):=by rw[γ,a8O,a8O,Nat.pow_add];congr 1;rw[Nat.mul_left_comm x,a9C]
   omega
  ·exact Lq
 ·have he:j=Z' b:=Om;have w:¬(j:Int)<(Z' b:Nat):=Om;subst he;have d:i+Z' b<Z' M:=Om;have E:M[i+Z' b]=0:=Q _ _ (a8E _) (a8N d);have p:=PP d;have B:(aO M)[i+Z' b]?=some [.int .u32 ((0:Nat):Int)]:=by rw[cF M d,E]
  have A:IntKind.i64.wrap ((i:Int)+(Z' b:Int))=((i+Z' b:Nat):Int):=kF Om;have hlt:((i+Z' b:Nat):Int)<((Z' a+Z' b:Nat):Int):=Om;have l:(aO M).set (i+Z' b) [.int .u32 ((c%4294967296:Nat):Int)]=aO (M.set (i+Z' b) c):=by rw[a9P Z];exact jM M _ _
  simp only[go_sem,w,qt,A,dH,hlt,B,l];refine hK (M.set (i+Z' b) c) _ _ ⟨by rw[a9R];exact W,e.set _ Z,?_,λj y hj O=>?_⟩ (by unfold oX;exact Lq) Sq
  ·have V:=p c;rw[E,Nat.mul_zero,a9Y]at V;rw[V,u,a9E,β,a9J,a9C]
  ·rw[List.getElem?_set_ne Om]at O;exact Q j y Om O
theorem aFW{C:Ctx}(L:wO C)(a b:List Nat)(S:Lim a)(hb:Lim b)(Q:Z' a≤1000)(R:Z' b≤1000)(F:PF)(f0:F 0=some (aN a))(f1:F 1=some (aN b)) :
  aC.wp C (.seq (.region Es) (.seq (.seq (.region Et) (.block 0 (.loop qr))) (.seq (.region qu) .ret))) (aY [.tmp 4,.tmp 5] (cN (szV (val a*val b)))) F .nil:=by
 have p:IntKind.i64.wrap ((Z' a:Int)+(Z' b:Int))=((Z' a+Z' b:Nat):Int):=kF Om;have B:((Z' a+Z' b:Nat):Int)*((4:Nat):Int)≤140737488355328:=Om;have E:((Z' a+Z' b:Nat):Int)≤9223372036854775807:=Om;have V:a8D (Z' a+Z' b) [PV.int .u32 0]=aO (a8D (Z' a+Z' b) 0):=by simp[aO]
 simp only[go_sem,Es,f0,f1,p,B,E,V];refine aR λo Y=>?_;simp only[go_sem,Et,f0];refine wp_loop (α:=List Nat × Nat) (λt=>oX a b o t.2) (λt=>PH.nil.set o (.rows 1 (aO t.1))) (λt=>t.2≤Z' a∧OK a b t.1 t.2) (λt=>Z' a-t.2) (a8D (Z' a+Z' b) 0,0)
  ⟨by simp,by simp,CP _,by simp[val,yG],λj x _ J=>by rw[List.getElem?_replicate]at J;split at J<;>simp_all⟩ ?_ (e_ a_ Sq) ?_
 ·unfold oX;exact Lq
 rintro⟨M,i⟩ ⟨hi,e⟩;simp only at hi e;simp only[go_sem,qr,aqH,oX];by_cases K:i<Z' a
 ·have l:(i:Int)<(Z' a:Nat):=Om;have u:=aOD (C:=C) a b S hb Q R M i K e o;simp only[go_sem]at u;simp only[go_sem,l];refine u _ _ _ (by unfold oX;exact Lq) Sq ?_;intro L' W H' A d y;have w:=d 34 _ (by unfold oX;simp only[go_sem];rfl);have g0:=d 0 _ (by unfold oX;simp only[go_sem];rfl);have g1:=d 1 _ (by unfold oX;simp only[go_sem];rfl);have X:=d 6 _ (by unfold oX;simp only[go_sem];rfl);have N:=d 32 _ (by unfold oX;simp only[go_sem];rfl);have O:=d 33 _ (by unfold oX;simp only[go_sem];rfl);simp only[go_sem,aaA,w,wZz i];refine aJ (L',i+1) ⟨by simp only;omega,A⟩ (by simp only;omega) ?_ (e_ a_ y);exact Lq
 ·have U:i=Z' a:=Om;subst U;have l:¬(Z' a:Int)<(Z' a:Nat):=Om;have hV:val M=val a*val b:=by rw[e.v,a9E]
  simp only[go_sem,qu];have H:=L.sized _ e.lim (by rw[e.len];omega);rw[hV]at H;refine vO (o:=o) (s:=1) (k:=Z' a+Z' b) (rs:=aO M) (v:=szV (val a*val b)) ?_ rfl Sq (by rw[cW,e.len];exact a8E _) ?_
  ·rw[a8T (by rw[cW,e.len];exact a8E _)];exact H
  ·simp only[go_sem,szV];exact bE (.inr rfl) .nil rfl a_ ⟨.refl _,rfl⟩
theorem aUH{C:Ctx}(L:wO C)(a b:List Nat)(l:Lim a)(hb:Lim b)(w:Z' a≤35184372087808)(x:Z' b≤35184372087808) :
  ai.wp C (aY aOC.res (cN (opV (fI (val a) (val b)) (val a*val b)))) (PF.args [aN a,aN b]) .nil:=by
 simp only[go_sem,ai,aqE,aqF,aOC];refine aB (L.large a l w) rfl ?_;by_cases d:nl (val a)>512
 ·simp only[go_sem,d,Er];rw[show opV (fI (val a) (val b)) (val a*val b)=.tup [aN [],.int .i64 2] by simp[opV,fI,d]];exact gG rfl
 simp only[go_sem,d];refine aB (L.large b hb x) rfl ?_;by_cases i:nl (val b)>512
 ·simp only[go_sem,i,Er];rw[show opV (fI (val a) (val b)) (val a*val b)=.tup [aN [],.int .i64 2] by simp[opV,fI,i]];exact gG rfl
 have e:opV (fI (val a) (val b)) (val a*val b)=szV (val a*val b):=by simp[opV,fI,d,i]
 rw[e];simp only[go_sem,i];refine cP .nil azV a_ ?_;simp only[go_sem,aqG];have B:=jL l;have E:=jL hb;have p:((nl (val a):Nat):Int)≤(Z' a:Nat):=Om;have u:((nl (val b):Nat):Int)≤(Z' b:Nat):=Om;refine cR (sW a) (L.length a l w) rfl a_ ?_;simp only[go_sem,p,or_true,a9L,mE l];refine cR (sW b) (L.length b hb x) rfl a_ ?_;simp only[go_sem,u,or_true,a9L,mE hb];have y:=aZ (val a);have A:=aZ (val b);have:=aFW L (aM (val a)) (aM (val b)) (bB _) (bB _) (by rw[bG];omega) (by rw[bG];omega);rw[y,A]at this;have:=λF f0 f1=>this F f0 f1;simp only[go_sem]at this;exact this _ rfl rfl
open Go Go.Na
theorem Ap{A P W Z:List Nat}{i:Nat}(e:Z' P=i)(hi:i<Z' W):(aO (A++(P++W.drop i)++Z))[Z' A+i]?=some [.int .u32 ((W[i]:Nat):Int)]:=by
 have d:Z' A+i<(A++(P++W.drop i)++Z).length:=by simp;omega
 rw[cF _ d];congr 4;rw[List.getElem_append_left (by simp;omega),bcF Om,bcF Om,List.getElem_drop];congr 1;omega
theorem PN{A P W Z:List Nat}{i:Nat}(d:Z' P=i)(hi:i<Z' W)(v:Nat):(aO (A++(P++W.drop i)++Z)).set (Z' A+i) [.int .u32 (v:Int)]=aO (A++((P++[v])++W.drop (i+1))++Z):=by
 rw[jM];congr 1;rw[List.set_append_left _ _ (by simp;omega),bbB _ _ Om,bbB _ _ Om,baJ hi];rw[show A.length+i-Z' A-Z' P=0 by omega,bbW];simp
theorem aKA{t:Nat}(h:t<18446744073709551616):oR .and .u64 (t:Int) 4294967295=some (.int .u64 ((t%4294967296:Nat):Int)):=by
 show some (PV.int .u64 (IntKind.u64.wrap (((BitVec.ofInt 64 (t:Int) &&& BitVec.ofInt 64 (4294967295:Int)).toNat:Nat):Int)))=_;have e:BitVec.ofInt 64 (4294967295:Int)=BitVec.ofNat 64 4294967295:=by rfl
 rw[e,BitVec.ofInt_natCast,BitVec.toNat_and,BitVec.toNat_ofNat,BitVec.toNat_ofNat,a9P (by simpa using h)];have e2:(4294967295:Nat)%2^64=2^32-1:=by decide
 rw[e2,Nat.and_two_pow_sub_one_eq_mod];rw[bP (Nat.lt_of_lt_of_le (a9Z _ aV) aV)]
theorem aKG{c f x:Nat}(e:c<4294967296)(d:f≤4294967296)(i:x<4294967296):c+f*x<18446744073709551616∧(c+f*x)/4294967296<4294967296∧f*x≤4294967296*4294967295:=by
 have:f*x≤4294967296*4294967295:=bbM d Om;refine⟨by omega,?_,this⟩;omega
def aaI(v:List Nat)(j o i c b:Nat)(f:Nat):PF:=((((((((PF.nil.set 0 (.osl o 1 j (Z' v+1))).set 1 (aN v)).set 2 (.int .u64 f)).set 7 (.int .u64 c)).set 8 (.int .u64 b)).set 13 (aN v)).set 14 (.int .i64 (Z' v:Nat))).set 15 (.int .i64 i))
def UQ(n w m:Nat):Nat:=if w<m then w+4294967296^n-m else w-m
theorem aaJ{C:Ctx}(A W Z v:List Nat)(f:Nat)(hW:Lim W)(hv:Lim v)(hl:Z' W=Z' v+1)(h1:Z' A+Z' v≤100000)(hf:f≤4294967296)(ν:val v*f≤val W+4294967296^(Z' v+1))(o:Nat) :
  AY.wp C (aY au.res (λr H'=>r=.bool (decide (val W<val v*f))∧H'=PH.nil.set o (.rows 1 (aO (A++fH (Z' v+1) (UQ (Z' v+1) (val W) (val v*f))++Z)))))
   (PF.args [.osl o 1 A.length (Z' v+1),aN v,.int .u64 f]) (PH.nil.set o (.rows 1 (aO (A++W++Z)))):=by
 simp only[go_sem,AY,av,aw,ay,au];refine wp_loop (α:=List Nat × Nat × Nat) (λt=>aaI v A.length o t.1.length t.2.1 t.2.2 f) (λt=>PH.nil.set o (.rows 1 (aO (A++(t.1++W.drop t.1.length)++Z))))
  (λt=>t.1.length≤Z' v∧Lim t.1∧t.2.1<4294967296∧t.2.2≤1∧val (W.take t.1.length)+4294967296^t.1.length*t.2.2+4294967296^t.1.length*t.2.1=val t.1+val (v.take t.1.length)*f) (λt=>Z' v-t.1.length) ([],0,0)
  ⟨by simp,by simp[Lim],by simp,by simp,by simp[val]⟩ ?_ (e_ a_ (by simp only[go_sem,baE,a9L,bbS])) ?_
 ·unfold aaI;exact Lq
 rintro⟨P,c,b⟩ ⟨hP,i,hc,hb,u⟩;simp only at hP i hc hb u;simp only[go_sem,XF,ba,aaI];by_cases X:Z' P<Z' v
 ·have F:(Z' P:Int)<(Z' v:Nat):=Om;have B:Z' P<Z' W:=Om;have H:(Z' P:Int)<((Z' v+1:Nat):Int):=Om;have hx:=hv _ (a8G X);have hw:=hW _ (a8G B);have η:=cZ v X;have E:=cZ W B;have K:=Ap (A:=A) (Z:=Z) (P:=P) rfl B;have p:=PN (A:=A) (Z:=Z) (P:=P) rfl B;generalize μ:v[Z' P]=x at *
  generalize κ:W[Z' P]=y at *
  have ι:(aO v)[Z' P]?=some [.int .u32 ((x:Nat):Int)]:=by rw[cF v X,μ]
  obtain⟨k1,k2,k3⟩:=aKG hc hf hx;have ex:IntKind.u64.wrap ((x:Nat):Int)=((x:Nat):Int):=bP Om;have Y:IntKind.u64.wrap ((y:Nat):Int)=((y:Nat):Int):=bP Om;have em:IntKind.u64.wrap ((f:Int)*(x:Int))=((f*x:Nat):Int):=by rw[show(f:Int)*(x:Int)=((f*x:Nat):Int) by simp];exact bP Om
  have l:c+f*x<18446744073709551616:=k1;have ea:IntKind.u64.wrap ((c:Int)+((f*x:Nat):Int))=((c+f*x:Nat):Int):=iD l;have Q:=aKA l;have θ:val (v.take (Z' P+1))*f=val (v.take P.length)*f+4294967296^P.length*(f*x):=by rw[η,a9J,a9C,a9H x f]
  generalize f*x=w at *
  have S:(c+w)%4294967296<4294967296:=a9Z _ aV;obtain⟨s1,s2,s3,s4⟩:=acO (a:=y) (bor:=b) (b:=(c+w)%4294967296) hw S hb (IntKind.u64.wrap (IntKind.u64.wrap ((y:Int)-(((c+w)%4294967296:Nat):Int))-(b:Int))) (by rw[jU,jU];omega);generalize hd:cz y b ((c+w)%4294967296)=d at *
  generalize δ:sd y b ((c+w)%4294967296)=V at *
  have γ:V≤1:=by rw[←δ];unfold sd;split<;>omega
  have hs:=p d;simp only[go_sem,F,bb,ι,bc,ex,em,ea,be,H,K,Y,Q,bf,s1,hs,bg,aBF,s2,bi,FA,XG,eQ (Om:Z' P<9223372036854775807)];refine aJ (P++[d],(c+w)/4294967296,V) ⟨by simp;omega,i.app λz hz=>by simp at hz;omega,k2,γ,?_⟩ (by simp;omega) ?_ (e_ a_ ?_)
  ·simp only;rw[a8F,a8J,mH,E,θ,baD,a9C,a9C];have h4:4294967296^P.length*y+4294967296^P.length*(4294967296*V)=4294967296^P.length*d+4294967296^P.length*((c+w)%4294967296)+4294967296^P.length*b:=by rw[←a8O,s3,a8O,a8O]
   have h5:4294967296^P.length*(4294967296*((c+w)/4294967296))+4294967296^P.length*((c+w)%4294967296)=4294967296^P.length*c+4294967296^P.length*w:=by rw[←a8O,bbX,a8O]
   omega
  ·simp only;rw[a8F,a8J];exact Lq
  ·simp only;rw[a8F,a8J];simp only[go_sem]
 ·have e:Z' P=Z' v:=Om;have F:¬(Z' P:Int)<(Z' v:Nat):=Om;have B:Z' v<Z' W:=Om;have H:(Z' v:Int)<((Z' v+1:Nat):Int):=Om;have hw:=hW _ (a8G B);have E:=cZ W B;have K:=Ap (A:=A) (Z:=Z) (P:=P) e B;have p:=PN (A:=A) (Z:=Z) (P:=P) e B;have J:val (W.take (Z' v+1))=val W:=by rw[a8T Om]
  generalize κ:W[Z' v]=y at *
  have Y:IntKind.u64.wrap ((y:Nat):Int)=((y:Nat):Int):=bP Om;have β:=hZ i;rw[e]at u β;rw[a9E]at u;rw[J]at E;have U:4294967296^(Z' v+1)=4294967296^v.length*4294967296:=baD _ _;have ο:val W+4294967296^v.length*(b+c)=val P+val v*f+4294967296^v.length*y:=by rw[E,a8O];omega
  have ξ:b+c≤y+4294967296:=by
   rcases a9A (y+4294967296) (b+c)with h|h
   ·exfalso;have:4294967296^v.length*(y+4294967296+1)≤4294967296^v.length*(b+c):=baT _ h;rw[a8O,a8O,Nat.mul_one]at this;omega
   ·exact h
  have N:∃d k:Nat,d<4294967296∧k≤1∧y+4294967296*k=d+(b+c)∧IntKind.u32.wrap (IntKind.u64.wrap (IntKind.u64.wrap ((y:Int)-(c:Int))-(b:Int)))=(d:Int)∧((IntKind.u64.wrap (IntKind.u64.wrap ((y:Int)-(c:Int))-(b:Int))/9223372036854775808==1)=decide (k=1)):=by
   rw[mj,jU,jU];by_cases h:y<b+c
   ·refine⟨y+4294967296-(b+c),1,by omega,by omega,by omega,by omega,?_⟩;simp only[decide_true];exact cC Om
   ·refine⟨y-(b+c),0,by omega,by omega,by omega,by omega,?_⟩;exact bO Om
  obtain⟨d,k,hd,hk,hy,w1,w2⟩:=N;have hs:=p d;have hN:val (P++[d])+val v*f=val W+4294967296^(Z' v+1)*k:=by
   have:4294967296^v.length*y+4294967296^v.length*(4294967296*k)=4294967296^v.length*d+4294967296^v.length*(b+c):=by rw[←a8O,hy,a8O]
   rw[mH,e,U,a9C];omega
  have R:Lim (P++[d]):=i.app λz hz=>by simp at hz;omega
  have ε:=hZ R;rw[a8F,a8J,e]at ε;have M:decide (k=1)=decide (val W<val v*f):=by
   congr 1;apply propext;constructor
   ·intro h;subst h;omega
   ·intro h;rcases baR k with h0|h0
    ·subst h0;omega
    ·omega
  have O:UQ (Z' v+1) (val W) (val v*f)=val (P++[d]):=by
   unfold UQ;split
   ·rename_i h;have:k=1:=by simpa[h]using M
    subst this;omega
   ·rename_i h;have:k=0:=by
     have:¬k=1:=by simpa[h]using M
     omega
    subst this;omega
  have hD:fH (Z' v+1) (UQ (Z' v+1) (val W) (val v*f))=P++[d]:=by have:=QS R;rw[a8F,a8J,e]at this;rw[O,this]
  have ζ:W.drop (Z' v+1)=[]:=bcB Om;simp only[go_sem,F,XH,e,H,K,Y,XI,w1,hs,XJ,aBF,w2,M];refine bE (vs:=[.bool (decide (val W<val v*f))]) (.inr rfl) (PH.nil.set o (.rows 1 (aO (A++(P++[d]++W.drop (Z' v+1))++Z)))) rfl (e_ a_ Sq) ⟨rfl,?_⟩;rw[hD,ζ,a9W]
end Go.PM
namespace Go.Na
theorem aoC{xs ys:List Nat}(i:Lim xs)(l:Lim ys)(d:Z' xs=Z' ys)(e:val xs=val ys):xs=ys:=by
 rw[←QS i,←QS l,d,e]
theorem aSH{k n:Nat}{xs:List Nat}(i:Lim xs)(d:Z' xs=k)(e:val xs=n%4294967296^k):fH k n=xs:=
 aoC (qT k n) i (by rw[pN,d]) (by rw[IL,e])
end Go.Na
namespace Go.PM
open Go Go.Na
def aaB(v:List Nat)(j o i c:Nat):PF:=((((((PF.nil.set 0 (.osl o 1 j (Z' v+1))).set 1 (aN v)).set 4 (.int .u64 c)).set 7 (aN v)).set 8 (.int .i64 (Z' v:Nat))).set 9 (.int .i64 i))
theorem ajN{C:Ctx}(A W Z v:List Nat)(hW:Lim W)(hv:Lim v)(hl:Z' W=Z' v+1)(h1:Z' A+Z' v≤100000)(o:Nat) :
  DM.wp C (aY qw.res (λr H'=>r=.tup []∧H'=PH.nil.set o (.rows 1 (aO (A++fH (Z' v+1) (val W+val v)++Z)))))
   (PF.args [.osl o 1 A.length (Z' v+1),aN v]) (PH.nil.set o (.rows 1 (aO (A++W++Z)))):=by
 simp only[go_sem,DM,kb,kc,qw];refine wp_loop (α:=List Nat × Nat) (λt=>aaB v A.length o t.1.length t.2) (λt=>PH.nil.set o (.rows 1 (aO (A++(t.1++W.drop t.1.length)++Z))))
  (λt=>t.1.length≤Z' v∧Lim t.1∧t.2≤1∧val (W.take t.1.length)+val (v.take t.1.length)=val t.1+4294967296^t.1.length*t.2) (λt=>Z' v-t.1.length) ([],0)
  ⟨by simp,by simp[Lim],by simp,by simp[val]⟩ ?_ (e_ a_ (by simp only[go_sem,baE,a9L,bbS])) ?_
 ·unfold aaB;exact Lq
 rintro⟨P,c⟩ ⟨hP,d,hc,l⟩;simp only at hP d hc l;simp only[go_sem,ka,kd,aaB];by_cases M:Z' P<Z' v
 ·have u:(Z' P:Int)<(Z' v:Nat):=Om;have p:Z' P<Z' W:=Om;have w:(Z' P:Int)<((Z' v+1:Nat):Int):=Om;have hx:=hv _ (a8G M);have hw:=hW _ (a8G p);have S:=cZ v M;have F:=cZ W p;have E:=Ap (A:=A) (Z:=Z) (P:=P) rfl p;have i:=PN (A:=A) (Z:=Z) (P:=P) rfl p;generalize X:v[Z' P]=x at *
  generalize V:W[Z' P]=y at *
  have U:(aO v)[Z' P]?=some [.int .u32 ((x:Nat):Int)]:=by rw[cF v M,X]
  have ex:IntKind.u64.wrap ((x:Nat):Int)=((x:Nat):Int):=bP Om;have N:IntKind.u64.wrap ((y:Nat):Int)=((y:Nat):Int):=bP Om;have Y:IntKind.u64.wrap ((y:Int)+(x:Int))=((y+x:Nat):Int):=iD Om;have e2:IntKind.u64.wrap ((c:Int)+((y+x:Nat):Int))=((c+(y+x):Nat):Int):=iD Om;have R:=i ((c+(y+x))%4294967296);simp only[go_sem,u,kf,U,kg,w,E,ex,N,Y,e2,kh,dH,R,ki,FA,kj,eQ (Om:Z' P<9223372036854775807)];refine aJ (P++[(c+(y+x))%4294967296],(c+(y+x))/4294967296) ⟨by simp;omega,d.app λz K=>by simp at K;subst K;exact a9Z _ aV,by simp only;omega,?_⟩ (by simp;omega) ?_ (e_ a_ ?_)
  ·simp only;rw[a8F,a8J,mH,F,S,baD,a9C];have h5:4294967296^P.length*(4294967296*((c+(y+x))/4294967296))+4294967296^P.length*((c+(y+x))%4294967296)=4294967296^P.length*c+(4294967296^P.length*y+4294967296^P.length*x):=by rw[←a8O,bbX,a8O,a8O]
   omega
  ·simp only;rw[a8F,a8J];exact Lq
  ·simp only;rw[a8F,a8J];simp only[go_sem]
 ·have e:Z' P=Z' v:=Om;have u:¬(Z' P:Int)<(Z' v:Nat):=Om;have p:Z' v<Z' W:=Om;have w:(Z' v:Int)<((Z' v+1:Nat):Int):=Om;have hw:=hW _ (a8G p);have F:=cZ W p;have E:=Ap (A:=A) (Z:=Z) (P:=P) e p;have i:=PN (A:=A) (Z:=Z) (P:=P) e p;have B:val (W.take (Z' v+1))=val W:=by rw[a8T Om]
  generalize V:W[Z' v]=y at *
  have O:=hZ d;rw[e]at l O;rw[a9E]at l;rw[B]at F;have ec:IntKind.u32.wrap ((c:Nat):Int)=((c:Nat):Int):=by rw[dH,a9P Om]
  have N:IntKind.u32.wrap ((y:Int)+(c:Int))=(((y+c)%4294967296:Nat):Int):=by rw[show(y:Int)+(c:Int)=((y+c:Nat):Int) by omega,dH]
  have R:=i ((y+c)%4294967296);have H:Lim (P++[(y+c)%4294967296]):=d.app λz K=>by simp at K;subst K;exact a9Z _ aV
  have J:=hZ H;rw[a8F,a8J,e]at J;have hD:fH (Z' v+1) (val W+val v)=P++[(y+c)%4294967296]:=by
   refine aSH H (by rw[a8F,a8J,e]) ?_;have:val W+val v=val (P++[(y+c)%4294967296])+4294967296^(Z' v+1)*((y+c)/4294967296):=by rw[mH,e,baD,a9C,baL,←a8O,Nat.mod_add_div,a8O];omega
   rw[this,Nat.add_mul_mod_self_left,a9P J]
  have Q:W.drop (Z' v+1)=[]:=bcB Om;simp only[go_sem,u,kk,e,w,E,ec,N,R];refine bE (vs:=[]) (.inl rfl) (PH.nil.set o (.rows 1 (aO (A++(P++[(y+c)%4294967296]++W.drop (Z' v+1))++Z)))) rfl (e_ a_ Sq) ⟨rfl,?_⟩;rw[hD,Q,a9W]
def aAD(o n:Nat)(len:Nat):PF:=((PF.nil.set 0 (.osl o 1 0 len)).set 3 (.int .i64 n))
theorem ajM{C:Ctx}(xs:List Nat)(w:Lim xs)(A:Z' xs≤35184372087808)(o:Nat):tW.wp C (aY PE.res (λr H'=>r=.int .i64 (nl (val xs):Nat)∧H'=PH.nil.set o (.rows 1 (aO xs)))) (PF.args [.osl o 1 0 xs.length]) (PH.nil.set o (.rows 1 (aO xs))):=by
 simp only[go_sem,tW,TG,TH,PE];refine wp_loop (α:=Nat) (λn=>aAD o n xs.length) (λ_=>PH.nil.set o (.rows 1 (aO xs))) (λn=>n≤Z' xs∧∀j x,n≤j→xs[j]?=some x→x=0) (λn=>n) xs.length ⟨a8E _,λj x h e=>by rw[a9N h]at e;cases e⟩ ?_ b_ ?_
 ·unfold aAD;exact Lq
 rintro n ⟨u,p⟩;have out:(∀x,0<n→xs[n-1]?=some x→x≠0)→nl (val xs)=n:=λh=>arJ w u p h;simp only[go_sem,TF,TI,aAD];by_cases l:(n:Int)>0
 ·have hp:0<n:=Om;have hi:=cF xs (Om:n-1<Z' xs);have hlt:((n-1:Nat):Int)<(Z' xs:Nat):=Om;simp only[go_sem,l,DF (Om:n≤9223372036854775807) hp,hi,hlt];by_cases i:xs[n-1]=0
  ·simp only[go_sem,cC (Om:((xs[n-1]:Nat):Int)=0),TJ,DF (Om:n≤9223372036854775807) hp];refine aJ (n-1) ⟨by omega,λj x y d=>?_⟩ Om ?_ b_
   ·rcases a9A j n with h|h
    ·have:j=n-1:=Om;subst this;rw[a8N Om]at d;cases d;exact i
    ·exact p j x h d
   ·exact Lq
  ·simp only[go_sem,bO (Om:((xs[n-1]:Nat):Int)≠0),zH];refine bE (.inr rfl) _ rfl b_ ⟨?_,rfl⟩;rw[out λx _ d=>by rw[a8N Om]at d;cases d;exact i];rfl
 ·simp only[go_sem,l,zH];refine bE (.inr rfl) _ rfl b_ ⟨?_,rfl⟩;rw[out λx h=>by omega];rfl
end Go.PM
namespace Go.Na
structure Kn(V W top next Vr head u2 Wr p:Nat):Prop where
 hV:V=top*(4294967296*p)+next*p+Vr
 hW:W=head*(4294967296*p)+u2*p+Wr
 hVr:Vr<p
 hWr:Wr<p
 htop:2147483648≤top
 a7K:next<4294967296
 hu2:u2<4294967296
 hlt:W<V*4294967296
section
variable {V W top next Vr head u2 Wr p:Nat}
theorem Kn.low(K:Kn V W top next Vr head u2 Wr p):next*p+Vr<4294967296*p∧u2*p+Wr<4294967296*p:=by
 have d:(next+1)*p≤4294967296*p:=a9K _ K.a7K;have e:(u2+1)*p≤4294967296*p:=a9K _ K.hu2;rw[a9J,Nat.one_mul]at d e;have:=K.hVr;have:=K.hWr;omega
theorem Kn.Rr(K:Kn V W top next Vr head u2 Wr p):0<V∧4294967296*p≤V∧0<p:=by
 have:=K.hVr;have h:1*(4294967296*p)≤top*(4294967296*p):=a9K _ (by have:=K.htop;omega);have:=K.hV;omega
theorem Kn.aXR(K:Kn V W top next Vr head u2 Wr p):W/V<4294967296:=by
 rw[bbJ K.Rr.1,a9H];exact K.hlt
theorem Kn.g0(K:Kn V W top next Vr head u2 Wr p):W/V≤head/top:=by
 have d:0<top:=by have:=K.htop;omega
 rw[Nat.le_div_iff_mul_le d];have e:W/V*V≤W:=Nat.div_mul_le_self W V;have i:W/V*(top*(4294967296*p))≤W/V*V:=baT _ (by have:=K.hV;omega);have l:=K.low.2;have u:=K.hW;have h5:(W/V*top)*(4294967296*p)<(head+1)*(4294967296*p):=by rw[a9C,a9J,Nat.one_mul];omega
 have:=Nat.lt_of_mul_lt_mul_right h5;omega
theorem Kn.g1(K:Kn V W top next Vr head u2 Wr p){g r:Nat}(l:g*top+r=head)(B:W/V≤g)(h:g≥4294967296∨g*next>r*4294967296+u2):1≤g∧W/V≤g-1:=by
 have w:=K.aXR;have d:=Nat.div_mul_le_self W V;generalize W/V=Q at *
 rcases h with h|h
 ·omega
 ·have u:Q≠g:=by
   intro e;have x:g*V≤W:=by rw[←e];exact d
   have y:g*V=g*top*(4294967296*p)+g*next*p+g*Vr:=by rw[K.hV,a8O,a8O,a9C,a9C]
   have i:(r*4294967296+u2+1)*p≤g*next*p:=a9K _ h
   rw[a9J,a9J,Nat.one_mul,a9C r]at i;have A:g*top*(4294967296*p)+r*(4294967296*p)=head*(4294967296*p):=by rw[←a9J,l]
   have:=K.hW;have:=K.hWr;omega
  omega
theorem Kn.g2(K:Kn V W top next Vr head u2 Wr p){g r:Nat}(u:g*top+r=head)(w:g≤4294967296)(h:g*next≤r*4294967296+u2):g≤W/V+1:=by
 rcases baR g with e|e
 ·rw[e];exact a8H _
 have i:g*V=g*top*(4294967296*p)+g*next*p+g*Vr:=by rw[K.hV,a8O,a8O,a9C,a9C]
 have d:g*next*p≤(r*4294967296+u2)*p:=a9K _ h
 rw[a9J,a9C r]at d;have l:g*top*(4294967296*p)+r*(4294967296*p)=head*(4294967296*p):=by rw[←a9J,u]
 have h5:g*Vr≤4294967296*Vr:=a9K _ w;have x:4294967296*(Vr+1)≤4294967296*p:=baT _ K.hVr;have hV:=K.Rr;have hW:=K.hW;have h7:(g-1)*V≤W:=by
  have:g*V=(g-1)*V+V:=by obtain⟨k,rfl⟩:∃k,g=k+1:=⟨g-1,by omega⟩;rw[a9J,Nat.one_mul];rfl
  omega
 have:=(Nat.le_div_iff_mul_le hV.1).2 h7;generalize W/V=Q at *
 clear i d l h5 h7;omega
theorem Kn.g3(K:Kn V W top next Vr head u2 Wr p){g r:Nat}(u:g*top+r=head)(w:g≤4294967296)(x:4294967296≤r):g≤W/V+1:=by
 have d:=K.low.1;have hV:=K.Rr;have e:g*V=g*top*(4294967296*p)+g*(next*p+Vr):=by rw[K.hV,baL,a8O,a9C]
 have i:g*(next*p+Vr)≤4294967296*(4294967296*p):=bbM w Om;have l:g*top*(4294967296*p)+r*(4294967296*p)=head*(4294967296*p):=by rw[←a9J,u]
 have h5:4294967296*(4294967296*p)≤r*(4294967296*p):=a9K _ x;have hW:=K.hW;have h7:g*V≤W:=Om;have:=(Nat.le_div_iff_mul_le hV.1).2 h7;generalize W/V=Q at *
 clear e i l h5 h7;omega
theorem Kn.g4(K:Kn V W top next Vr head u2 Wr p):head/top≤4294967296+1:=by
 have d:=K.low.1;have hV:=K.Rr;have hW:=K.hW;have hlt:=K.hlt;have w:=K.htop;have l:head<(top+1)*4294967296:=by
  have e:V<(top+1)*(4294967296*p):=by rw[K.hV,a9J,Nat.one_mul];omega
  have u:V*4294967296≤(top+1)*(4294967296*p)*4294967296:=a9K _ (Nat.le_of_lt e);have i:head*(4294967296*p)<(top+1)*4294967296*(4294967296*p):=by
   have:(top+1)*(4294967296*p)*4294967296=(top+1)*4294967296*(4294967296*p):=by rw[a9C,a9H (4294967296*p) 4294967296,←a9C]
   omega
  exact Nat.lt_of_mul_lt_mul_right i
 have h5:head/top<4294967296+2:=by rw[bbJ Om];omega
 omega
end
theorem CJ:∀(k n:Nat),fH (k+1) n=fH k n++[n/4294967296^k%4294967296]
 |0,n=>by simp[fH]
 |k+1,n=>by show(n%4294967296)::fH (k+1) (n/4294967296)=(n%4294967296)::fH k (n/4294967296)++[n/4294967296^(k+1)%4294967296];rw[CJ k (n/4294967296),Nat.div_div_eq_div_mul,baD,a9H 4294967296];rfl
theorem BI{xs:List Nat}(h:Lim xs):∀{k:Nat},k≤Z' xs→val (xs.drop k)=val xs/4294967296^k:=by
 intro k d;have e:val xs=val (xs.take k)+4294967296^k*val (xs.drop k):=by
  conv=>lhs;rw[←bbC k xs,kA,a8S,baS d]
 have i:=hZ (h.take k);rw[a8S,baS d]at i;rw[e,Nat.add_mul_div_left _ _ (bbD aV),bbY i,a8Q]
theorem kz{R s i d l X:Nat}(u:s<32)(h:R/4294967296^i=d+4294967296*(l+4294967296*X)):(R/2^s)/4294967296^i%4294967296=(4294967296*l+d)/2^s%4294967296:=by
 rw[Nat.div_div_eq_div_mul,a9H (2^s),←Nat.div_div_eq_div_mul,h];have hp:4294967296*4294967296=2^s*(2^(32-s)*4294967296):=by rw[←a9C,←Nat.pow_add,show s+(32-s)=32 by omega]
 have e:d+4294967296*(l+4294967296*X)=(4294967296*l+d)+2^s*(2^(32-s)*X*4294967296):=by
  have:4294967296*(4294967296*X)=2^s*(2^(32-s)*X*4294967296):=by rw[←a9C,hp,a9C,a9C,a9C,a9H 4294967296 X]
  rw[a8O,this];omega
 rw[e,Nat.add_mul_div_left _ _ (bbD aV),Nat.add_mul_mod_self_right]
end Go.Na
namespace Go.PM
open Go Go.Na
theorem aVA{A W Z:List Nat}{i:Nat}(hi:i<Z' W):(aO (A++W++Z))[Z' A+i]?=some [.int .u32 ((W[i]:Nat):Int)]:=by
 have d:Z' A+i<(A++W++Z).length:=by simp;omega
 rw[cF _ d];congr 4;rw[List.getElem_append_left (by simp;omega),bcF Om];congr 1;omega
def dF(u v:PV)(n:Nat)(q:PV)(top next j s:Nat):PF:=((((((((PF.nil.set 8 (.int .u64 s)).set 9 (u)).set 10 (v)).set 11 (.int .i64 n)).set 12 (q)).set 13 (.int .u64 top)).set 14 (.int .u64 next)).set 15 (.int .i64 j))
def dG(u v:PV)(n:Nat)(q:PV)(top next j s g r:Nat):PF:=((((((((((PF.nil.set 8 (.int .u64 s)).set 9 (u)).set 10 (v)).set 11 (.int .i64 n)).set 12 (q)).set 13 (.int .u64 top)).set 14 (.int .u64 next)).set 15 (.int .i64 j)).set 17 (.int .u64 g)).set 18 (.int .u64 r))
theorem P5{C:Ctx}{V y top next Z head e Wr p:Nat}(i:Kn V y top next Z head e Wr p)(htop:top<4294967296)(o l m j s:Nat)(v q:PV)(ζ:j+m+2<l)(η:l≤100000)(U:List Nat)(hU:(aO U)[j+m]?=some [.int .u32 (e:Nat)])(K:cD)(F:PF)(H:PH)
  (hF:(dG (.osl o 1 0 l) v (m+2) q top next j s (head/top) (head%top)).le F) (hH:H o=some (.rows 1 (aO U)))
  (Y:∀g r x,y/V≤g→g≤y/V+1→g≤4294967296→(dG (.osl o 1 0 l) v (m+2) q top next j s g r).le x→K .normal x H) :
  aC.wp C (.block 4 (.loop BR)) K F H:=by
 have X:0<top:=by have:=i.htop;omega
 have hn:=i.a7K;have hu2:=i.hu2;simp only[go_sem];refine wp_loop (α:=Nat × Nat) (λt=>dG (.osl o 1 0 l) v (m+2) q top next j s t.1 t.2) (λ_=>H) (λt=>t.1*top+t.2=head∧y/V≤t.1∧t.1≤4294967296+1∧t.2<4294967296) (λt=>t.1) (head/top,head%top)
  ⟨by simp only;rw[a9H];exact bbX head top,i.g0,i.g4,Nat.lt_trans (a9Z _ X) htop⟩ hF b_ ?_
 rintro⟨g,r⟩ ⟨J,W,S,hr⟩;simp only at J W S hr;have e1:IntKind.i64.wrap ((j:Int)+((m+2:Nat):Int))=((j+(m+2):Nat):Int):=kF Om;have e2:IntKind.i64.wrap (((j+(m+2):Nat):Int)-2)=((j+m:Nat):Int):=by rw[wrap_i64 Om Om];omega
 have hlt:((j+m:Nat):Int)<(l:Nat):=Om;have O:IntKind.u64.wrap ((e:Nat):Int)=((e:Nat):Int):=bP Om;have B:shift .shl .u64 (r:Int) 32=some (.int .u64 ((2^32*r:Nat):Int)):=UN (s:=32) Om Om;have N:(2:Nat)^32=4294967296:=by decide
 have A:=orI (a:=2^32*r) (b:=e) (n:=2^32*r+e) Om Om (Nat.two_pow_add_eq_or_of_lt Om r).symm Om;rw[N]at B A;have more:(g≥4294967296∨g*next>r*4294967296+e)→∀x:PF,(dG (.osl o 1 0 l) v (m+2) q top next j s g r).le x→aC.wp C (.block 5 (.seq (.region MJ) (.seq (.region MK) (.seq (.region ML) (.cond (.tmp 136) (.exit 4) .skip)))))
   (gV (λt:Nat × Nat=>dG (.osl o 1 0 l) v (m+2) q top next j s t.1 t.2) (λ_=>H) (λt=>t.1*top+t.2=head∧y/V≤t.1∧t.1≤4294967296+1∧t.2<4294967296) (λt=>t.1) g (fQ 4 K)) x H:=by
  intro hc x d;obtain⟨g1,g2⟩:=i.g1 J W hc;have f8:=d 8 _ (by unfold dG;simp only[go_sem];rfl);have f9:=d 9 _ (by unfold dG;simp only[go_sem];rfl);have β:=d 10 _ (by unfold dG;simp only[go_sem];rfl);have f11:=d 11 _ (by unfold dG;simp only[go_sem];rfl);have γ:=d 12 _ (by unfold dG;simp only[go_sem];rfl);have f13:=d 13 _ (by unfold dG;simp only[go_sem];rfl);have f14:=d 14 _ (by unfold dG;simp only[go_sem];rfl);have δ:=d 15 _ (by unfold dG;simp only[go_sem];rfl);have Q:=d 17 _ (by unfold dG;simp only[go_sem];rfl);have R:=d 18 _ (by unfold dG;simp only[go_sem];rfl);have w1:IntKind.u64.wrap ((g:Int)-1)=((g-1:Nat):Int):=by rw[wrap_u64 Om Om];omega
  have w2:IntKind.u64.wrap ((r:Int)+(top:Int))=((r+top:Nat):Int):=iD Om;have E:(g-1)*top+(r+top)=head:=by obtain⟨k,rfl⟩:∃k,g=k+1:=⟨g-1,by omega⟩;rw[a9J,Nat.one_mul]at J;simp only[Nat.add_sub_cancel];omega
  simp only[go_sem,MJ,MK,ML,Q,R,f13,w1,w2];by_cases c:r+top≥4294967296
  ·have M:((r+top:Nat):Int)≥4294967296:=Om;simp only[go_sem,M];refine Y (g-1) (r+top) _ g2 (i.g3 E Om c) Om ?_;unfold dG;exact Lq
  ·have M:¬((r+top:Nat):Int)≥4294967296:=Om;simp only[go_sem,M];refine aJ (g-1,r+top) ⟨E,g2,by simp only;omega,by simp only;omega⟩ (by simp only;omega) ?_ b_;unfold dG;exact Lq
 simp only[go_sem,BR,j2,dG];by_cases c1:g≥4294967296
 ·have u:(g:Int)≥4294967296:=Om;simp only[go_sem,u];have:=more (.inl c1);simp only[go_sem,dG]at this;refine this _ ?_;exact Lq
 ·have u:¬(g:Int)≥4294967296:=Om;have ε:g*next≤4294967295*4294967295:=bbM Om Om
  have em:IntKind.u64.wrap ((g:Int)*(next:Int))=((g*next:Nat):Int):=by rw[show(g:Int)*(next:Int)=((g*next:Nat):Int) by simp];exact bP Om
  simp only[go_sem,u,em,B,e1,e2,hlt,hH,hU,O,A];by_cases c2:g*next>r*4294967296+e
  ·have w:((g*next:Nat):Int)>((4294967296*r+e:Nat):Int):=Om;simp only[go_sem,w];have:=more (.inr c2);simp only[go_sem,dG]at this;refine this _ ?_;exact Lq
  ·have w:¬((g*next:Nat):Int)>((4294967296*r+e:Nat):Int):=Om;simp only[go_sem,w];refine Y g r _ W (i.g2 J Om Om) Om ?_;unfold dG;exact Lq
end Go.PM
namespace Go.Na
theorem a0S{W v:List Nat}{m:Nat}(hW:Lim W)(d:Lim v)(u:Z' v=m+2)(p:Z' W=m+3)(w:2147483648≤v[m+1])(hlt:val W<val v*4294967296) :
  Kn (val v) (val W) (v[m+1]) (v[m]) (val (v.take m)) (W[m+2]*4294967296+W[m+1]) (W[m]) (val (W.take m)) (4294967296^m):=by
 have l:val v=val (v.take m)+4294967296^m*(v[m]+4294967296*v[m+1]):=by
  rw[yB v (Om:m<Z' v)];congr 4;have:v.drop (m+1)=[v[m+1]]:=by rw[baJ Om,bcB Om]
  rw[this];simp[val]
 have e2:val W=val (W.take m)+4294967296^m*(W[m]+4294967296*(W[m+1]+4294967296*W[m+2])):=by
  rw[yB W (Om:m<Z' W)];congr 4;have:W.drop (m+1)=[W[m+1],W[m+2]]:=by rw[baJ Om,baJ Om,bcB Om]
  rw[this];simp[val]
 have e:=hZ (d.take m);have i:=hZ (hW.take m);rw[a8S,baS Om]at e i;refine⟨?_,?_,e,i,w,d _ (a8G _),hW _ (a8G _),hlt⟩
 ·rw[l,a8O,a9H (4294967296^m) (v[m]),←a9C (4294967296^m),a9H (4294967296^m*4294967296),a9H (4294967296^m) 4294967296];omega
 ·rw[e2,a8O,a9H (4294967296^m) (W[m]),←a9C (4294967296^m),a9H (4294967296^m*4294967296),a9H (4294967296^m) 4294967296,a9H (W[m+2]),Nat.add_comm (4294967296*W[m+2])];omega
end Go.Na
namespace Go.PM
open Go Go.Na
structure Qi(C:Ctx):Prop where
 subtract:∀(A W Z v:List Nat)(f o:Nat),Lim W→Lim v→Z' W=Z' v+1→Z' A+Z' v≤100000→f≤4294967296→val v*f≤val W+4294967296^(Z' v+1) →
  aH C 142 [.osl o 1 A.length (Z' v+1),aN v,.int .u64 f] (PH.nil.set o (.rows 1 (aO (A++W++Z)))) (λr H'=>r=.bool (decide (val W<val v*f))∧H'=PH.nil.set o (.rows 1 (aO (A++fH (Z' v+1) (UQ (Z' v+1) (val W) (val v*f))++Z))))
 restore:∀(A W Z v:List Nat)(o:Nat),Lim W→Lim v→Z' W=Z' v+1→Z' A+Z' v≤100000 →
  aH C 139 [.osl o 1 A.length (Z' v+1),aN v] (PH.nil.set o (.rows 1 (aO (A++W++Z)))) (λr H'=>r=.tup []∧H'=PH.nil.set o (.rows 1 (aO (A++fH (Z' v+1) (val W+val v)++Z))))
theorem S7(k n:Nat):fH k (n%4294967296^k)=fH k n:=
 aoC (qT _ _) (qT _ _) (by rw[pN,pN]) (by rw[IL,IL,Nat.mod_mod])
theorem P4{C:Ctx}(D:Qi C)(A W Z v Q:List Nat)(m o O N s:Nat)(Y:O≠o)(hW:Lim W)(hv:Lim v)(ν:Z' v=m+2)(μ:Z' W=m+3)(ht:2147483648≤v[m+1])(hlt:val W<val v*4294967296)
  (n':N=Z' A+(m+3)+Z' Z) (i':N≤10000) (Ψ:Z' A<Z' Q) (K:cD) (F:PF) (H:PH) (R:(dF (.osl o 1 0 N) (aN v) (m+2) (.osl O 1 0 Q.length) (v[m+1]) (v[m]) A.length s).le F)
  (hH:H o=some (.rows 1 (aO (A++W++Z)))) (θ:H O=some (.rows 1 (aO Q)))
  (hK:∀F' H',(dF (.osl o 1 0 N) (aN v) (m+2) (.osl O 1 0 Q.length) (v[m+1]) (v[m]) A.length s).le F'→H' o=some (.rows 1 (aO (A++fH (m+3) (val W%val v)++Z)))→H' O=some (.rows 1 (aO (Q.set A.length (val W/val v))))→K .normal F' H') :
  aC.wp C (.block 3 (.seq (.draw MH) (.seq (.draw MI) (.seq (.block 4 (.loop BR)) (.seq (.seq (.region MM) (.cond (.tmp 146) (.seq (.region MN) (.region MO)) .skip)) (.region BS)))))) K F H:=by
 have Kk:=a0S hW hv ν μ ht hlt;have p:∀i (h:i<Z' W),(aO (A++W++Z))[Z' A+i]?=some [.int .u32 ((W[i]:Nat):Int)]:=λi h=>aVA h;have g0:=p (m+2) Om;have g1:=p (m+1) Om;have g2:=p m Om;have hq:=Kk.aXR;have htop:v[m+1]<4294967296:=hv _ (a8G _);have r':=hW _ (a8G (Om:m+2<Z' W));have s':=hW _ (a8G (Om:m+1<Z' W));have X:=Kk.Rr.1;generalize q':v[m+1]=top at *
 generalize o':v[m]=next at *
 generalize t':W[m+2]=y at *
 generalize u':W[m+1]=u1 at *
 generalize v':W[m]=u2 at *
 have f8:=R 8 _ (by unfold dF;simp only[go_sem];rfl);have f9:=R 9 _ (by unfold dF;simp only[go_sem];rfl);have Γ:=R 10 _ (by unfold dF;simp only[go_sem];rfl);have f11:=R 11 _ (by unfold dF;simp only[go_sem];rfl);have Δ:=R 12 _ (by unfold dF;simp only[go_sem];rfl);have f13:=R 13 _ (by unfold dF;simp only[go_sem];rfl);have f14:=R 14 _ (by unfold dF;simp only[go_sem];rfl);have δ:=R 15 _ (by unfold dF;simp only[go_sem];rfl);have e1:IntKind.i64.wrap ((Z' A:Int)+((m+2:Nat):Int))=((Z' A+(m+2):Nat):Int):=kF Om;have e2:IntKind.i64.wrap (((Z' A+(m+2):Nat):Int)-1)=((Z' A+(m+1):Nat):Int):=by rw[wrap_i64 Om Om];omega
 have c0:((Z' A+(m+2):Nat):Int)<(N:Nat):=Om;have c1:((Z' A+(m+1):Nat):Int)<(N:Nat):=Om;have ψ:IntKind.u64.wrap ((y:Nat):Int)=((y:Nat):Int):=bP Om;have ω:IntKind.u64.wrap ((u1:Nat):Int)=((u1:Nat):Int):=bP Om;have γ:shift .shl .u64 (y:Int) 32=some (.int .u64 ((2^32*y:Nat):Int)):=UN (s:=32) Om Om;have χ:(2:Nat)^32=4294967296:=by decide
 have U:=orI (a:=2^32*y) (b:=u1) (n:=2^32*y+u1) Om Om (Nat.two_pow_add_eq_or_of_lt Om y).symm Om;rw[χ]at γ U;have Λ:4294967296*y+u1=y*4294967296+u1:=Om;rw[Λ]at U;simp only[go_sem];refine cP H fT b_ ?_;simp only[go_sem,MH,f9,δ,f11,e1,e2,c0,c1,hH,g0,g1,ψ,ω,γ,U];refine cP H fT b_ ?_;have p':0<top:=Om;have c':¬((top:Nat):Int)=0:=Om;generalize m':y*4294967296+u1=head at *
 have α:IntKind.u64.wrap (baO ((head:Nat):Int) ((top:Nat):Int))=((head/top:Nat):Int):=by rw[show baO ((head:Nat):Int) ((top:Nat):Int)=((head/top:Nat):Int)from rfl];exact bP (by have:=Kk.g4;omega)
 have β:Int.tmod ((head:Nat):Int) ((top:Nat):Int)=((head%top:Nat):Int):=rfl;simp only[go_sem,MI,f13,c',α,β];have l:=P5 (C:=C) Kk htop o N m A.length s (aN v) (.osl O 1 0 Q.length) Om Om (A++W++Z) g2;simp only[go_sem]at l;refine l _ _ H ?_ hH ?_
 ·unfold dG;refine c_ (c_ (c_ (c_ (c_ (c_ (c_ (c_ (c_ (c_ d_ ?_) ?_) ?_) ?_) ?_) ?_) ?_) ?_) ?_) ?_<;>simp only[go_sem,f8,f9,Γ,f11,Δ,f13,f14,δ]
 clear l;intro g r F' q1 q2 q3 d;have h8:=d 8 _ (by unfold dG;simp only[go_sem];rfl);have h9:=d 9 _ (by unfold dG;simp only[go_sem];rfl);have B:=d 10 _ (by unfold dG;simp only[go_sem];rfl);have E:=d 11 _ (by unfold dG;simp only[go_sem];rfl);have ε:=d 12 _ (by unfold dG;simp only[go_sem];rfl);have ζ:=d 13 _ (by unfold dG;simp only[go_sem];rfl);have η:=d 14 _ (by unfold dG;simp only[go_sem];rfl);have J:=d 15 _ (by unfold dG;simp only[go_sem];rfl);have V:=d 17 _ (by unfold dG;simp only[go_sem];rfl);have e3:IntKind.i64.wrap (((Z' A+(m+2):Nat):Int)+1)=((Z' A+(m+3):Nat):Int):=by rw[wrap_i64 Om Om];omega
 have c3:(Z' A:Int)≤((Z' A+(m+3):Nat):Int):=Om;have c4:((Z' A+(m+3):Nat):Int)≤(N:Nat):=Om;have e4:Z' A+(m+3)-Z' A=Z' v+1:=Om;have w:Z' v+1=m+3:=Om;have l':val v*(val W/val v)+val W%val v=val W:=bbX _ _;have ι:=hZ hW;rw[μ]at ι;have φ:val W%val v<val v:=a9Z _ X;have σ:=hZ hv;rw[ν]at σ;have ο:4294967296^(m+3)=4294967296^(m+2)*4294967296:=baD _ _;generalize j':val W/val v=x at *
 generalize k':val W%val v=rd at *
 have S:∀(u:PF)(H2:PH),u 8=some (.int .u64 s)→u 9=some (.osl o 1 0 N)→u 10=some (aN v)→u 11=some (.int .i64 ((m+2:Nat):Int))→u 12=some (.osl O 1 0 Q.length)→u 13=some (.int .u64 top)→u 14=some (.int .u64 next)→u 15=some (.int .i64 A.length)→u 17=some (.int .u64 x) →
   H2 o=some (.rows 1 (aO (A++fH (m+3) rd++Z)))→H2 O=some (.rows 1 (aO Q))→aC.wp C (.region BS) (fQ 3 K) u H2:=by
  intro u H2 k8 k9 d' e' τ f' g' υ h' kH kQ;have b':(aO Q)[Z' A]?=some [.int .u32 ((Q[Z' A]:Nat):Int)]:=cF Q Ψ;have a':(Z' A:Int)<(Z' Q:Nat):=Om;have eq:IntKind.u32.wrap ((x:Nat):Int)=((x:Nat):Int):=by rw[dH,a9P hq]
  have ρ:=jM Q A.length x;have ξ:¬o=O:=λh=>Y h.symm;simp only[go_sem,BS,τ,υ,h',eq,a',kQ,b',ρ];refine hK _ _ ?_ (by simp only[go_sem,ξ,kH]) Sq;unfold dF;refine c_ (c_ (c_ (c_ (c_ (c_ (c_ (c_ d_ ?_) ?_) ?_) ?_) ?_) ?_) ?_) ?_<;>simp only[go_sem,k8,k9,d',e',τ,f',g',υ]
 have Ω:(PH.nil.set o (.rows 1 (aO (A++W++Z)))).le H:=e_ a_ hH;have κ:val v*g≤val W+4294967296^(Z' v+1):=by have:val v*g≤val v*(x+1):=baT _ q2;rw[a8O,Nat.mul_one]at this;rw[w,ο];omega
 simp only[go_sem,MM,h9,J,E,e1,e3,c3,c4,e4,B,V];refine pB (D.subtract A W Z v g o hW hv Om Om q3 κ) rfl Ω ?_;rintro rr H' ⟨rfl,rfl⟩ -;rw[PH.zL];by_cases Φ:g=x
 ·subst Φ;have e:¬val W<val v*g:=Om;have hN:UQ (Z' v+1) (val W) (val v*g)=rd:=by unfold UQ;rw[aD e];omega
  rw[hN,w];simp only[go_sem,e];have:=S;simp only[go_sem]at this;refine this _ _ ?_ ?_ ?_ ?_ ?_ ?_ ?_ ?_ ?_ ?_ ?_<;>simp only[go_sem,h8,h9,B,E,ε,ζ,η,J,V,Y,θ]
 ·have Ξ:g=x+1:=Om;subst Ξ;rw[a8O,Nat.mul_one];have e:val W<val v*x+val v:=Om;have hN:UQ (Z' v+1) (val W) (val v*x+val v)=rd+4294967296^(m+3)-val v:=by unfold UQ;rw[aG e,w];omega
  rw[hN];have w1:IntKind.u64.wrap (((x+1:Nat):Int)-1)=((x:Nat):Int):=by rw[wrap_u64 Om Om];omega
  simp only[go_sem,e,MN,V,w1,MO,h9,J,E,e1,e3,c3,c4,e4,B];have Θ:val (fH (Z' v+1) (rd+4294967296^(m+3)-val v))=rd+4294967296^(m+3)-val v:=tA (by rw[w];omega);refine pB (D.restore A (fH (Z' v+1) (rd+4294967296^(m+3)-val v)) Z v o (qT _ _) hv (pN _ _) Om) rfl (e_ a_ Sq) ?_;rintro rr H' ⟨rfl,rfl⟩ -;rw[PH.zL,PH.set_set,Θ];have M:fH (Z' v+1) (rd+4294967296^(m+3)-val v+val v)=fH (m+3) rd:=by rw[w,←S7 (m+3) (rd+4294967296^(m+3)-val v+val v)];rw[show rd+4294967296^(m+3)-val v+val v=rd+4294967296^(m+3) by omega,Nat.add_mod_right,S7]
  rw[M];simp only[go_sem];have:=S;simp only[go_sem]at this;refine this _ _ ?_ ?_ ?_ ?_ ?_ ?_ ?_ ?_ ?_ ?_ ?_<;>simp only[go_sem,h8,h9,B,E,ε,ζ,η,J,Y,θ]
open Go
section
variable {C:Ctx} {K:cD} {F:PF} {H Hs:PH} {S:Spec}
theorem alD{name:Nat}{vs:List PV}{R:PV→PH→Prop}{args:List aQ}{st:Bool}{d:Option Nat}{K:PF→PH→Prop}(u:S name vs=some ([],λ_=>R))(h:aH C name vs .nil R)(e:aQ.evs F args=some vs)
  (i:∀G:PH,∃r H',R r H'∧pU G .nil H') (w:∀r H',R r H'→pU H .nil H'→Hs.le (H.over .nil H')∧K (F.put d r) (H.over .nil H')):dOp C Hs S st (.call name args) d K F H:=by
 refine⟨vs,[],λ_=>R,e,u,λo y=>by simp at y,by rw[TQ];exact h,λG=>?_,λr H' A e=>?_⟩
 ·obtain⟨r,H',l,p⟩:=i G;exact⟨r,H',l,λo x B E=>p o x B (by simp[PH.nil])⟩
 ·rw[TQ]at e ⊢;exact w r H' A e
theorem PH.over_self(d:PH)(h:d.le H):H.over d d=H:=PH.ext λq=>by
 rw[kT];cases e:d q with
 |none=>rfl
 |some x=>exact(h q x e).symm
theorem ri{o:Nat}{x:aU}(h:H o=some x):H.only [o]=PH.nil.set o x:=PH.ext λq=>by
 rw[xW,aS];by_cases e:q=o
 ·subst e;simp[h]
 ·simp[e,gr]
theorem ni{name o:Nat}{x:aU}{vs:List PV}{v:PV}{R:PH→PV→PH→Prop}{args:List aQ}{st:Bool}{d:Option Nat}{K:PF→PH→Prop}(E:S name vs=some ([o],R))(A:H o=some x)
  (h:aH C name vs (PH.nil.set o x) (λr H'=>r=v∧H'=PH.nil.set o x)) (i:R (PH.nil.set o x) v (PH.nil.set o x)) (p:∀r H',R (PH.nil.set o x) r H'→r=v∧H'=PH.nil.set o x) (J:aQ.evs F args=some vs) (u:Hs.le H) (M:K (F.put d v) H) :
  dOp C Hs S st (.call name args) d K F H:=by
 have e:=ri A;refine⟨vs,[o],_,J,E,λq B=>?_,?_,λG=>⟨v,_,by rw[e];exact i,λq y N w=>?_⟩,λr H' l _=>?_⟩
 ·simp at B;subst B;exact⟨x,A⟩
 ·rw[e];exact h.post λr H' l=>⟨r,.refl _,by rw[l.1,l.2];exact i⟩
 ·rw[e]at w;rw[N]at w;cases w
 ·rw[e]at l;obtain⟨rfl,rfl⟩:=p r H' l;rw[e,PH.over_self _ (by rw[←e];exact ig H [o])];exact⟨u,M⟩
theorem akH{c:aC}{α:Type}(d:α→PF)(Hs:α→PH)(e:α→Prop)(m:α→Nat)(i:α)(o:Nat){s:Nat}{rs:List (List PV)}(w:H o=some (.rows s rs))(l:e i)(p:(d i).le (F.frz o s rs))(u:(Hs i).le (H.frz o s rs))
  (hb:∀a,e a→c.wp C (gV d Hs e m (m a) K) (d a) (Hs a)):aC.wp C (.loop c) K F H:=
 ⟨α,d,Hs,e,m,i,_,_,.step o w (.refl _ _),l,p,u,hb⟩
@[go_sem] theorem GF(o s:Nat)(rs:List (List PV))(q:Nat):(H.frz o s rs) q=if q=o then none else(H q).map (aU.frz o s rs):=(rfl)
theorem aHH{t u o1 o2 s1 s2 k1 k2:Nat}{rs1 rs2:List (List PV)}{R:PV→PH→Prop}{e:mZ}(N:e=.normal∨e=.ret)(i:o1≠o2)(E:F t=some (.osl o1 s1 0 k1))(J:F u=some (.osl o2 s2 0 k2))(l:H o1=some (.rows s1 rs1))(p:H o2=some (.rows s2 rs2))
  (O:k1≤Z' rs1) (Q:k2≤Z' rs2) (x:rs2.map (λr=>r.map (PV.dZ o1 s1 rs1))=rs2) (U:(rs1.take k1)=rs1.take k1) (M:R (.tup [.sl s1 (rs1.take k1),.sl s2 (rs2.take k2)]) .nil):aY [.tmp t,.tmp u] R e F H:=by
 have y:∃vs,eN.evs F H [.tmp t,.tmp u]=some vs∧∃A B H2,kC (PF.nil.set 0 (bR vs)) H A B∧H2.le B∧∃w,A 0=some w∧R w H2:=by
  have d:o2≠o1:=λh=>i h.symm;have e2:(H.frz o1 s1 rs1) o2=some (.rows s2 rs2):=by rw[GF,aD d,p];simp only[a8X,aU.frz,x]
  refine⟨[.osl o1 s1 0 k1,.osl o2 s2 0 k2],by rw[oM,rK,E,oM,rK,J,sY],_,_,.nil,.step o1 l (.step o2 e2 (.refl _ _)),a_,_,?_,M⟩;have a1:0+k1≤Z' rs1:=Om;have a2:0+k2≤Z' rs2:=Om;simp only[PF.frz,oS,if_true,bR,a8X,PV.frz,PV.sC,PV.dZ,a9D,baB,true_and,aG a1,aG a2,a9L,aD d]
 rcases N with rfl|rfl<;>exact y
end
end Go.PM
namespace Go.Na
structure tJ(U0 V n lu lq:Nat)(k:Nat)(U Q:List Nat):Prop where
 lu':Z' U=lu
 lq':Z' Q=lq
 limU:Lim U
 limQ:Lim Q
 v:val U+val Q*V=U0
 r:val (U.drop k)<V
 z:∀i x,i<k→Q[i]?=some x→x=0
theorem S8{K V n J w j:Nat}{U Q:List Nat}(h:tJ K V n J w (j+1) U Q)(hV:V<4294967296^n)(hj:j<w)(hl:J=w+n) :
  val ((U.drop j).take (n+1))<V*4294967296∧tJ K V n J w j (U.take j++fH (n+1) (val ((U.drop j).take (n+1))%V)++U.drop (j+(n+1))) (Q.set j (val ((U.drop j).take (n+1))/V)):=by
 have S:=h.lu';have F:=h.lq';have d:0<V:=by have:=h.r;omega
 have l:j<Z' U:=Om;have X:val (U.drop j)=U[j]+4294967296*val (U.drop (j+1)):=by rw[baJ l];rfl
 have O:=h.limU _ (a8G l);have hlt:val (U.drop j)<V*4294967296:=by have:=h.r;omega
 have E:((U.drop j).take (n+1)).length=n+1:=by rw[a8S,baG];omega
 have e2:val (U.drop j)=val ((U.drop j).take (n+1))+4294967296^(n+1)*val (U.drop (j+(n+1))):=by
  conv=>lhs;rw[←bbC (n+1) (U.drop j),kA,E,List.drop_drop]
 have M:4294967296^(n+1)=4294967296^n*4294967296:=baD _ _;have R:V*4294967296≤4294967296^n*4294967296:=a9K _ (Nat.le_of_lt hV);have A:val (U.drop (j+(n+1)))=0:=by
  rcases baR (val (U.drop (j+(n+1))))with h0|h0
  ·exact h0
  ·have:=baT (4294967296^(n+1)) h0;omega
 rw[A,Nat.mul_zero,a9Y]at e2;generalize hW:val ((U.drop j).take (n+1))=W at *
 have Y:val U=val (U.take j)+4294967296^j*W:=by
  conv=>lhs;rw[←bbC j U,kA,a8S,baS Om,e2]
 have u:W%V<V:=a9Z _ d;have B:V*(W/V)+W%V=W:=bbX _ _;have H:W/V<4294967296:=by rw[bbJ d,a9H];omega
 have hD:val (fH (n+1) (W%V))=W%V:=tA Om;have y:Q[j]=0:=h.z j _ Om (a8N Om);have e:=PP (Om:j<Z' Q) (W/V);rw[y,Nat.mul_zero,a9Y]at e;have p:(U.take j).length=j:=by rw[a8S];omega
 refine⟨by omega,?_,?_,?_,?_,?_,?_,?_⟩
 ·simp only[a8F,pN,baG,a8S];omega
 ·rw[a9R];exact F
 ·exact((h.limU.take j).app (qT _ _)).app (h.limU.drop _)
 ·exact h.limQ.set _ H
 ·rw[a9G,kA,kA,p,hD,pN,A,Nat.mul_zero,a9Y,e];have:=h.v;have h5:(val Q+4294967296^j*(W/V))*V=val Q*V+4294967296^j*(V*(W/V)):=by rw[a9J,a9C,a9H (W/V) V]
  have Z:4294967296^j*W=4294967296^j*(V*(W/V))+4294967296^j*(W%V):=by rw[←a8O,B]
  omega
 ·rw[a9G,List.drop_append_of_le_length Om,bcB Om,bbS,kA,hD,A,Nat.mul_zero,a9Y];exact u
 ·intro i x hi N;rw[List.getElem?_set_ne Om]at N;exact h.z i x Om N
end Go.Na
namespace Go.PM
open Go Go.Na
def dI(u v:PV)(n:Nat)(q:PV)(top next s:Nat)(j:Int):PF:=((((((((PF.nil.set 8 (.int .u64 s)).set 9 (u)).set 10 (v)).set 11 (.int .i64 n)).set 12 (q)).set 13 (.int .u64 top)).set 14 (.int .u64 next)).set 15 (.int .i64 j))
theorem xT(o s:Nat)(rs:List (List PV))(L:List Nat):(aO L).map (λr=>r.map (PV.dZ o s rs))=aO L:=by
 unfold aO;rw[bbG];rfl
theorem Zv{C:Ctx}(D:Qi C)(V m u i o o2 p s:Nat)(v d:List Nat)(h2:o2≠o)(h3:p≠o)(h4:p≠o2)(hv:Lim v)(N:Z' v=m+2)(ω:(aO d).take (m+2)=aO v)(Γ:m+2≤Z' d)(ht:2147483648≤v[m+1])
  (ψ:u=i+(m+2)) (O:u≤10000) (U:List Nat) (y:tJ V (val v) (m+2) u i i U (a8D i 0)) (K:cD) (F:PF) (H:PH)
  (x:(dI (.osl o 1 0 u) (.osl o2 1 0 (m+2)) (m+2) (.osl p 1 0 i) (v[m+1]) (v[m]) s ((i:Int)-1)).le F) (hH:H o=some (.rows 1 (aO U))) (κ:H o2=some (.rows 1 (aO d))) (ι:H p=some (.rows 1 (aO (a8D i 0))))
  (hK:∀U' Q' S,tJ V (val v) (m+2) u i 0 U' Q'→(dI (.osl o 1 0 u) (aN v) (m+2) (.osl p 1 0 i) (v[m+1]) (v[m]) s (-1)).le S→K .normal S ((PH.nil.set o (.rows 1 (aO U'))).set p (.rows 1 (aO Q')))) :
  aC.wp C (.block 2 (.loop MF)) K F H:=by
 have f8:=x 8 _ (by unfold dI;simp only[go_sem];rfl);have f9:=x 9 _ (by unfold dI;simp only[go_sem];rfl);have X:=x 10 _ (by unfold dI;simp only[go_sem];rfl);have f11:=x 11 _ (by unfold dI;simp only[go_sem];rfl);have Y:=x 12 _ (by unfold dI;simp only[go_sem];rfl);have f13:=x 13 _ (by unfold dI;simp only[go_sem];rfl);have f14:=x 14 _ (by unfold dI;simp only[go_sem];rfl);have Z:=x 15 _ (by unfold dI;simp only[go_sem];rfl);have A:¬o=o2:=λh=>h2 h.symm;have B:¬p=o2:=h4;have R:¬o=p:=λh=>h3 h.symm;have σ:∀(k:IntKind)(n:Int),PV.frz o2 1 (aO d) (.int k n)=.int k n:=λ_ _=>rfl;have υ:∀l,PV.frz o2 1 (aO d) (.osl o 1 0 l)=.osl o 1 0 l:=λl=>by simp only[PV.frz,PV.sC,PV.dZ,aD A]
 have τ:∀l,PV.frz o2 1 (aO d) (.osl p 1 0 l)=.osl p 1 0 l:=λl=>by simp only[PV.frz,PV.sC,PV.dZ,aD B]
 have φ:PV.frz o2 1 (aO d) (.osl o2 1 0 (m+2))=aN v:=by
  have:0+(m+2)≤(aO d).length:=by rw[cW];omega
  simp only[PV.frz,PV.sC,PV.dZ,if_true,true_and,aG this,a9L,ω]
 simp only[go_sem];refine akH (α:=Nat × List Nat × List Nat) (λt=>dI (.osl o 1 0 u) (aN v) (m+2) (.osl p 1 0 i) (v[m+1]) (v[m]) s ((t.1:Int)-1)) (λt=>(PH.nil.set o (.rows 1 (aO t.2.1))).set p (.rows 1 (aO t.2.2)))
  (λt=>t.1≤i∧tJ V (val v) (m+2) u i t.1 t.2.1 t.2.2) (λt=>t.1) (i,U,a8D i 0) o2 κ ⟨a8E _,y⟩ ?_ ?_ ?_
 ·unfold dI;refine c_ (c_ (c_ (c_ (c_ (c_ (c_ (c_ d_ ?_) ?_) ?_) ?_) ?_) ?_) ?_) ?_<;>simp only[go_sem,f8,f9,X,f11,Y,f13,f14,Z,σ,υ,τ,φ]
 ·refine e_ (e_ a_ ?_) ?_
  ·simp only[go_sem,A,hH,aU.frz,xT]
  ·simp only[go_sem,B,ι,aU.frz,xT]
 rintro⟨k,U,Q⟩ ⟨hk,y⟩;simp only at hk y;simp only[go_sem,MF,jz,dI];by_cases h0:0<k
 ·obtain⟨j,rfl⟩:∃j,k=j+1:=⟨k-1,by omega⟩;have hz:((j+1:Nat):Int)-1=(j:Int):=Om;have χ:(j:Int)≥0:=Om;have M:val v<4294967296^(m+2):=by have:=hZ hv;rw[N]at this;exact this
  obtain⟨hlt,μ⟩:=S8 y M Om ψ;have ξ:=y.lu';have ν:=y.lq';have hA:(U.take j).length=j:=by rw[a8S];omega
  have ο:((U.drop j).take (m+3)).length=m+3:=by rw[a8S,baG];omega
  have w:U.take j++(U.drop j).take (m+3)++U.drop (j+(m+3))=U:=by rw[a9G,←List.drop_drop,bbC,bbC]
  have ρ:(U.drop (j+(m+3))).length=u-(j+(m+3)):=by rw[baG,ξ]
  have E:=P4 (C:=C) D (U.take j) ((U.drop j).take (m+3)) (U.drop (j+(m+3))) v Q m o p u s h3 ((y.limU.drop _).take _) hv N ο ht hlt (by rw[hA,ρ];omega) O (by rw[hA];omega);rw[hA,w,ν]at E;have W:IntKind.i64.wrap ((j:Int)-1)=(j:Int)-1:=wrap_i64 Om Om;simp only[go_sem,hz,χ];simp only[go_sem]at E;refine E _ _ _ ?_ (by simp only[go_sem,R]) Sq ?_
  ·unfold dF;exact Lq
  ·intro S H' e θ J;have g8:=e 8 _ (by unfold dF;simp only[go_sem];rfl);have g9:=e 9 _ (by unfold dF;simp only[go_sem];rfl);have β:=e 10 _ (by unfold dF;simp only[go_sem];rfl);have γ:=e 11 _ (by unfold dF;simp only[go_sem];rfl);have δ:=e 12 _ (by unfold dF;simp only[go_sem];rfl);have ε:=e 13 _ (by unfold dF;simp only[go_sem];rfl);have ζ:=e 14 _ (by unfold dF;simp only[go_sem];rfl);have η:=e 15 _ (by unfold dF;simp only[go_sem];rfl);simp only[go_sem,j3,η,W];refine aJ (j,_,_) ⟨by simp only;omega,μ⟩ (by simp only;omega) ?_ (e_ (e_ a_ θ) J);refine c_ (c_ (c_ (c_ (c_ (c_ (c_ (c_ d_ ?_) ?_) ?_) ?_) ?_) ?_) ?_) ?_<;>simp only[go_sem,g8,g9,β,γ,δ,ε,ζ]
 ·have:k=0:=Om;subst this;have hz:¬((0:Nat):Int)-1≥0:=by decide
  simp only[go_sem,hz];refine hK U Q _ y ?_;unfold dI
  (repeat' (first|exact d_|refine c_ ?_ ?_))<;>first|(simp only[go_sem,show((0:Nat):Int)-1=-1 from rfl]<;>rfl)|rfl
open Go Go.Na
def rFr(o e l d or n s i:Nat):PF:=((((((PF.nil.set 8 (.int .u64 s)).set 9 (.osl o 1 0 e)).set 12 (.osl l 1 0 d)).set 19 (.osl or 1 0 n)).set 166 (.int .i64 n)).set 167 (.int .i64 i))
theorem aYD{x s:Nat}(d:s≤64):shift .shr .u64 (x:Int) (s:Int)=some (.int .u64 ((x/2^s:Nat):Int)):=by
 unfold shift;rw[aD Om];simp only;have:min (Int.toNat (s:Int)) IntKind.u64.bits=s:=by rw[show IntKind.u64.bits=64 from rfl];omega
 rw[this,Int.fdiv_eq_ediv_of_nonneg _ (by exact_mod_cast a8H _)]
 norm_cast
theorem Zw{C:Ctx}(o p d lq n s:Nat)(U Q:List Nat)(hs:s<32)(h3:d≠o)(X:Lim U)(hl:Z' U=p)(hn:n<p)(γ:p≤10000)(K:cD)(F:PF)
  (f8:F 8=some (.int .u64 s)) (f9:F 9=some (.osl o 1 0 p)) (f11:F 11=some (.int .i64 n)) (δ:F 12=some (.osl d 1 0 lq))
  (hK:∀or F' H',or≠o→or≠d→(rFr o p d lq or n s n).le F'→H' d=some (.rows 1 (aO Q))→H' or=some (.rows 1 (aO (fH n (val U/2^s))))→K .normal F' H') :
  aC.wp C (.seq (.region MP) (.seq (.region MQ) (.block 6 (.loop MG)))) K F ((PH.nil.set o (.rows 1 (aO U))).set d (.rows 1 (aO Q))):=by
 have Z:((n:Nat):Int)*((4:Nat):Int)≤140737488355328:=Om;have β:((n:Nat):Int)≤9223372036854775807:=Om;have hz:a8D n [PV.int .u32 0]=aO ([]++a8D n 0):=by simp[aO]
 simp only[go_sem,MP,f11,Z,β,hz];refine aR λor M=>?_;have n1:¬or=d:=(kD.1 M).1;have n2:¬or=o:=(kD.1 (kD.1 M).2).1;have w:¬d=or:=λh=>n1 h.symm;have y:¬o=or:=λh=>n2 h.symm;have n3:¬d=o:=h3;have A:¬o=d:=λh=>n3 h.symm;simp only[go_sem,MQ];refine wp_loop (α:=List Nat) (λP=>rFr o p d lq or n s P.length) (λP=>((PH.nil.set o (.rows 1 (aO U))).set d (.rows 1 (aO Q))).set or (.rows 1 (aO (P++a8D (n-Z' P) 0)))) (λP=>Z' P≤n∧P=fH P.length (val U/2^s)) (λP=>n-Z' P) []
  ⟨by simp,rfl⟩ ?_ ?_ ?_
 ·unfold rFr;exact Lq
 ·refine e_ (e_ (e_ a_ ?_) ?_) ?_<;>simp only[go_sem,n1,w,n2,y,n3,A,baE]
 rintro P ⟨hP,hD⟩;simp only[go_sem,MG,j4,rFr];by_cases c1:Z' P<n
 ·have l:(Z' P:Int)<(n:Nat):=Om;obtain⟨k,hk⟩:∃k,n-Z' P=k+1:=⟨n-Z' P-1,by omega⟩;have Y:(aO (P++a8D (k+1) 0))[Z' P]?=some [.int .u32 ((0:Nat):Int)]:=by rw[cF _ bD];simp
  have R:Z' P<Z' U:=Om;have a1:Z' P+1<Z' U:=Om;have b0:(Z' P:Int)<(p:Nat):=Om;have b1:((Z' P+1:Nat):Int)<(p:Nat):=Om;have ε:=X _ (a8G R);have ζ:=X _ (a8G a1);have e:val U/4294967296^P.length=U[Z' P]+4294967296*(U[Z' P+1]+4294967296*val (U.drop (Z' P+2))):=by rw[←BI X Om,baJ R,baJ a1];rfl
  have J:=kz hs e;have g0:=cF U R;have g1:=cF U a1;generalize η:U[Z' P]=u at *
  generalize θ:U[Z' P+1]=i at *
  have e1:IntKind.i64.wrap ((Z' P:Int)+1)=((Z' P+1:Nat):Int):=eQ Om;have V:IntKind.u64.wrap ((u:Nat):Int)=((u:Nat):Int):=bP Om;have W:IntKind.u64.wrap ((i:Nat):Int)=((i:Nat):Int):=bP Om;have E:shift .shl .u64 (i:Int) 32=some (.int .u64 ((2^32*i:Nat):Int)):=UN (s:=32) Om Om;have S:(2:Nat)^32=4294967296:=by decide
  have B:=orI (a:=2^32*i) (b:=u) (n:=2^32*i+u) Om Om (Nat.two_pow_add_eq_or_of_lt Om i).symm Om;rw[S]at E B;have H:=aYD (x:=4294967296*i+u) (s:=s) Om;have O:(aO (P++a8D (k+1) 0)).set P.length [.int .u32 (((4294967296*i+u)/2^s%4294967296:Nat):Int)]=aO ((P++[(4294967296*i+u)/2^s%4294967296])++a8D k 0):=by rw[jM,GN]
  simp only[go_sem,l,j5];refine cP .nil fT a_ ?_;simp only[go_sem,j6,l,e1,b0,b1,y,A,g0,g1,V,W,E,B,H,dH,hk,Y,O];refine⟨a_,?_⟩;simp only[go_sem,j7,e1];refine aJ (P++[(4294967296*i+u)/2^s%4294967296]) ⟨by simp;omega,?_⟩ (by simp;omega) ?_ (e_ (e_ (e_ a_ ?_) ?_) ?_)
  ·rw[a8F,a8J,CJ,←hD,J]
  ·rw[a8F,a8J];exact Lq
  ·simp only[go_sem,y,A]
  ·simp only[go_sem,w]
  ·rw[a8F,a8J,show n-(Z' P+1)=k by omega];simp only[go_sem]
 ·have e:Z' P=n:=Om;have l:¬(Z' P:Int)<(n:Nat):=Om;have N:a8D (n-Z' P) 0=[]:=by rw[show n-Z' P=0 by omega];rfl
  rw[e]at hD;simp only[go_sem,l,N,a9W];refine hK or _ _ n2 n1 ?_ (by simp only[go_sem,w]) (by simp only[go_sem];rw[←hD]);unfold rFr;rw[e];exact Lq
structure Ri(C:Ctx):Prop where
 L:wO C
 D:Qi C
 up:∀(a:List Nat)(s:Nat),Lim a→s<32→Z' a≤1000→aH C 143 [aN a,.int .u64 s] .nil (upR a s)
 short:∀(a:List Nat)(d:Nat),Lim a→0<d→d<4294967296→Z' a≤1000→aH C 140 [aN a,.int .u32 d] .nil (aK (.tup [aN (aM (val a/d)),.int .u32 ((val a%d:Nat):Int)]))
 lengthO:∀(xs:List Nat)(o:Nat),Lim xs→Z' xs≤35184372087808→aH C 138 [.osl o 1 0 xs.length] (PH.nil.set o (.rows 1 (aO xs))) (λr H'=>r=.int .i64 (nl (val xs):Nat)∧H'=PH.nil.set o (.rows 1 (aO xs)))
def aKZ:Spec:=λname vs=>match name,vs with
 |143,[x,.int _ s]=>some ([],λ_=>upR (mB x) s.toNat)
 |138,[.osl q _ _ _]=>some ([q],λd r H'=>H'=d∧∀xs,Lim xs→d q=some (.rows 1 (aO xs))→r=.int .i64 (nl (val xs):Nat))
 |_,_=>none
theorem alE(a:List Nat)(s:Nat):aKZ 143 [aN a,.int .u64 s]=some ([],λ_=>upR a s):=by
 show some _=_;rw[fP,baA]
theorem afL(a:List Nat)(s:Nat):∀G:PH,∃r H',upR a s r H'∧pU G .nil H':=λG=>by
 obtain⟨o,i⟩:=G.fresh;refine⟨_,_,⟨o,rfl,rfl⟩,λq x d _=>?_⟩;rw[aS]at d;split at d
 ·rename_i e;subst e;exact i
 ·cases d
theorem an{xs ys:List Nat}(h:aO xs=aO ys):xs=ys:=by
 have:=congrArg mB (show aN xs=aN ys by show PV.sl 1 (aO xs)=PV.sl 1 (aO ys);rw[h])
 rwa[fP,fP]at this
theorem Kw(q:Nat)(L:List Nat):(PH.nil.set q (.rows 1 (aO L)))=(PH.nil.set q (.rows 1 (aO L)))∧∀xs,Lim xs→(PH.nil.set q (.rows 1 (aO L))) q=some (.rows 1 (aO xs))→(PV.int .i64 (nl (val L):Nat))=.int .i64 (nl (val xs):Nat):=by
 refine⟨rfl,λxs d e=>?_⟩;rw[dK]at e;have:aO L=aO xs:=(aU.rows.inj (a9V.inj e)).2;rw[an this]
def vQ(A B:Nat):PV:=.tup [aN (aM (A/B)),aN (aM (A%B))]
def azY(a b:List Nat)(s:Nat):PF:=(((PF.nil.set 0 (aN a)).set 1 (aN b)).set 8 (.int .u64 s))
theorem aVD{x s:Nat}(d:s≤31)(h:x*2^s<4294967296):shift .shl .u32 (x:Int) (s:Int)=some (.int .u32 ((x*2^s:Nat):Int)):=by
 unfold shift;rw[aD Om];simp only;have:min (Int.toNat (s:Int)) IntKind.u32.bits=s:=by rw[show IntKind.u32.bits=32 from rfl];omega
 rw[this,show(x:Int)*2^s=((x*2^s:Nat):Int) by simp,dH,a9P h]
theorem ahH{n i x:Nat}(d:(a8D n 0)[i]?=some x):x=0:=by
 have:=baH d;rw[List.mem_replicate]at this;exact this.2
theorem aAA{C:Ctx}(H:Ri C)(A B:Nat)(hB:B≠0)(hA:nl A≤900)(j':nl B≤900) :
  HT.wp C (aY Eo.res (cN (vQ A B))) (PF.args [aN (aM A),aN (aM B)]) .nil:=by
 have LA:=bB A;have Z:=bB B;have vA:=aZ A;have vB:=aZ B;have lA:(aM A).length=nl A:=rfl;have lB:(aM B).length=nl B:=rfl;simp only[go_sem,HT,yu,yv,Eo];refine aB (H.L.cmp _ _ LA Z Om Om) rfl ?_;rw[vA,vB];by_cases c1:A<B
 ·have hc:fA A B<0:=by simp[fA,c1]
  simp only[go_sem,hc,yw];refine aB (H.L.trim _ LA Om) rfl ?_;rw[vA];simp only[go_sem];refine bE (vs:=[.aF,aN (aM A)]) (.inr rfl) .nil rfl a_ ⟨?_,rfl⟩;rw[vQ,bbY c1,a9P c1,jO];refine .tup rfl λj p q hp hq=>?_
  match j with
  |0=>simp at hp hq;subst hp;subst hq;exact .nil 1
  |1=>simp at hp hq;subst hp;subst hq;exact .refl _
  |j+2=>simp at hp
 have hc:¬fA A B<0:=by unfold fA;rw[aD c1];split<;>decide
 have S:0<B:=baU hB;have m':nl B≠0:=λh=>hB (lE.1 h);simp only[go_sem,hc,yx];by_cases c2:nl B=1
 ·have δ:B<4294967296:=by have:=(lS B 1).1 Om;simpa using this
  have Φ:aM B=[B]:=sV hB δ;have Y:A%B<B:=a9Z _ S;have ew:IntKind.u64.wrap ((A%B:Nat):Int)=((A%B:Nat):Int):=bP Om;rw[Φ];have ο:=H.short (aM A) B LA S δ Om;rw[vA]at ο;simp only[go_sem,show(((1:Nat):Int)==1)=true from rfl,yy];refine aB ο rfl ?_;simp only[go_sem,yz,ew];refine aB (H.L.make (A%B) Om) rfl ?_;simp only[go_sem];exact bE (vs:=[aN (aM (A/B)),aN (aM (A%B))]) (.inr rfl) .nil rfl a_ ⟨.refl _,rfl⟩
 obtain⟨m,hm⟩:∃m,nl B=m+2:=⟨nl B-2,by omega⟩;have i':nl B≤nl A:=jS Om;obtain⟨bt,w,f'⟩:=adA Z (n:=m+1) (by rw[vB];exact hm);have M:m+1<(aM B).length:=Om;have κ:bt<4294967296:=Z bt (baH w);have k':B=val ((aM B).take (m+1))+4294967296^(m+1)*bt:=by have l:=cZ (aM B) M;rw[a8T Om,vB]at l;rw[a8N M]at w;rw[a9V.inj w]at l;exact l
 have U:=hZ (Z.take (m+1));rw[a8S,baS Om]at U;have ξ:(aO (aM B))[m+1]?=some [.int .u32 ((bt:Nat):Int)]:=by rw[cF _ M];rw[a8N M]at w;rw[a9V.inj w]
 have i1:IntKind.i64.wrap ((((aM B).length:Nat):Int)-1)=((m+1:Nat):Int):=by rw[wrap_i64 Om Om];omega
 have μ:¬(((aM B).length:Nat):Int)=1:=Om;simp only[go_sem,bO μ,y6];refine wp_loop (α:=Nat) (λs=>azY (aM A) (aM B) s) (λ_=>.nil) (λs=>s≤31∧bt*2^s<4294967296) (λs=>32-s) 0 ⟨by omega,by simpa using κ⟩ ?_ a_ ?_
 ·unfold azY;exact Lq
 rintro s ⟨hs,Λ⟩;have φ:=aVD hs Λ;simp only[go_sem,yr,y7,azY,i1,ξ,φ];refine aKQ ?_ ?_
 ·intro c3;have υ:=of_decide_eq_true c3;have g':s<31:=by
   rcases a9A s 31 with h|h
   ·exact h
   ·exfalso;have l:2147483648≤2^s:=bbU (show 0<2 by decide) h;have J:1*2^s≤bt*2^s:=a9K _ Om;omega
  have es:IntKind.u64.wrap ((s:Int)+1)=((s+1:Nat):Int):=by rw[wrap_u64 Om Om];omega
  simp only[go_sem,y8,es];refine aJ (s+1) ⟨by omega,by rw[baD,←a9C];omega⟩ Om ?_ a_;exact Lq
 intro c3;have υ:=of_decide_eq_false c3;have E:s<32:=Om;have y:0<2^s:=bbD aV;have Q:2147483648*4294967296^(m+1)≤B*2^s:=by
  have l:2147483648*4294967296^(m+1)≤(bt*2^s)*4294967296^(m+1):=a9K _ Om;have J:(4294967296^(m+1)*bt)*2^s≤B*2^s:=a9K _ Om;have h3:(4294967296^(m+1)*bt)*2^s=(bt*2^s)*4294967296^(m+1):=by rw[a9C,a9H]
  omega
 have ι:B*2^s<4294967296^(m+2):=by
  have h0:(bt+1)*2^s≤4294967296:=by
   have h':(4294967296:Nat)=2^(32-s)*2^s:=by rw[←Nat.pow_add,show 32-s+s=32 by omega]
   have:bt<2^(32-s):=by
    rcases a9A bt (2^(32-s))with h|h
    ·exact h
    ·have:=a9K (2^s) h;omega
   have:=a9K (2^s) (show bt+1≤2^(32-s)from this);omega
  have l:B<(bt+1)*4294967296^(m+1):=by rw[a9J,Nat.one_mul,a9H bt];omega
  have J:B*2^s<(bt+1)*4294967296^(m+1)*2^s:=Nat.mul_lt_mul_of_pos_right l y;have h3:(bt+1)*4294967296^(m+1)*2^s=(bt+1)*2^s*4294967296^(m+1):=Nat.mul_right_comm _ _ _;have h4:(bt+1)*2^s*4294967296^(m+1)≤4294967296*4294967296^(m+1):=a9K _ h0;have h5:4294967296^(m+2)=4294967296*4294967296^(m+1):=by rw[baD,a9H]
  omega
 have O:A<4294967296^nl A:=(lS A _).1 (a8E _);simp only[go_sem];refine cP .nil aKZ a_ ?_;simp only[go_sem,ju];have ua:=H.up (aM A) s LA E Om;have ub:=H.up (aM B) s Z E Om;refine alD (alE (aM A) s) ua rfl (afL _ _) ?_;rintro r H' ⟨o,rfl,rfl⟩ -;rw[PH.uB,lA,vA];refine⟨a_,?_⟩;simp only[go_sem];refine alD (alE (aM B) s) ub rfl (afL _ _) ?_;rintro r H' ⟨o2,rfl,rfl⟩ Θ;rw[PH.uB,lB,vB,hm];refine⟨a_,?_⟩;have Ξ:=Θ o2 _ (by rw[aS,aG rfl]) (by rfl);have σ:¬o2=o:=(kD.1 Ξ).1;have d':¬o=o2:=λh=>σ h.symm;have k1:((m+2:Nat):Int)≤((m+2+1:Nat):Int):=Om;have k2:IntKind.i64.wrap (((nl A+1:Nat):Int)-((m+2:Nat):Int))=((nl A+1-(m+2):Nat):Int):=by rw[wrap_i64 Om Om];omega
 obtain⟨d,Ψ⟩:∃d,nl A+1-(m+2)=d:=⟨_,rfl⟩;have Ω:nl A+1=d+(m+2):=Om;rw[Ψ]at k2;have k3:((d:Nat):Int)*((4:Nat):Int)≤140737488355328:=Om;have k4:((d:Nat):Int)≤9223372036854775807:=Om;have hz:a8D d [PV.int .u32 0]=aO (a8D d 0):=by simp[aO]
 have k5:m+2-0=m+2:=Om;simp only[go_sem,lB,hm,k1,k5,jv,jw,k2,k3,k4,hz];refine aR λF ν=>?_;have q2:¬F=o2:=(kD.1 ν).1;have q1:¬F=o:=(kD.1 (kD.1 ν).2).1;have τ:¬o2=F:=λh=>q2 h.symm;have e':¬o=F:=λh=>q1 h.symm;have a':fH (m+2+1) (B*2^s)=fH (m+2) (B*2^s)++[B*2^s/4294967296^(m+2)%4294967296]:=CJ _ _;have Lv:=qT (m+2) (B*2^s);have lv:=pN (m+2) (B*2^s);have vv:val (fH (m+2) (B*2^s))=B*2^s:=tA ι;have ρ:(aO (fH (m+2+1) (B*2^s))).take (m+2)=aO (fH (m+2) (B*2^s)):=by unfold aO;rw[←baY,a',List.take_append_of_le_length Om,a8T Om]
 generalize p':fH (m+2) (B*2^s)=v at *
 have q':(fH (m+2+1) (B*2^s)).length=m+2+1:=pN _ _;have N:∀i (h:i<Z' v),(aO (fH (m+2+1) (B*2^s)))[i]?=some [.int .u32 ((v[i]:Nat):Int)]:=by intro i h;have l:(aO v)[i]?=some [.int .u32 ((v[i]:Nat):Int)]:=cF v h;rw[←ρ,List.getElem?_take_of_lt Om]at l;exact l
 have g1:=N (m+1) Om;have g0:=N m Om;have htop:2147483648≤v[m+1]:=by
  have l:=cZ v (Om:m+1<Z' v);rw[a8T Om,vv]at l;have J:=hZ (Lv.take (m+1));rw[a8S,baS Om]at J;rcases a9A v[m+1] 2147483648 with h|h
  ·exfalso;have h3:4294967296^(m+1)*(v[m+1]+1)≤4294967296^(m+1)*2147483648:=baT _ h;rw[a8O,Nat.mul_one]at h3;rw[a9H 2147483648]at Q;omega
  ·exact h
 have o':=Lv _ (a8G (Om:m+1<Z' v));have n':=Lv _ (a8G (Om:m<Z' v));have w1:IntKind.u64.wrap ((v[m+1]:Nat):Int)=((v[m+1]:Nat):Int):=bP Om;have w0:IntKind.u64.wrap ((v[m]:Nat):Int)=((v[m]:Nat):Int):=bP Om;have j1:IntKind.i64.wrap (((m+2:Nat):Int)-1)=((m+1:Nat):Int):=by rw[wrap_i64 Om Om];omega
 have j0:IntKind.i64.wrap (((m+2:Nat):Int)-2)=((m:Nat):Int):=by rw[wrap_i64 Om Om];omega
 have d1:((m+1:Nat):Int)<((m+2:Nat):Int):=Om;have d0:((m:Nat):Int)<((m+2:Nat):Int):=Om;have jq:IntKind.i64.wrap ((d:Int)-1)=(d:Int)-1:=wrap_i64 Om Om;simp only[go_sem];refine cP .nil fT a_ ?_;simp only[go_sem,jx,j1,j0,d1,d0,τ,g1,g0,w1,w0,jy,jq];have θ:A*2^s<4294967296^(nl A+1):=by
  have h0:2^s≤4294967296:=by have:(2:Nat)^s≤2^32:=bbU aV Om;simpa using this
  have l:A*2^s<4294967296^nl A*2^s:=Nat.mul_lt_mul_of_pos_right O y;have J:4294967296^nl A*2^s≤4294967296^nl A*4294967296:=baT _ h0;rw[baD];omega
 have LU:=qT (nl A+1) (A*2^s);have lU:=pN (nl A+1) (A*2^s);have vU:val (fH (nl A+1) (A*2^s))=A*2^s:=tA θ;have hI:tJ (A*2^s) (val v) (m+2) (nl A+1) d d (fH (nl A+1) (A*2^s)) (a8D d 0):=by
  refine⟨lU,List.length_replicate,LU,CP _,by rw[vU,yG];omega,?_,λi x _ hx=>ahH hx⟩
  ·rw[BI LU Om,vU,vv,bbJ (bbD aV)];have l:A*2^s<4294967296^nl A*2^s:=Nat.mul_lt_mul_of_pos_right O y;have hx:nl A=m+1+d:=Om;have J:4294967296^nl A=4294967296^(m+1)*4294967296^d:=by rw[hx,Nat.pow_add]
   have h3:2^s≤2147483648:=by have:(2:Nat)^s≤2^31:=bbU aV hs;simpa using this
   have h4:4294967296^nl A*2^s≤(2147483648*4294967296^(m+1))*4294967296^d:=by rw[J,a9H (4294967296^(m+1)*4294967296^d),←a9C];exact a9K _ (a9K _ h3)
   have h5:(2147483648*4294967296^(m+1))*4294967296^d≤B*2^s*4294967296^d:=a9K _ Q;omega
 have X:=Zv (C:=C) H.D (A*2^s) m (nl A+1) d o o2 F s v (fH (m+2+1) (B*2^s)) σ q1 q2 Lv lv ρ Om htop Ω Om _ hI;simp only[go_sem]at X;refine X _ _ _ ?_ (by simp only[go_sem,d',e']) (by simp only[go_sem,τ]) Sq ?_
 ·unfold dI;exact Lq
 clear X;intro U' u F' e K;have hu:val U'<val v:=by have:=e.r;rwa[a9L]at this
 have W:=e.v;rw[vv]at hu W;have Δ:0<B*2^s:=Om;have ω:val u=A/B:=by
  have:A*2^s/(B*2^s)=val u:=by rw[←W,Nat.add_mul_div_right _ _ Δ,bbY hu,a8Q]
  rw[←this,Nat.mul_div_mul_right _ _ y]
 have Γ:val U'/2^s=A%B:=by
  have:A*2^s%(B*2^s)=val U':=by rw[←W,Nat.add_mul_mod_self_right,a9P hu]
  rw[←this,Nat.mul_mod_mul_right,Nat.mul_div_cancel _ y]
 have g8:=K 8 _ (by unfold dI;simp only[go_sem];rfl);have g9:=K 9 _ (by unfold dI;simp only[go_sem];rfl);have χ:=K 11 _ (by unfold dI;simp only[go_sem];rfl);have ψ:=K 12 _ (by unfold dI;simp only[go_sem];rfl);have rest:=Zw (C:=C) o (nl A+1) F d (m+2) s U' u E q1 e.limU e.lu' Om Om;simp only[go_sem]at rest;simp only[go_sem];refine rest _ _ g8 g9 χ ψ ?_;clear rest;intro or F2 H2 r1 r2 ε ζ V;rw[Γ]at V;have b':=ε 12 _ (by unfold rFr;simp only[go_sem];rfl);have c':=ε 19 _ (by unfold rFr;simp only[go_sem];rfl);have η:A%B<4294967296^(m+2):=by have l:A%B<B:=a9Z _ S;have J:B<4294967296^nl B:=(lS B _).1 (a8E _);rw[hm]at J;omega
 have LR:=qT (m+2) (A%B);have lR:=pN (m+2) (A%B);have vR:val (fH (m+2) (A%B))=A%B:=tA η;have nQ:=jL e.limQ;have nR:=jL LR;have e1:=e.lq';generalize l':fH (m+2) (A%B)=R at *
 simp only[go_sem];refine cP .nil aKZ a_ ?_;simp only[go_sem,j8,b'];have β:=H.lengthO u F e.limQ Om;rw[e1]at β;have γ:=H.lengthO R or LR Om;rw[lR]at γ;refine ni (o:=F) (x:=.rows 1 (aO u)) (v:=.int .i64 (nl (val u):Nat)) rfl ζ β (Kw F u) (λr H' Y=>⟨Y.2 u e.limQ (by rw[dK]),Y.1⟩) rfl a_ ?_;have c4:((nl (val u):Nat):Int)≤(d:Nat):=Om;simp only[go_sem,c4,c',Nat.sub_zero];refine ni (o:=or) (x:=.rows 1 (aO R)) (v:=.int .i64 (nl (val R):Nat)) rfl V γ (Kw or R) (λr H' Y=>⟨Y.2 R LR (by rw[dK]),Y.1⟩) rfl a_ ?_;have c5:((nl (val R):Nat):Int)≤((m+2:Nat):Int):=Om;simp only[go_sem,c5];refine aHH (o1:=F) (o2:=or) (s1:=1) (s2:=1) (k1:=nl (val u)) (k2:=nl (val R)) (rs1:=aO u) (rs2:=aO R) (.inr rfl) (λh=>r2 h.symm) rfl rfl ζ V (by rw[cW];exact nQ) (by rw[cW];exact nR) (xT _ _ _ _) rfl ⟨?_,rfl⟩;have t1:(aO u).take (nl (val u))=aO (aM (A/B)):=by have:=mE e.limQ;rw[ω]at this ⊢;exact this
 have t2:(aO R).take (nl (val R))=aO (aM (A%B)):=by have:=mE LR;rw[vR]at this ⊢;exact this
 rw[t1,t2];exact .refl _
def aLT(a b:Nat):PF:=((PF.nil.set 0 (aN (aM a))).set 1 (aN (aM b)))
theorem aUG{C:Ctx}(L:wO C)(d:∀A B:Nat,B≠0→nl A≤900→nl B≤900→aH C 136 [aN (aM A),aN (aM B)] .nil (aK (vQ A B)))(a b:List Nat)(u:Lim a)(hb:Lim b)(E:Z' a≤35184372087808)(F:Z' b≤35184372087808) :
  ac.wp C (aY aOA.res (cN (if fI (val a) (val b)then .tup [aN [],.int .i64 2]else .tup [aN (aM (a8B (val a) (val b))),.int .i64 0]))) (PF.args [aN a,aN b]) .nil:=by
 simp only[go_sem,ac,apX,apY,aOA];refine aB (L.large a u E) rfl ?_;by_cases e:nl (val a)>512
 ·simp only[go_sem,e,Ep];rw[aG (by simp[fI,e])];exact gG rfl
 simp only[go_sem,e];refine aB (L.large b hb F) rfl ?_;by_cases i:nl (val b)>512
 ·simp only[go_sem,i,Ep];rw[aG (by simp[fI,i])];exact gG rfl
 rw[aD (by simp[fI,e,i])];simp only[go_sem,i,apZ];refine aB (L.trim a u E) rfl ?_;simp only[go_sem];refine aB (L.trim b hb F) rfl ?_;simp only[go_sem];refine wp_loop (α:=Nat × Nat) (λt=>aLT t.1 t.2) (λ_=>.nil) (λt=>a8B t.1 t.2=a8B (val a) (val b)∧nl t.1≤512∧nl t.2≤512) (λt=>t.2) (val a,val b) ⟨rfl,by simp only;omega,by simp only;omega⟩ ?_ a_ ?_
 ·unfold aLT;exact Lq
 rintro⟨x,y⟩ ⟨p,H,w⟩;simp only at p H w;simp only[go_sem,apW,aqA,aLT,bG];by_cases l:y=0
 ·subst l;have:¬((nl 0:Nat):Int)>0:=by rw[GK];decide
  simp only[go_sem,this,aqD];refine bE (vs:=[aN (aM x),.int .i64 0]) (.inr rfl) .nil rfl a_ ⟨?_,rfl⟩;rw[←p,Nat.gcd_zero_right];exact .refl _
 ·have J:nl y≠0:=λh=>l (lE.1 h);have:((nl y:Nat):Int)>0:=Om;simp only[go_sem,this,aqB];refine aB (d x y l Om Om) rfl ?_;simp only[go_sem,vQ,aqC];have hlt:x%y<y:=a9Z _ (baU l);refine aJ (y,x%y) ⟨?_,w,?_⟩ hlt ?_ a_
  ·simp only;rw[←p,Nat.gcd_comm y,←Nat.gcd_rec y x,Nat.gcd_comm]
  ·have:=jS (Nat.le_of_lt hlt);simp only;omega
  ·exact Lq
def qX(A B:Nat):PV:=if fI A B then .tup [aN [],aN [],.int .i64 2]else if B=0 then .tup [aN [],aN [],.int .i64 3]else .tup [aN (aM (A/B)),aN (aM (A%B)),.int .i64 0]
def azZ:Spec:=λname vs=>match name,vs with
 |138,[x]=>some ([],λ_=>aK (.int .i64 (nl (val (mB x)):Nat)))
 |136,[x,y]=>some ([],λ_=>aK (vQ (val (mB x)) (val (mB y))))
 |_,_=>none
theorem ZY(xs:List Nat):azZ 138 [aN xs]=some ([],λ_=>aK (.int .i64 (nl (val xs):Nat))):=by
 show some _=_;rw[fP]
theorem Zu(A B:Nat):azZ 136 [aN (aM A),aN (aM B)]=some ([],λ_=>aK (vQ A B)):=by
 show some _=_;rw[fP,fP,aZ,aZ]
theorem xV{res:List eN}{F:PF}{H:PH}{e:Int}(h:eN.evs F H res=some [.aF,.aF,.int .i64 e]):aY res (cN (.tup [aN [],aN [],.int .i64 e])) .ret F H:=by
 refine bE (.inr rfl) .nil h a_ ⟨?_,rfl⟩;refine .tup rfl λj p q hp d=>?_
 match j with
 |0=>simp at hp d;subst hp;subst d;exact .nil 1
 |1=>simp at hp d;subst hp;subst d;exact .nil 1
 |2=>simp at hp d;subst hp;subst d;exact .refl _
 |j+3=>simp at hp
theorem aUE{C:Ctx}(L:wO C)(i:∀A B:Nat,B≠0→nl A≤900→nl B≤900→aH C 136 [aN (aM A),aN (aM B)] .nil (aK (vQ A B)))(a b:List Nat)(p:Lim a)(hb:Lim b)(y:Z' a≤35184372087808)(x:Z' b≤35184372087808) :
  ZZ.wp C (aY aNZ.res (cN (qX (val a) (val b)))) (PF.args [aN a,aN b]) .nil:=by
 simp only[go_sem,ZZ,apQ,apR,aNZ];refine aB (L.large a p y) rfl ?_;by_cases d:nl (val a)>512
 ·simp only[go_sem,d,En];rw[show qX (val a) (val b)=.tup [aN [],aN [],.int .i64 2] by simp[qX,fI,d]];exact xV rfl
 simp only[go_sem,d];refine aB (L.large b hb x) rfl ?_;by_cases l:nl (val b)>512
 ·simp only[go_sem,l,En];rw[show qX (val a) (val b)=.tup [aN [],aN [],.int .i64 2] by simp[qX,fI,l]];exact xV rfl
 simp only[go_sem,l,apS];refine aB (L.length b hb x) rfl ?_;by_cases e:val b=0
 ·have:((nl (val b):Nat):Int)=0:=by rw[e,GK];rfl
  simp only[go_sem,cC this,apT];rw[show qX (val a) (val b)=.tup [aN [],aN [],.int .i64 3] by simp[qX,fI,d,e,GK]];exact xV rfl
 have E:nl (val b)≠0:=λh=>e (lE.1 h);rw[show qX (val a) (val b)=.tup [aN (aM (val a/val b)),aN (aM (val a%val b)),.int .i64 0] by simp[qX,fI,d,l,e]];simp only[go_sem,bO (show((nl (val b):Nat):Int)≠0 by omega)];refine cP .nil azZ a_ ?_;simp only[go_sem,apU];have F:=jL p;have H:=jL hb;have u:((nl (val a):Nat):Int)≤(Z' a:Nat):=Om;have w:((nl (val b):Nat):Int)≤(Z' b:Nat):=Om;refine cR (ZY a) (L.length a p y) rfl a_ ?_;simp only[go_sem,u,or_true,a9L,mE p];refine cR (ZY b) (L.length b hb x) rfl a_ ?_;simp only[go_sem,w,or_true,a9L,mE hb];refine cR (Zu (val a) (val b)) (i _ _ e Om Om) rfl a_ ?_;simp only[go_sem,vQ,apV];exact bE (.inr rfl) .nil rfl a_ ⟨.refl _,rfl⟩
def nP:=bU [] Proofs.Tryz.f95
def wh:=aA nP 0
def wj:=aA nP 1
def wm:=aA nP 2
def wn:=aA nP 3
def wq:=aA nP 4
def QY:=aA nP 5
def EF:=aA nP 6
def QZ:=aA nP 7
def HH:aC:=(sq wh (.seq (sq wj (sq wm (.cond (Tm 18) (sq wn (.region wq)) .skip))) (dM QY 40 EF (sq QZ .ret))))
def AM:bC:=⟨3,53,HH,[.cell 6 (some 3),.tmp 7]⟩
def LN:=bU [] Proofs.Tryz.f118
def Ic:=aA LN 0
def Ie:=aA LN 1
def If:=aA LN 2
def LM:aC:=(sq Ic (sq Ie (sq If .ret)))
def T2:bC:=⟨2,14,LM,[.tmp 4]⟩
def xd:=bU [1] Proofs.Tryz.f119
def T5:=aA xd 0
def T6:=aA xd 1
def RD:aC:=(sq T5 (sq T6 .ret))
def ayC:bC:=⟨1,7,RD,[.tmp 2]⟩
def EG:=bU [] Proofs.Tryz.f52
def Ts:=aA EG 0
def Tt:=aA EG 1
def Tu:=aA EG 2
def Tv:=aA EG 3
def RA:aC:=(sq Ts (dM Tt 7 Tu (sq Tv .ret)))
def Qm:bC:=⟨2,21,RA,[.cell 4 (some 3),.tmp 5]⟩
def JB:=bU [] Proofs.Tryz.f96
def alM:=aA JB 0
def alN:=aA JB 1
def alO:=aA JB 2
def alP:=aA JB 3
def YS:aC:=(sq alM (dM alN 4 alO (sq alP .ret)))
def aLK:bC:=⟨1,12,YS,[.tmp 2]⟩
def LP:=bU [1] Proofs.Tryz.f116
def Ig:=aA LP 0
def Ih:=aA LP 1
def JF:=aA LP 2
def LO:aC:=(sq Ig (sq Ih (sq JF .ret)))
def T3:bC:=⟨1,19,LO,[.tmp 2]⟩
def yX:=bU [1] Proofs.Tryz.f157
def wu:=aA yX 0
def ww:=aA yX 1
def wx:=aA yX 2
def wy:=aA yX 3
def HI:aC:=(sq wu (dM ww 6 wx (sq wy .ret)))
def gl:bC:=⟨1,17,HI,[.cell 2 (some 3),.tmp 3]⟩
def mQ:=bU [2,3] Proofs.Tryz.f69
def alZ:=aA mQ 0
def amA:=aA mQ 1
def Du:=aA mQ 2
def amB:=dB mQ 0
def amC:=dB mQ 1
def FY:=aA mQ 3
def Dv:=aA mQ 4
def OX:=aA mQ 5
def Dw:=aA mQ 6
def gj:=aA mQ 7
def nn:=aA mQ 8
def np:=aA mQ 9
def YU:aC:=(sq alZ (dM amA 16 Du (dq amB (dq amC (.seq (.block 0 (sq FY (.cond (Tm 42) (sq Dv .ret) (sq OX (.cond (Tm 49) (sq Dw .ret) (sq gj (.cond (Tm 51) (sq nn .ret) .skip))))))) (sq np .ret))))))
def aLL:bC:=⟨2,54,YU,[.tmp 4,.tmp 5]⟩
def mP:=bU [2,3] Proofs.Tryz.f124
def alQ:=aA mP 0
def alR:=aA mP 1
def Dt:=aA mP 2
def alS:=dB mP 0
def alT:=aA mP 3
def alU:=aA mP 4
def alV:=aA mP 5
def alW:=aA mP 6
def alX:=aA mP 7
def alY:=aA mP 8
def Th:=aA mP 9
def Ti:=aA mP 10
def YT:aC:=(sq alQ (dM alR 22 Dt (dq alS (gE alT 43 (sq alU (sq alV .ret)) (gE alW 60 (sq alX (sq alY .ret)) (sq Th (sq Ti .ret)))))))
def Ds:bC:=⟨2,87,YT,[.cell 4 (some 3),.tmp 5]⟩
def nS:=bU [] Proofs.Tryz.f147
def amE:=aA nS 0
def amF:=aA nS 1
def amG:=aA nS 2
def amH:=aA nS 3
def amI:=aA nS 4
def amJ:=aA nS 5
def Dy:=aA nS 6
def amK:=aA nS 7
def amL:=aA nS 8
def amM:=aA nS 9
def T1:aC:=(eW amH 14 0 amM (sq amI (sq amJ (dM Dy 24 amK (.region amL)))))
def nv:=aA nS 10
def YY:aC:=(sq amE (sq amF (.seq (cJ amG 0 T1) (sq nv .ret))))
def T0:bC:=⟨1,30,YY,[.cell 2 (some 3),.tmp 3]⟩
theorem CoL.nil:CoL [] []:=.refl _
theorem CoL.cons{p q:PV}{ps i:List PV}(h:Co p q)(e:CoL ps i):CoL (p::ps) (q::i):=
 ⟨by simp[e.len],λj a b d hb=>by
  cases j with
  |zero=>simp at d hb;subst d;subst hb;exact h
  |succ j=>exact e.at_ j a b (by simpa using d) (by simpa using hb)⟩
theorem CoL.agg{ps d:List PV}(h:CoL ps d):Co (.agg ps) (.agg d):=.agg h.len h.at_
theorem CoL.tup{ps d:List PV}(h:CoL ps d):Co (.tup ps) (.tup d):=.tup h.len h.at_
structure yM(C:Ctx):Prop extends wO C where
 bits:∀xs,Lim xs→Z' xs≤35184372087808→aH C 128 [aN xs] .nil (aK (.int .i64 (dJ (val xs):Nat)))
 add:∀xs ys,Lim xs→Lim ys→Z' xs≤35184372087808→Z' ys≤35184372087808→aH C 127 [aN xs,aN ys] .nil (aK (opV (fI (val xs) (val ys)) (val xs+val ys)))
 sub:∀xs ys,Lim xs→Lim ys→Z' xs≤35184372087808→Z' ys≤35184372087808→aH C 134 [aN xs,aN ys] .nil (aK (xK (val xs) (val ys)))
 mul:∀xs ys,Lim xs→Lim ys→Z' xs≤35184372087808→Z' ys≤35184372087808→aH C 133 [aN xs,aN ys] .nil (aK (opV (fI (val xs) (val ys)) (val xs*val ys)))
 gcd:∀xs ys,Lim xs→Lim ys→Z' xs≤35184372087808→Z' ys≤35184372087808→aH C 131 [aN xs,aN ys] .nil (aK (if fI (val xs) (val ys)then .tup [aN [],.int .i64 2]else .tup [aN (aM (a8B (val xs) (val ys))),.int .i64 0]))
 div:∀xs ys,Lim xs→Lim ys→Z' xs≤35184372087808→Z' ys≤35184372087808→aH C 130 [aN xs,aN ys] .nil (aK (qX (val xs) (val ys)))
theorem kZ{a b:Nat}(d:nl a≤512)(hb:nl b≤512):fI a b=false:=by
 simp[fI];omega
theorem pT{a b m n:Nat}(d:nl a≤m)(hb:nl b≤n):nl (a*b)≤m+n:=by
 rw[lS]at d hb ⊢;rw[Nat.pow_add];by_cases h:b=0
 ·subst h;exact Nat.mul_pos (bbD aV) (bbD aV)
 ·calc a*b<4294967296^m*b:=Nat.mul_lt_mul_of_pos_right d (baU h)
   _≤4294967296^m*4294967296^n:=baT _ (Nat.le_of_lt hb)
theorem IH{n:Nat}(h:nl n≤512):szV n=.tup [aN (aM n),.int .i64 0]:=by
 have:¬nl n>512:=Om;simp[szV,szL,szE,this]
theorem aEM{C:Ctx}(L:yM C)(a b:List Nat)(d:Lim a)(hb:Lim b)(e:Z' a≤35184372087808)(i:Z' b≤35184372087808)(l:nl (val a)≤256)(p:nl (val b)≤256) :
  LM.wp C (aY T2.res (aK (aN (aM (val a*val b))))) (PF.args [aN a,aN b]) .nil:=by
 simp only[go_sem,LM,Ic,Ie,T2];refine aB (L.mul a b d hb e i) rfl ?_;have:=pT l p;rw[kZ Om Om,opV,IH Om];simp only[go_sem,If];refine aX (.inr rfl) rfl ?_;rfl
abbrev fR(neg:Bool)(a b:List Nat):List PV:=[.bool neg,aN a,aN b]
theorem aLP{C:Ctx}(L:yM C)(neg:Bool)(a b:List Nat)(d:Lim a)(e:Z' a≤35184372087808) :
  RD.wp C (aY ayC.res (aK (.bool (decide (val a=0))))) (PF.args [.agg (fR neg a b)]) .nil:=by
 simp only[go_sem,RD,T5,T6,ayC];refine aB (L.bits a d e) rfl ?_;simp only[go_sem];refine aX (.inr rfl) rfl ?_;have:=@nN (val a);by_cases c:val a=0
 ·rw[cC Om,bN c];rfl
 ·rw[bO Om,cB c];rfl
def dV(a b:Nat):Bool:=decide (0<dJ b)&&decide (dJ b≤4096)&&decide (dJ a≤4096)
theorem aEN{C:Ctx}(L:yM C)(neg:Bool)(a b:List Nat)(p:Lim a)(hb:Lim b)(u:Z' a≤35184372087808)(w:Z' b≤35184372087808) :
  LO.wp C (aY T3.res (aK (.bool (dV (val a) (val b))))) (PF.args [.agg (fR neg a b)]) .nil:=by
 simp only[go_sem,LO,Ig,Ih,T3];refine aB (L.bits b hb w) rfl ?_;by_cases i:0<dJ (val b)
 ·have d:((dJ (val b):Nat):Int)>0:=Om;by_cases l:dJ (val b)≤4096
  ·have e:((dJ (val b):Nat):Int)≤4096:=Om;simp only[go_sem,JF,d,e];refine aB (L.bits a p u) rfl ?_;simp only[go_sem];refine aX (.inr rfl) rfl ?_;show PV.bool (decide _)=_;rw[dV,bN i,bN l,a8R,a8R];congr 1;rw[decide_eq_decide];omega
  ·have e:¬((dJ (val b):Nat):Int)≤4096:=Om;simp only[go_sem,JF,d,e];refine aX (.inr rfl) rfl ?_;show PV.bool _=_;simp[dV,i,l]
 ·have d:¬((dJ (val b):Nat):Int)>0:=Om;simp only[go_sem,JF,d];refine aX (.inr rfl) rfl ?_;show PV.bool _=_;simp[dV,i]
theorem aSO{C:Ctx}(L:yM C)(v:Int)(d:-9223372036854775808≤v)(i:v≤9223372036854775807) :
  YS.wp C (aY aLK.res (aK (aN (aM v.natAbs)))) (PF.args [.int .i64 v]) .nil:=by
 simp only[go_sem,YS,alM,alN,aLK];by_cases c:v<0
 ·have e:IntKind.u64.wrap (0-IntKind.u64.wrap v)=(v.natAbs:Int):=by rw[jU,jU];omega
  simp only[go_sem,c,alO,e];refine aB (L.make v.natAbs Om) rfl ?_;simp only[go_sem];refine aX (.inr rfl) rfl ?_;rfl
 ·have e:IntKind.u64.wrap v=(v.natAbs:Int):=by rw[jU];omega
  simp only[go_sem,c,alP,e];refine aB (L.make v.natAbs Om) rfl ?_;simp only[go_sem];refine aX (.inr rfl) rfl ?_;rfl
abbrev JE(e:Int):PV:=.tup [.agg (fR false [] []),.int .i64 e]
abbrev ayA(neg:Bool)(a b:Nat):PV:=.tup [.agg (fR neg (aM a) (aM b)),.int .i64 0]
def LZ(neg:Bool)(a b:Nat):PV:=
 if dJ (a/a8B a b)>4096∨dJ (b/a8B a b)>4096 then JE 2 else ayA (neg&&decide (a/a8B a b≠0)) (a/a8B a b) (b/a8B a b)
theorem lC{res:List eN}{F:PF}{H:PH}{e:Int}(h:eN.evs F H res=some [.agg [.bool false,.aF,.aF],.int .i64 e]):aY res (cN (JE e)) .ret F H:=
 bE (.inr rfl) .nil h a_ ⟨CoL.tup (.cons (CoL.agg (.cons (.refl _) (.cons (.nil 1) (.cons (.nil 1) .nil)))) (.cons (.refl _) .nil)),rfl⟩
theorem R3{n:Nat}:dJ n>1↔n>1:=by
 have:=pZ n 1;omega
theorem y9{a n:Nat}(g:Nat)(h:nl a≤n):nl (a/g)≤n:=a9F (jS (bbH _ _)) h
theorem YX{C:Ctx}(L:yM C)(neg:Bool)(a b:List Nat)(p:Lim a)(hb:Lim b)(u:Z' a≤35184372087808)(w:Z' b≤35184372087808)(o:Nat)(F:PF)(H:PH)
  (f0:F 0=some (.bool neg)) (f1:F 1=some (aN a)) (f2:F 2=some (aN b)) (f6:F 6=some (.ptr o 3 0 0)) (f7:F 7=some (.int .i64 0)) (d:H o=some (.rows 3 [[.bool false,.aF,.aF]])) :
  aC.wp C (.seq (.seq (.region QY) (.cond (.tmp 40) (.seq (.region EF) .ret) .skip)) (.seq (.region QZ) .ret)) (aY AM.res (cN (if dJ (val a)>4096∨dJ (val b)>4096 then JE 2 else ayA (neg&&decide (val a≠0)) (val a) (val b)))) F H:=by
 have fin:∀(r:List (List PV)) F H,F 6=some (.ptr o 3 0 0)→F 7=some (.int .i64 2)→H o=some (.rows 3 [[.bool false,.aF,.aF]])→aY AM.res (cN (JE 2)) .ret F H:=by intro r F H A h7 h;refine lC ?_;simp only[go_sem,AM,A,h7,h]
 simp only[go_sem,QY,f1];refine aB (L.bits a p u) rfl ?_;by_cases x:dJ (val a)>4096
 ·have i:((dJ (val a):Nat):Int)>4096:=Om;rw[aG (.inl x)];simp only[go_sem,i,EF,f6,d];exact fin [] _ _ (by simp only[go_sem,f6]) rfl Sq
 ·have i:¬((dJ (val a):Nat):Int)>4096:=Om;simp only[go_sem,i,f2];refine aB (L.bits b hb w) rfl ?_;by_cases y:dJ (val b)>4096
  ·have l:((dJ (val b):Nat):Int)>4096:=Om;rw[aG (.inr y)];simp only[go_sem,l,EF,f6,d];exact fin [] _ _ (by simp only[go_sem,f6]) rfl Sq
  ·have l:¬((dJ (val b):Nat):Int)>4096:=Om;rw[aD Om];have last:∀F:PF,F 1=some (aN a)→F 2=some (aN b)→F 6=some (.ptr o 3 0 0)→∀(q:Bool),q=(neg&&decide (val a≠0))→F 47=some (.bool q) →
     True:=λ_ _ _ _ _ _ _=>trivial
   simp only[go_sem,l,QZ,f0,f1,f2,f6,d];cases neg with
   |false =>simp only[go_sem,f0,f1,f2,f6,d];refine aB (L.trim a p u) rfl ?_;simp only[go_sem,f0,f1,f2,f6,d];refine aB (L.trim b hb w) rfl ?_;simp only[go_sem,f0,f1,f2,f6,d,a8L];refine bE (.inr rfl) .nil (vs:=[.agg (fR false (aM (val a)) (aM (val b))),.int .i64 0]) ?_ a_ ⟨.refl _,rfl⟩;simp only[go_sem,AM,f6,d]
   |true=>
    simp only[go_sem,f0,f1,f2,f6,d];refine aB (L.bits a p u) rfl ?_;have e:decide (((dJ (val a):Nat):Int)>0)=decide (val a≠0):=by have:=@nN (val a);rw[decide_eq_decide];omega
    simp only[go_sem,f0,f1,f2,f6,d,e];refine aB (L.trim a p u) rfl ?_;simp only[go_sem,f0,f1,f2,f6,d];refine aB (L.trim b hb w) rfl ?_;simp only[go_sem,f0,f1,f2,f6,d,a8R];refine bE (.inr rfl) .nil (vs:=[.agg (fR (decide (val a≠0)) (aM (val a)) (aM (val b))),.int .i64 0]) ?_ a_ ⟨.refl _,rfl⟩;simp only[go_sem,AM,f6,d]
theorem axY{C:Ctx}(L:yM C)(neg:Bool)(a b:List Nat)(u:Lim a)(hb:Lim b)(w:Z' a≤35184372087808)(x:Z' b≤35184372087808)(y:nl (val a)≤512)(l:nl (val b)≤512)(A:val b≠0) :
  HH.wp C (aY AM.res (cN (LZ neg (val a) (val b)))) (PF.args [.bool neg,aN a,aN b]) .nil:=by
 simp only[go_sem,HH,wh,wj];refine aR λo E=>?_;simp only[go_sem];refine aB (L.gcd a b u hb w x) rfl ?_;rw[kZ y l];simp only[go_sem,wm];have e:a8B (val a) (val b)≠0:=by intro h;exact A (Nat.gcd_eq_zero_iff.1 h).2
 have i:nl (a8B (val a) (val b))≤512:=a9F (jS (Nat.gcd_le_right _ (baU A))) l;have d:(aM (a8B (val a) (val b))).length≤35184372087808:=by rw[bG];omega
 refine aB (L.bits _ (bB _) d) rfl ?_;rw[aZ];by_cases c:a8B (val a) (val b)>1
 ·have p:((dJ (a8B (val a) (val b)):Nat):Int)>1:=by have:=R3.2 c;omega
  simp only[go_sem,p,wn];refine aB (L.div a _ u (bB _) w d) rfl ?_;rw[aZ,qX,kZ y i,aD aV,aD e];simp only[go_sem,wq];refine aB (L.div b _ hb (bB _) x d) rfl ?_;rw[aZ,qX,kZ l i,aD aV,aD e];simp only[go_sem];have:=YX L neg (aM (val a/a8B (val a) (val b))) (aM (val b/a8B (val a) (val b))) (bB _) (bB _) (by rw[bG];have:=y9 (a8B (val a) (val b)) y;omega) (by rw[bG];have:=y9 (a8B (val a) (val b)) l;omega) o;rw[aZ,aZ]at this;have:=λF H=>this F H;simp only[aC.wp,go_sem]at this;exact this _ _ rfl rfl rfl rfl rfl Sq
 ·have p:¬((dJ (a8B (val a) (val b)):Nat):Int)>1:=by have:=(@R3 (a8B (val a) (val b)));omega
  have B:a8B (val a) (val b)=1:=Om;simp only[go_sem,p];rw[LZ,B,Nat.div_one,Nat.div_one];have:=YX L neg a b u hb w x o;simp only[aC.wp,go_sem]at this;exact this _ _ rfl rfl rfl rfl rfl Sq
structure PT(C:Ctx):Prop extends yM C where
 times:∀a b,Lim a→Lim b→Z' a≤35184372087808→Z' b≤35184372087808→nl (val a)≤256→nl (val b)≤256→aH C 121 [aN a,aN b] .nil (aK (aN (aM (val a*val b))))
 zero:∀neg a b,Lim a→Z' a≤35184372087808→aH C 122 [.agg (fR neg a b)] .nil (aK (.bool (decide (val a=0))))
 valid:∀neg a b,Lim a→Lim b→Z' a≤35184372087808→Z' b≤35184372087808→aH C 118 [.agg (fR neg a b)] .nil (aK (.bool (dV (val a) (val b))))
 abs:∀v:Int,-9223372036854775808≤v→v≤9223372036854775807→aH C 119 [.int .i64 v] .nil (aK (aN (aM v.natAbs)))
 lowest:∀neg a b,Lim a→Lim b→Z' a≤35184372087808→Z' b≤35184372087808→nl (val a)≤512→nl (val b)≤512→val b≠0→aH C 120 [.bool neg,aN a,aN b] .nil (aK (LZ neg (val a) (val b)))
def gy(n d:Int):PV:=if d=0 then JE 3 else LZ (decide (n<0) != decide (d<0)) n.natAbs d.natAbs
theorem sF{n k:Nat}(h:n<4294967296^k):nl n≤k:=(lS _ _).2 h
theorem X6(neg:Bool)(a b:Nat):∃d x y e,LZ neg a b=.tup [.agg (fR d x y),.int .i64 e]:=by
 unfold LZ;split
 ·exact⟨_,_,_,_,rfl⟩
 ·exact⟨_,_,_,_,rfl⟩
theorem aLN{C:Ctx}(L:PT C)(n d:Int)(l:-9223372036854775808≤n)(p:n≤9223372036854775807)(u:-9223372036854775808≤d)(w:d≤9223372036854775807) :
  RA.wp C (aY Qm.res (cN (gy n d))) (PF.args [.int .i64 n,.int .i64 d]) .nil:=by
 simp only[go_sem,RA,Ts,Tt];refine aR λo B=>?_;unfold gy;by_cases c:d=0
 ·subst c;simp only[go_sem,Tu];refine lC ?_;simp only[go_sem,Qm]
 ·rw[aD c];simp only[go_sem,bO c,Tv];refine aB (L.abs n l p) rfl ?_;simp only[go_sem];refine aB (L.abs d u w) rfl ?_;simp only[go_sem];have E:nl n.natAbs≤2:=sF Om;have F:nl d.natAbs≤2:=sF Om;have low:=L.lowest (decide (n<0) != decide (d<0)) (aM n.natAbs) (aM d.natAbs) (bB _) (bB _) (by rw[bG];omega) (by rw[bG];omega);rw[aZ,aZ]at low;have low:=low Om Om Om;refine aB low rfl ?_;obtain⟨i,x,y,e,A⟩:=X6 (decide (n<0) != decide (d<0)) n.natAbs d.natAbs;rw[A];simp only[go_sem];exact bE (.inr rfl) .nil (vs:=[.agg (fR i x y),.int .i64 e]) (by simp only[go_sem,Qm]) a_ ⟨.refl _,rfl⟩
theorem jQ{a b:Nat}:dV a b=true↔b≠0∧nl b≤128∧nl a≤128:=by
 have d:=qA b 128;have e:=qA a 128;have i:=@nN b;simp only[dV,a8C,decide_eq_true_eq];omega
def im(neg:Bool)(a b:Nat):PV:=if dV a b then LZ neg a b else JE 1
theorem axZ{C:Ctx}(L:PT C)(neg:Bool)(a b:List Nat)(i:Lim a)(hb:Lim b)(l:Z' a≤35184372087808)(p:Z' b≤35184372087808) :
  HI.wp C (aY gl.res (cN (im neg (val a) (val b)))) (PF.args [.agg (fR neg a b)]) .nil:=by
 simp only[go_sem,HI,wu,ww];refine aR λo B=>?_;simp only[go_sem];refine aB (L.valid neg a b i hb l p) rfl ?_;unfold im;cases w:dV (val a) (val b)with
 |false =>simp only[go_sem,wx,a8P];refine lC ?_;simp only[go_sem,gl]
 |true =>obtain⟨A,E,F⟩:=jQ.1 w;simp only[go_sem,wy,a8I];refine aB (L.lowest neg a b i hb l p Om Om A) rfl ?_;obtain⟨d,x,y,e,u⟩:=X6 neg (val a) (val b);rw[u];simp only[go_sem];exact bE (.inr rfl) .nil (vs:=[.agg (fR d x y),.int .i64 e]) (by simp only[go_sem,gl]) a_ ⟨.refl _,rfl⟩
def tZ(d:Bool)(a1 b1:Nat)(e:Bool)(a2 b2:Nat):Int:=
 match d&&decide (a1≠0),e&&decide (a2≠0)with
 |true,true=>- fA (a1*b2) (a2*b1)
 |true,false=>-1
 |false,true=>1
 |false,false=>fA (a1*b2) (a2*b1)
def EE(d:Bool)(a1 b1:Nat)(e:Bool)(a2 b2:Nat):PV:=
 if dV a1 b1&&dV a2 b2 then .tup [.int .i64 (tZ d a1 b1 e a2 b2),.int .i64 0]else .tup [.int .i64 0,.int .i64 1]
def fr1:PV→List Nat
 | .agg [_,a,_]=>mB a
 |_=>[]
def frS:Spec:=λname vs=>match name,vs with
 |121,[x,y]=>some ([],λ_=>aK (aN (aM (val (mB x)*val (mB y)))))
 |129,[x,y]=>some ([],λ_=>aK (.int .i64 (fA (val (mB x)) (val (mB y)))))
 |122,[x]=>some ([],λ_=>aK (.bool (decide (val (fr1 x)=0))))
 |_,_=>none
theorem CL(a b:List Nat):frS 121 [aN a,aN b]=some ([],λ_=>aK (aN (aM (val a*val b)))):=by
 show some _=_;rw[fP,fP]
theorem aST(a b:List Nat):frS 129 [aN a,aN b]=some ([],λ_=>aK (.int .i64 (fA (val a) (val b)))):=by
 show some _=_;rw[fP,fP]
theorem nt(neg:Bool)(a b:List Nat):frS 122 [.agg (fR neg a b)]=some ([],λ_=>aK (.bool (decide (val a=0)))):=by
 show some _=_;rw[fr1,fP]
theorem aKN(a b:Nat):IntKind.i64.wrap (0-fA a b)=- fA a b:=by
 unfold fA;split
 ·rfl
 ·split<;>rfl
theorem aSQ{C:Ctx}(L:PT C)(u p:Bool)(a1 b1 a2 b2:List Nat)(i:Lim a1)(w:Lim b1)(d:Lim a2)(x:Lim b2)
  (l:Z' a1≤35184372087808) (y:Z' b1≤35184372087808) (e:Z' a2≤35184372087808) (E:Z' b2≤35184372087808) :
  YU.wp C (aY aLL.res (cN (EE u (val a1) (val b1) p (val a2) (val b2)))) (PF.args [.agg (fR u a1 b1),.agg (fR p a2 b2)]) .nil:=by
 simp only[go_sem,YU,alZ,amA];refine aB (L.valid u a1 b1 i w l y) rfl ?_;unfold EE;cases O:dV (val a1) (val b1)with
 |false =>simp only[go_sem,a8P,Du,a8L];exact bE (.inr rfl) .nil (vs:=[.int .i64 0,.int .i64 1]) rfl a_ ⟨.refl _,rfl⟩
 |true=>
  obtain⟨Z,R,S⟩:=jQ.1 O;simp only[go_sem,a8I];refine aB (L.valid p a2 b2 d x e E) rfl ?_;cases Q:dV (val a2) (val b2)with
  |false =>simp only[go_sem,a8P,Du,a9S];exact bE (.inr rfl) .nil (vs:=[.int .i64 0,.int .i64 1]) rfl a_ ⟨.refl _,rfl⟩
  |true=>
   obtain⟨w1,U,V⟩:=jQ.1 Q;simp only[go_sem,a8I,baN];refine cP .nil frS a_ ?_;simp only[go_sem,amB];refine cR (CL a1 b2) (L.times a1 b2 i x l E Om Om) rfl a_ ?_;simp only[go_sem];refine cR (CL a2 b1) (L.times a2 b1 d w e y Om Om) rfl a_ ?_;simp only[go_sem];have X:=pT S U;have Y:=pT V R;have J:=L.cmp (aM (val a1*val b2)) (aM (val a2*val b1)) (bB _) (bB _) (by rw[bG];omega) (by rw[bG];omega);have K:=aST (aM (val a1*val b2)) (aM (val a2*val b1));rw[aZ,aZ]at J K;refine cR K J rfl a_ ?_;simp only[go_sem];refine cP .nil frS a_ ?_;have W:(!decide (val a1=0))=decide (val a1≠0):=by by_cases h:val a1=0<;>simp[h]
   have M:(!decide (val a2=0))=decide (val a2≠0):=by by_cases h:val a2=0<;>simp[h]
   have fin:∀(F:PF)(A B:Bool),F 6=some (.int .i64 (fA (val a1*val b2) (val a2*val b1)))→F 7=some (.bool A)→F 8=some (.bool B)→A=(u&&decide (val a1≠0))→B=(p&&decide (val a2≠0)) →
     aC.wp C (.seq (.block 0 (.seq (.region FY) (.cond (.tmp 42) (.seq (.region Dv) .ret) (.seq (.region OX) (.cond (.tmp 49) (.seq (.region Dw) .ret) (.seq (.region gj) (.cond (.tmp 51) (.seq (.region nn) .ret) .skip))))))) (.seq (.region np) .ret)) (aY aLL.res (cN (.tup [.int .i64 (tZ u (val a1) (val b1) p (val a2) (val b2)),.int .i64 0]))) F .nil:=by
    intro F A B f6 f7 H N hB;rw[tZ,←N,←hB];cases A<;>cases B
    ·simp only[go_sem,FY,OX,gj,np,f6,f7,H];exact bE (.inr rfl) .nil rfl a_ ⟨.refl _,rfl⟩
    ·simp only[go_sem,FY,OX,gj,nn,f6,f7,H];exact bE (.inr rfl) .nil rfl a_ ⟨.refl _,rfl⟩
    ·simp only[go_sem,FY,OX,Dw,f6,f7,H];exact bE (.inr rfl) .nil rfl a_ ⟨.refl _,rfl⟩
    ·simp only[go_sem,FY,Dv,f6,f7,H,aKN];exact bE (.inr rfl) .nil rfl a_ ⟨.refl _,rfl⟩
   simp only[aC.wp,go_sem]at fin;simp only[go_sem,amC];cases u with
   |false=>
    simp only[go_sem];cases p with
    |false =>simp only[go_sem];exact fin _ false false rfl rfl rfl rfl rfl
    |true =>simp only[go_sem];refine cR (nt true a2 b2) (L.zero true a2 b2 d e) rfl a_ ?_;simp only[go_sem,M];exact fin _ false (decide (val a2≠0)) rfl rfl rfl rfl (by rw[a8R])
   |true=>
    simp only[go_sem];refine cR (nt true a1 b1) (L.zero true a1 b1 i l) rfl a_ ?_;simp only[go_sem,W];cases p with
    |false =>simp only[go_sem];exact fin _ (decide (val a1≠0)) false rfl rfl rfl (by rw[a8R]) rfl
    |true =>simp only[go_sem];refine cR (nt true a2 b2) (L.zero true a2 b2 d e) rfl a_ ?_;simp only[go_sem,M];exact fin _ (decide (val a1≠0)) (decide (val a2≠0)) rfl rfl rfl (by rw[a8R]) (by rw[a8R])
abbrev FV:=Bool × Nat × Nat
abbrev FR:=Except Int FV
def lJ(neg:Bool)(a b:Nat):FR:=
 if dJ (a/a8B a b)>4096∨dJ (b/a8B a b)>4096 then .error 2 else .ok (neg&&decide (a/a8B a b≠0),a/a8B a b,b/a8B a b)
def frV:FR→PV
 | .ok (n,a,b)=>ayA n a b
 | .error e=>JE e
theorem Ea(neg:Bool)(a b:Nat):LZ neg a b=frV (lJ neg a b):=by
 unfold LZ lJ;split<;>rfl
def kI:FV→FV→FR
 |(d,a1,b1),(e,a2,b2)=>if dV a1 b1&&dV a2 b2 then
   (if d=e then lJ d (a1*b2+a2*b1) (b1*b2)else if a2*b1≤a1*b2 then lJ d (a1*b2-a2*b1) (b1*b2)else lJ e (a2*b1-a1*b2) (b1*b2))
  else .error 1
theorem Zy{a b m:Nat}(d:nl a≤m)(hb:nl b≤m):nl (a+b)≤m+1:=by
 rw[lS]at d hb ⊢;rw[baD];omega
theorem ge(a b:Nat):(fA a b≥0)↔b≤a:=by
 unfold fA;split
 ·constructor
  ·intro h;exact absurd h aV
  ·intro h;omega
 ·split
  ·constructor
   ·intro h;omega
   ·intro h;decide
  ·constructor
   ·intro h;omega
   ·intro h;decide
theorem AN(r:FR):∃d x y e,frV r=.tup [.agg (fR d x y),.int .i64 e]:=by
 rcases r with e|⟨n,a,b⟩
 ·exact⟨_,_,_,_,rfl⟩
 ·exact⟨_,_,_,_,rfl⟩
theorem aSP{C:Ctx}(L:PT C)(i p:Bool)(a1 b1 a2 b2:List Nat)(N:Lim a1)(E:Lim b1)(O:Lim a2)(J:Lim b2)
  (Q:Z' a1≤35184372087808) (K:Z' b1≤35184372087808) (R:Z' a2≤35184372087808) (M:Z' b2≤35184372087808) :
  YT.wp C (aY Ds.res (cN (frV (kI (i,val a1,val b1) (p,val a2,val b2))))) (PF.args [.agg (fR i a1 b1),.agg (fR p a2 b2)]) .nil:=by
 simp only[go_sem,YT,alQ];refine aR λo ho=>?_;simp only[go_sem,alR];refine aB (L.valid i a1 b1 N E Q K) rfl ?_;simp only[kI];cases hv:dV (val a1) (val b1)with
 |false =>simp only[go_sem,a8P,Dt,a8L];refine lC ?_;simp only[go_sem,Ds]
 |true=>
  obtain⟨v1,v2,v3⟩:=jQ.1 hv;simp only[go_sem,a8I];refine aB (L.valid p a2 b2 O J R M) rfl ?_;cases hw:dV (val a2) (val b2)with
  |false =>simp only[go_sem,a8P,Dt,a9S];refine lC ?_;simp only[go_sem,Ds]
  |true=>
   obtain⟨w1,w2,w3⟩:=jQ.1 hw;simp only[go_sem,a8I,baN];refine cP .nil frS a_ ?_;simp only[go_sem,alS];refine cR (CL a1 b2) (L.times a1 b2 N J Q M Om Om) rfl a_ ?_;simp only[go_sem];refine cR (CL a2 b1) (L.times a2 b1 O E R K Om Om) rfl a_ ?_;simp only[go_sem];refine cR (CL b1 b2) (L.times b1 b2 E J K M Om Om) rfl a_ ?_;simp only[go_sem];have m1:=pT v3 w2;have m2:=pT w3 v2;have m3:=pT v2 w2;have d0:val b1*val b2≠0:=Nat.mul_ne_zero v1 w1;generalize hA:val a1*val b2=A at *
   generalize hB:val a2*val b1=B at *
   generalize hD:val b1*val b2=D at *
   have fin:∀(F:PF)(H:PH)(r:FR),(∃d x y e,frV r=.tup [.agg (fR d x y),.int .i64 e]∧F 4=some (.ptr o 3 0 0)∧F 5=some (.int .i64 e)∧H o=some (.rows 3 [fR d x y]))→aY Ds.res (cN (frV r)) .ret F H:=by rintro F H r ⟨d,x,y,e,he,f4,f5,hH⟩;rw[he];exact bE (.inr rfl) .nil (vs:=[.agg (fR d x y),.int .i64 e]) (by simp only[go_sem,Ds,f4,f5,hH]) a_ ⟨.refl _,rfl⟩
   have V:(i==p)=decide (i=p):=by cases i<;>cases p<;>rfl
   have low:∀neg x,nl x≤257→aH C 120 [.bool neg,aN (aM x),aN (aM D)] .nil (aK (frV (lJ neg x D))):=by
    intro neg x hx;have W:(aM x).length≤35184372087808:=by rw[bG];omega
    have Z:(aM D).length≤35184372087808:=by rw[bG];omega
    have:=L.lowest neg (aM x) (aM D) (bB _) (bB _) W Z;rw[aZ,aZ,Ea]at this;exact this Om Om d0
   have lA:(aM A).length≤35184372087808:=by rw[bG];omega
   have lB:(aM B).length≤35184372087808:=by rw[bG];omega
   simp only[go_sem,alT];by_cases c:i=p
   ·rw[aG c];have S:(i==p)=true:=by rw[V,bN c]
    simp only[go_sem,S,alU];have u:=L.add (aM A) (aM B) (bB _) (bB _) lA lB;have α:=Zy m1 m2;rw[aZ,aZ,kZ Om Om,opV,IH Om]at u;refine aB u rfl ?_;simp only[go_sem,alV];refine aB (low i _ Om) rfl ?_;obtain⟨d,x,y,e,l⟩:=AN (lJ i (A+B) D);rw[l];simp only[go_sem];rw[←l];exact fin _ _ _ ⟨d,x,y,e,l,by simp only[go_sem],by simp only[go_sem],by simp only[go_sem]⟩
   ·rw[aD c];have S:(i==p)=false:=by rw[V,cB c]
    simp only[go_sem,S,alW];have hc:=L.cmp (aM A) (aM B) (bB _) (bB _) lA lB;rw[aZ,aZ]at hc;refine aB hc rfl ?_;have w:∀X Y:Nat,nl X≤256→nl Y≤256→Y≤X→aH C 134 [aN (aM X),aN (aM Y)] .nil (aK (.tup [aN (aM (X-Y)),.int .i64 0])):=by intro X Y W Z h;have:=L.sub (aM X) (aM Y) (bB _) (bB _) (by rw[bG];omega) (by rw[bG];omega);have h3:=jS (Om:X-Y≤X);rw[aZ,aZ,xK,kZ Om Om,aD aV,aD Om,IH Om]at this;exact this
    by_cases g:B≤A
    ·have U:fA A B≥0:=(ge A B).2 g;rw[aG g];simp only[go_sem,U,alX];refine aB (w A B Om Om g) rfl ?_;simp only[go_sem,alY];have h3:=jS (Om:A-B≤A);refine aB (low i (A-B) Om) rfl ?_;obtain⟨d,x,y,e,l⟩:=AN (lJ i (A-B) D);rw[l];simp only[go_sem];rw[←l];exact fin _ _ _ ⟨d,x,y,e,l,by simp only[go_sem],by simp only[go_sem],by simp only[go_sem]⟩
    ·have U:¬fA A B≥0:=λh=>g ((ge A B).1 h);rw[aD g];simp only[go_sem,U,Th];refine aB (w B A Om Om Om) rfl ?_;simp only[go_sem,Ti];have h3:=jS (Om:B-A≤B);refine aB (low p (B-A) Om) rfl ?_;obtain⟨d,x,y,e,l⟩:=AN (lJ p (B-A) D);rw[l];simp only[go_sem];rw[←l];exact fin _ _ _ ⟨d,x,y,e,l,by simp only[go_sem],by simp only[go_sem],by simp only[go_sem]⟩
structure RF where
 neg:Bool
 num:List Nat
 den:List Nat
abbrev RF.cells(x:RF):List PV:=fR x.neg x.num x.den
def RF.Ok(x:RF):Prop:=Lim x.num∧Lim x.den∧Z' x.num≤35184372087808∧Z' x.den≤35184372087808
def RF.v(x:RF):FV:=(x.neg,val x.num,val x.den)
abbrev frs(l:List RF):PV:=.sl 3 (l.map RF.cells)
def FV.rf:FV→RF
 |(n,a,b)=>⟨n,aM a,aM b⟩
def FV.Small:FV→Prop
 |(_,a,b)=>nl a≤900000∧nl b≤900000
theorem FV.aXT(x:FV):x.rf.v=x:=by
 obtain⟨n,a,b⟩:=x;show(n,val (aM a),val (aM b))=_;rw[aZ,aZ]
def rO(l:List FV):FR:=l.foldlM kI (false,0,1)
theorem zA{neg:Bool}{a b:Nat}{r:FV}(h:lJ neg a b=.ok r):r.Small∧r.rf.Ok:=by
 unfold lJ at h;split at h
 ·cases h
 ·rename_i i;have d:=(qA (a/a8B a b) 128).1 Om;have e:=(qA (b/a8B a b) 128).1 Om;injection h with h
  subst h;refine⟨⟨by omega,by omega⟩,bB _,bB _,?_,?_⟩
  ·show(aM _).length≤_;rw[bG];omega
  ·show(aM _).length≤_;rw[bG];omega
theorem Dl{x y r:FV}(h:kI x y=.ok r):r.rf.Ok:=by
 obtain⟨d,a1,b1⟩:=x;obtain⟨e,a2,b2⟩:=y;simp only[kI]at h;split at h
 ·split at h
  ·exact(zA h).2
  ·split at h
   ·exact(zA h).2
   ·exact(zA h).2
 ·cases h
theorem jd{α β:Type}{f:β→α→Except Int β}(l:List α)(b:β){k:Nat}(h:k<Z' l):(l.take (k+1)).foldlM f b=((l.take k).foldlM f b).bind λx=>f x l[k]:=by
 rw[baC h,List.foldlM_append];cases(l.take k).foldlM f b with
 |error e=>rfl
 |ok x =>show([l[k]]:List α).foldlM f x=f x l[k];rw[List.foldlM_cons];cases f x l[k]<;>rfl
theorem wr{α β:Type}{f:β→α→Except Int β}(l:List α)(b:β){k:Nat}{e:Int}(h:(l.take k).foldlM f b=.error e):l.foldlM f b=.error e:=by
 conv=>lhs;rw[←bbC k l,List.foldlM_append,h]
 rfl
def aPH(l:List RF)(o2 o4:Nat)(k:Nat):PF:=((((((PF.nil.set 2 (.ptr o2 3 0 0)).set 3 (.int .i64 0)).set 4 (.ptr o4 3 0 0)).set 11 (frs l)).set 12 (.int .i64 (Z' l:Nat))).set 13 (.int .i64 k))
def se(o2 o4:Nat)(c:List PV):PH:=(PH.nil.set o2 (.rows 3 [[.bool false,.aF,.aF]])).set o4 (.rows 3 [c])
theorem aSW{C:Ctx}(L:PT C)(R:∀x y:RF,x.Ok→y.Ok→aH C 113 [.agg x.cells,.agg y.cells] .nil (aK (frV (kI x.v y.v))))(l:List RF)(hl:∀x∈l,x.Ok)(Z:Z' l≤9223372036854775807) :
  YY.wp C (aY T0.res (cN (frV (rO (l.map RF.v))))) (PF.args [frs l]) .nil:=by
 simp only[go_sem,YY,amE];refine aR λo2 β=>?_;simp only[go_sem,amF];refine aB (L.make 1 aV) rfl ?_;simp only[go_sem];refine aR λo4 S=>?_;have p:o4≠o2:=by rintro rfl;simp only[aS,if_true]at S;cases S
 have d:o2≠o4:=Ne.symm p;simp only[go_sem,amG];refine wp_loop (α:=Nat × FV × PV) (λt=>aPH l o2 o4 t.1) (λt=>se o2 o4 [.bool t.2.1.1,t.2.2,aN (aM t.2.1.2.2)]) (λt=>t.1≤Z' l∧((l.map RF.v).take t.1).foldlM kI (false,0,1)=.ok t.2.1∧(t.2.2=.aF∧t.2.1.2.1=0∨t.2.2=aN (aM t.2.1.2.1))∧(FV.rf t.2.1).Ok) (λt=>Z' l-t.1)
  (0,(false,0,1),.aF) ⟨a8H _,rfl,.inl ⟨rfl,rfl⟩,⟨bB _,bB _,?_,?_⟩⟩ ?_ ?_ ?_
 ·show(aM 0).length≤_;rw[jO];simp
 ·show(aM 1).length≤_;rw[sV aV aV];simp
 ·unfold aPH
  (repeat' (first|exact d_|refine c_ ?_ ?_))<;>first|(simp only[go_sem,a7Z]<;>rfl)|rfl
 ·unfold se;exact e_ (e_ a_ (by simp only[go_sem,d,p])) (by simp only[go_sem,d,p])
 rintro⟨k,⟨Q,U,O⟩,Y⟩ ⟨hk,W,N,J⟩;simp only at hk W N J ⊢;have K:CoL [.bool Q,Y,aN (aM O)] (FV.rf (Q,U,O)).cells:=by
  refine .cons (.refl _) (.cons ?_ (.cons (.refl _) .nil));rcases N with⟨rfl,rfl⟩|rfl
  ·show Co .aF (aN (aM 0));rw[jO];exact .nil 1
  ·exact .refl _
 simp only[go_sem,T1,amH,aPH];by_cases hlt:k<Z' l
 ·have A:(k:Int)<(Z' l:Nat):=Om;have hr:(l.map RF.cells)[k]?=some (l[k]).cells:=by simp[hlt]
  simp only[go_sem,A,amI,hr];refine aR λo6 F=>?_;have B:o4≠o6:=by rintro rfl;simp only[se,aS,if_true]at F;cases F
  have w:o2≠o6:=by rintro rfl;simp only[se,aS,if_true,aD d]at F;cases F
  simp only[go_sem,amJ,se,B,w,p,d];refine aB ((R (FV.rf (Q,U,O)) l[k] J (hl _ (a8G hlt))).args (.cons (CoL.agg K) (.cons (.refl _) .nil))) rfl ?_;rw[FV.aXT];have i:=jd (f:=kI) (l.map RF.v) (false,0,1) (k:=k) (by simpa using hlt);rw[W]at i;simp only[Except.bind,a9Q]at i;cases V:kI (Q,U,O) (l[k]).v with
  |error e=>
   simp only[go_sem,frV];refine aR λo7 u=>?_;have X:e≠0:=by
    revert V;obtain⟨n2,a2,b2⟩:=(l[k]).v;simp only[kI,lJ]
    repeat' split
    all_goals (intro h;first|(injection h with h;subst h;decide)|cases h)
   have E:o2≠o7:=by rintro rfl;simp only[aS,w,d,if_true,if_false]at u;cases u
   simp only[go_sem,Dy,eC X,amK,E,w,d];rw[V]at i;rw[rO,wr _ _ i];refine lC ?_;simp only[go_sem,T0]
  |ok r=>
   obtain⟨rn,ra,rb⟩:=r;simp only[go_sem,frV];refine aR λo7 u=>?_;have H:o4≠o7:=by rintro rfl;simp only[aS,B,if_true,if_false]at u;cases u
   have E:o2≠o7:=by rintro rfl;simp only[aS,w,d,if_true,if_false]at u;cases u
   simp only[go_sem,Dy,amL,H,E,B,w,p,d,Ne.symm H,amM,wZz k];rw[V]at i;refine aJ (k+1,(rn,ra,rb),aN (aM ra)) ⟨hlt,i,.inr rfl,Dl V⟩ (by simp only;omega) ?_ ?_
   ·exact Lq
   ·refine e_ (e_ a_ ?_) ?_
    ·simp only[go_sem,d,p,H,E,B,w]
    ·simp only[go_sem,d,p,H,E,B,w]
 ·have A:¬(k:Int)<(Z' l:Nat):=Om;have:k=Z' l:=Om;subst this;rw[a8T bD]at W;rw[rO,W];have M:cN (frV (.ok (Q,U,O))) (bR [.agg [.bool Q,Y,aN (aM O)],.int .i64 0]) .nil:=⟨CoL.tup (.cons (CoL.agg K) (.cons (.refl _) .nil)),rfl⟩;rcases N with⟨rfl,rfl⟩|rfl
  ·simp only[go_sem,A,nv,se,p,d];refine bE (.inr rfl) .nil ?_ a_ M;simp only[go_sem,T0,p,d]
  ·simp only[go_sem,A,nv,se,p,d];refine bE (.inr rfl) .nil ?_ a_ M;simp only[go_sem,T0,p,d]
def ZM:=bU [] Proofs.Tryz.f179
def uW:=aA ZM 0
def uX:=aA ZM 1
def pR:aC:=(sq uW (sq uX .ret))
def gw:bC:=⟨1,17,pR,[.tmp 2]⟩
def ji:=bU [] Proofs.Tryz.f208
def JO:=aA ji 0
def JP:=aA ji 1
def wH:aC:=(sq JO (sq JP .ret))
def xq:bC:=⟨1,9,wH,[.tmp 2]⟩
def jn:=bU [] Proofs.Tryz.f180
def I1:=aA jn 0
def I2:=aA jn 1
def LY:aC:=(sq I1 (sq I2 .ret))
def xr:bC:=⟨1,17,LY,[.tmp 2]⟩
def oW:=bU [] Proofs.Tryz.f151
def SD:=aA oW 0
def SE:=aA oW 1
def SF:=aA oW 2
def Xw:=aA oW 3
def Xx:=aA oW 4
def Xy:=aA oW 5
def Xz:=aA oW 6
def X0:=aA oW 7
def Xv:aC:=(dY Xx 20 0 X0 (sq Xy (.cond (Tm 27) (sq Xz .ret) .skip)))
def X1:=aA oW 8
def yZ:aC:=(sq SD (dM SE 16 SF (.seq (cJ Xw 0 Xv) (sq X1 .ret))))
def Qp:bC:=⟨1,28,yZ,[.tmp 2]⟩
def Vd:=bU [] Proofs.Tryz.f104
def xe:=aA Vd 0
def xf:=aA Vd 1
def HJ:aC:=(sq xe (sq xf .ret))
def gin:bC:=⟨3,15,HJ,[.tmp 6]⟩
def je:=bU [1] Proofs.Tryz.f145
def Ii:=aA je 0
def Ij:=aA je 1
def LQ:aC:=(sq Ii (sq Ij .ret))
def T7:bC:=⟨1,7,LQ,[.tmp 2]⟩
def ZD:=bU [1] Proofs.Tryz.f144
def anB:=aA ZD 0
def anC:=aA ZD 1
def gn:=aA ZD 2
def ZC:aC:=(sq anB (sq anC (sq gn .ret)))
def aLW:bC:=⟨1,29,ZC,[.tmp 2]⟩
def JL:=bU [1] Proofs.Tryz.f178
def anG:=aA JL 0
def anH:=aA JL 1
def anI:=aA JL 2
def D1:=aA JL 3
def ZF:aC:=(sq anG (sq anH (sq anI (sq D1 .ret))))
def gone:bC:=⟨1,23,ZF,[.tmp 2]⟩
def qL:=bU [] Proofs.Tryz.f146
def Ui:=aA qL 0
def Uj:=aA qL 1
def Uk:=aA qL 2
def Ul:=aA qL 3
def Um:=aA qL 4
def Un:=aA qL 5
def Uo:=aA qL 6
def Uh:aC:=(eW Uk 10 0 Uo (sq Ul (sq Um (.cond (Tm 16) (sq Un .ret) .skip))))
def Uq:=aA qL 7
def RG:aC:=(sq Ui (.seq (cJ Uj 0 Uh) (sq Uq .ret)))
def ayF:bC:=⟨2,18,RG,[.tmp 4]⟩
def qM:=bU [] Proofs.Tryz.f175
def Us:=aA qM 0
def Ut:=aA qM 1
def Uu:=aA qM 2
def Uv:=aA qM 3
def Uw:=aA qM 4
def Ux:=aA qM 5
def Uy:=aA qM 6
def Ur:aC:=(eW Uu 10 0 Uy (sq Uv (sq Uw (.cond (Tm 16) (sq Ux .ret) .skip))))
def Uz:=aA qM 7
def RH:aC:=(sq Us (.seq (cJ Ut 0 Ur) (sq Uz .ret)))
def ayG:bC:=⟨2,18,RH,[.tmp 4]⟩
def qK:=bU [] Proofs.Tryz.f173
def T9:=aA qK 0
def Ua:=aA qK 1
def Ub:=aA qK 2
def Uc:=aA qK 3
def Ud:=aA qK 4
def Ue:=aA qK 5
def Uf:=aA qK 6
def T8:aC:=(eW Ub 10 0 Uf (sq Uc (sq Ud (.cond (Tm 16) (sq Ue .ret) .skip))))
def Ug:=aA qK 7
def RE:aC:=(sq T9 (.seq (cJ Ua 0 T8) (sq Ug .ret)))
def ayE:bC:=⟨2,18,RE,[.tmp 4]⟩
def jf:=bU [] Proofs.Tryz.f174
def Ik:=aA jf 0
def Il:=aA jf 1
def LS:aC:=(sq Ik (sq Il .ret))
def U4:bC:=⟨1,4,LS,[.tmp 2]⟩
def jB:=bU [1] Proofs.Tryz.f148
def U5:=aA jB 0
def U6:=aA jB 1
def U7:=aA jB 2
def U8:=aA jB 3
def U9:=aA jB 4
def nw:=aA jB 5
def Va:=aA jB 6
def ny:=aA jB 7
def nz:=aA jB 8
def Vb:=aA jB 9
def In:=aA jB 10
def YZ:=aA jB 11
def JJ:=aA jB 12
def JH:aC:=(eW Vb 45 4 JJ (sq In (.region YZ)))
def ZA:=aA jB 13
def JI:aC:=(eW nw 21 2 ZA (sq Va (sq ny (cJ nz 4 JH))))
def Io:=aA jB 14
def Im:aC:=(dY U8 15 0 Io (cJ U9 2 JI))
def Ip:=aA jB 15
def RI:aC:=(sq U5 (sq U6 (.seq (cJ U7 0 Im) (sq Ip .ret))))
def ayK:bC:=⟨1,70,RI,[.tmp 2]⟩
def kO:=bU [1] Proofs.Tryz.f106
def amT:=aA kO 0
def amU:=aA kO 1
def amV:=aA kO 2
def GC:=aA kO 3
def amW:=aA kO 4
def amX:=aA kO 5
def amY:=aA kO 6
def amZ:=aA kO 7
def gm:=aA kO 8
def anA:=aA kO 9
def Ve:aC:=(eW amX 48 0 anA (sq amY (sq amZ (.cond (Tm 67) (sq gm .ret) .skip))))
def n0:=aA kO 10
def RJ:=aA kO 11
def RK:=aA kO 12
def AS:=aA kO 13
def ZB:aC:=(sq amT (sq amU (dM amV 43 GC (.seq (cJ amW 0 Ve) (sq n0 (sq RJ (sq RK (sq AS .ret))))))))
def aLV:bC:=⟨1,95,ZB,[.tmp 2]⟩
def nA:=bU [] Proofs.Tryz.f108
def Vt:=aA nA 0
def Vu:=aA nA 1
def Vv:=aA nA 2
def Vw:=aA nA 3
def Vx:=aA nA 4
def Vy:=aA nA 5
def oa:=aA nA 6
def Vz:=aA nA 7
def V0:=aA nA 8
def Vs:aC:=(eW Vw 10 0 V0 (sq Vx (dM Vy 20 oa (.region Vz))))
def Is:=aA nA 9
def RP:aC:=(sq Vt (sq Vu (.seq (cJ Vv 0 Vs) (sq Is .ret))))
def ayP:bC:=⟨1,24,RP,[.tmp 2]⟩
def lN:=bU [1] Proofs.Tryz.f105
def Dz:=aA lN 0
def D0:=aA lN 1
def amN:=aA lN 2
def amO:=aA lN 3
def GB:=aA lN 4
def AR:=aA lN 5
def amP:=aA lN 6
def amQ:=aA lN 7
def amR:=aA lN 8
def amS:=dB lN 0
def AQ:=aA lN 9
def U2:=aA lN 10
def U1:aC:=(eW amQ 48 0 U2 (sq amR (dq amS (.cond (Tm 87) (sq AQ .ret) .skip))))
def U3:=aA lN 11
def JG:aC:=(sq Dz (dM D0 9 amN (sq amO (dM GB 42 AR (.seq (cJ amP 0 U1) (sq U3 .ret))))))
def ayI:bC:=⟨1,89,JG,[.tmp 2]⟩
def xg:=bU [] Proofs.Tryz.f176
def Vf:=aA xg 0
def Vg:=aA xg 1
def RL:aC:=(sq Vf (sq Vg .ret))
def ayL:bC:=⟨1,5,RL,[.tmp 2]⟩
def JK:=bU [7] Proofs.Tryz.f149
def anD:=aA JK 0
def anE:=aA JK 1
def GD:=aA JK 2
def anF:=aA JK 3
def ZE:aC:=(sq anD (dM anE 36 GD (sq anF .ret)))
def aLX:bC:=⟨4,39,ZE,[.tmp 8]⟩
def jg:=bU [1] Proofs.Tryz.f177
def Iq:=aA jg 0
def Ir:=aA jg 1
def LW:aC:=(sq Iq (sq Ir .ret))
def Vk:bC:=⟨1,9,LW,[.tmp 2]⟩
def xh:=bU [6,7] Proofs.Tryz.f150
def Vl:=aA xh 0
def Vm:=aA xh 1
def RM:aC:=(sq Vl (sq Vm .ret))
def ayM:bC:=⟨4,30,RM,[.tmp 8]⟩
def mR:=bU [2] Proofs.Tryz.f107
def anJ:=aA mR 0
def anK:=aA mR 1
def gp:=aA mR 2
def anL:=aA mR 3
def anM:=aA mR 4
def anN:=aA mR 5
def anO:=aA mR 6
def anP:=aA mR 7
def D2:=aA mR 8
def anQ:=aA mR 9
def Vi:=aA mR 10
def Vh:aC:=(eW anN 42 0 Vi (sq anO (dM anP 55 D2 (.region anQ))))
def Vj:=aA mR 11
def ZG:aC:=(sq anJ (dM anK 35 gp (sq anL (.seq (cJ anM 0 Vh) (sq Vj .ret)))))
def aLZ:bC:=⟨2,60,ZG,[.tmp 4]⟩
def cV:=bU [1,76,94,128,141,183,204] Proofs.Tryz.f59
def anR:=aA cV 0
def anS:=aA cV 1
def uT:=aA cV 2
def anT:=aA cV 3
def anU:=aA cV 4
def D3:=aA cV 5
def anV:=aA cV 6
def anW:=aA cV 7
def anX:=aA cV 8
def D4:=aA cV 9
def oc:=aA cV 10
def RQ:aC:=(eW anV 70 0 oc (sq anW (sq anX (.region D4))))
def oe:=aA cV 11
def V1:=aA cV 12
def V2:=aA cV 13
def V3:=aA cV 14
def og:=aA cV 15
def HM:=aA cV 16
def RR:aC:=(eW V1 88 2 HM (sq V2 (sq V3 (.region og))))
def oi:=aA cV 17
def V4:=aA cV 18
def V5:=aA cV 19
def V6:=aA cV 20
def V7:=aA cV 21
def RS:aC:=(eW V4 122 4 V7 (sq V5 (.region V6)))
def oj:=aA cV 22
def V8:=aA cV 23
def V9:=aA cV 24
def Wa:=aA cV 25
def oo:=aA cV 26
def AU:=aA cV 27
def RT:aC:=(eW V8 135 6 AU (sq V9 (sq Wa (.region oo))))
def oq:=aA cV 28
def Wb:=aA cV 29
def Wc:=aA cV 30
def Wd:=aA cV 31
def ot:=aA cV 32
def ou:=aA cV 33
def RU:aC:=(eW Wb 177 8 ou (sq Wc (sq Wd (.region ot))))
def ov:=aA cV 34
def We:=aA cV 35
def Wf:=aA cV 36
def Wg:=aA cV 37
def ow:=aA cV 38
def oz:=aA cV 39
def RV:aC:=(eW We 198 10 oz (sq Wf (sq Wg (.region ow))))
def HN:=aA cV 40
def sD:=aA cV 41
def RW:=aA cV 42
def ZH:aC:=(sq anR (dM anS 65 uT (sq anT (sq anU (.seq (cJ D3 0 RQ) (.seq (cJ oe 2 RR) (.seq (cJ oi 4 RS) (.seq (cJ oj 6 RT) (.seq (cJ oq 8 RU) (.seq (cJ ov 10 RV) (dM HN 243 sD (sq RW .ret))))))))))))
def aMF:bC:=⟨1,244,ZH,[.tmp 2]⟩
@[go_sem] theorem aZX(a b:List UInt8):OP .eql a b=some (.bool (a==b)):=(rfl)
@[go_sem] theorem aZY(a b:List UInt8):OP .neq a b=some (.bool !(a==b)):=(rfl)
@[go_sem] theorem avQ(a b:List UInt8):OP .add a b=if((Z' a+Z' b:Nat):Int)>9223372036854775807 then none else some (.str (a++b)):=(rfl)
@[go_sem] theorem aWF:(([]:List UInt8)==[])=true:=(rfl)
@[go_sem] theorem aSA(c:UInt8)(t:List UInt8):((c::t)==[])=false:=(rfl)
theorem uQ{a b:List UInt8}(h:a=b):(a==b)=true:=by simp[h]
theorem ug{a b:List UInt8}(h:a≠b):(a==b)=false:=by simp[h]
section
variable {C:Ctx} {F:PF} {H:PH}
theorem wM{name o s:Nat}{rs:List (List PV)}{vs:List PV}{v:PV}{args:List aQ}{d:Option Nat}{K:PF→PH→Prop}(h:aH C name vs .nil (aK v))(l:H o=some (.rows s rs))
  (i:aQ.evs (F.frz o s rs) args=some vs) (e:K ((F.frz o s rs).put d v) (H.frz o s rs)):kY C name args [] d K F H:=by
 refine .inr ⟨_,_,.step o l (.refl _ _),vs,.nil,aK v,?_,a_,h,?_⟩
 ·rw[i];simp
 ·rintro r H' ⟨rfl,rfl⟩ -;rw[PH.HU];exact e
theorem kC.trans{d e i:PF}{l H2 p:PH}(h:kC d l e H2)(k:kC e H2 i p):kC d l i p:=by
 induction h with
 |refl=>exact k
 |step o u h w=>exact .step o u (w k)
theorem vP{c:aC}{K:cD}{s:Nat}{v:PV}{rows:List (List PV)}(M:bJ H s v rows)
  (h:∀e,Seen s e rows→∀d l,(∀t,F t=some v→d t=some e)→(∀i u,F i=some u→Pure u→d i=some u)→aC.wp C (.loop c) K d l):aC.wp C (.loop c) K F H:=by
 obtain⟨e,N,J⟩:=M.frz;obtain⟨d,l,O,B,E⟩:=J F;obtain⟨α,x,Hs,y,m,A,w,H2,p,rest⟩:=h e N d l B E;exact⟨α,x,Hs,y,m,A,w,H2,O.trans p,rest⟩
theorem aH.aBE{name s:Nat}{v:PV}{rows:List (List PV)}{d:PH}{R:PV→PH→Prop}(h:aH C name [.sl s rows] d R)(i:Seen s v rows):aH C name [v] d R:=by
 rcases i with⟨rfl,rfl⟩|rfl
 ·refine h.args ⟨rfl,λj p q hp e=>?_⟩;cases j with
  |zero=>simp at hp e;subst hp;subst e;exact .nil s
  |succ j=>simp at hp
 ·exact h
theorem bJ.fresh{s:Nat}{v:PV}{rows:List (List PV)}{o:Nat}(h:bJ H s v rows)(p:H o=none)(x:aU):bJ (H.set o x) s v rows∧∀l,v≠.osl o s 0 l:=by
 refine⟨h.ext λq y i=>?_,λl e=>?_⟩
 ·have:q≠o:=by rintro rfl;rw[p]at i;cases i
  simp only[aS,aD this,i]
 ·rcases h with⟨_,d⟩|⟨q,rs,h1,d,_⟩
  ·rw[d]at e;cases e
  ·rw[h1]at e;injection e with u
   subst u;rw[p]at d;cases d
theorem rC{s b:Nat}{v:PV}{rows:List (List PV)}{r:List PV}{o:Nat}{x:aU}{K:PV→PH→Prop}(h:bJ H s v rows)(p:H o=none)(u:roomFor rows.length 1 b)
  (l:∀v' H',bJ H' s v' (rows++[r])→H' o=some x→K v' H'):oP (H.set o x) s b v (.sl s [r]) K:=by
 obtain⟨d,e⟩:=h.fresh p x;refine jD (src:=[r]) d (by simp[dW]) u λv' H' i hp=>l v' H' i (hp o x (by simp only[aS,if_true]) e)
theorem AP{o s k:Nat}{rs:List (List PV)}(d:k≤Z' rs):PV.frz o s rs (.osl o s 0 k)=.sl s (rs.take k):=by
 have:0+k≤Z' rs:=Om;simp only[PV.frz,PV.sC,PV.dZ,if_true,true_and,aG this,a9L]
end
def gR(n:Nat):Bool:=decide (97≤n)&&decide (n≤122)||decide (65≤n)&&decide (n≤90)
def qF(n:Nat):Bool:=decide (48≤n)&&decide (n≤57)
def jK(n:Nat):Bool:=gR n||qF n||decide (n=45)||decide (n=46)
theorem azJ{C:Ctx}(n:Nat):pR.wp C (aY gw.res (aK (.bool (gR n)))) (PF.args [.int .u8 n]) .nil:=by
 have fin:∀(F:PF)(b:Bool),F 2=some (.bool b)→b=gR n→aY gw.res (aK (.bool (gR n))) .ret F .nil:=by intro F b h e;subst e;refine aX (.inr rfl) (vs:=[.bool (gR n)]) (by simp only[go_sem,gw,h]) rfl
 unfold gR at *
 by_cases a:97≤n
 ·have i:(n:Int)≥97:=Om;by_cases b:n≤122
  ·have p:(n:Int)≤122:=Om;simp only[go_sem,pR,uW,uX,i,p];exact fin _ _ rfl (by simp[a,b])
  ·have p:¬(n:Int)≤122:=Om;by_cases c:65≤n
   ·have l:(n:Int)≥65:=Om;have d:¬(n:Int)≤90:=Om;simp only[go_sem,pR,uW,uX,i,p,l,d];exact fin _ _ rfl (by simp[a,b,c];omega)
   ·omega
 ·have i:¬(n:Int)≥97:=Om;by_cases c:65≤n
  ·have l:(n:Int)≥65:=Om;by_cases d:n≤90
   ·have u:(n:Int)≤90:=Om;simp only[go_sem,pR,uW,uX,i,l,u];exact fin _ _ rfl (by simp[a,c,d])
   ·have u:¬(n:Int)≤90:=Om;simp only[go_sem,pR,uW,uX,i,l,u];exact fin _ _ rfl (by simp[a,c,d])
  ·have l:¬(n:Int)≥65:=Om;simp only[go_sem,pR,uW,uX,i,l];exact fin _ _ rfl (by simp[a,c])
theorem aFF{C:Ctx}(n:Nat):wH.wp C (aY xq.res (aK (.bool (qF n)))) (PF.args [.int .u8 n]) .nil:=by
 have fin:∀(F:PF)(b:Bool),F 2=some (.bool b)→b=qF n→aY xq.res (aK (.bool (qF n))) .ret F .nil:=by intro F b h e;subst e;refine aX (.inr rfl) (vs:=[.bool (qF n)]) (by simp only[go_sem,xq,h]) rfl
 unfold qF at *
 by_cases a:48≤n
 ·have d:(n:Int)≥48:=Om;by_cases b:n≤57
  ·have i:(n:Int)≤57:=Om;simp only[go_sem,wH,JO,JP,d,i];exact fin _ _ rfl (by simp[a,b])
  ·have i:¬(n:Int)≤57:=Om;simp only[go_sem,wH,JO,JP,d,i];exact fin _ _ rfl (by simp[a,b])
 ·have d:¬(n:Int)≥48:=Om;simp only[go_sem,wH,JO,JP,d];exact fin _ _ rfl (by simp[a])
theorem aFJ{C:Ctx}(p:∀n:Nat,aH C 126 [.int .u8 n] .nil (aK (.bool (gR n))))(u:∀n:Nat,aH C 124 [.int .u8 n] .nil (aK (.bool (qF n))))(n:Nat) :
  LY.wp C (aY xr.res (aK (.bool (jK n)))) (PF.args [.int .u8 n]) .nil:=by
 have fin:∀(F:PF)(b:Bool),F 2=some (.bool b)→b=jK n→aY xr.res (aK (.bool (jK n))) .ret F .nil:=by intro F b h e;subst e;refine aX (.inr rfl) (vs:=[.bool (jK n)]) (by simp only[go_sem,xr,h]) rfl
 simp only[go_sem,LY,I1,I2];refine aB (p n) rfl ?_;cases l:gR n with
 |true =>simp only[go_sem];exact fin _ _ rfl (by simp[jK,l])
 |false=>
  simp only[go_sem];refine aB (u n) rfl ?_;cases i:qF n with
  |true =>simp only[go_sem];exact fin _ _ rfl (by simp[jK,i])
  |false=>
   by_cases c:n=45
   ·simp only[go_sem,cC (Om:(n:Int)=45)];exact fin _ _ rfl (by simp[jK,c])
   ·by_cases d:n=46
    ·simp only[go_sem,bO (Om:(n:Int)≠45),cC (Om:(n:Int)=46)];exact fin _ _ rfl (by simp[jK,d])
    ·simp only[go_sem,bO (Om:(n:Int)≠45),bO (Om:(n:Int)≠46)];exact fin _ _ rfl (by simp[jK,c,d,l,i])
def isName(s:List UInt8):Bool:=match s with
 |[]=>false
 |c::_=>decide (Z' s≤16)&&gR c.toNat&&s.all λc=>jK c.toNat
theorem tM{α:Type}{p:α→Bool}{l:List α}{k:Nat}(d:k<Z' l)(h:(l.take k).all p=true)(hp:p l[k]=true):(l.take (k+1)).all p=true:=by
 rw[baC d,List.all_append,h];simp[hp]
theorem tN{α:Type}{p:α→Bool}{l:List α}{k:Nat}(d:k<Z' l)(hp:p l[k]=false):l.all p=false:=by
 rw[List.all_eq_false];exact⟨l[k],a8G d,by simp[hp]⟩
def Xu(s:List UInt8)(k:Nat):PF:=((PF.nil.set 0 (.str s)).set 3 (.int .i64 k))
theorem aNF{C:Ctx}(y:∀n:Nat,aH C 126 [.int .u8 n] .nil (aK (.bool (gR n))))(A:∀n:Nat,aH C 125 [.int .u8 n] .nil (aK (.bool (jK n))))(s:List UInt8) :
  yZ.wp C (aY Qp.res (aK (.bool (isName s)))) (PF.args [.str s]) .nil:=by
 have fin:∀(F:PF)(b:Bool),F 2=some (.bool b)→b=isName s→aY Qp.res (aK (.bool (isName s))) .ret F .nil:=by intro F b h e;subst e;refine aX (.inr rfl) (vs:=[.bool (isName s)]) (by simp only[go_sem,Qp,h]) rfl
 cases s with
 |nil =>simp only[go_sem,yZ,SD,SE,SF];exact fin _ _ rfl rfl
 |cons c t=>
  have E:(c::t)[0]?=some c:=rfl;have p:(c::t==[])=false:=rfl;have l:isName (c::t)=(decide ((c::t).length≤16)&&gR c.toNat&&(c::t).all λc=>jK c.toNat):=rfl;generalize c::t=s at *
  by_cases x:Z' s≤16
  ·have i:¬(Z' s:Int)>16:=Om;rw[bN x,a8R]at l;simp only[go_sem,yZ,SD,SE,p,i,E,a8X];refine aB (y c.toNat) rfl ?_;cases w:gR c.toNat with
   |false =>simp only[go_sem,a8P,SF];exact fin _ _ rfl (by rw[l,w];rfl)
   |true=>
    rw[w,a8R]at l;simp only[go_sem,a8I,Xw];refine wp_loop (α:=Nat) (λk=>Xu s k) (λ_=>.nil) (λk=>k≤Z' s∧(s.take k).all (λc=>jK c.toNat)=true) (λk=>Z' s-k) 0 ⟨a8H _,rfl⟩ ?_ a_ ?_
    ·unfold Xu;exact Lq
    rintro k ⟨H,u⟩;simp only[go_sem,Xv,Xx,Xu];by_cases hlt:k<Z' s
    ·have d:(k:Int)<(Z' s:Nat):=Om;have B:s[k]?=some s[k]:=a8N hlt;simp only[go_sem,d,Xy,B,a8X];refine aB (A (s[k]).toNat) rfl ?_;cases hi:jK (s[k]).toNat with
     |false =>simp only[go_sem,a8P,Xz];refine fin _ false rfl ?_;rw[l,tN hlt hi]
     |true =>simp only[go_sem,a8I,X0,wZz k];refine aJ (k+1) ⟨hlt,a8U.1 (tM hlt u hi)⟩ Om ?_ a_;exact Lq
    ·have d:¬(k:Int)<(Z' s:Nat):=Om;simp only[go_sem,d,X1];have:k=Z' s:=Om;subst this;rw[a8T (a8E _)]at u;exact fin _ true rfl (by rw[l,u])
  ·have i:(Z' s:Int)>16:=Om;simp only[go_sem,yZ,SD,SE,SF,p,i];exact fin _ _ rfl (by rw[l,cB x];rfl)
abbrev eH(x:Int):Prop:=-9223372036854775808≤x∧x≤9223372036854775807
structure cY where
 name:List UInt8
 start:List RF
 a6T:List (List RF)
 exit:List RF
structure dR where
 name:List UInt8
 a7E:Int
 port:Int
 law:Int
structure cX where
 name:List UInt8
 level:Int
 parent:Int
 a7I:Int
 a7D:RF
structure eO where
 name:List UInt8
 model:Int
 machine:Int
structure cL where
 name:List UInt8
 k:Int
 m:Int
 a7M:Int
 s0:Int
 s1:Int
 s2:Int
 s3:Int
 s4:Int
 a6P:List Int
 repair:List RF
 target:RF
 a6Y:RF
structure gQ where
 name:List UInt8
 a7A:Int
structure aE where
 a7S:Int
 a6V:List cY
 a6P:List dR
 a6R:List cX
 a6O:List eO
 a6S:List cL
 a6Q:List gQ
abbrev I(x:Int):PV:=.int .i64 x
abbrev aAZ(l:List (List RF)):PV:=.sl 1 (l.map λr=>[frs r])
abbrev cY.cells(x:cY):List PV:=[.str x.name,frs x.start,aAZ x.a6T,frs x.exit]
abbrev dR.cells(x:dR):List PV:=[.str x.name,.int .i64 x.a7E,.int .i64 x.port,.int .i64 x.law]
abbrev cX.cells(x:cX):List PV:=[.str x.name,.int .i64 x.level,.int .i64 x.parent,.int .i64 x.a7I,.bool x.a7D.neg,aN x.a7D.num,aN x.a7D.den]
abbrev eO.cells(x:eO):List PV:=[.str x.name,.int .i64 x.model,.int .i64 x.machine]
abbrev cL.cells(x:cL):List PV:=[.str x.name,.int .i64 x.k,.int .i64 x.m,.int .i64 x.a7M,.int .i64 x.s0,.int .i64 x.s1,.int .i64 x.s2,.int .i64 x.s3,.int .i64 x.s4,ints x.a6P,frs x.repair,
 .bool x.target.neg,aN x.target.num,aN x.target.den,.bool x.a6Y.neg,aN x.a6Y.num,aN x.a6Y.den]
abbrev gQ.cells(x:gQ):List PV:=[.str x.name,.int .i64 x.a7A]
abbrev aE.cells(f:aE):List PV:=[.int .i64 f.a7S,.sl 4 (f.a6V.map cY.cells),.sl 4 (f.a6P.map dR.cells),.sl 7 (f.a6R.map cX.cells),.sl 3 (f.a6O.map eO.cells),.sl 17 (f.a6S.map cL.cells),.sl 2 (f.a6Q.map gQ.cells)]
def cL.spread(p:cL)(level:Nat):Int:=match level with
 |0=>p.s0
 |1=>p.s1
 |2=>p.s2
 |3=>p.s3
 |_=>p.s4
abbrev Fits{α:Type}(l:List α):Prop:=Z' l≤9223372036854775807
structure mX(l:List RF):Prop where
 fits:Fits l
 all:∀x∈l,x.Ok
structure cY.Ok(x:cY):Prop where
 start:mX x.start
 exit:mX x.exit
 a6T:Fits x.a6T
 row:∀r∈x.a6T,mX r
structure cL.Ok(x:cL):Prop where
 k:eH x.k
 m:eH x.m
 a7M:eH x.a7M
 a6P:Fits x.a6P
 each:∀m∈x.a6P,eH m
 repair:mX x.repair
 target:x.target.Ok
 a6Y:x.a6Y.Ok
structure aE.Ok(f:aE):Prop where
 a6V:Fits f.a6V
 a6P:Fits f.a6P
 a6R:Fits f.a6R
 a6O:Fits f.a6O
 a6S:Fits f.a6S
 a6Q:Fits f.a6Q
 law:∀x∈f.a6V,x.Ok
 dom:∀x∈f.a6R,x.a7D.Ok∧eH x.level∧eH x.parent
 drive:∀x∈f.a6O,eH x.model∧eH x.machine
 a7A:∀x∈f.a6S,x.Ok
 volume:∀x∈f.a6Q,eH x.a7A
def sI(x:RF):FR:=if dV (val x.num) (val x.den)then lJ x.neg (val x.num) (val x.den)else .error 1
theorem aAT(x:RF):im x.neg (val x.num) (val x.den)=frV (sI x):=by
 unfold im sI;split
 ·exact Ea _ _ _
 ·rfl
def dT(x:RF):Bool:=match sI x with
 | .ok (n,a,b)=>!n&&(decide (dJ a≤32)&&decide (dJ b≤32))
 | .error _=>false
def bT(x:RF):Bool:=decide (val x.num≠0)
def DN(x:RF):Bool:=dV (val x.num) (val x.den)&&decide (tZ x.neg (val x.num) (val x.den) false 1 1≤0)
def within(n lo hi:Int):Bool:=decide (lo≤n)&&decide (n≤hi)
def dD(R:List Bool)(i:Nat)(row:List RF):Nat→List Bool
 |0=>R
 |k+1=>let d:=dD R i row k
  d.set i (d.getD i false||(row.map bT).getD k false&&d.getD k false)
def oL(l:cY)(R:List Bool)(i:Nat):List Bool:=
 dD (R.set i (R.getD i false||(l.exit.map bT).getD i false)) i (l.a6T.getD i []) (l.a6T.getD i []).length
def eD(l:cY)(R:List Bool):Nat→List Bool
 |0=>R
 |i+1=>oL l (eD l R i) i
def eE(l:cY):Nat→List Bool
 |0=>a8D l.exit.length false
 |r+1=>eD l (eE l r) l.exit.length
def tC(l:cY):Bool:=(eE l (Z' l.exit+1)).all id
def nT(l:cY):Bool:=
 within l.start.length 1 4&&decide (Z' l.exit=Z' l.start)&&decide (Z' l.a6T=Z' l.start)&&l.start.all dT&&l.exit.all dT
 && (a8A l.a6T.length).all (λi=>decide ((l.a6T.getD i []).length=Z' l.start)&&(l.a6T.getD i []).all dT&&!((l.a6T.getD i []).map bT).getD i false)
 && (match rO (l.start.map RF.v)with
  | .ok (n,a,b)=>decide (tZ n a b false 1 1=0)
  | .error _=>false)&&tC l
def distinct(l:List (List UInt8)):Bool:=(a8A l.length).all λi=>isName (l.getD i [])&&!(l.take i).contains (l.getD i [])
def QT(f:aE)(i:Nat)(d:cX):Bool:=
 within d.parent 0 i&&decide ((f.a6R.map cX.level).getD d.parent.toNat 0=IntKind.i64.wrap (d.level-1))&&within d.level 1 4&&within d.a7I 1 64&&dT d.a7D
def IZ(f:aE)(r:cX)(t:List cX):Bool:=
 decide (r.name=[])&&decide (r.level=0)&&decide (r.parent=-1)&&decide (r.a7I=0)&&dT r.a7D&&!bT r.a7D
  && (a8A t.length).all λi=>match t[i]? with
   |some d=>QT f i d
   |none=>false
def sA(f:aE):Bool:=match f.a6R with
 |[]=>false
 |r::t=>IZ f r t
def TN(p:cL):Bool:=
 within p.k 1 6&&within p.m 0 4&&decide (p.k+p.m≤8)&&within p.a7M p.k (p.k+p.m)&&decide (p.s0=0)&&([p.s0,p.s1,p.s2,p.s3,p.s4].all λn=>within n 0 8)
def JX(p:cL):Bool:=
 decide ((Z' p.repair:Int)=max p.m 1)&&(p.repair.all λx=>dT x&&bT x)&&dT p.target&&DN p.target&&dT p.a6Y
def mF(a6P:Nat)(p:cL):Bool:=
 TN p&&decide (Z' p.a6P≠0)&&JX p&&(a8A p.a6P.length).all λj=>within (p.a6P.getD j 0) 0 ((a6P:Int)-1)&&!(p.a6P.take j).contains (p.a6P.getD j 0)
def nY(f:aE)(m:dR):Bool:=within m.a7E 1 16&&within m.port 1 64&&within m.law 0 ((Z' f.a6V:Int)-1)
def lL(f:aE)(d:eO):Bool:=within d.model 0 ((Z' f.a6P:Int)-1)&&within d.machine 0 ((Z' f.a6R:Int)-1)&&decide ((f.a6R.map cX.level).getD d.machine.toNat 0=4)
def sM(f:aE)(v:gQ):Bool:=within v.a7A 0 ((Z' f.a6S:Int)-1)
def rM(f:aE):Bool:=within f.a7S 1 4&&decide (Z' f.a6V≤4)&&decide (Z' f.a6P≤4)&&decide (Z' f.a6R≤40)&&decide (Z' f.a6O≤24)&&decide (Z' f.a6S≤4)&&decide (Z' f.a6Q≤12)
def eP(f:aE):Bool:=
 rM f&&sA f&&(f.a6V.all nT&&f.a6P.all (nY f)&&f.a6O.all (lL f)&&f.a6S.all (mF f.a6P.length)&&f.a6Q.all (sM f))
 && (distinct (f.a6V.map cY.name)&&distinct (f.a6P.map dR.name)&&distinct ((f.a6R.drop 1).map cX.name++f.a6O.map eO.name)&&distinct (f.a6S.map cL.name)&&distinct (f.a6Q.map gQ.name))
theorem bK{t:Nat}{b d:Bool}{F:PF}{H:PH}(h:F t=some (.bool b))(e:b=d):aY [.tmp t] (cN (.bool d)) .ret F H:=by
 subst e;exact bE (.inr rfl) .nil (vs:=[.bool b]) (by rw[oM,rK,h,sY]) a_ ⟨.refl _,rfl⟩
theorem aWZ{C:Ctx}(n lo hi:Int):HJ.wp C (aY gin.res (cN (.bool (within n lo hi)))) (PF.args [.int .i64 n,.int .i64 lo,.int .i64 hi]) .nil:=by
 by_cases a:lo≤n
 ·by_cases b:n≤hi
  ·simp only[go_sem,HJ,xe,xf,gin,show n≥lo from a,b];exact bK Ev (by simp[within,a,b])
  ·simp only[go_sem,HJ,xe,xf,gin,show n≥lo from a,b];exact bK Ev (by simp[within,a,b])
 ·have d:¬n≥lo:=a;simp only[go_sem,HJ,xe,xf,gin,d];exact bK Ev (by simp[within,a])
theorem aEO{C:Ctx}(L:yM C)(x:RF)(d:x.Ok):LQ.wp C (aY T7.res (cN (.bool (bT x)))) (PF.args [.agg x.cells]) .nil:=by
 simp only[go_sem,LQ,Ii,Ij,T7];refine aB (L.bits x.num d.1 d.2.2.1) Ev ?_;simp only[go_sem];refine bK Ev ?_;have:=@nN (val x.num);rw[bT,decide_eq_decide];omega
structure tj(C:Ctx):Prop extends PT C where
 frac:∀n d:Int,eH n→eH d→aH C 115 [.int .i64 n,.int .i64 d] .nil (aK (gy n d))
 red:∀x:RF,x.Ok→aH C 116 [.agg x.cells] .nil (aK (frV (sI x)))
 ord:∀x y:RF,x.Ok→y.Ok→aH C 114 [.agg x.cells,.agg y.cells] .nil (aK (EE x.neg (val x.num) (val x.den) y.neg (val y.num) (val y.den)))
 plus:∀x y:RF,x.Ok→y.Ok→aH C 113 [.agg x.cells,.agg y.cells] .nil (aK (frV (kI x.v y.v)))
 tot:∀l:List RF,mX l→aH C 117 [frs l] .nil (aK (frV (rO (l.map RF.v))))
theorem SH{neg:Bool}{a b:Nat}{e:Int}(h:lJ neg a b=.error e):e=2:=by
 unfold lJ at h;split at h
 ·injection h with h;exact h.symm
 ·cases h
theorem abK{x:RF}{e:Int}(h:sI x=.error e):e≠0:=by
 unfold sI at h;split at h
 ·rw[SH h];decide
 ·injection h with h;subst h;decide
theorem aUT{x:RF}{r:FV}(h:sI x=.ok r):r.rf.Ok:=by
 unfold sI at h;split at h
 ·exact(zA h).2
 ·cases h
theorem aSZ{C:Ctx}(L:tj C)(x:RF)(u:x.Ok):ZC.wp C (aY aLW.res (cN (.bool (dT x)))) (PF.args [.agg x.cells]) .nil:=by
 simp only[go_sem,ZC,anB,anC,aLW];refine aB (L.red x u) Ev ?_;unfold dT;cases l:sI x with
 |error e =>have:=bO (abK l);simp only[go_sem,frV];refine aR λo p=>?_;simp only[go_sem,gn,this];exact bK Ev rfl
 |ok r=>
  obtain⟨n,a,b⟩:=r;obtain⟨w,y,A,B⟩:=aUT l;simp only[go_sem,frV];refine aR λo p=>?_;cases n with
  |true =>simp only[go_sem,gn];exact bK Ev rfl
  |false=>
   simp only[go_sem,gn];refine aB (L.bits _ w A) Ev ?_;rw[show val (FV.rf (false,a,b)).num=a from aZ a];by_cases i:dJ a≤32
   ·have d:((dJ a:Nat):Int)≤32:=Om;simp only[go_sem,d];refine aB (L.bits _ y B) Ev ?_;rw[show val (FV.rf (false,a,b)).den=b from aZ b];simp only[go_sem];refine bK Ev ?_;rw[bN i];simp;omega
   ·have d:¬((dJ a:Nat):Int)≤32:=Om;simp only[go_sem,d];refine bK Ev ?_;rw[cB i];rfl
theorem X5:lJ false 1 1=.ok (false,1,1):=by
 have:dJ 1=1:=by rw[tP aV,mN]
 simp[lJ,this]
theorem X8:gy 1 1=frV (.ok (false,1,1)):=by
 rw[gy,aD aV,Ea];show frV (lJ false 1 1)=_;rw[X5]
theorem aGR:(FV.rf (false,1,1)).Ok:=(zA X5).2
theorem On:dV 1 1=true:=by
 have:dJ 1=1:=by rw[tP aV,mN]
 simp[dV,this]
theorem aTB{C:Ctx}(L:tj C)(x:RF)(d:x.Ok):ZF.wp C (aY gone.res (cN (.bool (DN x)))) (PF.args [.agg x.cells]) .nil:=by
 simp only[go_sem,ZF,anG,anH,gone];refine aB (L.frac 1 1 aV aV) Ev ?_;rw[X8];simp only[go_sem,frV];refine aR λo e=>?_;simp only[go_sem,anI];refine aB (L.ord x (FV.rf (false,1,1)) d aGR) Ev ?_;rw[show val (FV.rf (false,1,1)).num=1 from aZ 1,show val (FV.rf (false,1,1)).den=1 from aZ 1,show(FV.rf (false,1,1)).neg=false from rfl];unfold EE DN;rw[On,baN];cases i:dV (val x.num) (val x.den)with
 |false =>simp only[go_sem,D1];exact bK Ev rfl
 |true =>simp only[go_sem,D1];exact bK Ev rfl
theorem aLR{C:Ctx}(p:RF→Bool)(fn:Nat)(l:List RF)(u:Fits l)(h:∀x∈l,aH C fn [.agg x.cells] .nil (aK (.bool (p x)))) :
  RG.wp C (aY ayF.res (cN (.bool (l.all p)))) (PF.args [frs l,.fn fn []]) .nil:=by
 simp only[go_sem,RG,Ui,Uj,ayF];refine wp_loop (α:=Nat) (λk=>((((PF.nil.set 1 (.fn fn [])).set 7 (frs l)).set 8 (.int .i64 (Z' l:Nat))).set 9 (.int .i64 k))) (λ_=>.nil) (λk=>k≤Z' l∧(l.take k).all p=true) (λk=>Z' l-k) 0 ⟨a8H _,rfl⟩ ?_ a_ ?_
 ·(repeat' (first|exact d_|refine c_ ?_ ?_))<;>first|(simp only[go_sem,a7Z]<;>rfl)|rfl
 rintro k ⟨w,e⟩;simp only[go_sem,Uh,Uk];by_cases hlt:k<Z' l
 ·have d:(k:Int)<(Z' l:Nat):=Om;have i:(l.map RF.cells)[k]?=some (l[k]).cells:=by simp[hlt]
  simp only[go_sem,d,Ul,i];refine aR λo y=>?_;simp only[go_sem,Um];refine aB (h _ (a8G hlt)) Ev ?_;cases hp:p l[k]with
  |false =>simp only[go_sem,Un];exact bK (b:=false) Ev (tN (p:=p) hlt hp).symm
  |true =>simp only[go_sem,Uo,wZz k];refine aJ (k+1) ⟨hlt,a8U.1 (tM hlt e hp)⟩ Om ?_ a_;exact Lq
 ·have d:¬(k:Int)<(Z' l:Nat):=Om;simp only[go_sem,d,Uq];have:k=Z' l:=Om;subst this;rw[a8T (a8E _)]at e;exact bK Ev e.symm
theorem aLS{C:Ctx}(p:Int→Bool)(fn:Nat)(l:List Int)(u:Fits l)(h:∀x∈l,aH C fn [.int .i64 x] .nil (aK (.bool (p x)))) :
  RH.wp C (aY ayG.res (cN (.bool (l.all p)))) (PF.args [ints l,.fn fn []]) .nil:=by
 simp only[go_sem,RH,Us,Ut,ayG];refine wp_loop (α:=Nat) (λk=>((((PF.nil.set 1 (.fn fn [])).set 7 (ints l)).set 8 (.int .i64 (Z' l:Nat))).set 9 (.int .i64 k))) (λ_=>.nil) (λk=>k≤Z' l∧(l.take k).all p=true) (λk=>Z' l-k) 0 ⟨a8H _,rfl⟩ ?_ a_ ?_
 ·(repeat' (first|exact d_|refine c_ ?_ ?_))<;>first|(simp only[go_sem,a7Z]<;>rfl)|rfl
 rintro k ⟨w,e⟩;simp only[go_sem,Ur,Uu];by_cases hlt:k<Z' l
 ·have d:(k:Int)<(Z' l:Nat):=Om;have i:(l.map λn=>[PV.int .i64 n])[k]?=some [.int .i64 l[k]]:=by simp[hlt]
  simp only[go_sem,d,Uv,i,Uw];refine aB (h _ (a8G hlt)) Ev ?_;cases hp:p l[k]with
  |false =>simp only[go_sem,Ux];exact bK (b:=false) Ev (tN (p:=p) hlt hp).symm
  |true =>simp only[go_sem,Uy,wZz k];refine aJ (k+1) ⟨hlt,a8U.1 (tM hlt e hp)⟩ Om ?_ a_;exact Lq
 ·have d:¬(k:Int)<(Z' l:Nat):=Om;simp only[go_sem,d,Uz];have:k=Z' l:=Om;subst this;rw[a8T (a8E _)]at e;exact bK Ev e.symm
abbrev avR(l:List Bool):PV:=.sl 1 (l.map λb=>[PV.bool b])
theorem aLQ{C:Ctx}(p:Bool→Bool)(fn:Nat)(l:List Bool)(u:Fits l)(h:∀x∈l,aH C fn [.bool x] .nil (aK (.bool (p x)))) :
  RE.wp C (aY ayE.res (cN (.bool (l.all p)))) (PF.args [avR l,.fn fn []]) .nil:=by
 simp only[go_sem,RE,T9,Ua,ayE];refine wp_loop (α:=Nat) (λk=>((((PF.nil.set 1 (.fn fn [])).set 7 (avR l)).set 8 (.int .i64 (Z' l:Nat))).set 9 (.int .i64 k))) (λ_=>.nil) (λk=>k≤Z' l∧(l.take k).all p=true) (λk=>Z' l-k) 0 ⟨a8H _,rfl⟩ ?_ a_ ?_
 ·(repeat' (first|exact d_|refine c_ ?_ ?_))<;>first|(simp only[go_sem,a7Z]<;>rfl)|rfl
 rintro k ⟨w,e⟩;simp only[go_sem,T8,Ub];by_cases hlt:k<Z' l
 ·have d:(k:Int)<(Z' l:Nat):=Om;have i:(l.map λb=>[PV.bool b])[k]?=some [.bool l[k]]:=by simp[hlt]
  simp only[go_sem,d,Uc,i,Ud];refine aB (h _ (a8G hlt)) Ev ?_;cases hp:p l[k]with
  |false =>simp only[go_sem,Ue];exact bK (b:=false) Ev (tN (p:=p) hlt hp).symm
  |true =>simp only[go_sem,Uf,wZz k];refine aJ (k+1) ⟨hlt,a8U.1 (tM hlt e hp)⟩ Om ?_ a_;exact Lq
 ·have d:¬(k:Int)<(Z' l:Nat):=Om;simp only[go_sem,d,Ug];have:k=Z' l:=Om;subst this;rw[a8T (a8E _)]at e;exact bK Ev e.symm
theorem aEP{C:Ctx}(b:Bool):LS.wp C (aY U4.res (cN (.bool b))) (PF.args [.bool b]) .nil:=by
 simp only[go_sem,LS,Ik,Il,U4];exact bK Ev rfl
theorem aLY{C:Ctx}(d:∀n lo hi:Int,aH C 104 [.int .i64 n,.int .i64 lo,.int .i64 hi] .nil (aK (.bool (within n lo hi))))(n:Int):RL.wp C (aY ayL.res (cN (.bool (within n 0 8)))) (PF.args [.int .i64 n]) .nil:=by
 simp only[go_sem,RL,Vf,Vg,ayL];refine aB (d n 0 8) Ev ?_;simp only[go_sem];exact bK Ev rfl
theorem aER{C:Ctx}(e:∀x:RF,x.Ok→aH C 105 [.agg x.cells] .nil (aK (.bool (dT x))))(i:∀x:RF,x.Ok→aH C 97 [.agg x.cells] .nil (aK (.bool (bT x))))(x:RF)(d:x.Ok) :
  LW.wp C (aY Vk.res (cN (.bool (dT x&&bT x)))) (PF.args [.agg x.cells]) .nil:=by
 simp only[go_sem,LW,Iq,Ir,Vk];refine aB (e x d) Ev ?_;cases l:dT x with
 |false =>simp only[go_sem];exact bK Ev rfl
 |true =>simp only[go_sem];refine aB (i x d) Ev ?_;simp only[go_sem];exact bK Ev rfl
structure yI(C:Ctx):Prop extends tj C where
 inn:∀n lo hi:Int,aH C 104 [.int .i64 n,.int .i64 lo,.int .i64 hi] .nil (aK (.bool (within n lo hi)))
 uO:∀x:RF,x.Ok→aH C 97 [.agg x.cells] .nil (aK (.bool (bT x)))
 lim:∀x:RF,x.Ok→aH C 105 [.agg x.cells] .nil (aK (.bool (dT x)))
 one:∀x:RF,x.Ok→aH C 101 [.agg x.cells] .nil (aK (.bool (DN x)))
 allf:∀(p:RF→Bool)(fn:Nat)(l:List RF),Fits l→(∀x∈l,aH C fn [.agg x.cells] .nil (aK (.bool (p x))))→aH C 99 [frs l,.fn fn []] .nil (aK (.bool (l.all p)))
 alli:∀(p:Int→Bool)(fn:Nat)(l:List Int),Fits l→(∀x∈l,aH C fn [.int .i64 x] .nil (aK (.bool (p x))))→aH C 100 [ints l,.fn fn []] .nil (aK (.bool (l.all p)))
 allb:∀(p:Bool→Bool)(fn:Nat)(l:List Bool),Fits l→(∀x∈l,aH C fn [.bool x] .nil (aK (.bool (p x))))→aH C 98 [avR l,.fn fn []] .nil (aK (.bool (l.all p)))
 ends1:∀b:Bool,aH C 103 [.bool b] .nil (aK (.bool b))
 num1:∀n:Int,aH C 107 [.int .i64 n] .nil (aK (.bool (within n 0 8)))
 rate1:∀x:RF,x.Ok→aH C 109 [.agg x.cells] .nil (aK (.bool (dT x&&bT x)))
 name:∀s:List UInt8,aH C 123 [.str s] .nil (aK (.bool (isName s)))
theorem yI.aMY{C:Ctx}(L:yI C)(l:List RF)(h:mX l):aH C 99 [frs l,.fn 105 []] .nil (aK (.bool (l.all dT))):=
 L.allf dT 105 l h.fits λx d=>L.lim x (h.all x d)
theorem within_iff{n lo hi:Int}:within n lo hi=true↔lo≤n∧n≤hi:=by simp[within]
theorem aTA{C:Ctx}(L:yI C)(p:cL)(hp:p.Ok) :
  ZE.wp C (aY aLX.res (cN (.bool (TN p)))) (PF.args [.int .i64 p.k,.int .i64 p.m,.int .i64 p.a7M,.agg [.int .i64 p.s0,.int .i64 p.s1,.int .i64 p.s2,.int .i64 p.s3,.int .i64 p.s4]]) .nil:=by
 simp only[go_sem,ZE,anD,anE,aLX];refine aB (L.inn p.k 1 6) rfl ?_;unfold TN;cases w:within p.k 1 6 with
 |false =>simp only[go_sem,a8P,GD];exact bK rfl (by simp only[a8L])
 |true=>
  obtain⟨k1,k2⟩:=within_iff.1 w;simp only[go_sem,a8I];refine aB (L.inn p.m 0 4) rfl ?_;cases y:within p.m 0 4 with
  |false =>simp only[go_sem,a8P,GD];exact bK rfl (by simp only[a8L,a9S])
  |true=>
   obtain⟨E,F⟩:=within_iff.1 y;have u:IntKind.i64.wrap (p.k+p.m)=p.k+p.m:=wrap_i64 Om Om;by_cases l:p.k+p.m≤8
   ·have d:¬p.k+p.m>8:=Om;simp only[go_sem,a8I,u,d];refine aB (L.inn p.a7M p.k (p.k+p.m)) rfl ?_;cases B:within p.a7M p.k (p.k+p.m)with
    |false =>simp only[go_sem,a8P,GD];exact bK rfl (by simp only[a8L,a9S])
    |true=>
     have e:(0:Int)<((5:Nat):Int):=by decide
     by_cases h5:p.s0=0
     ·have i:chunks 1 5 [PV.int .i64 p.s0,.int .i64 p.s1,.int .i64 p.s2,.int .i64 p.s3,.int .i64 p.s4]=([p.s0,p.s1,p.s2,p.s3,p.s4].map λn=>[PV.int .i64 n]):=rfl;have A:5≤maxLen:=by decide
      simp only[go_sem,a8I,e,dL h5,anF,i,A];refine aB (L.alli (λn=>within n 0 8) 107 [p.s0,p.s1,p.s2,p.s3,p.s4] (show 5≤9223372036854775807 by decide) λx _=>L.num1 x) rfl ?_;simp only[go_sem];exact bK rfl (by rw[bN l,bN h5];simp only[a8R])
     ·simp only[go_sem,a8I,e,eC h5,GD];exact bK rfl (by rw[cB h5];simp only[a8L,a9S])
   ·have d:p.k+p.m>8:=Om;simp only[go_sem,a8I,u,d,GD];exact bK rfl (by rw[cB l];simp only[a8L,a9S])
theorem max_eq(a b:Int):(if a<b then b else a)=max a b:=by
 rw[Int.max_def];by_cases h:a<b
 ·rw[aG h,aG Om]
 ·by_cases d:a≤b
  ·rw[aD h,aG d];omega
  ·rw[aD h,aD d]
theorem aMA{C:Ctx}(L:yI C)(p:cL)(hp:p.Ok) :
  RM.wp C (aY ayM.res (cN (.bool (JX p)))) (PF.args [.int .i64 p.m,frs p.repair,.agg p.target.cells,.agg p.a6Y.cells]) .nil:=by
 simp only[go_sem,RM,Vl,Vm,ayM,max_eq,a7Z];unfold JX;by_cases d:(Z' p.repair:Int)=max p.m 1
 ·simp only[go_sem,cC d];refine aB (L.allf (λx=>dT x&&bT x) 109 p.repair hp.repair.fits λx e=>L.rate1 x (hp.repair.all x e)) rfl ?_;rw[bN d,a8R];cases i:p.repair.all λx=>dT x&&bT x with
  |false =>simp only[go_sem];exact bK rfl rfl
  |true=>
   simp only[go_sem];refine aB (L.lim _ hp.target) rfl ?_;cases l:dT p.target with
   |false =>simp only[go_sem];exact bK rfl rfl
   |true=>
    simp only[go_sem];refine aB (L.one _ hp.target) rfl ?_;cases u:DN p.target with
    |false =>simp only[go_sem];exact bK rfl rfl
    |true =>simp only[go_sem];refine aB (L.lim _ hp.a6Y) rfl ?_;simp only[go_sem];exact bK rfl rfl
 ·simp only[go_sem,bO d];exact bK rfl (by rw[cB d];rfl)
def vK(l:List (List UInt8))(k:List KS):Option PV:=match k with
 |[.str s]=>if l.contains s then some (.bool true)else none
 |_=>none
theorem aHV(l:List (List UInt8))(s:List UInt8):(λk=>if k=[KS.str s]then some (PV.bool true)else vK l k)=vK (l++[s]):=by
 funext k
 match k with
 |[]=>rfl
 |[.int a b]=>simp[vK]
 |[.bool a]=>simp[vK]
 |[.str t]=>
  by_cases h:t=s
  ·subst h;simp[vK]
  ·simp[vK,h]
 |a::b::c=>simp[vK]
abbrev texts(l:List (List UInt8)):PV:=.sl 1 (l.map λs=>[PV.str s])
theorem aHU:vK []=(λ_=>none:jV):=by
 funext k
 match k with
 |[]=>rfl
 |[.int a b]=>rfl
 |[.bool a]=>rfl
 |[.str t]=>rfl
 |a::b::c=>cases a<;>rfl
theorem aHW(l:List (List UInt8))(s:List UInt8):jV.upd (vK l) [KS.str s] (.bool true)=vK (l++[s]):=aHV l s
theorem acF(l:List (List UInt8))(s:List UInt8):(vK l [KS.str s]).getD (.bool false)=.bool (l.contains s):=by
 show(if l.contains s then some (PV.bool true)else none).getD (.bool false)=_;cases l.contains s<;>rfl
theorem E8{p:Nat→Bool}{k:Nat}(h:(a8A k).all p=true)(hp:p k=true):(a8A (k+1)).all p=true:=by
 rw[bbT,List.all_append,h];simp[hp]
theorem gS{p:Nat→Bool}{n k:Nat}(d:k<n)(hp:p k=false):(a8A n).all p=false:=by
 rw[List.all_eq_false];exact⟨k,a9M.2 d,by simp[hp]⟩
def wN(p:Nat→Bool)(k:Nat):Prop:=(a8A k).all p=true
theorem wN.zero{p:Nat→Bool}:wN p 0:=rfl
theorem wN.step{p:Nat→Bool}{k:Nat}(h:wN p k)(hp:p k=true):wN p (k+1):=E8 h hp
def aBY(l:List (List UInt8))(o k:Nat):PF:=((((PF.nil.set 3 (.map o)).set 7 (texts l)).set 8 (.int .i64 (Z' l:Nat))).set 9 (.int .i64 k))
theorem aME{C:Ctx}(L:yI C)(l:List (List UInt8))(E:Fits l):RP.wp C (aY ayP.res (cN (.bool (distinct l)))) (PF.args [texts l]) .nil:=by
 simp only[go_sem,RP,Vt,Vu,ayP];refine aR λo H=>?_;simp only[go_sem,Vv];have A:(PH.nil.set o (.map (false,[.str]) (λ_=>none)))=PH.nil.set o (.map (false,[.str]) (vK (l.take 0))):=by rw[List.take_zero,aHU]
 unfold distinct;generalize hp:(λi=>isName (l.getD i [])&&!(l.take i).contains (l.getD i []))=p;have w:∀k (h:k<Z' l),p k=(isName l[k]&&!(l.take k).contains l[k]):=by intro k h;rw[←hp];simp only[a8V,a8N h,bbE]
 refine wp_loop (α:=Nat) (λk=>aBY l o k) (λk=>PH.nil.set o (.map (false,[.str]) (vK (l.take k)))) (λk=>k≤Z' l∧wN p k) (λk=>Z' l-k) 0 ⟨a8H _,.zero⟩ ?_ ?_ ?_
 ·unfold aBY
  (repeat' (first|exact d_|refine c_ ?_ ?_))<;>first|(simp only[go_sem,a7Z]<;>rfl)|rfl
 ·rw[A];exact b_
 rintro k ⟨F,y⟩;simp only[go_sem,Vs,Vw,aBY];by_cases hlt:k<Z' l
 ·have e:(k:Int)<(Z' l:Nat):=Om;have B:(l.map λs=>[PV.str s])[k]?=some [.str l[k]]:=by simp[hlt]
  simp only[go_sem,e,Vx,B,Vy];refine aB (L.name l[k]) rfl ?_;have d:=w k hlt;cases x:isName l[k]with
  |false =>rw[x,a8L]at d;simp only[go_sem,a8P,oa];exact bK (b:=false) rfl (gS hlt d).symm
  |true=>
   rw[x,a8R]at d;cases u:(l.take k).contains l[k]with
   |true =>rw[u]at d;simp only[go_sem,a8I,acF,u,oa];exact bK (b:=false) rfl (gS hlt d).symm
   |false=>
    rw[u]at d;simp only[go_sem,a8I,acF,u,Vz,aHW,V0,wZz k];refine aJ (k+1) ⟨hlt,y.step d⟩ Om ?_ ?_
    ·exact Lq
    ·rw[baC hlt];exact e_ a_ Sq
 ·have e:¬(k:Int)<(Z' l:Nat):=Om;simp only[go_sem,e,Is];have:k=Z' l:=Om;subst this;exact bK (b:=true) rfl (show wN p l.length from y).symm
def marks(n:Nat)(l:List Int):List Bool:=(a8A n).map λ(i:Nat)=>l.contains (i:Int)
theorem JQ(n:Nat)(l:List Int):(marks n l).length=n:=by simp[marks]
theorem Jh(n:Nat):marks n []=a8D n false:=by
 refine baX (by simp[marks]) λi d e=>by simp[marks]
theorem xE{n:Nat}{l:List Int}{m:Int}(d:0≤m)(e:m<n):(marks n l)[m.toNat]?=some (l.contains m):=by
 have:m.toNat<n:=Om;simp only[marks,a8Y,List.getElem?_range this,a8X];rw[Int.toNat_of_nonneg d]
theorem JR{n:Nat}{l:List Int}{m:Int}(e:0≤m)(p:m<n):(marks n l).set m.toNat true=marks n (l++[m]):=by
 refine baX (by simp[marks]) λi u w=>?_;simp only[marks,a9Q,List.getElem_range,List.getElem_set,List.contains_append];by_cases h:m.toNat=i
 ·subst h;rw[aG rfl,Int.toNat_of_nonneg e];simp
 ·have d:((i:Nat):Int)≠m:=Om;rw[aD h];simp[d]
abbrev eA(l:List Bool):List (List PV):=l.map λb=>[PV.bool b]
theorem mO(l:List Bool)(i:Nat)(b:Bool):(eA l).set i [.bool b]=eA (l.set i b):=by unfold eA;rw[List.map_set]
structure Ra(C:Ctx):Prop extends yI C where
 num:∀p:cL,p.Ok→aH C 106 [.int .i64 p.k,.int .i64 p.m,.int .i64 p.a7M,.agg [.int .i64 p.s0,.int .i64 p.s1,.int .i64 p.s2,.int .i64 p.s3,.int .i64 p.s4]] .nil (aK (.bool (TN p)))
 rate:∀p:cL,p.Ok→aH C 108 [.int .i64 p.m,frs p.repair,.agg p.target.cells,.agg p.a6Y.cells] .nil (aK (.bool (JX p)))
 uniq:∀l:List (List UInt8),Fits l→aH C 110 [texts l] .nil (aK (.bool (distinct l)))
def aON(p:cL)(a6P:Nat)(o k:Nat):PF:=(((((PF.nil.set 1 (.int .i64 a6P)).set 5 (.osl o 1 0 a6P)).set 39 (ints p.a6P)).set 40 (.int .i64 (Z' p.a6P:Nat))).set 41 (.int .i64 k))
theorem aTC{C:Ctx}(L:Ra C)(p:cL)(hp:p.Ok)(a6P:Nat)(R:a6P≤4):ZG.wp C (aY aLZ.res (cN (.bool (mF a6P p)))) (PF.args [.agg p.cells,.int .i64 a6P]) .nil:=by
 simp only[go_sem,ZG,anJ,anK,aLZ];refine aB (L.num p hp) rfl ?_;unfold mF;cases u:TN p with
 |false =>simp only[go_sem,a8P,gp];exact bK rfl (by simp only[a8L])
 |true=>
  by_cases l:Z' p.a6P=0
  ·simp only[go_sem,a8I,a7Z,cC (Om:(Z' p.a6P:Int)=0),gp];refine bK rfl ?_;have:decide (Z' p.a6P≠0)=false:=by simp[l]
   rw[this];simp only[a8L,a9S]
  ·have y:decide (Z' p.a6P≠0)=true:=by simp[l]
   simp only[go_sem,a8I,a7Z,bO (Om:(Z' p.a6P:Int)≠0)];refine aB (L.rate p hp) rfl ?_;rw[y];cases O:JX p with
   |false =>simp only[go_sem,a8P,gp];exact bK rfl (by simp only[a8L,a9S])
   |true=>
    have A:((a6P:Nat):Int)*((1:Nat):Int)≤140737488355328:=Om;have B:((a6P:Nat):Int)≤9223372036854775807:=Om;simp only[a8R];simp only[go_sem,a8I,anL,A,B];refine aR λo S=>?_;simp only[go_sem,anM];have J:a8D a6P [PV.bool false]=eA (marks a6P (p.a6P.take 0)):=by rw[List.take_zero,Jh];simp[eA]
    rw[J];generalize K:(λj=>within (p.a6P.getD j 0) 0 ((a6P:Int)-1)&&!(p.a6P.take j).contains (p.a6P.getD j 0))=q;have E:∀k (h:k<Z' p.a6P),q k=(within p.a6P[k] 0 ((a6P:Int)-1)&&!(p.a6P.take k).contains p.a6P[k]):=by intro k h;rw[←K];simp only[a8V,a8N h,bbE]
    refine wp_loop (α:=Nat) (λk=>aON p a6P o k) (λk=>PH.nil.set o (.rows 1 (eA (marks a6P (p.a6P.take k))))) (λk=>k≤Z' p.a6P∧wN q k) (λk=>Z' p.a6P-k) 0 ⟨a8H _,.zero⟩ ?_ (b_) ?_
    ·unfold aON
     (repeat' (first|exact d_|refine c_ ?_ ?_))<;>first|(simp only[go_sem,a7Z]<;>rfl)|rfl
    rintro k ⟨Q,F⟩;simp only[go_sem,Vh,anN,aON];have H:=hp.a6P;by_cases hlt:k<Z' p.a6P
    ·have e:(k:Int)<(Z' p.a6P:Nat):=Om;have M:(p.a6P.map λn=>[PV.int .i64 n])[k]?=some [.int .i64 p.a6P[k]]:=by simp[hlt]
     have N:IntKind.i64.wrap ((a6P:Int)-1)=(a6P:Int)-1:=wrap_i64 Om Om;simp only[go_sem,e,anO,M,anP,N];refine aB (L.inn p.a6P[k] 0 ((a6P:Int)-1)) rfl ?_;have d:=E k hlt;cases u:within p.a6P[k] 0 ((a6P:Int)-1)with
     |false =>rw[u,a8L]at d;simp only[go_sem,a8P,D2];exact bK (b:=false) rfl (gS hlt d).symm
     |true=>
      rw[u,a8R]at d;obtain⟨w,U⟩:=within_iff.1 u;have x:p.a6P[k]<(a6P:Nat):=Om;have i:(eA (marks a6P (p.a6P.take k)))[p.a6P[k].toNat]?=some [.bool ((p.a6P.take k).contains p.a6P[k])]:=by unfold eA;rw[a8Y,xE w x];rfl
      cases l:(p.a6P.take k).contains p.a6P[k]with
      |true =>rw[l]at d i;simp only[go_sem,a8I,w,x,a8Q,i,D2];exact bK (b:=false) rfl (gS hlt d).symm
      |false=>
       rw[l]at d i;simp only[go_sem,a8I,w,x,a8Q,i,anQ,mO,JR w x,Vi,wZz k];refine aJ (k+1) ⟨hlt,F.step d⟩ Om ?_ ?_
       ·exact Lq
       ·rw[baC hlt];exact e_ a_ Sq
    ·have e:¬(k:Int)<(Z' p.a6P:Nat):=Om;simp only[go_sem,e,Vj];have:k=Z' p.a6P:=Om;subst this;exact bK (b:=true) rfl (show wN q p.a6P.length from F).symm
def aKY:PV→RF
 | .agg [.bool n,a,b]=>⟨n,mB a,mB b⟩
 |_=>⟨false,[],[]⟩
theorem axN(x:RF):aKY (.agg x.cells)=x:=by
 show(⟨x.neg,mB (aN x.num),mB (aN x.den)⟩:RF)=x;rw[fP,fP]
def flS:Spec:=λname vs=>match name,vs with
 |104,[.int _ n,.int _ lo,.int _ hi]=>some ([],λ_=>aK (.bool (within n lo hi)))
 |105,[x]=>some ([],λ_=>aK (.bool (dT (aKY x))))
 |97,[x]=>some ([],λ_=>aK (.bool (bT (aKY x))))
 |_,_=>none
theorem To(n lo hi:Int):flS 104 [.int .i64 n,.int .i64 lo,.int .i64 hi]=some ([],λ_=>aK (.bool (within n lo hi))):=rfl
theorem aSS(x:RF):flS 105 [.agg x.cells]=some ([],λ_=>aK (.bool (dT x))):=by
 show some _=_;rw[axN]
def ayJ(f:aE)(t:List cX)(k:Nat):PF:=((((PF.nil.set 1 (.bM f.cells)).set 45 (.sl 7 (t.map cX.cells))).set 46 (.int .i64 (Z' t:Nat))).set 47 (.int .i64 k))
theorem aSX{C:Ctx}(L:yI C)(f:aE)(Y:f.Ok):JG.wp C (aY ayI.res (cN (.bool (sA f)))) (PF.args [.agg f.cells]) .nil:=by
 obtain⟨a7S,a6V,a6P,a6R,a6O,a6S,a6Q⟩:=f;cases a6R with
 |nil =>rw[show sA ⟨a7S,a6V,a6P,[],a6O,a6S,a6Q⟩=false from rfl];simp only[go_sem,JG,Dz,D0,ayI,baB,baE];have:(((0:Nat):Int)==0)=true:=rfl;simp only[go_sem,this,amN];exact bK rfl rfl
 |cons r t=>
  generalize hF:(⟨a7S,a6V,a6P,r::t,a6O,a6S,a6Q⟩:aE)=f at *
  have B:f.a6R=r::t:=by rw[←hF]
  have hP:sA f=IZ f r t:=by unfold sA;rw[B]
  rw[hP];unfold IZ;have l:Z' f.a6R=Z' t+1:=by rw[B];rfl
  have Z:=Y.a6R;have J:(f.a6R.map cX.cells)[0]?=some r.cells:=by rw[B];rfl
  have β:(f.a6R.map cX.cells)[Int.toNat 0]?=some r.cells:=J;have F:=Y.dom;have w:=F r (by rw[B];exact List.mem_cons_self ..);simp only[go_sem,JG,Dz,D0,ayI,a7Z,l,bO (Om:((Z' t+1:Nat):Int)≠0),amO,J];refine aR λo ho=>?_;by_cases x:r.name=[]
  ·rw[bN x];by_cases A:r.level=0
   ·rw[bN A];by_cases E:r.parent=-1
    ·rw[bN E];by_cases K:r.a7I=0
     ·rw[bN K];simp only[go_sem,GB,uQ x,a8I,dL A,dL E,dL K];refine aB (L.lim r.a7D w.1) rfl ?_;cases c5:dT r.a7D with
      |false =>simp only[go_sem,a8P,AR];exact bK rfl (by simp only[a9S,a8L])
      |true=>
       simp only[go_sem,a8I];refine aB (L.uO r.a7D w.1) rfl ?_;cases c6:bT r.a7D with
       |true =>simp only[go_sem,AR];exact bK rfl (by simp only[a8I,a9S,a8L])
       |false=>
        have S:(0:Int)≤1∧(1:Int)≤((Z' t+1:Nat):Int):=Om;have y:((f.a6R.map cX.cells).take (Z' t+1)).drop (Int.toNat 1)=t.map cX.cells:=by rw[a8T (by simp[l]),B];rfl
        have u:((f.a6R.map cX.cells).take (Z' t+1)).drop 1=t.map cX.cells:=y;simp only[go_sem,amP,a7Z,l,S,u,baA];generalize hq:(λi=>match t[i]? with|some d=>QT f i d|none=>false)=q;have Q:∀k (h:k<Z' t),q k=QT f k t[k]:=by intro k h;rw[←hq];simp only[a8N h]
        refine wp_loop (α:=Nat) (λk=>ayJ f t k) (λk=>.nil) (λk=>k≤Z' t∧wN q k) (λk=>Z' t-k) 0 ⟨a8H _,.zero⟩ ?_ a_ ?_
        ·unfold ayJ
         (repeat' (first|exact d_|refine c_ ?_ ?_))<;>first|(simp only[go_sem,a7Z]<;>rfl)|rfl
        rintro k ⟨hk,X⟩;simp only[go_sem,U1,amQ,ayJ];by_cases hlt:k<Z' t
        ·have p:(k:Int)<(Z' t:Nat):=Om;have R:(t.map cX.cells)[k]?=some (t[k]).cells:=by simp[hlt]
         have N:=F t[k] (by rw[B];exact List.mem_cons_of_mem _ (a8G hlt));have e:=Q k hlt;unfold QT at e;simp only[go_sem,p,amR,R];refine aR λo2 γ=>?_;simp only[go_sem];refine cP .nil flS a_ ?_;simp only[go_sem,amS];refine cR (To _ 0 k) (L.inn (t[k]).parent 0 k) rfl a_ ?_;cases M:within (t[k]).parent 0 k with
         |false =>simp only[M,a8L]at e;simp only[go_sem,a8P,AQ];exact bK (b:=false) rfl (gS hlt e).symm
         |true=>
          obtain⟨i1,i2⟩:=within_iff.1 M;have i3:(t[k]).parent.toNat<Z' f.a6R:=Om;have H:(f.a6R.map cX.cells)[(t[k]).parent.toNat]?=some (f.a6R[(t[k]).parent.toNat]).cells:=by simp[i3]
          have O:(f.a6R.map cX.level).getD (t[k]).parent.toNat 0=(f.a6R[(t[k]).parent.toNat]).level:=by simp[i3]
          rw[O,M,a8R]at e;by_cases e2:(f.a6R[(t[k]).parent.toNat]).level=IntKind.i64.wrap ((t[k]).level-1)
          ·rw[bN e2,a8R]at e;simp only[go_sem,a8I,i1,H,dL e2];refine cR (To _ 1 4) (L.inn (t[k]).level 1 4) rfl a_ ?_;cases U:within (t[k]).level 1 4 with
           |false =>simp only[U,a8L]at e;simp only[go_sem,a8P,AQ];exact bK (b:=false) rfl (gS hlt e).symm
           |true=>
            rw[U,a8R]at e;simp only[go_sem,a8I];refine cR (To _ 1 64) (L.inn (t[k]).a7I 1 64) rfl a_ ?_;cases V:within (t[k]).a7I 1 64 with
            |false =>simp only[V,a8L]at e;simp only[go_sem,a8P,AQ];exact bK (b:=false) rfl (gS hlt e).symm
            |true=>
             rw[V,a8R]at e;simp only[go_sem,a8I];refine cR (aSS (t[k]).a7D) (L.lim _ N.1) rfl a_ ?_;cases W:dT (t[k]).a7D with
             |false =>rw[W]at e;simp only[go_sem,a8P,AQ];exact bK (b:=false) rfl (gS hlt e).symm
             |true =>rw[W]at e;simp only[go_sem,a8I,U2,wZz k];refine aJ (k+1) ⟨hlt,X.step e⟩ Om ?_ a_;exact Lq
          ·simp only[cB e2,a8L]at e;simp only[go_sem,a8I,i1,H,eC e2,AQ];exact bK (b:=false) rfl (gS hlt e).symm
        ·have p:¬(k:Int)<(Z' t:Nat):=Om;simp only[go_sem,p,U3];have:k=Z' t:=Om;subst this;exact bK (b:=true) rfl (show wN q t.length from X).symm
     ·simp only[go_sem,GB,uQ x,a8I,dL A,dL E,eC K,AR];exact bK rfl (by rw[cB K];simp only[a9S,a8L])
    ·simp only[go_sem,GB,uQ x,a8I,dL A,eC E,AR];exact bK rfl (by rw[cB E];simp only[a9S,a8L])
   ·simp only[go_sem,GB,uQ x,a8I,eC A,AR];exact bK rfl (by rw[cB A];simp only[a9S,a8L])
  ·simp only[go_sem,GB,ug x,a8P,AR];exact bK rfl (by rw[cB x];simp only[a9S,a8L])
theorem zP(R:List Bool)(i:Nat)(row:List RF):∀k,(dD R i row k).length=Z' R
 |0=>rfl
 |k+1=>by simp only[dD,a9R,zP R i row k]
theorem abJ(l:cY)(R:List Bool)(i:Nat):(oL l R i).length=Z' R:=by
 unfold oL;rw[zP,a9R]
theorem vH(l:cY)(R:List Bool):∀i,(eD l R i).length=Z' R
 |0=>rfl
 |i+1=>by simp only[eD,abJ,vH l R i]
theorem vG(l:cY):∀r,(eE l r).length=Z' l.exit
 |0=>by simp[eE]
 |r+1=>by simp only[eE,vH,vG l r]
theorem wY{R:List Bool}{i:Nat}(h:i<Z' R):(eA R)[i]?=some [.bool (R.getD i false)]:=by
 unfold eA;rw[a8Y,a8N h,a8V,a8N h];rfl
theorem CG(R:List Bool):(eA R).length=Z' R:=by simp[eA]
def gh(l:cY)(o r:Nat):PF:=(((PF.nil.set 1 (.bM l.cells)).set 3 (.osl o 1 0 l.exit.length)).set 4 (.int .i64 r))
def QU(l:cY)(o r i:Nat):PF:=(((((PF.nil.set 1 (.bM l.cells)).set 3 (.osl o 1 0 l.exit.length)).set 4 (.int .i64 r)).set 19 (.int .i64 (Z' l.exit:Nat))).set 20 (.int .i64 i))
def yW(l:cY)(o r i:Nat)(row:List RF)(k:Nat):PF:=(((((((((PF.nil.set 1 (.bM l.cells)).set 3 (.osl o 1 0 l.exit.length)).set 4 (.int .i64 r)).set 19 (.int .i64 (Z' l.exit:Nat))).set 20 (.int .i64 i)).set 5 (.int .i64 i)).set 42 (frs row)).set 43 (.int .i64 (Z' row:Nat))).set 44 (.int .i64 k))
def kV(o:Nat)(R:List Bool):PH:=PH.nil.set o (.rows 1 (eA R))
theorem aiY{C:Ctx}(L:yI C)(l:cY)(o r i:Nat)(row:List RF)(E:mX row)(V:Z' row=Z' l.exit)(hi:i<Z' l.exit)(Z:Z' l.exit≤4)(d:List Bool)(W:Z' d=Z' l.exit)(K:cD)(F:PF)(H:PH)
  (N:(yW l o r i row 0).le F) (J:(kV o d).le H)
  (S:∀F H,(yW l o r i row row.length).le F→(kV o (dD d i row row.length)).le H→K .normal F H) :
  aC.wp C (.block 4 (.loop JH)) K F H:=by
 simp only[go_sem];refine wp_loop (α:=Nat) (λk=>yW l o r i row k) (λk=>kV o (dD d i row k)) (λk=>k≤Z' row) (λk=>Z' row-k) 0 (a8H _) N J ?_;intro k Y;simp only[go_sem,JH,Vb,yW,kV];have O:=zP d i row k;by_cases hlt:k<Z' row
 ·have e:(k:Int)<(Z' row:Nat):=Om;have U:(row.map RF.cells)[k]?=some (row[k]).cells:=by simp[hlt]
  simp only[go_sem,e,In,U];refine aR λo7 B=>?_;have M:o≠o7:=by rintro rfl;simp only[aS,if_true]at B;cases B
  have u:(i:Int)<(Z' l.exit:Nat):=Om;have y:(k:Int)<(Z' l.exit:Nat):=Om;have p:=wY (R:=dD d i row k) (i:=i) Om;have w:=wY (R:=dD d i row k) (i:=k) Om;have x:dD d i row (k+1)=(dD d i row k).set i ((dD d i row k).getD i false||bT row[k]&&(dD d i row k).getD k false):=by simp only[dD,a8V,a8Y,a8N hlt,a8X,bbE]
  have fin:∀(b:Bool)(F:PF)(H:PH),b=((dD d i row k).getD i false||bT row[k]&&(dD d i row k).getD k false)→(yW l o r i row (k+1)).le F→H o=some (.rows 1 ((eA (dD d i row k)).set i [.bool b])) →
    gV (λk=>yW l o r i row k) (λk=>kV o (dD d i row k)) (λk=>k≤Z' row) (λk=>Z' row-k) (Z' row-k) (fQ 4 K) .normal F H:=by
   intro b F H hb N J;refine aJ (k+1) hlt Om N ?_;rw[mO,hb,←x]at J;exact e_ a_ J
  unfold yW kV at fin;generalize hb:(dD d i row k).getD i false=b at *
  generalize X:(dD d i row k).getD k false=c at *
  generalize Q:bT row[k]=A at *
  cases b with
  |true =>simp only[go_sem,YZ,M,u,a8Q,p,JJ,wZz k];exact fin true _ _ bD Lq Sq
  |false=>
   simp only[go_sem,YZ,M,u,a8Q,p];refine aB (L.uO _ (E.all _ (a8G hlt))) rfl ?_;rw[Q];cases A with
   |false =>simp only[go_sem,u,y,M,a8Q,p,w,JJ,wZz k];exact fin false _ _ bD Lq Sq
   |true =>simp only[go_sem,u,y,M,a8Q,p,w,JJ,wZz k];exact fin c _ _ bD Lq Sq
 ·have e:¬(k:Int)<(Z' row:Nat):=Om;simp only[go_sem,e];have:k=Z' row:=Om;subst this;exact S _ _ (by unfold yW;exact Lq) (b_)
structure IU(l:cY):Prop where
 n:Z' l.exit≤4
 a6T:Z' l.a6T=Z' l.exit
 row:∀r∈l.a6T,Z' r=Z' l.exit
theorem aiZ{C:Ctx}(L:yI C)(l:cY)(S:l.Ok)(O:IU l)(o r:Nat)(R:List Bool)(hR:Z' R=Z' l.exit)(K:cD)(F:PF)(H:PH)
  (u:(QU l o r 0).le F) (M:(kV o R).le H)
  (hK:∀F H,(gh l o r).le F→(kV o (eD l R l.exit.length)).le H→K .normal F H) :
  aC.wp C (.block 2 (.loop JI)) K F H:=by
 simp only[go_sem];refine wp_loop (α:=Nat) (λi=>QU l o r i) (λi=>kV o (eD l R i)) (λi=>i≤Z' l.exit) (λi=>Z' l.exit-i) 0 (a8H _) u M ?_;intro i hi;have U:=vH l R i;have hn:=O.n;by_cases hlt:i<Z' l.exit
 ·have d:(i:Int)<(Z' l.exit:Nat):=Om;have p:i<Z' l.a6T:=by rw[O.a6T];exact hlt
  have w:=wY (R:=eD l R i) (i:=i) Om;have hx:(l.exit.map RF.cells)[i]?=some (l.exit[i]).cells:=by simp[hlt]
  have B:(l.a6T.map λr=>[frs r])[i]?=some [frs l.a6T[i]]:=by simp[p]
  have Q:(l.a6T[i]).length=Z' l.exit:=O.row _ (a8G p);generalize e:(eD l R i).set i ((eD l R i).getD i false||bT l.exit[i])=E;have A:Z' E=Z' l.exit:=by rw[←e,a9R];omega
  have x:eD l R (i+1)=dD E i l.a6T[i] (l.a6T[i]).length:=by
   simp only[eD,oL];have W:(l.exit.map bT).getD i false=bT l.exit[i]:=by simp[a8V,hlt]
   have e2:l.a6T.getD i []=l.a6T[i]:=by simp[a8V,p]
   rw[W,e2,e]
  have rest:∀(F:PF)(H:PH),(((((((PF.nil.set 1 (.bM l.cells)).set 3 (.osl o 1 0 l.exit.length)).set 4 (.int .i64 r)).set 19 (.int .i64 (Z' l.exit:Nat))).set 20 (.int .i64 i)).set 5 (.int .i64 i)):PF).le F→H o=some (.rows 1 (eA E)) →
    aC.wp C (.seq (.region nz) (.block 4 (.loop JH))) (fQ 3 (jW C (aC.wp C (.region ZA)) (gV (λi=>QU l o r i) (λi=>kV o (eD l R i)) (λi=>i≤Z' l.exit) (λi=>Z' l.exit-i) (Z' l.exit-i) (fQ 2 K)))) F H:=by
   intro F H u M;have f1:F 1=some (.bM l.cells):=u 1 _ rfl;have f3:F 3=some (.osl o 1 0 l.exit.length):=u 3 _ rfl;have f4:F 4=some (.int .i64 r):=u 4 _ rfl;have X:F 19=some (.int .i64 (Z' l.exit:Nat)):=u 19 _ rfl;have Y:F 20=some (.int .i64 i):=u 20 _ rfl;have Z:F 5=some (.int .i64 i):=u 5 _ rfl;rw[Gc];simp only[go_sem,nz,f1,Z,B,a7Z];have inner:=aiY L l o r i l.a6T[i] (S.row _ (a8G p)) Q hlt hn E A;simp only[aC.wp,go_sem]at inner;refine inner _ _ _ ?_ (e_ a_ M) ?_
   ·unfold yW;exact Lq
   ·intro V H' y N;have J:V 20=some (.int .i64 i):=y 20 _ (by unfold yW;simp only[go_sem]);simp only[go_sem,ZA,J,wZz i];refine aJ (i+1) hlt Om ?_ (by rw[x];exact N);have g:=λ(q:Nat) v h=>y q v h;unfold QU;unfold yW at g;refine c_ (c_ (c_ (c_ (c_ d_ ?_) ?_) ?_) ?_) ?_
    ·simp only[go_sem];exact g 1 _ rfl
    ·simp only[go_sem];exact g 3 _ rfl
    ·simp only[go_sem];exact g 4 _ rfl
    ·simp only[go_sem];exact g 19 _ rfl
    ·simp only[go_sem]
  simp only[aC.wp,go_sem]at rest;simp only[go_sem,JI,nw,QU,kV,d,Va];generalize hb:(eD l R i).getD i false=b at *
  cases b with
  |true =>simp only[go_sem,ny,d,a8Q,w];refine rest _ _ Lq ?_;rw[←e];simp only[go_sem,mO,Bool.true_or]
  |false =>simp only[go_sem,ny,d,a8Q,w,hx];refine aB (L.uO _ (S.exit.all _ (a8G hlt))) rfl ?_;simp only[go_sem,d,a8Q,w];refine rest _ _ Lq ?_;rw[←e];simp only[go_sem,mO,Bool.false_or]
 ·have d:¬(i:Int)<(Z' l.exit:Nat):=Om;simp only[go_sem,JI,nw,QU,kV,d];have:i=Z' l.exit:=Om;subst this;exact hK _ _ (by unfold gh;exact Lq) b_
theorem aLU{C:Ctx}(L:yI C)(l:cY)(F:l.Ok)(A:IU l):RI.wp C (aY ayK.res (cN (.bool (tC l)))) (PF.args [.agg l.cells]) .nil:=by
 have H:=A.n;have w:(Z' l.exit:Int)*((1:Nat):Int)≤140737488355328:=Om;have y:(Z' l.exit:Int)≤9223372036854775807:=Om;simp only[go_sem,RI,U5,U6,ayK,a7Z,w,y];refine aR λo J=>?_;simp only[go_sem,U7];refine wp_loop (α:=Nat) (λr=>gh l o r) (λr=>kV o (eE l r)) (λr=>r≤Z' l.exit+1) (λr=>Z' l.exit+1-r) 0 (a8H _) ?_ ?_ ?_
 ·unfold gh;exact Lq
 ·refine e_ a_ ?_;simp only[go_sem,eE];simp[eA]
 intro r K;have e:=vG l r;simp only[go_sem,Im,U8,gh,kV];by_cases hlt:r≤Z' l.exit
 ·have d:(r:Int)≤(Z' l.exit:Nat):=Om;simp only[go_sem,d,U9];have inner:=aiZ L l F A o r (eE l r) e;simp only[aC.wp,go_sem]at inner;refine inner _ _ _ ?_ b_ ?_
  ·unfold QU;exact Lq
  ·intro B H' p u;have g:=λ(q:Nat) v h=>p q v h;unfold gh at g;have g4:B 4=some (.int .i64 r):=g 4 _ rfl;simp only[go_sem,Io,g4,wZz r];refine aJ (r+1) Om Om ?_ u;refine c_ (c_ (c_ d_ ?_) ?_) ?_
   ·simp only[go_sem];exact g 1 _ rfl
   ·simp only[go_sem];exact g 3 _ rfl
   ·simp only[go_sem]
 ·have d:¬(r:Int)≤(Z' l.exit:Nat):=Om;have:r=Z' l.exit+1:=Om;subst this;simp only[go_sem,d,Ip];have i:=L.allb id 103 (eE l (Z' l.exit+1)) (Om:(eE l (Z' l.exit+1)).length≤_) λx _=>L.ends1 x;have E:(eA (eE l (Z' l.exit+1))).length=Z' l.exit:=by rw[CG,e]
  refine wM i (rs:=eA (eE l (Z' l.exit+1))) (o:=o) (s:=1) Sq ?_ ?_
  ·simp only[go_sem,AP (show l.exit.length≤(eA (eE l (Z' l.exit+1))).length by omega),a8T (show(eA (eE l (Z' l.exit+1))).length≤l.exit.length by omega)]
  ·simp only[go_sem];exact bK rfl rfl
end Go.PM
