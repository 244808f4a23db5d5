/-
  Texts of ours, joined. No condition.
-/
import Derived.Test.YtkknafmijabgaaaGreatDoorFD1
import Derived.Shelf.Strconv.Itoa3
import Derived.Test.YtkknafmijabgaaaGreatDoorProg
import Derived.ProofKit
import Derived.OpenShut
set_option linter.unusedSimpArgs false
set_option linter.unusedVariables false
open Nat renaming reduceEqDiff→γ,reduceAdd→δ,reduceSub→ε,reduceMul→ζ,reduceLT→η,reduceLeDiff→θ,reduceBEq→τ
open Int renaming reduceLT→ι,reduceLE→κ,reduceEq→μ,reduceToNat→ν,reduceAdd→ξ,reduceNeg→ο,reduceBEq→ρ,reduceBNe→σ
open List renaming reduceReplicate→υ
open List renaming length_map→bfY,range→bfZ,replicate→bgA,length_append→bgB,getElem_mem→bgD,getD_eq_getElem?_getD→bgF,getElem?_eq_getElem→bgH,length_singleton→bgI,mem_cons→bgN,length_take→bgP,take_of_length_le→bgR,getElem?_map→bgT,mem_range→bgW,append_assoc→bgX,all_eq_true→bgY,take_length→bhA,mem_map→bhC,getElem?_eq_some_iff→bhG,append_nil→bhH,mem_singleton→bhI,map_cons→bhJ,mem_append→bhK,drop_zero→bhP,getElem?_eq_none→bhQ,length_drop→bhR,length_cons→bhT,length_set→bhU,getElem_of_mem→bhV,take_succ_eq_append_getElem→bhW,mem_of_getElem?→bhX,getElem_map→bhY,getElem?_append_left→biA,getElem?_append_right→biB,getElem?_range→biH,drop_eq_getElem_cons→biL,length_nil→biM,range_succ→biO,map_nil→biS,take_append_drop→biZ,map_map→bjF,mem_cons_of_mem→bjG,nil_append→bjH,ext_getElem→bjN,getElem?_drop→bjO,length_replicate→bjP,cons_append→bjR,set_append_right→bjU,drop_of_length_le→bkA,getElem?_replicate→bkC
open Nat renaming gcd→bgC,zero_le→bgE,le_refl→bgG,zero_add→bgL,mul_add→bgQ,lt_or_ge→bgV,mul_assoc→bhB,mul_comm→bhE,mul_le_mul_right→bhF,add_zero→bhL,add_mul→bhN,mod_eq_of_lt→bhS,mod_lt→bhZ,eq_zero_or_pos→biC,pow_succ→biD,le_trans→biJ,succ_mul→biN,min_eq_left→biP,add_assoc→biV,mul_le_mul_left→biW,pos_of_ne_zero→biX,mul_one→bjB,pow_pos→bjC,div_eq_of_lt→bjI,div_le_self→bjJ,div_lt_iff_lt_mul→bjK,mul_le_mul→bjL,div_add_mod→bjV
open Bool renaming not_true→bgJ,false_and→bgK,true_and→bgO,not_false→bgS,and_eq_true→bgU,and_false→bhO,and_true→biG
open Option renaming map_eq_some_iff→bgM,map_some→bhD,getD_some→biE,some→biQ,bind_eq_some_iff→bjW,bind_some→bjX
open Array renaming length_toList→bjD
open Int renaming toNat_natCast→biR
open List renaming length→Z'
set_option maxRecDepth 100000
set_option maxHeartbeats 800000
noncomputable section
namespace Go.Proofs
open Go.Shelf
def Tryz.aqL:Go.Shelf.Ren:=⟨λ|171=>79|243=>112|246=>142|283=>159|284=>160|285=>161|286=>162|129=>174|317=>173|318=>175|319=>176|320=>177|337=>182|338=>183|n=>n,λ|3=>3|9=>9|2=>2|4=>4|171=>188|0=>0|53=>140|37=>22|5=>5|173=>191|212=>196|51=>165|20=>20|213=>197|46=>170|232=>205|233=>206|n=>n,λ|17=>0|18=>1|19=>2|n=>n⟩
theorem Tryz.a1R:Go.Proofs.Lays.n171 Tryz.prog Tryz.aqL:={
 mixed:=by kernel_rfl
 f129:=Tryz.func174.trans (congrArg some (by kernel_rfl))
 f171:=Tryz.func79.trans (congrArg some (by kernel_rfl))
 f243:=Tryz.func112.trans (congrArg some (by kernel_rfl))
 f246:=Tryz.func142.trans (congrArg some (by kernel_rfl))
 f283:=Tryz.func159.trans (congrArg some (by kernel_rfl))
 f284:=Tryz.func160.trans (congrArg some (by kernel_rfl))
 f285:=Tryz.func161.trans (congrArg some (by kernel_rfl))
 f286:=Tryz.func162.trans (congrArg some (by kernel_rfl))
 f317:=Tryz.func173.trans (congrArg some (by kernel_rfl))
 f318:=Tryz.func175.trans (congrArg some (by kernel_rfl))
 f319:=Tryz.func176.trans (congrArg some (by kernel_rfl))
 f320:=Tryz.func177.trans (congrArg some (by kernel_rfl))
 f337:=Tryz.func182.trans (congrArg some (by kernel_rfl))
 f338:=Tryz.func183.trans (congrArg some (by kernel_rfl))
 t0:=Tryz.underlying0
 a0:=Tryz.isAgg0
 z0:=Tryz.sizeOf0
 v0:=Tryz.zeroValue0
 t2:=Tryz.underlying2
 a2:=Tryz.isAgg2
 z2:=Tryz.sizeOf2
 v2:=Tryz.zeroValue2
 t3:=Tryz.underlying3
 a3:=Tryz.isAgg3
 z3:=Tryz.sizeOf3
 v3:=Tryz.zeroValue3
 t4:=Tryz.underlying4
 a4:=Tryz.isAgg4
 z4:=Tryz.sizeOf4
 v4:=Tryz.zeroValue4
 t5:=Tryz.underlying5
 a5:=Tryz.isAgg5
 z5:=Tryz.sizeOf5
 v5:=Tryz.zeroValue5
 t9:=Tryz.underlying9
 a9:=Tryz.isAgg9
 z9:=Tryz.sizeOf9
 v9:=Tryz.zeroValue9
 t20:=Tryz.underlying20
 a20:=Tryz.isAgg20
 z20:=Tryz.sizeOf20
 v20:=Tryz.zeroValue20
 t37:=Tryz.underlying22
 a37:=Tryz.isAgg22
 z37:=Tryz.sizeOf22
 v37:=Tryz.zeroValue22
 t46:=Tryz.underlying170
 a46:=Tryz.isAgg170
 z46:=Tryz.sizeOf170
 v46:=Tryz.zeroValue170
 t51:=Tryz.underlying165
 a51:=Tryz.isAgg165
 z51:=Tryz.sizeOf165
 v51:=Tryz.zeroValue165
 t53:=Tryz.underlying140
 a53:=Tryz.isAgg140
 z53:=Tryz.sizeOf140
 v53:=Tryz.zeroValue140
 t171:=Tryz.underlying188
 a171:=Tryz.isAgg188
 z171:=Tryz.sizeOf188
 v171:=Tryz.zeroValue188
 t173:=Tryz.underlying191
 a173:=Tryz.isAgg191
 z173:=Tryz.sizeOf191
 v173:=Tryz.zeroValue191
 t212:=Tryz.underlying196
 a212:=Tryz.isAgg196
 z212:=Tryz.sizeOf196
 v212:=Tryz.zeroValue196
 t213:=Tryz.underlying197
 a213:=Tryz.isAgg197
 z213:=Tryz.sizeOf197
 t232:=Tryz.underlying205
 a232:=Tryz.isAgg205
 z232:=Tryz.sizeOf205
 v232:=Tryz.zeroValue205
 t233:=Tryz.underlying206
 a233:=Tryz.isAgg206
 z233:=Tryz.sizeOf206
 v233:=Tryz.zeroValue206
 g17:=by kernel_rfl
 g18:=by kernel_rfl
 g19:=by kernel_rfl }
end Go.Proofs
namespace Go.PM
open Go
inductive Co:PV→PV→Prop
 |refl (v:PV):Co v v
 |junk (v:PV):Co v .junk
 |nil (s:Nat):Co .aH (.sl s [])
 |osl0 (o s off s':Nat):Co (.osl o s off 0) (.sl s' [])
 |agg {cs ds:List PV} (hl:Z' ds=Z' cs) (h:∀(j:Nat) p q,cs[j]?=some p→ds[j]?=some q→Co p q):Co (.agg cs) (.agg ds)
 |tup {cs ds:List PV} (hl:Z' ds=Z' cs) (h:∀(j:Nat) p q,cs[j]?=some p→ds[j]?=some q→Co p q):Co (.tup cs) (.tup ds)
 |bE {cs ds:List PV} (hl:Z' ds=Z' cs) (h:∀(j:Nat) p q,cs[j]?=some p→ds[j]?=some q→Co p q):Co (.bE cs) (.bE ds)
 |sl {s:Nat} {rs ts:List (List PV)} (hl:Z' ts=Z' rs) (hr:∀(i:Nat) r t,rs[i]?=some r→ts[i]?=some t→Z' t=Z' r)
   (h:∀(i j:Nat) p q,at2 rs i j=some p→at2 ts i j=some q→Co p q):Co (.sl s rs) (.sl s ts)
structure CoL(ps qs:List PV):Prop where
 len:Z' qs=Z' ps
 at_:∀(j:Nat) p q,ps[j]?=some p→qs[j]?=some q→Co p q
theorem CoL.refl(ps:List PV):CoL ps ps:=⟨rfl,λj p q h k=>by rw[h]at k;cases k;exact .refl p⟩
theorem Co.sound{E:Env}{p q:PV}(h:Co p q):∀{v:Value},bF E p v→bF E q v:=by
 induction h with
 |refl=>intro v r;exact r
 |junk=>intro v _;exact .junk v
 |nil s =>intro v r;cases r;exact .sl (λ_ _=>.bool false) aY aV aY aY (λ_ _=>rfl) (by simp[at2])
 |osl0 o s α s'=>
  intro v r;cases r with
  |osl hb K X W y hn S=>exact .sl (λ_ _=>.bool false) aY y aY aY (λ_ _=>rfl) (by simp[at2])
 |agg x h F=>
  intro v r;cases r with
  |agg vs B I A=>
  refine .agg vs (B.trans x.symm) I λj q u hq U=>?_;have w:=(bhG.1 hq).1;have l:=bgH (show j<_ by rw[x]at w;exact w);exact F j _ q l hq (A j _ u l U)
 |tup x h F=>
  intro v r;cases r with
  |tup vs B A=>
  refine .tup vs (B.trans x.symm) λj q u hq U=>?_;have w:=(bhG.1 hq).1;have l:=bgH (show j<_ by rw[x]at w;exact w);exact F j _ q l hq (A j _ u l U)
 |bE x h F=>
  intro v r;cases r with
  |bE u K O I A=>
  refine .bE u K (λj q hq=>?_) I λj q hq=>?_
  ·have w:=(bhG.1 hq).1;exact O j _ (bgH (show j<_ by rw[x]at w;exact w))
  ·have w:=(bhG.1 hq).1;have l:=bgH (show j<_ by rw[x]at w;exact w);exact F j _ q l hq (A j _ l)
 |@sl s rs ts x J h F=>
  intro v r;have M:∀(i j:Nat) q,at2 ts i j=some q→∃p,at2 rs i j=some p:=by intro i j q hq;unfold at2 at hq ⊢;rw[bjW]at hq;obtain⟨t,N,hq⟩:=hq;have hi:=(bhG.1 N).1;have A:=bgH (Om:i<Z' rs);have:=J i _ t A N;have w:=(bhG.1 hq).1;rw[A];exact⟨(rs[i])[j]'Om,by simp⟩
  cases r with
  |sl u V y hs Z I A=>
  rw[←x];refine .sl u Om y (λt N=>?_) (λR=>?_) I λi j q hq=>?_
  ·obtain⟨i,hi,rfl⟩:=bhV N;have:=J i rs[i] ts[i] aY aY;rw[this];exact hs _ aY
  ·obtain⟨Y,e,sp,O⟩:=Z (by rintro rfl;exact R (List.eq_nil_of_length_eq_zero (by simpa using x)));refine⟨Y,e,sp,λi j q hq=>?_⟩;obtain⟨p,l⟩:=M i j q hq;exact O i j p l
  ·obtain⟨p,l⟩:=M i j q hq;exact F i j p q l hq (A i j p l)
theorem CoL.sound{E:Env}:∀{ps e:List PV}{vs:List Value},CoL ps e→iH E ps vs→iH E e vs
 |[],e,vs,h,r=>by cases r;have:e=[]:=List.eq_nil_of_length_eq_zero h.len;subst this;exact .nil
 |p::ps,e,vs,h,r=>by
  cases r with
  |cons r1 r2=>
  cases e with
  |nil=>have:=h.len;simp at this
  |cons q e =>refine .cons ((h.at_ 0 p q rfl rfl).sound r1) (CoL.sound ⟨by simpa using h.len,λj x y a b=>h.at_ (j+1) x y (by simpa using a) (by simpa using b)⟩ r2)
theorem aI.args{C:Ctx}{name:Nat}{args e:List PV}{H:PH}{R:PV→PH→Prop}(h:aI C name e H R)(u:CoL args e):aI C name args H R:=
 ⟨h.1,λE w vs l hW j=>h.2 E w vs l hW (u.sound j)⟩
theorem aI.post{C:Ctx}{name:Nat}{args:List PV}{H:PH}{R A:PV→PH→Prop}(h:aI C name args H R)(K:∀r H',R r H'→∃B,Co r B∧A B H'):aI C name args H A:=
 ⟨h.1,λE w vs J hW x=>(h.2 E w vs J hW x).mono λe O he=>by obtain⟨v,pv,F,H',rfl,j,N,I,M⟩:=he;obtain⟨y,l,u⟩:=K pv H' M;exact⟨v,y,F,H',rfl,j,l.sound N,I,u⟩⟩
attribute [go_sem] List.getElem?_cons_succ List.getElem?_cons_zero and_self and_true true_and or_true true_or or_false false_or bgJ bgS bhD bjX if_true if_false bhT biM List.drop_succ_cons bhP List.take_succ_cons List.take_zero bhJ biS biQ.injEq PV.bool.injEq PV.int.injEq aT PV.bin
@[go_sem] theorem a7R(k:IntKind)(a b:Int):rQ .add k a b=some (.int k (k.wrap (a+b))):=(rfl)
@[go_sem] theorem a8B(k:IntKind)(a b:Int):rQ .sub k a b=some (.int k (k.wrap (a-b))):=(rfl)
@[go_sem] theorem a7X(k:IntKind)(a b:Int):rQ .mul k a b=some (.int k (k.wrap (a*b))):=(rfl)
@[go_sem] theorem a7Z(k:IntKind)(a b:Int):rQ .quo k a b=if b=0 then none else some (.int k (k.wrap (a.tdiv b))):=(rfl)
@[go_sem] theorem a8A(k:IntKind)(a b:Int):rQ .rem k a b=if b=0 then none else some (.int k (a.tmod b)):=(rfl)
@[go_sem] theorem a7S(k:IntKind)(a b:Int):rQ .eql k a b=some (.bool (a==b)):=(rfl)
@[go_sem] theorem a7Y(k:IntKind)(a b:Int):rQ .neq k a b=some (.bool (a != b)):=(rfl)
@[go_sem] theorem a7W(k:IntKind)(a b:Int):rQ .lss k a b=some (.bool (decide (a<b))):=(rfl)
@[go_sem] theorem a7V(k:IntKind)(a b:Int):rQ .leq k a b=some (.bool (decide (a≤b))):=(rfl)
@[go_sem] theorem a7U(k:IntKind)(a b:Int):rQ .gtr k a b=some (.bool (decide (a>b))):=(rfl)
@[go_sem] theorem a7T(k:IntKind)(a b:Int):rQ .geq k a b=some (.bool (decide (a≥b))):=(rfl)
section
variable {C:Ctx} {K:cQ} {F:PF} {H:PH}
@[go_sem] theorem bcM:aC.wp C .skip K F H=K .normal F H:=(rfl)
@[go_sem] theorem a9M(ops:List bN):aC.wp C (.region ops) K F H=wpOps C ops (K .normal) F H:=(rfl)
@[go_sem] theorem Jm(a b:aC):aC.wp C (.seq a b) K F H=a.wp C (kJ C (b.wp C) K) F H:=(rfl)
@[go_sem] theorem baV(id:Nat)(c:aC):aC.wp C (.block id c) K F H=c.wp C (fN id K) F H:=(rfl)
@[go_sem] theorem bcL(id:Nat):aC.wp C (.exit id) K F H=K (.exit id) F H:=(rfl)
@[go_sem] theorem bcY:aC.wp C .ret K F H=K .ret F H:=(rfl)
def jb(C:Ctx)(v:Option PV)(a b:aC)(K:cQ)(F:PF)(H:PH):Prop:=
 match v with
 |some (.bool t)=>if t then a.wp C K F H else b.wp C K F H
 |_=>False
@[go_sem] theorem aYT(c:aS)(a b:aC):aC.wp C (.cond c a b) K F H=jb C (c.ev F) a b K F H:=(rfl)
@[go_sem] theorem a8G(a b:aC):jb C (some (.bool true)) a b K F H=a.wp C K F H:=(rfl)
@[go_sem] theorem a6T(a b:aC):jb C (some (.bool false)) a b K F H=b.wp C K F H:=(rfl)
theorem aSP{t:Bool}{a b:aC}(e:t=true→a.wp C K F H)(j:t=false→b.wp C K F H):jb C (some (.bool t)) a b K F H:=by
 cases t
 ·exact j rfl
 ·exact e rfl
@[go_sem] theorem a7B(w:cQ→PF→PH→Prop):kJ C w K .normal F H=w K F H:=(rfl)
@[go_sem] theorem a6G(w:cQ→PF→PH→Prop):kJ C w K .normal=w K:=(rfl)
@[go_sem] theorem baI(w:cQ→PF→PH→Prop)(id:Nat):kJ C w K (.exit id)=K (.exit id):=(rfl)
@[go_sem] theorem bcA(w:cQ→PF→PH→Prop):kJ C w K .ret=K .ret:=(rfl)
@[go_sem] theorem a4M(id:Nat):fN id K .normal=K .normal:=(rfl)
@[go_sem] theorem a8E(id:Nat):fN id K .ret=K .ret:=(rfl)
@[go_sem] theorem MV(id e:Nat):fN id K (.exit e) F H=if e=id then K .normal F H else K (.exit e) F H:=(rfl)
@[go_sem] theorem a9K(K:PF→PH→Prop):wpOps C [] K F H=K F H:=(rfl)
@[go_sem] theorem a9L(d:Option Nat)(op:POp)(e:List bN)(K:PF→PH→Prop):wpOps C (⟨d,op,none⟩::e) K F H=wpOp C op d (wpOps C e K) F H:=(rfl)
def EG(C:Ctx)(v:Option PV)(j:Bool)(op:POp)(d:Option Nat)(e:List bN)(K:PF→PH→Prop)(F:PF)(H:PH):Prop:=
 match v with
 |some (.bool b)=>if b=j then wpOp C op d (wpOps C e K) F H else wpOps C e K (F.put d (.tup [])) H
 |some (.tup [])=>wpOps C e K (F.put d (.tup [])) H
 |_=>False
@[go_sem] theorem arA(d:Option Nat)(op:POp)(t:Nat)(j:Bool)(e:List bN)(K:PF→PH→Prop) :
  wpOps C (⟨d,op,some (t,j)⟩::e) K F H=EG C (F t) j op d e K F H:=(rfl)
@[go_sem] theorem baE(op:POp)(d:Option Nat)(e:List bN)(K:PF→PH→Prop):EG C (some (.bool true)) true op d e K F H=wpOp C op d (wpOps C e K) F H:=(rfl)
@[go_sem] theorem baB(op:POp)(d:Option Nat)(e:List bN)(K:PF→PH→Prop):EG C (some (.bool false)) false op d e K F H=wpOp C op d (wpOps C e K) F H:=(rfl)
@[go_sem] theorem baD(op:POp)(d:Option Nat)(e:List bN)(K:PF→PH→Prop):EG C (some (.bool true)) false op d e K F H=wpOps C e K (F.put d (.tup [])) H:=(rfl)
@[go_sem] theorem baC(op:POp)(d:Option Nat)(e:List bN)(K:PF→PH→Prop):EG C (some (.bool false)) true op d e K F H=wpOps C e K (F.put d (.tup [])) H:=(rfl)
@[go_sem] theorem a6Y(j:Bool)(op:POp)(d:Option Nat)(e:List bN)(K:PF→PH→Prop):EG C (some (.tup [])) j op d e K F H=wpOps C e K (F.put d (.tup [])) H:=(rfl)
@[go_sem] theorem bbX(d:Nat)(v:PV):F.put (some d) v=F.set d v:=(rfl)
@[go_sem] theorem bbW(v:PV):F.put none v=F:=(rfl)
@[go_sem] theorem qK(i j:Nat)(v:PV):(F.set i v) j=if j=i then some v else F j:=(rfl)
@[go_sem] theorem args_at(vs:List PV)(i:Nat):PF.args vs i=vs[i]?:=(rfl)
@[go_sem] theorem bdD(i:Nat):PF.nil i=none:=(rfl)
@[go_sem] theorem zc(t:Nat):(aS.tmp t).ev F=F t:=(rfl)
@[go_sem] theorem bbM(v:PV):(aS.const v).ev F=some v:=(rfl)
@[go_sem] theorem aR(i j:Nat)(x:cI):(H.set i x) j=if j=i then some x else H j:=(rfl)
@[go_sem] theorem He(i:Nat):PH.nil i=none:=(rfl)
@[go_sem] theorem je:aS.evs F []=some []:=(rfl)
@[go_sem] theorem IV(x:aS)(xs:List aS):aS.evs F (x::xs)=(match x.ev F,aS.evs F xs with|some v,some vs=>some (v::vs)|_,_=>none):=(rfl)
theorem nE{i j:Nat}{x:cI}:(H.set i x) j=none↔j≠i∧H j=none:=by
 rw[aR];split<;>simp_all
@[go_sem] theorem a7C(v:PV)(d:Option Nat)(K:PF→PH→Prop):cX (some v) d K F H=K (F.put d v) H:=by
 simp[cX]
theorem aQ{e:Nat→PV}{x:cI}{d:Option Nat}{K:PF→PH→Prop}(h:∀o,H o=none→K (F.put d (e o)) (H.set o x)):sX (some (e,x)) d K F H:=⟨e,x,rfl,h⟩
@[go_sem] theorem bcW(x:aS)(d:Option Nat)(K:PF→PH→Prop):wpOp C (.mv x) d K F H=cX (aT (.mv x) F H) d K F H:=(rfl)
@[go_sem] theorem baU(x:aS)(d:Option Nat)(K:PF→PH→Prop):wpOp C (.same x) d K F H=cX (aT (.same x) F H) d K F H:=(rfl)
@[go_sem] theorem baT(c a b:aS)(d:Option Nat)(K:PF→PH→Prop):wpOp C (.pick c a b) d K F H=cX (aT (.pick c a b) F H) d K F H:=(rfl)
@[go_sem] theorem bcG(o:BinOp)(x y:aS)(d:Option Nat)(K:PF→PH→Prop):wpOp C (.bin o x y) d K F H=cX (aT (.bin o x y) F H) d K F H:=(rfl)
@[go_sem] theorem bcI(n:Bool)(x y:aS)(d:Option Nat)(K:PF→PH→Prop):wpOp C (.eqb n x y) d K F H=cX (aT (.eqb n x y) F H) d K F H:=(rfl)
@[go_sem] theorem bcJ(n:Bool)(e:List Sc)(x y:aS)(d:Option Nat)(K:PF→PH→Prop):wpOp C (.eqs n e x y) d K F H=cX (aT (.eqs n e x y) F H) d K F H:=(rfl)
@[go_sem] theorem bcX(o:UnOp)(x:aS)(d:Option Nat)(K:PF→PH→Prop):wpOp C (.un o x) d K F H=cX (aT (.un o x) F H) d K F H:=(rfl)
@[go_sem] theorem baM(k:IntKind)(x:aS)(d:Option Nat)(K:PF→PH→Prop):wpOp C (.conv k x) d K F H=cX (aT (.conv k x) F H) d K F H:=(rfl)
@[go_sem] theorem a9D(z:List PV)(ps:List (Nat × Nat × aS))(d:Option Nat)(K:PF→PH→Prop):wpOp C (.build z ps) d K F H=cX (aT (.build z ps) F H) d K F H:=(rfl)
@[go_sem] theorem baR(n:Option Nat)(p:aS)(d:Option Nat)(K:PF→PH→Prop):wpOp C (.load n p) d K F H=cX (aT (.load n p) F H) d K F H:=(rfl)
@[go_sem] theorem a7N(x:aS)(d:Option Nat)(K:PF→PH→Prop):wpOp C (.beY x) d K F H=cX (aT (.beY x) F H) d K F H:=(rfl)
@[go_sem] theorem a7G(e:Nat)(x:aS)(d:Option Nat)(K:PF→PH→Prop):wpOp C (.bfP e x) d K F H=cX (aT (.bfP e x) F H) d K F H:=(rfl)
@[go_sem] theorem a9F(e:Nat)(n:Option Nat)(x:aS)(d:Option Nat)(K:PF→PH→Prop):wpOp C (.field e n x) d K F H=cX (aT (.field e n x) F H) d K F H:=(rfl)
@[go_sem] theorem baO(s:Nat)(x i:aS)(d:Option Nat)(K:PF→PH→Prop):wpOp C (.bfC s x i) d K F H=cX (aT (.bfC s x i) F H) d K F H:=(rfl)
@[go_sem] theorem baN(n s:Nat)(x i:aS)(d:Option Nat)(K:PF→PH→Prop):wpOp C (.idxA n s x i) d K F H=cX (aT (.idxA n s x i) F H) d K F H:=(rfl)
@[go_sem] theorem baP(n s:Nat)(g:Bool)(x i:aS)(d:Option Nat)(K:PF→PH→Prop):wpOp C (.idxV n s g x i) d K F H=cX (aT (.idxV n s g x i) F H) d K F H:=(rfl)
@[go_sem] theorem a7H(x i:aS)(d:Option Nat)(K:PF→PH→Prop):wpOp C (.bfN x i) d K F H=cX (aT (.bfN x i) F H) d K F H:=(rfl)
@[go_sem] theorem a9I(s:Nat)(x:aS)(lo hi mx:Option aS)(d:Option Nat)(K:PF→PH→Prop):wpOp C (.slice s x lo hi mx) d K F H=cX (aT (.slice s x lo hi mx) F H) d K F H:=(rfl)
@[go_sem] theorem a7O(n s:Nat)(x:aS)(lo hi mx:Option aS)(d:Option Nat)(K:PF→PH→Prop):wpOp C (.sliceA n s x lo hi mx) d K F H=cX (aT (.sliceA n s x lo hi mx) F H) d K F H:=(rfl)
@[go_sem] theorem a4P(x:aS)(lo hi:Option aS)(d:Option Nat)(K:PF→PH→Prop):wpOp C (.bfI x lo hi) d K F H=cX (aT (.bfI x lo hi) F H) d K F H:=(rfl)
@[go_sem] theorem baF:PV.AW .aH=some (.int .i64 0):=(rfl)
@[go_sem] theorem bcV(s:Nat)(rows:List (List PV)):PV.AW (.sl s rows)=some (.int .i64 rows.length):=(rfl)
@[go_sem] theorem bbS(o s e n:Nat):PV.AW (.osl o s e n)=some (.int .i64 n):=(rfl)
@[go_sem] theorem bcK(x:aS)(d:Option Nat)(K:PF→PH→Prop):wpOp C (.len x) d K F H=cX (aT (.len x) F H) d K F H:=(rfl)
@[go_sem] theorem a7J(x:aS)(d:Option Nat)(K:PF→PH→Prop):wpOp C (.bfM x) d K F H=cX (aT (.bfM x) F H) d K F H:=(rfl)
@[go_sem] theorem baQ(x:aS)(d:Option Nat)(K:PF→PH→Prop):wpOp C (.lenM x) d K F H=cX (aT (.lenM x) F H) d K F H:=(rfl)
@[go_sem] theorem a9G(n:Bool)(x:aS)(d:Option Nat)(K:PF→PH→Prop):wpOp C (.isNil n x) d K F H=cX (aT (.isNil n x) F H) d K F H:=(rfl)
@[go_sem] theorem a7A:PV.QU .aH=some true:=(rfl)
@[go_sem] theorem a8T(o s e len:Nat):PV.QU (.osl o s e len)=some false:=(rfl)
@[go_sem] theorem a6Z(s:Nat)(r:List PV)(rs:List (List PV)):PV.QU (.sl s (r::rs))=some false:=(rfl)
@[go_sem] theorem a7F(x:aS)(d:Option Nat)(K:PF→PH→Prop):wpOp C (.bfX x) d K F H=cX (aT (.bfX x) F H) d K F H:=(rfl)
@[go_sem] theorem a6P(x:aS)(i:Nat)(d:Option Nat)(K:PF→PH→Prop):wpOp C (.extract x i) d K F H=cX (aT (.extract x i) F H) d K F H:=(rfl)
@[go_sem] theorem a7M(m:Bool)(x y:aS)(d:Option Nat)(K:PF→PH→Prop):wpOp C (.bfG m x y) d K F H=cX (aT (.bfG m x y) F H) d K F H:=(rfl)
@[go_sem] theorem baS(n:Nat)(cs:List aS)(d:Option Nat)(K:PF→PH→Prop):wpOp C (.mkfn n cs) d K F H=cX (aT (.mkfn n cs) F H) d K F H:=(rfl)
@[go_sem] theorem a7K(sh:MSh)(z:PV)(x k:aS)(ok:Bool)(d:Option Nat)(K:PF→PH→Prop):wpOp C (.lookup sh z x k ok) d K F H=cX (aT (.lookup sh z x k ok) F H) d K F H:=(rfl)
@[go_sem] theorem a4D(x:aS)(d:Option Nat)(K:PF→PH→Prop):wpOp C (.beZ x) d K F H=cX (aT (.beZ x) F H) d K F H:=(rfl)
@[go_sem] theorem baK(x:aS)(d:Option Nat)(K:PF→PH→Prop):wpOp C (.box true x) d K F H=cX (aT (.box true x) F H) d K F H:=(rfl)
@[go_sem] theorem a6O(s l:Nat)(z:List PV)(ps:List (Nat × aS))(d:Option Nat)(K:PF→PH→Prop):wpOp C (.beQ true s l z ps) d K F H=cX (aT (.beQ true s l z ps) F H) d K F H:=(rfl)
@[go_sem] theorem a9C(cs:List PV)(d:Option Nat)(K:PF→PH→Prop):wpOp C (.alloc cs) d K F H=sX (eU (.alloc cs) F) d K F H:=(rfl)
@[go_sem] theorem a6Q(s b:Nat)(z:List PV)(l c:aS)(d:Option Nat)(K:PF→PH→Prop):wpOp C (.beT s b z l c) d K F H=sX (eU (.beT s b z l c) F) d K F H:=(rfl)
@[go_sem] theorem a9H(sh:MSh)(d:Option Nat)(K:PF→PH→Prop):wpOp C (.bfT sh) d K F H=sX (eU (.bfT sh) F) d K F H:=(rfl)
@[go_sem] theorem bcH(x:aS)(d:Option Nat)(K:PF→PH→Prop):wpOp C (.box false x) d K F H=sX (eU (.box false x) F) d K F H:=(rfl)
@[go_sem] theorem a7E(s l:Nat)(z:List PV)(ps:List (Nat × aS))(d:Option Nat)(K:PF→PH→Prop):wpOp C (.beQ false s l z ps) d K F H=sX (eU (.beQ false s l z ps) F) d K F H:=(rfl)
@[go_sem] theorem a9J(n:Nat)(p x:aS)(d:Option Nat)(K:PF→PH→Prop):wpOp C (.store n p x) d K F H=dL (.store n p x) F H (λr H'=>K (F.put d r) H'):=(rfl)
@[go_sem] theorem a7D(s b:Nat)(x y:aS)(d:Option Nat)(K:PF→PH→Prop):wpOp C (.append s b x y) d K F H=dL (.append s b x y) F H (λr H'=>K (F.put d r) H'):=(rfl)
@[go_sem] theorem a7L(sh:MSh)(x k v:aS)(d:Option Nat)(K:PF→PH→Prop):wpOp C (.bfD sh x k v) d K F H=dL (.bfD sh x k v) F H (λr H'=>K (F.put d r) H'):=(rfl)
@[go_sem] theorem a7I(sh:MSh)(x k v:aS)(d:Option Nat)(K:PF→PH→Prop):wpOp C (.insert sh x k v) d K F H=dL (.insert sh x k v) F H (λr H'=>K (F.put d r) H'):=(rfl)
@[go_sem] theorem baL(n:Nat)(e:List aS)(d:Option Nat)(K:PF→PH→Prop):wpOp C (.call n e) d K F H=kF C n e [] d K F H:=(rfl)
@[go_sem] theorem a9E(x:aS)(e:List aS)(d:Option Nat)(K:PF→PH→Prop):wpOp C (.bfO x e) d K F H=DF C (x.ev F) e d K F H:=(rfl)
@[go_sem] theorem a9B(n:Nat)(cs:List PV)(e:List aS)(d:Option Nat)(K:PF→PH→Prop):DF C (some (.fn n cs)) e d K F H=kF C n e cs d K F H:=(rfl)
theorem PF.nil_le:PF.nil.le F:=λ_ _ h=>(by cases h)
abbrev c_:=@PF.nil_le
theorem PF.aF{i:Nat}{v:PV}{G:PF}(w:F.le G)(x:G i=some v):(F.set i v).le G:=by
 intro j u l;rw[qK]at l;split at l
 ·rename_i e;subst e;cases l;exact x
 ·exact w _ _ l
abbrev d_:=@PF.aF
theorem PF.le_refl:F.le F:=λ_ _ h=>h
theorem PH.nil_le:PH.nil.le H:=λ_ _ h=>(by cases h)
abbrev a_:=@PH.nil_le
theorem PH.aF{i:Nat}{x:cI}{G:PH}(w:H.le G)(y:G i=some x):(H.set i x).le G:=by
 intro j u l;rw[aR]at l;split at l
 ·rename_i e;subst e;cases l;exact y
 ·exact w _ _ l
abbrev e_:=@PH.aF
theorem PH.le_refl:H.le H:=λ_ _ h=>h
abbrev b_:=@PH.le_refl
theorem wp_loop{c:aC}{α:Type}(e:α→PF)(Hs:α→PH)(j:α→Prop)(m:α→Nat)(l:α)(u:j l)(w:(e l).le F)(x:(Hs l).le H)
  (hb:∀a,j a→c.wp C (fZ e Hs j m (m a) K) (e a) (Hs a)):aC.wp C (.loop c) K F H:=
 ⟨α,e,Hs,j,m,l,F,H,.refl F H,u,w,x,hb⟩
theorem aG{α:Type}{e:α→PF}{Hs:α→PH}{j:α→Prop}{m:α→Nat}{n:Nat}(a:α)(l:j a)(x:m a<n)(u:(e a).le F)(w:(Hs a).le H):fZ e Hs j m n K .normal F H:=
 ⟨a,F,H,.refl F H,l,x,u,w⟩
@[go_sem] theorem a8V{α:Type}{e:α→PF}{Hs:α→PH}{j:α→Prop}{m:α→Nat}{n:Nat}(id:Nat):fZ e Hs j m n K (.exit id)=K (.exit id):=(rfl)
@[go_sem] theorem baG{α:Type}{e:α→PF}{Hs:α→PH}{j:α→Prop}{m:α→Nat}{n:Nat}:fZ e Hs j m n K .ret=K .ret:=(rfl)
def aK(v:PV)(r:PV)(H:PH):Prop:=r=v∧H=PH.nil
theorem PH.nZ:H.over .nil .nil=H:=PH.ext λo=>rfl
theorem aqZ{name:Nat}{vs cs:List PV}{v:PV}{args:List aS}{d:Option Nat}{K:PF→PH→Prop}(h:aI C name (vs++cs) .nil (aK v))(e:aS.evs F args=some vs)
  (j:K (F.put d v) H):kF C name args cs d K F H:=by
 refine .inl ⟨vs++cs,.nil,_,by rw[e];rfl,a_,h,?_⟩;rintro r H' ⟨rfl,rfl⟩ _;rw[PH.nZ];exact j
theorem aB{name:Nat}{vs:List PV}{v:PV}{args:List aS}{d:Option Nat}{K:PF→PH→Prop}(h:aI C name vs .nil (aK v))(e:aS.evs F args=some vs)
  (j:K (F.put d v) H):kF C name args [] d K F H:=aqZ (cs:=[]) (by rw[bhH];exact h) e j
theorem aU{res:List fL}{vs:List PV}{v:PV}{e:oW}(he:e=.normal∨e=.ret)(h:fL.evs F H res=some vs)(x:cF vs=v):aW res (aK v) e F H:=by
 have j:∃vs,fL.evs F H res=some vs∧∃l w H2,mP (PF.nil.set 0 (cF vs)) H l w∧H2.le w∧∃u,l 0=some u∧aK v u H2:=
  ⟨vs,h,_,H,.nil,.refl _ _,a_,v,by rw[qK,aL rfl,x],rfl,rfl⟩
 rcases he with rfl|rfl<;>exact j
@[go_sem] theorem vJ:fL.evs F H []=some []:=(rfl)
@[go_sem] theorem qE(x:fL)(xs:List fL):fL.evs F H (x::xs)=(match x.ev F H,fL.evs F H xs with|some v,some vs=>some (v::vs)|_,_=>none):=(rfl)
@[go_sem] theorem tV(t:Nat):fL.ev F H (.tmp t)=F t:=(rfl)
@[go_sem] theorem bbY(t:Nat):fL.ev F H (.cell t none)=(match F t with|some p=>(match loadCells H p 1 with|some [v]=>some v|_=>none)|none=>none):=(rfl)
@[go_sem] theorem baH(t k:Nat):fL.ev F H (.cell t (some k))=(match F t with|some p=>(loadCells H p k).map .agg|none=>none):=(rfl)
end
section
variable {C:Ctx} {K:cQ} {F:PF} {H Hs:PH} {S:Spec}
theorem bA{ops:List (bN × Bool)}(Hs:PH)(S:Spec)(e:Hs.le H)(h:wpD C Hs S ops (K .normal) F H):aC.wp C (.draw ops) K F H:=⟨Hs,S,e,h⟩
def cK:Spec:=λ_ _=>none
def dOp(C:Ctx)(Hs:PH)(S:Spec)(st:Bool)(op:POp)(d:Option Nat)(K:PF→PH→Prop)(F:PF)(H:PH):Prop:=(op.kind F).run C Hs S st (λv H'=>K (F.put d v) H') H
@[go_sem] theorem bcE(K:PF→PH→Prop):wpD C Hs S [] K F H=K F H:=(rfl)
@[go_sem] theorem bcF(d:Option Nat)(op:POp)(st:Bool)(e:List (bN × Bool))(K:PF→PH→Prop):wpD C Hs S ((⟨d,op,none⟩,st)::e) K F H=dOp C Hs S st op d (wpD C Hs S e K) F H:=(rfl)
def JB(C:Ctx)(Hs:PH)(S:Spec)(v:Option PV)(j st:Bool)(op:POp)(d:Option Nat)(e:List (bN × Bool))(K:PF→PH→Prop)(F:PF)(H:PH):Prop:=
 match v with
 |some (.bool b)=>if b=j then dOp C Hs S st op d (wpD C Hs S e K) F H else wpD C Hs S e K (F.put d (.tup [])) H
 |some (.tup [])=>wpD C Hs S e K (F.put d (.tup [])) H
 |_=>False
@[go_sem] theorem baJ(d:Option Nat)(op:POp)(t:Nat)(e st:Bool)(j:List (bN × Bool))(K:PF→PH→Prop) :
  wpD C Hs S ((⟨d,op,some (t,e)⟩,st)::j) K F H=JB C Hs S (F t) e st op d j K F H:=by
 have l:wpD C Hs S ((⟨d,op,some (t,e)⟩,st)::j) K F H=((⟨d,op,some (t,e)⟩:bN).kind F).run C Hs S st (λv H'=>wpD C Hs S j K (F.put d v) H') H:=(rfl);rw[l];unfold bN.kind JB;simp only;cases F t with
 |none=>rfl
 |some v=>
  cases v
  case bool b=>
   simp only;by_cases hb:b=e
   ·rw[aL hb,aL hb];rfl
   ·rw[aE hb,aE hb];simp[Kind.run]
  case tup vs=>cases vs<;>simp[Kind.run]
  all_goals rfl
@[go_sem] theorem baA(op:POp)(st:Bool)(d:Option Nat)(e:List (bN × Bool))(K:PF→PH→Prop):JB C Hs S (some (.bool true)) true st op d e K F H=dOp C Hs S st op d (wpD C Hs S e K) F H:=(rfl)
@[go_sem] theorem a9X(op:POp)(st:Bool)(d:Option Nat)(e:List (bN × Bool))(K:PF→PH→Prop):JB C Hs S (some (.bool false)) false st op d e K F H=dOp C Hs S st op d (wpD C Hs S e K) F H:=(rfl)
@[go_sem] theorem a9Z(op:POp)(st:Bool)(d:Option Nat)(e:List (bN × Bool))(K:PF→PH→Prop):JB C Hs S (some (.bool true)) false st op d e K F H=wpD C Hs S e K (F.put d (.tup [])) H:=(rfl)
@[go_sem] theorem a9Y(op:POp)(st:Bool)(d:Option Nat)(e:List (bN × Bool))(K:PF→PH→Prop):JB C Hs S (some (.bool false)) true st op d e K F H=wpD C Hs S e K (F.put d (.tup [])) H:=(rfl)
@[go_sem] theorem a6X(j:Bool)(op:POp)(st:Bool)(d:Option Nat)(e:List (bN × Bool))(K:PF→PH→Prop):JB C Hs S (some (.tup [])) j st op d e K F H=wpD C Hs S e K (F.put d (.tup [])) H:=(rfl)
@[go_sem] theorem bcZ(x:aS)(st:Bool)(d:Option Nat)(K:PF→PH→Prop):dOp C Hs S st (.mv x) d K F H=cX (aT (.mv x) F (if st then Hs else H)) d K F H:=(rfl)
@[go_sem] theorem bbK(x:aS)(st:Bool)(d:Option Nat)(K:PF→PH→Prop):dOp C Hs S st (.same x) d K F H=cX (aT (.same x) F (if st then Hs else H)) d K F H:=(rfl)
@[go_sem] theorem bbJ(c a b:aS)(st:Bool)(d:Option Nat)(K:PF→PH→Prop):dOp C Hs S st (.pick c a b) d K F H=cX (aT (.pick c a b) F (if st then Hs else H)) d K F H:=(rfl)
@[go_sem] theorem bcO(o:BinOp)(x y:aS)(st:Bool)(d:Option Nat)(K:PF→PH→Prop):dOp C Hs S st (.bin o x y) d K F H=cX (aT (.bin o x y) F (if st then Hs else H)) d K F H:=(rfl)
@[go_sem] theorem bcQ(n:Bool)(x y:aS)(st:Bool)(d:Option Nat)(K:PF→PH→Prop):dOp C Hs S st (.eqb n x y) d K F H=cX (aT (.eqb n x y) F (if st then Hs else H)) d K F H:=(rfl)
@[go_sem] theorem bcR(n:Bool)(e:List Sc)(x y:aS)(st:Bool)(d:Option Nat)(K:PF→PH→Prop):dOp C Hs S st (.eqs n e x y) d K F H=cX (aT (.eqs n e x y) F (if st then Hs else H)) d K F H:=(rfl)
@[go_sem] theorem bdA(o:UnOp)(x:aS)(st:Bool)(d:Option Nat)(K:PF→PH→Prop):dOp C Hs S st (.un o x) d K F H=cX (aT (.un o x) F (if st then Hs else H)) d K F H:=(rfl)
@[go_sem] theorem bbC(k:IntKind)(x:aS)(st:Bool)(d:Option Nat)(K:PF→PH→Prop):dOp C Hs S st (.conv k x) d K F H=cX (aT (.conv k x) F (if st then Hs else H)) d K F H:=(rfl)
@[go_sem] theorem a9O(z:List PV)(ps:List (Nat × Nat × aS))(st:Bool)(d:Option Nat)(K:PF→PH→Prop):dOp C Hs S st (.build z ps) d K F H=cX (aT (.build z ps) F (if st then Hs else H)) d K F H:=(rfl)
@[go_sem] theorem bbH(n:Option Nat)(p:aS)(st:Bool)(d:Option Nat)(K:PF→PH→Prop):dOp C Hs S st (.load n p) d K F H=cX (aT (.load n p) F (if st then Hs else H)) d K F H:=(rfl)
@[go_sem] theorem a8Q(x:aS)(st:Bool)(d:Option Nat)(K:PF→PH→Prop):dOp C Hs S st (.beY x) d K F H=cX (aT (.beY x) F (if st then Hs else H)) d K F H:=(rfl)
@[go_sem] theorem a8K(e:Nat)(x:aS)(st:Bool)(d:Option Nat)(K:PF→PH→Prop):dOp C Hs S st (.bfP e x) d K F H=cX (aT (.bfP e x) F (if st then Hs else H)) d K F H:=(rfl)
@[go_sem] theorem a9P(e:Nat)(n:Option Nat)(x:aS)(st:Bool)(d:Option Nat)(K:PF→PH→Prop):dOp C Hs S st (.field e n x) d K F H=cX (aT (.field e n x) F (if st then Hs else H)) d K F H:=(rfl)
@[go_sem] theorem bbE(s:Nat)(x i:aS)(st:Bool)(d:Option Nat)(K:PF→PH→Prop):dOp C Hs S st (.bfC s x i) d K F H=cX (aT (.bfC s x i) F (if st then Hs else H)) d K F H:=(rfl)
@[go_sem] theorem bbD(n s:Nat)(x i:aS)(st:Bool)(d:Option Nat)(K:PF→PH→Prop):dOp C Hs S st (.idxA n s x i) d K F H=cX (aT (.idxA n s x i) F (if st then Hs else H)) d K F H:=(rfl)
@[go_sem] theorem bbF(n s:Nat)(g:Bool)(x i:aS)(st:Bool)(d:Option Nat)(K:PF→PH→Prop):dOp C Hs S st (.idxV n s g x i) d K F H=cX (aT (.idxV n s g x i) F (if st then Hs else H)) d K F H:=(rfl)
@[go_sem] theorem a8L(x i:aS)(st:Bool)(d:Option Nat)(K:PF→PH→Prop):dOp C Hs S st (.bfN x i) d K F H=cX (aT (.bfN x i) F (if st then Hs else H)) d K F H:=(rfl)
@[go_sem] theorem a9S(s:Nat)(x:aS)(lo hi mx:Option aS)(st:Bool)(d:Option Nat)(K:PF→PH→Prop):dOp C Hs S st (.slice s x lo hi mx) d K F H=cX (aT (.slice s x lo hi mx) F (if st then Hs else H)) d K F H:=(rfl)
@[go_sem] theorem a5H(x:aS)(lo hi:Option aS)(st:Bool)(d:Option Nat)(K:PF→PH→Prop):dOp C Hs S st (.bfI x lo hi) d K F H=cX (aT (.bfI x lo hi) F (if st then Hs else H)) d K F H:=(rfl)
@[go_sem] theorem bcS(x:aS)(st:Bool)(d:Option Nat)(K:PF→PH→Prop):dOp C Hs S st (.len x) d K F H=cX (aT (.len x) F (if st then Hs else H)) d K F H:=(rfl)
@[go_sem] theorem a8M(x:aS)(st:Bool)(d:Option Nat)(K:PF→PH→Prop):dOp C Hs S st (.bfM x) d K F H=cX (aT (.bfM x) F (if st then Hs else H)) d K F H:=(rfl)
@[go_sem] theorem bbG(x:aS)(st:Bool)(d:Option Nat)(K:PF→PH→Prop):dOp C Hs S st (.lenM x) d K F H=cX (aT (.lenM x) F (if st then Hs else H)) d K F H:=(rfl)
@[go_sem] theorem a9Q(n:Bool)(x:aS)(st:Bool)(d:Option Nat)(K:PF→PH→Prop):dOp C Hs S st (.isNil n x) d K F H=cX (aT (.isNil n x) F (if st then Hs else H)) d K F H:=(rfl)
@[go_sem] theorem a8J(x:aS)(st:Bool)(d:Option Nat)(K:PF→PH→Prop):dOp C Hs S st (.bfX x) d K F H=cX (aT (.bfX x) F (if st then Hs else H)) d K F H:=(rfl)
@[go_sem] theorem a6V(x:aS)(i:Nat)(st:Bool)(d:Option Nat)(K:PF→PH→Prop):dOp C Hs S st (.extract x i) d K F H=cX (aT (.extract x i) F (if st then Hs else H)) d K F H:=(rfl)
@[go_sem] theorem a8P(m:Bool)(x y:aS)(st:Bool)(d:Option Nat)(K:PF→PH→Prop):dOp C Hs S st (.bfG m x y) d K F H=cX (aT (.bfG m x y) F (if st then Hs else H)) d K F H:=(rfl)
@[go_sem] theorem bbI(n:Nat)(cs:List aS)(st:Bool)(d:Option Nat)(K:PF→PH→Prop):dOp C Hs S st (.mkfn n cs) d K F H=cX (aT (.mkfn n cs) F (if st then Hs else H)) d K F H:=(rfl)
@[go_sem] theorem a8N(sh:MSh)(z:PV)(x k:aS)(ok:Bool)(st:Bool)(d:Option Nat)(K:PF→PH→Prop):dOp C Hs S st (.lookup sh z x k ok) d K F H=cX (aT (.lookup sh z x k ok) F (if st then Hs else H)) d K F H:=(rfl)
@[go_sem] theorem a4O(x:aS)(st:Bool)(d:Option Nat)(K:PF→PH→Prop):dOp C Hs S st (.beZ x) d K F H=cX (aT (.beZ x) F (if st then Hs else H)) d K F H:=(rfl)
@[go_sem] theorem bbB(x:aS)(st:Bool)(d:Option Nat)(K:PF→PH→Prop):dOp C Hs S st (.box true x) d K F H=cX (aT (.box true x) F (if st then Hs else H)) d K F H:=(rfl)
@[go_sem] theorem a6U(s l:Nat)(z:List PV)(ps:List (Nat × aS))(st:Bool)(d:Option Nat)(K:PF→PH→Prop):dOp C Hs S st (.beQ true s l z ps) d K F H=cX (aT (.beQ true s l z ps) F (if st then Hs else H)) d K F H:=(rfl)
@[go_sem] theorem a9N(cs:List PV)(st:Bool)(d:Option Nat)(K:PF→PH→Prop):dOp C Hs S st (.alloc cs) d K F H=sX (eU (.alloc cs) F) d K F H:=(rfl)
@[go_sem] theorem a6W(s b:Nat)(z:List PV)(l c:aS)(st:Bool)(d:Option Nat)(K:PF→PH→Prop):dOp C Hs S st (.beT s b z l c) d K F H=sX (eU (.beT s b z l c) F) d K F H:=(rfl)
@[go_sem] theorem a9R(sh:MSh)(st:Bool)(d:Option Nat)(K:PF→PH→Prop):dOp C Hs S st (.bfT sh) d K F H=sX (eU (.bfT sh) F) d K F H:=(rfl)
@[go_sem] theorem bcP(x:aS)(st:Bool)(d:Option Nat)(K:PF→PH→Prop):dOp C Hs S st (.box false x) d K F H=sX (eU (.box false x) F) d K F H:=(rfl)
@[go_sem] theorem a8I(s l:Nat)(z:List PV)(ps:List (Nat × aS))(st:Bool)(d:Option Nat)(K:PF→PH→Prop):dOp C Hs S st (.beQ false s l z ps) d K F H=sX (eU (.beQ false s l z ps) F) d K F H:=(rfl)
@[go_sem] theorem a9T(n:Nat)(p x:aS)(st:Bool)(d:Option Nat)(K:PF→PH→Prop):dOp C Hs S st (.store n p x) d K F H=dL (.store n p x) F H (λr H'=>Hs.le H'∧K (F.put d r) H'):=(rfl)
@[go_sem] theorem a8H(s b:Nat)(x y:aS)(st:Bool)(d:Option Nat)(K:PF→PH→Prop):dOp C Hs S st (.append s b x y) d K F H=dL (.append s b x y) F H (λr H'=>Hs.le H'∧K (F.put d r) H'):=(rfl)
@[go_sem] theorem a8O(sh:MSh)(x k v:aS)(st:Bool)(d:Option Nat)(K:PF→PH→Prop):dOp C Hs S st (.bfD sh x k v) d K F H=dL (.bfD sh x k v) F H (λr H'=>Hs.le H'∧K (F.put d r) H'):=(rfl)
theorem VC:H.only []=PH.nil:=PH.ext λo=>by simp[PH.only,PH.nil]
theorem cO{name:Nat}{vs:List PV}{v:PV}{args:List aS}{st:Bool}{d:Option Nat}{K:PF→PH→Prop}(j:S name vs=some ([],λ_=>aK v))(h:aI C name vs .nil (aK v))(l:aS.evs F args=some vs)
  (e:Hs.le H) (u:K (F.put d v) H):dOp C Hs S st (.call name args) d K F H:=by
 refine⟨vs,[],λ_=>aK v,l,j,λo w=>by simp at w,by rw[VC];exact h,λG=>⟨v,.nil,⟨rfl,rfl⟩,λo x y=>by simp[PH.nil]at y⟩,?_⟩;rintro r H' ⟨rfl,rfl⟩ -;rw[VC,PH.nZ];exact⟨e,u⟩
end
theorem wrap_i64{n:Int}(j:-9223372036854775808≤n)(l:n≤9223372036854775807):IntKind.i64.wrap n=n:=by
 have e:IntKind.i64.wrap n=if decide (n%18446744073709551616≥9223372036854775808)=true then n%18446744073709551616-18446744073709551616 else n%18446744073709551616:=by simp[IntKind.wrap,IntKind.bits,IntKind.signed]
 rw[e];split
 ·rename_i h;simp only[decide_eq_true_eq]at h;omega
 ·rename_i h;simp only[decide_eq_true_eq]at h;omega
theorem xv{k:Nat}(h:k≤9223372036854775807):IntKind.i64.wrap (k:Int)=k:=wrap_i64 Om Om
theorem eT{k:Nat}(h:k<9223372036854775807):IntKind.i64.wrap ((k:Int)+1)=((k+1:Nat):Int):=by
 rw[wrap_i64 Om Om];omega
theorem wZz(k:Nat)(h:k<9223372036854775807:=by omega):IntKind.i64.wrap ((k:Int)+1)=((k+1:Nat):Int):=eT h
theorem wrap_u64{n:Int}(j:0≤n)(l:n<18446744073709551616):IntKind.u64.wrap n=n:=by
 have e:IntKind.u64.wrap n=n%18446744073709551616:=by simp[IntKind.wrap,IntKind.bits,IntKind.signed]
 rw[e];omega
abbrev ints(xs:List Int):PV:=.sl 1 (xs.map λn=>[.int .i64 n])
open Go Go.RowKit
inductive CT where
 |int (k:IntKind)
 |bool
 |str
 |sl (es:List CT)
 deriving Inhabited
def yD(P:Program)(rec:TypeId→Option (List CT)):Nat→List Field→Option (List CT)
 |_,[]=>some []
 |k,f::e=>match rec f.type with
  |some cts=>if f.offset=k∧P.cellsOf f.type=cts.length then(yD P rec (k+Z' cts) e).map (cts++·)else none
  |none=>none
def lW(P:Program):Nat→TypeId→Option (List CT)
 |0,_=>none
 |n+1,t=>match P.underlying t with
  |some .bool=>some [.bool]
  |some (.int k)=>some [.int k]
  |some .string=>some [.str]
  |some (.slice e)=>match lW P n e with
   |some cts=>if P.cellsOf e=Z' cts∧0<cts.length then some [.sl cts]else none
   |none=>none
  |some (.struct j)=>match yD P (lW P n) 0 j.toList with
   |some cts=>if P.cellsOf t=cts.length then some cts else none
   |none=>none
  |some (.array k e)=>match lW P n e with
   |some cts=>if P.cellsOf e=Z' cts∧P.cellsOf t=k*cts.length then some (bgA k cts).flatten else none
   |none=>none
  |_=>none
inductive PV.Ty:CT→PV→Prop
 |int {k:IntKind} {n:Int} (h:(Lit.int k n).wf=true):PV.Ty (.int k) (.int k n)
 |bool (b:Bool):PV.Ty .bool (.bool b)
 |str {s:List UInt8} (h:Z' s≤maxLen):PV.Ty .str (.str s)
 |sl {es:List CT} {rows:List (List PV)} (hr:∀r∈rows,Z' r=Z' es) (hl:Z' rows≤maxLen) (h:∀(i j:Nat) pv ct,at2 rows i j=some pv→es[j]?=some ct→PV.Ty ct pv):PV.Ty (.sl es) (.sl es.length rows)
def Env.of(W:World)(num:Nat→FuncId):Env:=⟨λb=>match W.heap[b]? with|some (.cells cs _ _)=>some cs|_=>none,λ_=>none,num⟩
theorem cS.start(W:World)(num:Nat→FuncId):cS (Env.of W num) PH.nil W:=by
 refine⟨λb cs hb=>⟨λx e=>(by cases e),?_⟩,λo x e=>(by cases e),λo n h=>(by cases h)⟩;simp only[Env.of]at hb;split at hb
 ·rename_i c ty j h;cases hb;exact⟨ty,j,h⟩
 ·cases hb
structure Reads(E:Env)(cts:List CT)(pvs:List PV)(cs:List Value):Prop where
 lp:Z' pvs=Z' cts
 lc:Z' cs=Z' cts
 rep:∀(j:Nat) pv c,pvs[j]?=some pv→cs[j]?=some c→bF E pv c∧c.oneCell'=true
 ty:∀(j:Nat) pv ct,pvs[j]?=some pv→cts[j]?=some ct→PV.Ty ct pv
theorem Reads.one{E:Env}{ct:CT}{pv:PV}{c:Value}(h:bF E pv c)(e:c.oneCell'=true)(l:PV.Ty ct pv):Reads E [ct] [pv] [c]:=by
 refine⟨rfl,rfl,λj p u a b=>?_,λj p u a b=>?_⟩
 ·cases j with
  |zero=>simp at a b;subst a;subst b;exact⟨h,e⟩
  |succ j=>simp at a
 ·cases j with
  |zero=>simp at a b;subst a;subst b;exact l
  |succ j=>simp at a
theorem Reads.append{E:Env}{e w:List CT}{l A:List PV}{x y:List Value}(h:Reads E e l x)(k:Reads E w A y):Reads E (e++w) (l++A) (x++y):=by
 refine⟨by simp[h.lp,k.lp],by simp[h.lc,k.lc],λj p u a b=>?_,λj p u a b=>?_⟩
 ·rcases bgV j l.length with hj|hj
  ·rw[biA hj]at a;rw[biA (by rw[h.lc,←h.lp];exact hj)]at b;exact h.rep j p u a b
  ·rw[biB hj]at a;rw[biB (by rw[h.lc,←h.lp];exact hj)]at b;rw[show j-Z' x=j-l.length by rw[h.lc,h.lp]]at b;exact k.rep _ p u a b
 ·rcases bgV j l.length with hj|hj
  ·rw[biA hj]at a;rw[biA (by rw[←h.lp];exact hj)]at b;exact h.ty j p u a b
  ·rw[biB hj]at a;rw[biB (by rw[←h.lp];exact hj)]at b;rw[show j-Z' e=j-l.length by rw[h.lp]]at b;exact k.ty _ p u a b
theorem yy{W:World}{num:Nat→FuncId}{a:Addr}{v:Value}(h:W.cell? a=some v):a.spot=none∧(Env.of W num).cell a.block a.off=some v:=by
 unfold World.cell? at h;split at h
 ·rename_i c ty j hb;split at h
  ·cases h
  ·rename_i e;refine⟨by simpa using e,?_⟩;simp only[Env.cell,Env.of,hb];exact h
 ·cases h
inductive PV.Len (N:Nat):PV→Prop
 |flat {pv:PV} (h1:∀n rows,pv≠.sl n rows) (h2:∀vs,pv≠.agg vs):PV.Len N pv
 |sl {n:Nat} {rows:List (List PV)} (h:Z' rows≤N) (hr:∀r∈rows,∀v∈r,PV.Len N v):PV.Len N (.sl n rows)
 |agg {vs:List PV} (h:∀v∈vs,PV.Len N v):PV.Len N (.agg vs)
theorem PV.Len.int{N:Nat}(k:IntKind)(n:Int):PV.Len N (.int k n):=.flat (λ_ _ h=>by cases h) λ_ h=>by cases h
theorem PV.Len.bool{N:Nat}(b:Bool):PV.Len N (.bool b):=.flat (λ_ _ h=>by cases h) λ_ h=>by cases h
theorem PV.Len.str{N:Nat}(s:List UInt8):PV.Len N (.str s):=.flat (λ_ _ h=>by cases h) λ_ h=>by cases h
theorem PV.Len.rows{N n:Nat}{rows:List (List PV)}(h:PV.Len N (.sl n rows)):Z' rows≤N∧∀r∈rows,∀v∈r,PV.Len N v:=by
 cases h with
 |flat e _=>exact absurd rfl (e n rows)
 |sl e j=>exact⟨e,j⟩
theorem PV.Len.parts{N:Nat}{vs:List PV}(h:PV.Len N (.agg vs)):∀v∈vs,PV.Len N v:=by
 cases h with
 |flat _ e=>exact absurd rfl (e vs)
 |agg h=>exact h
structure qh{H:Type}(P:Program)(N:Nat)(S:TypeId→DataW H→Prop):Prop where
 sl:∀t e elems spare,P.underlying t=some (.slice e)→S t (.slice elems spare)→Z' elems≤N∧∀d∈elems,S e d
 st:∀t fs parts,P.underlying t=some (.struct fs)→S t (.agg parts)→∀(i:Nat) g d,fs[i]?=some g→parts[i]?=some d→S g.type d
 ar:∀t n e parts,P.underlying t=some (.array n e)→S t (.agg parts)→∀d∈parts,S e d
theorem i6{H:Type}{P:Program}{A:(TypeId→DataW H→Prop)→Prop}{pv:PV}(h:∀{N},PV.Len N pv):∀N S,qh P N S→A S→∀v∈[pv],PV.Len N v:=λN S _ _ v e=>by
 obtain rfl:=bhI.1 e;exact h
theorem zd{P:Program}{E:Env}{rec:TypeId→Option (List CT)}{H:Type}{f:TypeId→List Value→Option (DataW H × List MemPlace)}
  (J:∀t cs x cts,f t cs=some x→rec t=some cts→∃e,Reads E cts e cs∧∀N S,qh P N S→S t x.1→∀v∈e,PV.Len N v) (cs:List Value) :
  ∀(u:List Field)(k:Nat)(cts:List CT),(∀g∈u,∃x,f g.type ((cs.drop g.offset).take (P.cellsOf g.type))=some x)→yD P rec k u=some cts →
   ∃e,Reads E cts e ((cs.drop k).take cts.length)∧∀N S,qh P N S→(∀g∈u,∀x,f g.type ((cs.drop g.offset).take (P.cellsOf g.type))=some x→S g.type x.1)→∀v∈e,PV.Len N v
 |[],k,cts,_,h=>by simp[yD]at h;subst h;exact⟨[],⟨rfl,by simp,λj p c a=>by simp at a,λj p c a=>by simp at a⟩,λ_ _ _ _ v hv=>by cases hv⟩
 |g::u,k,cts,F,h=>by
  simp only[yD]at h;split at h
  ·rename_i K O;split at h
   ·rename_i B;simp only[bgM]at h;obtain⟨M,R,rfl⟩:=h;obtain⟨x,I⟩:=F g aY;obtain⟨W,r1,U⟩:=J _ _ _ _ I O;rw[B.1,B.2]at r1;obtain⟨X,r2,V⟩:=zd J cs u (k+Z' K) M (λw l=>F w (by simp[l])) R;refine⟨W++X,?_,λN S y A v hv=>?_⟩
    ·have:=r1.append r2;rw[bgB,List.take_add,List.drop_drop];exact this
    ·rcases bhK.1 hv with hv|hv
     ·exact U N S y (A g aY x I) v hv
     ·exact V N S y (λw l=>A w (by simp[l])) v hv
   ·cases h
  ·cases h
theorem Jy{E:Env}{cts:List CT}{R:List PV→Prop}(l:R [])(u:∀a b,R a→R b→R (a++b))(cs:List Value) :
  ∀n:Nat,(∀i,i<n→∃e,Reads E cts e ((cs.drop (i*Z' cts)).take cts.length)∧R e)→∃e,Reads E (bgA n cts).flatten e (cs.take (n*Z' cts))∧R e
 |0,_=>⟨[],⟨rfl,by simp,λj p c a=>by simp at a,λj p c a=>by simp at a⟩,l⟩
 |n+1,h=>by obtain⟨w,r1,y⟩:=Jy l u cs n λi hi=>h i Om;obtain⟨x,r2,A⟩:=h n Om;refine⟨w++x,?_,u _ _ y A⟩;rw[List.replicate_succ',List.flatten_append,List.flatten_singleton,biN,List.take_add];exact r1.append r2
theorem aXL{H:Type}{enc:TypeId × Value→H}{P:Program}{W:World}{base:Nat}{sp:Nat→Bool}{β:Bool}(num:Nat→FuncId) :
  ∀(fuel m:Nat)(t:TypeId)(cs:List Value)(x:DataW H × List MemPlace)(cts:List CT),DataW.trod enc P W base sp β fuel t cs=some x→lW P m t=some cts→∃l,Reads (Env.of W num) cts l cs∧∀N S,qh P N S→S t x.1→∀v∈l,PV.Len N v:=by
 intro fuel
 induction fuel with
 |zero=>intro m t cs x cts h;simp[DataW.trod]at h
 |succ fuel ih=>
  intro m t cs x cts h A;cases m with
  |zero=>simp[lW]at A
  |succ m=>
   simp only[lW]at A;split at A
   ·rename_i O;cases A;obtain⟨b,rfl,-⟩:=DataW.trod_bool O h;exact⟨[.bool b],.one (.bool b) rfl (.bool b),i6 (.bool b)⟩
   ·rename_i k O;cases A;obtain⟨n,rfl,-,hw⟩:=DataW.trod_int O h;exact⟨[.int k n],.one (.int k n) rfl (.int hw),i6 (.int k n)⟩
   ·rename_i O;cases A;obtain⟨s,rfl,-,hs⟩:=DataW.trod_string O h;exact⟨[.str s.data.toList],.one (.str s) rfl (.str (by rw[bjD];exact hs)),i6 (.str _)⟩
   ·rename_i e O;split at A
    ·rename_i u he;split at A
     ·rename_i B;cases A;rcases DataW.trod_slice O h with⟨rfl,-⟩|⟨a,len,cap,elems,rest,n,hn,rfl,Y,-,γ,hcap,hel,helem,-⟩
      ·refine⟨[.sl u.length []],.one ?_ rfl (.sl aY aY (by simp[at2])),i6 (.sl (bgE _) (λr V=>by cases V))⟩;exact .sl (λ_ _=>.bool false) aY aV aY aY (λ_ _=>rfl) (by simp[at2])
      ·cases hn;have each:∀i,i<len→∃l Z,(Reads (Env.of W num) u l Z∧∀N S,qh P N S→(∀d∈elems.map (·.1),S e d)→∀v∈l,PV.Len N v)∧W.cells? base (a.add (i*Z' u)) u.length=some Z:=by intro i hi;have h1:=helem i hi;rw[bgH Om,bjW]at h1;obtain⟨Z,h2,h3⟩:=h1;obtain⟨l,r,rl⟩:=ih m e Z _ u h3 he;rw[B.1]at h2;exact⟨l,Z,⟨r,λN S J K=>rl N S J (K _ (bhC.2 ⟨_,bgD _,rfl⟩))⟩,h2⟩
       have δ:∀i,∃l,∃Z,i<len→(Reads (Env.of W num) u l Z∧∀N S,qh P N S→(∀d∈elems.map (·.1),S e d)→∀v∈l,PV.Len N v)∧W.cells? base (a.add (i*Z' u)) u.length=some Z:=by
        intro i;by_cases hi:i<len
        ·obtain⟨l,Z,h1⟩:=each i hi;exact⟨l,Z,λ_=>h1⟩
        ·exact⟨[],[],λh=>(hi h).elim⟩
       obtain⟨pf,ξ⟩:=Classical.axiomOfChoice δ;obtain⟨uf,M⟩:=Classical.axiomOfChoice ξ;have ε:∀i j pv,at2 ((bfZ len).map pf) i j=some pv→i<len∧(pf i)[j]?=some pv:=by
        intro i j pv F;unfold at2 at F;rw[bgT,bjW]at F;obtain⟨r,V,F⟩:=F;rw[bgM]at V;obtain⟨i',U,rfl⟩:=V;have hi:i<len:=by simpa using(bhG.1 U).1
        have:i'=i:=by simp[hi]at U;exact U.symm
        subst this;exact⟨hi,F⟩
       have hu2:∀i j pv,at2 ((bfZ len).map pf) i j=some pv→∃v,(uf i)[j]?=some v∧j<Z' u∧bF (Env.of W num) pv v∧v.oneCell'=true:=by
        intro i j pv F;obtain⟨hi,X⟩:=ε i j pv F;obtain⟨⟨r,-⟩,-⟩:=M i hi;have hj:j<Z' u:=by rw[←r.lp];exact(bhG.1 X).1
        have I:(uf i)[j]?=some ((uf i)[j]'(by rw[r.lc];exact hj)):=bgH _;exact⟨_,I,hj,(r.rep j pv _ X I).1,(r.rep j pv _ X I).2⟩
       have α:((bfZ len).map pf).length=len:=by simp
       refine⟨[.sl u.length ((bfZ len).map pf)],.one ?_ rfl (.sl (λr V=>?_) (by rw[α];omega) λi j pv ct F κ=>?_),λN S J K v I=>?_⟩
       ·have η:=bF.sl (E:=Env.of W num) (size:=Z' u) (rows:=(bfZ len).map pf) (a:=some a) (cap:=cap)
         (λi j=>match at2 ((bfZ len).map pf) i j with|some _=>((uf i)[j]?).getD (.bool false)|none=>.bool false) (by rw[α];exact γ) hcap
         (λr V=>by simp only[bhC,bgW]at V;obtain⟨i,hi,rfl⟩:=V;exact(M i hi).1.1.lp)
         (λν=>by
          have μ:0<len:=by
           rcases biC len with h|h
           ·subst h;exact(ν rfl).elim
           ·exact h
          have ζ:a.spot=none:=by obtain⟨⟨r,-⟩,A⟩:=M 0 μ;have h3:=(World.cells?_some A).2.2 0 B.2;rw[Nat.zero_mul,Addr.add_zero',Addr.add_zero',bgH (by rw[r.lc];exact B.2)]at h3;exact(yy (num:=num) h3).1
          refine⟨a,rfl,ζ,λi j pv F=>?_⟩;obtain⟨hi,-⟩:=ε i j pv F;obtain⟨v,I,hj,-⟩:=hu2 i j pv F;have h3:=(World.cells?_some (M i hi).2).2.2 j hj;rw[uI ζ,add_plain,add_plain,I]at h3;have h4:=(yy (num:=num) h3).2;simp only[F,I,biE];exact h4)
         (λi j=>by
          split
          ·rename_i pv F;obtain⟨v,I,-,-,h1⟩:=hu2 i j pv F;simp[I,h1]
          ·rfl)
         (λi j pv F=>by obtain⟨v,I,-,h1,-⟩:=hu2 i j pv F;simp only[F,I,biE];exact h1)
        rw[α]at η;exact η
       ·simp only[bhC,bgW]at V;obtain⟨i,hi,rfl⟩:=V;exact(M i hi).1.1.lp
       ·obtain⟨hi,X⟩:=ε i j pv F;exact(M i hi).1.1.ty j pv ct X κ
       ·rw[Y]at K;obtain⟨m1,m2⟩:=J.sl t e _ _ O K;obtain rfl:=bhI.1 I;refine .sl (by rw[α];simpa[hel]using m1) λr V w hw=>?_;simp only[bhC,bgW]at V;obtain⟨i,hi,rfl⟩:=V;exact(M i hi).1.2 N S J m2 w hw
     ·cases A
    ·cases A
   ·rename_i fs O;split at A
    ·rename_i ρ θ;split at A
     ·rename_i γ;cases A;obtain⟨xs,n,hn,Y,ι,ο,hx⟩:=DataW.trod_struct O h;cases hn;have:=zd (f:=DataW.trod enc P W base sp β fuel) (λt cs x cts a b=>ih m t cs x cts a b) cs fs.toList 0 cts (λg hg=>by obtain⟨i,hi,rfl⟩:=bhV hg;have:=hx i fs.toList[i] (by simp at hi;simp[hi]);rw[this];exact⟨_,bgH (by simp at hi;omega)⟩) θ
      rw[bhP,bgR Om]at this;obtain⟨l,r,rl⟩:=this;refine⟨l,r,λN S J K=>rl N S J λg hg y hy=>?_⟩;rw[Y]at K;obtain⟨i,hi,rfl⟩:=bhV hg;have U:i<fs.size:=by simpa using hi
      have:=hx i fs.toList[i] (by simp[U]);rw[hy,bgH Om]at this;refine J.st t fs _ O K i fs.toList[i] y.1 (by simp[U]) ?_;rw[bgT,bgH Om,←this];rfl
     ·cases A
    ·cases A
   ·rename_i k e O;split at A
    ·rename_i u he;split at A
     ·rename_i B;cases A;obtain⟨xs,n,hn,Y,ι,ο,hx⟩:=DataW.trod_array O h;cases hn;obtain⟨l,r,hq⟩:=Jy (E:=Env.of W num) (cts:=u) (R:=λl=>∀N S,qh P N S→(∀d:DataW H,d∈xs.map (λy:DataW H × List MemPlace=>y.1)→S e d)→∀v∈l,PV.Len N v) (λ_ _ _ _ v I=>by cases I)
       (λa b ha hb N S J K v I=>(bhK.1 I).elim (ha N S J K v) (hb N S J K v)) cs k λi hi=>by have h2:=hx i hi;rw[bgH Om,B.1]at h2;obtain⟨l,r,rl⟩:=ih m e _ _ u h2 he;exact⟨l,r,λN S J K=>rl N S J (K _ (bhC.2 ⟨_,bgD _,rfl⟩))⟩
      rw[bgR Om]at r;exact⟨l,r,λN S J K=>hq N S J (J.ar t k e _ O (by rw[Y]at K;exact K))⟩
     ·cases A
    ·cases A
   ·cases A
theorem Dt{H:Type}{enc:TypeId × Value→H}{P:Program}{W:World}{base:Nat}{u:Nat→Bool}{e:Bool}(num:Nat→FuncId)
  (fuel m:Nat) (t:TypeId) (cs:List Value) (x:DataW H × List MemPlace) (cts:List CT) (h:DataW.trod enc P W base u e fuel t cs=some x) (l:lW P m t=some cts):∃j,Reads (Env.of W num) cts j cs:=
 (aXL num fuel m t cs x cts h l).imp λ_ r=>r.1
open Go Go.RowKit Go.ChangeShapes Go.WideShapes
theorem Ext.below{E j:Env}{H':PH}{w e:World}(h:Ext E PH.nil w j H' e):Below w.heap.size w e:=
 ⟨h.os,h.tape,h.output,h.size,λk l=>h.block k l rfl⟩
theorem Below.trodAll{H:Type}{enc:TypeId × Value→H}{P:Program}(w:laidOutB P=true){W j:World}(hb:Below W.heap.size W j) :
  ∀{ts:List TypeId}{vs:List Value}{ds:List (DataW H)}{ps:List MemPlace},(∀t∈ts,P.readableRec t=true∧t<P.types.size)→DataW.TrodAll enc P W 0 (λ_=>true) true ts vs ds ps →
   DataW.TrodAll enc P j 0 (λb=>decide (b<W.heap.size)) true ts vs ds ps
 |[],[],[],ps,_,h=>h
 |[],_::_,_,_,_,h=>h.elim
 |[],[],_::_,_,_,h=>h.elim
 |_::_,[],_,_,_,h=>h.elim
 |_::_,_::_,[],_,_,h=>h.elim
 |t::ts,v::vs,d::ds,ps,e,h=>by obtain⟨p,q,l,y,rfl⟩:=h;have hlt:∀x∈p,x.block<W.heap.size:=λx B=>DataW.TrodAll.lt (ts:=[t]) (vs:=[v]) (ds:=[d]) ⟨p,[],l,rfl,(bhH p).symm⟩ x B;exact⟨p,q,Below.trod w (e t aY).1 (e t aY).2 l hb hlt,Below.trodAll w hb (λu A=>e u (by simp[A])) y,rfl⟩
theorem aPC{H:Type}{enc:TypeId × Value→H}{P:Program}{f:Func}{s:ChangeSpec}{e apart fresh:Bool}{W B:World}{args:Array Value}{ds l:List (DataW H)}{j:List MemPlace}{bt:TypeId}
  (I:laidOutB P=true) (hW:DataW.Whole enc P f.params.toList s.vars apart W args.toList ds l j) (hb:Below W.heap.size W B) (x:∀t∈f.params.toList,P.readableRec t=true∧t<P.types.size)
  (w:f.resultTypes=#[bt]) (u:P.underlying bt=some .bool) (y:s.vars=[]) (K:(s.fn H (ds++l)).results=[.lit (.bool true)]) (F:(s.fn H (ds++l)).args=ds) (A:(s.fn H (ds++l)).vars=[]) :
  s.post enc P f apart fresh e false W args (.bool true) B:=by
 obtain⟨p,q,E,hV,rfl,M,J⟩:=hW;rw[y]at hV;obtain⟨rfl,rfl⟩:=trodVars_none hV;refine⟨ds,[],p++[],[],p,[],⟨p,[],E,by rw[y];exact hV,rfl,M,J⟩,?_,?_,?_,hb.frame _,λh=>by cases h⟩
 ·rw[K,w];refine⟨[],[],⟨1,?_⟩,rfl,rfl⟩;simp[DataW.trod,u,Value.cells,Value.resultList]
 ·rw[F];exact Below.trodAll I hb x E
 ·rw[y,A];exact rfl
theorem aNC{C:Ctx}{name:Nat}{W:World}{args:Array Value}{l:List PV}(h:aI C name l PH.nil (aK (.bool true)))(x:iH (Env.of W C.num) l args.toList) :
  Calls C.P (C.num name) args W λe u=>e=.returned (.bool true)∧Below W.heap.size W u:=
 (h.2 (Env.of W C.num) W args rfl (cS.start W C.num) x).mono λe u he=>by obtain⟨v,pv,y,H',rfl,-,j,w,rfl,-⟩:=he;cases j;exact⟨rfl,w.below⟩
theorem aFV{H:Type}{enc:TypeId × Value→H}{P:Program}{W:World}{r:Reach}{base:Nat}{J:Nat→Bool}{w:Bool}(num:Nat→FuncId){t:TypeId}{v:Value}{d:DataW H}{ps:List MemPlace}{B:Array Field}{n:Nat}{cts:List CT}
  (y:P.underlying t=some (.struct B)) (x:Value.okWide P W r base t v) (F:DataW.Trod enc P W 0 J w t v d ps) (E:lW P n t=some cts) :
  ∃e,bF (Env.of W num) (.agg e) v∧Z' e=Z' cts∧∀(j:Nat) pv ct,e[j]?=some pv→cts[j]?=some ct→PV.Ty ct pv:=by
 obtain⟨cs,rfl,-⟩:=okWide_struct y x;obtain⟨fuel,h⟩:=F;obtain⟨e,l⟩:=Dt num fuel n t _ _ cts h E;have I:cs.size=Z' e:=by have:=l.lc;rw[l.lp,←this];simp[Value.cells]
 refine⟨e,.agg cs I (λu y=>?_) (λj pv u a b=>(l.rep j pv u a (by simpa[Value.cells]using b)).1),l.lp,l.ty⟩;obtain⟨j,A,rfl⟩:=bhV y;simp only[bjD]at A;exact(l.rep j _ _ (bgH Om) (by simp[Value.cells,A])).2
theorem CG{H:Type}{enc:TypeId × Value→H}{P:Program}{W:World}{B:Nat→Bool}{e:Bool}(num:Nat→FuncId){t:TypeId}{v:Value}{d:DataW H}{ps:List MemPlace}{n:Nat}{ct:CT}
  (A:v.cells=#[v]) (x:DataW.Trod enc P W 0 B e t v d ps) (w:lW P n t=some [ct]):∃pv,bF (Env.of W num) pv v∧PV.Ty ct pv:=by
 obtain⟨fuel,h⟩:=x;obtain⟨l,j⟩:=Dt num fuel n t _ _ [ct] h w;rw[A]at j;have y:=j.lp;cases l with
 |nil=>simp at y
 |cons pv u=>exact⟨pv,(j.rep 0 pv v rfl rfl).1,j.ty 0 pv ct rfl rfl⟩
def InK(k:IntKind)(n:Int):Prop:=k.min≤n∧n≤k.max
def aHT(k:IntKind)(xs:List Int):PV:=.sl 1 (xs.map λn=>[.int k n])
theorem Ty.avU{k:IntKind}{pv:PV}(h:PV.Ty (.int k) pv):∃n,pv=.int k n∧InK k n:=by
 cases h with
 |int h=>simp only[Lit.wf,bgU,decide_eq_true_eq]at h;exact⟨_,rfl,h⟩
theorem Ty.a3L{ct:CT}{pv:PV}(h:PV.Ty (.sl [ct]) pv):∃vs:List PV,pv=.sl 1 (vs.map λv=>[v])∧Z' vs≤maxLen∧∀v∈vs,PV.Ty ct v:=by
 cases h with
 |@sl B rows A y h=>
 have j:∀r∈rows,r=[r.headD .junk]:=λr l=>by
  have:=A r l
  match r,this with
  |[x],_=>rfl
 have e:rows=(rows.map λr=>r.headD .junk).map λv=>[v]:=by rw[bjF];apply bjN aY;intro n w E;simp only[bhY,Function.comp];exact j _ (bgD w)
 refine⟨rows.map λr=>r.headD .junk,by rw[←e];rfl,by simpa using y,λv u=>?_⟩;rw[bhC]at u;obtain⟨r,l,rfl⟩:=u;obtain⟨i,hi,rfl⟩:=bhV l;refine h i 0 _ ct ?_ rfl;have:=j rows[i] l;unfold at2;rw[bgH hi,bjX,this];rfl
theorem Ty.aUI{k:IntKind}{pv:PV}(h:PV.Ty (.sl [.int k]) pv):∃xs:List Int,pv=aHT k xs∧Z' xs≤maxLen∧∀x∈xs,InK k x:=by
 obtain⟨vs,rfl,A,l⟩:=Ty.a3L h;have e:vs=(vs.map λv=>match v with | .int _ n=>n|_=>0).map λn=>PV.int k n:=by rw[bjF];apply bjN aY;intro n w B;simp only[bhY,Function.comp];obtain⟨m,j,-⟩:=Ty.avU (l _ (bgD w));rw[j]
 refine⟨vs.map λv=>match v with | .int _ n=>n|_=>0,?_,by simpa using A,λx u=>?_⟩
 ·unfold aHT
  conv=>lhs;rw[e]
  rw[bjF];rfl
 ·rw[bhC]at u;obtain⟨v,j,rfl⟩:=u;obtain⟨m,rfl,y⟩:=Ty.avU (l v j);exact y
end Go.PM
namespace Go.Proofs.YtkknafmijabgaaaGreatDoor
open Go Go.PM
def a5T:List Nat:=[22,78,48,30,26,52,23,51,0,0,0,0,0,0,0,0,0,0,0,0,0,0,0,0,0,0,0,10,21,49,155,163,141,114,113,81,158,157,103,144,167,143,166,171,165,164,139,50,172,108,53,104,105,102,68,101,67,156,80,82,140,106,98,154,138,137,107,36,66,71,65,99,70,64,69,100,63,39,0,0,118,0,57,29,87,40,0,56,145,117,86,0,0,0,0,60,31,89,129,90,131,134,94,130,58,88,95,132,96,133,62,59,61,122,93,92,119,91,125,124,123,127,128,97,153,136,135,147,120,126,150,149,121,152,148,151,170,168,146,181,178,169,180,179,0,0,0,0,0,0,28,0,25,0,55,0,115,85,84,116,83,54,142,112,175,161,162,176,173,160,159,0,0,0,0,0,0,0,0,0,0,0,0,0,0,0,0,0,0,0,0,0,0,0,0,79,0,0,0,0,0,0,0,0,0,0,0,0,0,0,0,0,0,0,0,0,0,0,0,0,0,0,0,0,0,0,0,0,0,0,0,0,0,0,0,0,0,0,0,0,0,0,0,0,0,0,0,0,0,0,0,0,0,0,0,0,0,0,0,0,0,0,0,0,0,0,0,0,0,0,0,0,0,0,0,0,0,0,0,0,0,0,34,35,32,33,12,42,15,17,19,109,72,46,110,111,73,74,41,75,77,47,76,43,38,37,44,13,45,16,18,20,11,14,24,27,3,4,5,6,7,8,9]
def a2C:List (Option Nat):=[none,none,none,some 316,some 317,some 318,some 319,some 320,some 321,some 322,some 27,some 312,some 286,some 307,some 313,some 288,some 309,some 289,some 310,some 290,some 311,some 28,some 0,some 6,some 314,some 152,some 4,some 315,some 150,some 83,some 3,some 96,some 284,some 285,some 282,some 283,some 67,some 305,some 304,some 77,some 85,some 298,some 287,some 303,some 306,some 308,some 293,some 301,some 2,some 29,some 47,some 7,some 5,some 50,some 161,some 154,some 87,some 82,some 104,some 111,some 95,some 112,some 110,some 76,some 73,some 70,some 68,some 56,some 54,some 74,some 72,some 69,some 292,some 296,some 297,some 299,some 302,some 300,some 1,some 195,some 58,some 35,some 59,some 160,some 158,some 157,some 90,some 84,some 105,some 97,some 99,some 117,some 115,some 114,some 102,some 106,some 108,some 123,some 62,some 71,some 75,some 55,some 53,some 38,some 51,some 52,some 61,some 66,some 49,some 291,some 294,some 295,some 163,some 34,some 33,some 156,some 159,some 89,some 80,some 116,some 128,some 132,some 113,some 120,some 119,some 118,some 129,some 121,some 122,some 98,some 103,some 100,some 107,some 109,some 101,some 126,some 125,some 65,some 64,some 46,some 60,some 32,some 162,some 41,some 39,some 88,some 138,some 127,some 134,some 131,some 130,some 135,some 133,some 124,some 63,some 30,some 57,some 37,some 36,some 170,some 169,some 165,some 166,some 31,some 45,some 44,some 42,some 40,some 137,some 141,some 136,some 43,some 48,some 168,none,some 164,some 167,none,some 140,some 143,some 142,some 139]
def num(n:Nat):FuncId:=a5T.getD n 0
def nameOf(f:FuncId):Option Nat:=a2C.getD f none
noncomputable def T(ro:List Nat):Tbl:={ P:=Tryz.prog,num:=num,name:=nameOf,ro:=ro }
end Go.Proofs.YtkknafmijabgaaaGreatDoor
namespace Go.PM
open Go
abbrev Rg:=List bN
abbrev Rd:=List (bN×Bool)
def aC.rs : aC→List Rg
 | .region r=>[r] | .seq a b=>a.rs++b.rs | .cond _ a b=>a.rs++b.rs | .block _ a=>a.rs | .loop a=>a.rs | _=>[]
def aC.ds : aC→List Rd
 | .draw r=>[r] | .seq a b=>a.ds++b.ds | .cond _ a b=>a.ds++b.ds | .block _ a=>a.ds | .loop a=>a.ds | _=>[]
theorem aCB (n:Nat) (h:n<2^8):UInt8.ofBitVec (BitVec.ofFin ⟨n,h⟩)=UInt8.ofNat n:=by
 apply UInt8.toNat_inj.1;have e:n<256:=h;simp [UInt8.toNat_ofNat'];omega
def bO(ro:List Nat)(f:Func)(x:{p:aX//(Go.Proofs.YtkknafmijabgaaaGreatDoor.T ro).func f=some p}:=by refine⟨?p,?h⟩;case h=>conv=>lhs;reduce):aX:=x.1
def aA(q:aX)(k:Nat)(x:{l:Rg//(q.body.rs).getD k []=l}:=by refine⟨?p,?h⟩;case h=>conv=>lhs;reduce;try simp only[aCB,UInt8.reduceOfNat,Int.reduceOfNat,Int.reduceNegSucc]):Rg:=x.1
def cA(q:aX)(k:Nat)(x:{l:Rd//(q.body.ds).getD k []=l}:=by refine⟨?p,?h⟩;case h=>conv=>lhs;reduce;try simp only[aCB,UInt8.reduceOfNat,Int.reduceOfNat,Int.reduceNegSucc]):Rd:=x.1
@[go_sem ↓] theorem bbZ(q:aX)(k:Nat)(l:Rg)(h:(q.body.rs).getD k []=l):aA q k ⟨l,h⟩=l:=(rfl)
@[go_sem ↓] theorem bbL(q:aX)(k:Nat)(l:Rd)(h:(q.body.ds).getD k []=l):cA q k ⟨l,h⟩=l:=(rfl)
def iM(d s:Nat):bN:=⟨some d,.mv (.tmp s),none⟩
def iI(d:Nat)(n:Int):bN:=⟨some d,.mv (.const (.int .i64 n)),none⟩
def iB(d:Nat)(o:BinOp)(x y:Nat):bN:=⟨some d,.bin o (.tmp x) (.tmp y),none⟩
def iC(d:Nat)(o:BinOp)(x:Nat)(n:Int):bN:=⟨some d,.bin o (.tmp x) (.const (.int .i64 n)),none⟩
def iL(d s:Nat):bN:=⟨some d,.load none (.tmp s),none⟩
def iX(d n x y:Nat):bN:=⟨some d,.bfC n (.tmp x) (.tmp y),none⟩
def iN(d x:Nat):bN:=⟨some d,.len (.tmp x),none⟩
def iF(d n x:Nat):bN:=⟨some d,.bfP n (.tmp x),none⟩
def iS(n p x:Nat):bN:=⟨none,.store n (.tmp p) (.tmp x),none⟩
def iA(d:Nat)(o:POp):bN:=⟨some d,o,none⟩
def iG(d:Nat)(o:POp)(g:Nat)(b:Bool):bN:=⟨some d,o,some (g,b)⟩
def iP(d a b:Nat):bN:=⟨some d,.pick (.tmp a) (.tmp b) (.const (.bool false)),none⟩
def iQ(d a b:Nat):bN:=⟨some d,.pick (.tmp a) (.const (.bool true)) (.tmp b),none⟩
def iO(d s a:Nat):bN:=⟨some d,.load (some s) (.tmp a),none⟩
def iE(d a n:Nat):bN:=⟨some d,.extract (.tmp a) n,none⟩
def iK(d f a:Nat):bN:=⟨some d,.call f [.tmp a],none⟩
def iK2(d f a b:Nat):bN:=⟨some d,.call f [.tmp a,.tmp b],none⟩
def iT(d:Nat)(b:Bool):bN:=⟨some d,.mv (.const (.bool b)),none⟩
def iZ(d:Nat):bN:=⟨some d,.mv (.const .aH),none⟩
def gM(d s g:Nat)(b:Bool):bN:=⟨some d,.mv (.tmp s),some (g,b)⟩
def gL(d s g:Nat)(b:Bool):bN:=⟨some d,.load none (.tmp s),some (g,b)⟩
def gF(d n s g:Nat)(b:Bool):bN:=⟨some d,.bfP n (.tmp s),some (g,b)⟩
def gN(d s g:Nat)(b:Bool):bN:=⟨some d,.len (.tmp s),some (g,b)⟩
def gO(d n s g:Nat)(b:Bool):bN:=⟨some d,.load (some n) (.tmp s),some (g,b)⟩
def gK(d f a g:Nat)(b:Bool):bN:=⟨some d,.call f [.tmp a],some (g,b)⟩
def gK2(d f a c g:Nat)(b:Bool):bN:=⟨some d,.call f [.tmp a,.tmp c],some (g,b)⟩
def gC(d:Nat)(o:BinOp)(x:Nat)(n:Int)(g:Nat)(b:Bool):bN:=⟨some d,.bin o (.tmp x) (.const (.int .i64 n)),some (g,b)⟩
def gB(d:Nat)(o:BinOp)(x y g:Nat)(b:Bool):bN:=⟨some d,.bin o (.tmp x) (.tmp y),some (g,b)⟩
def zI:PV:=.int .i64 0
def zB:PV:=.bool false
def sq(r:Rg)(c:aC):aC:=.seq (.region r) c
def dq(r:Rd)(c:aC):aC:=.seq (.draw r) c
def Tm(n:Nat):aS:=.tmp n
def Ci(n:Int):aS:=.const (.int .i64 n)
@[go_sem] theorem bdY(d s:Nat):iM d s=⟨some d,.mv (.tmp s),none⟩:=(rfl)
@[go_sem] theorem bdV(d:Nat)(n:Int):iI d n=⟨some d,.mv (.const (.int .i64 n)),none⟩:=(rfl)
@[go_sem] theorem bdQ(d:Nat)(o:BinOp)(x y:Nat):iB d o x y=⟨some d,.bin o (.tmp x) (.tmp y),none⟩:=(rfl)
@[go_sem] theorem bdR(d:Nat)(o:BinOp)(x:Nat)(n:Int):iC d o x n=⟨some d,.bin o (.tmp x) (.const (.int .i64 n)),none⟩:=(rfl)
@[go_sem] theorem bdX(d s:Nat):iL d s=⟨some d,.load none (.tmp s),none⟩:=(rfl)
@[go_sem] theorem beF(d n x y:Nat):iX d n x y=⟨some d,.bfC n (.tmp x) (.tmp y),none⟩:=(rfl)
@[go_sem] theorem bdZ(d x:Nat):iN d x=⟨some d,.len (.tmp x),none⟩:=(rfl)
@[go_sem] theorem bdT(d n x:Nat):iF d n x=⟨some d,.bfP n (.tmp x),none⟩:=(rfl)
@[go_sem] theorem beD(n p x:Nat):iS n p x=⟨none,.store n (.tmp p) (.tmp x),none⟩:=(rfl)
@[go_sem] theorem bdP(d:Nat)(o:POp):iA d o=⟨some d,o,none⟩:=(rfl)
@[go_sem] theorem bdU(d:Nat)(o:POp)(g:Nat)(b:Bool):iG d o g b=⟨some d,o,some (g,b)⟩:=(rfl)
@[go_sem] theorem beB(d a b:Nat):iP d a b=⟨some d,.pick (.tmp a) (.tmp b) (.const (.bool false)),none⟩:=(rfl)
@[go_sem] theorem beC(d a b:Nat):iQ d a b=⟨some d,.pick (.tmp a) (.const (.bool true)) (.tmp b),none⟩:=(rfl)
@[go_sem] theorem beA(d s a:Nat):iO d s a=⟨some d,.load (some s) (.tmp a),none⟩:=(rfl)
@[go_sem] theorem bdS(d a n:Nat):iE d a n=⟨some d,.extract (.tmp a) n,none⟩:=(rfl)
@[go_sem] theorem bdW(d f a:Nat):iK d f a=⟨some d,.call f [.tmp a],none⟩:=(rfl)
@[go_sem] theorem bdC(d f a b:Nat):iK2 d f a b=⟨some d,.call f [.tmp a,.tmp b],none⟩:=(rfl)
@[go_sem] theorem beE(d:Nat)(b:Bool):iT d b=⟨some d,.mv (.const (.bool b)),none⟩:=(rfl)
@[go_sem] theorem beG(d:Nat):iZ d=⟨some d,.mv (.const .aH),none⟩:=(rfl)
@[go_sem] theorem bdM(d s g:Nat)(b:Bool):gM d s g b=⟨some d,.mv (.tmp s),some (g,b)⟩:=(rfl)
@[go_sem] theorem bdL(d s g:Nat)(b:Bool):gL d s g b=⟨some d,.load none (.tmp s),some (g,b)⟩:=(rfl)
@[go_sem] theorem bdJ(d n s g:Nat)(b:Bool):gF d n s g b=⟨some d,.bfP n (.tmp s),some (g,b)⟩:=(rfl)
@[go_sem] theorem bdN(d s g:Nat)(b:Bool):gN d s g b=⟨some d,.len (.tmp s),some (g,b)⟩:=(rfl)
@[go_sem] theorem bdO(d n s g:Nat)(b:Bool):gO d n s g b=⟨some d,.load (some n) (.tmp s),some (g,b)⟩:=(rfl)
@[go_sem] theorem bdK(d f a g:Nat)(b:Bool):gK d f a g b=⟨some d,.call f [.tmp a],some (g,b)⟩:=(rfl)
@[go_sem] theorem bdB(d f a c g:Nat)(b:Bool):gK2 d f a c g b=⟨some d,.call f [.tmp a,.tmp c],some (g,b)⟩:=(rfl)
@[go_sem] theorem bdI(d:Nat)(o:BinOp)(x:Nat)(n:Int)(g:Nat)(b:Bool):gC d o x n g b=⟨some d,.bin o (.tmp x) (.const (.int .i64 n)),some (g,b)⟩:=(rfl)
@[go_sem] theorem bdH(d:Nat)(o:BinOp)(x y g:Nat)(b:Bool):gB d o x y g b=⟨some d,.bin o (.tmp x) (.tmp y),some (g,b)⟩:=(rfl)
@[go_sem] theorem beJ:zI=.int .i64 0:=(rfl)
@[go_sem] theorem beI:zB=.bool false:=(rfl)
@[go_sem] theorem beH(r:Rg)(c:aC):sq r c=.seq (.region r) c:=(rfl)
@[go_sem] theorem bdG(r:Rd)(c:aC):dq r c=.seq (.draw r) c:=(rfl)
@[go_sem] theorem bdF(n:Nat):Tm n=.tmp n:=(rfl)
@[go_sem] theorem bdE(n:Int):Ci n=.const (.int .i64 n):=(rfl)
def fH(r:Rg)(t k:Nat)(s:Rg)(b:aC):aC:=sq r (.seq (.cond (Tm t) .skip (.exit k)) (.seq (.block (k+1) b) (.region s)))
@[go_sem] theorem bbT(r:Rg)(t k:Nat)(s:Rg)(b:aC):fH r t k s b=sq r (.seq (.cond (Tm t) .skip (.exit k)) (.seq (.block (k+1) b) (.region s))):=(rfl)
def dD(r:Rg)(t k:Nat)(s:Rg)(b:aC):aC:=.seq (sq r (.cond (Tm t) .skip (.exit k))) (.seq (.block (k+1) b) (.region s))
@[go_sem] theorem bbU(r:Rg)(t k:Nat)(s:Rg)(b:aC):dD r t k s b=.seq (sq r (.cond (Tm t) .skip (.exit k))) (.seq (.block (k+1) b) (.region s)):=(rfl)
def dA(r:Rg)(n:Nat)(y:Rg)(b:aC):aC:=.seq (sq r (.cond (Tm n) (sq y .ret) .skip)) b
@[go_sem] theorem bbA(r:Rg)(n:Nat)(y:Rg)(b:aC):dA r n y b=.seq (sq r (.cond (Tm n) (sq y .ret) .skip)) b:=(rfl)
def jA(r:Rg)(n:Nat)(a b:aC):aC:=.seq (sq r (.cond (Tm n) a .skip)) b
@[go_sem] theorem baZ(r:Rg)(n:Nat)(a b:aC):jA r n a b=.seq (sq r (.cond (Tm n) a .skip)) b:=(rfl)
def cE(r:Rg)(k:Nat)(l:aC):aC:=sq r (.block k (.loop l))
@[go_sem] theorem bcN(r:Rg)(k:Nat)(l:aC):cE r k l=sq r (.block k (.loop l)):=(rfl)
end Go.PM
namespace Go.PM
open Go
open Go
def wI:=bO [] Proofs.Tryz.f146
def UT:=aA wI 0
def UU:=aA wI 1
def UV:=aA wI 2
def UW:=aA wI 3
def US:aC:=(.seq (sq UV (.cond (Tm 15) .skip (.exit 0))) (.block 1 (.region UW)))
def BE:=aA wI 4
def wH:aC:=(sq UT (sq UU (.seq (.block 0 (.loop US)) (sq BE .ret))))
def RB:aX:=⟨1,19,wH,[.tmp 2]⟩
def mr:=bO [] Proofs.Tryz.f168
def Mz:=aA mr 0
def M0:=aA mr 1
def OB:aC:=(sq Mz (sq M0 .ret))
def aeZ:aX:=⟨1,6,OB,[.tmp 2]⟩
def yH:=bO [] Proofs.Tryz.f169
def Nd:=aA yH 0
def Nf:=aA yH 1
def Ng:=aA yH 2
def Nh:=aA yH 3
def Ni:=aA yH 4
def OD:aC:=(sq Nd (sq Nf (dA Ng 8 Nh (sq Ni .ret))))
def afN:aX:=⟨1,13,OD,[.tmp 2,.tmp 3]⟩
def UY:=bO [9] Proofs.Tryz.f121
def afA:=aA UY 0
def afB:=aA UY 1
def afC:=aA UY 2
def UX:aC:=(sq afA (sq afB (sq afC .ret)))
def aIW:aX:=⟨1,14,UX,[.tmp 2]⟩
def Ce:=bO [] Proofs.Tryz.f151
def afU:=aA Ce 0
def afV:=aA Ce 1
def UZ:aC:=(sq afU (sq afV .ret))
def aIY:aX:=⟨1,8,UZ,[.tmp 2]⟩
def mM:=bO [] Proofs.Tryz.f126
def axS:=aA mM 0
def axT:=aA mM 1
def axU:=aA mM 2
def axV:=aA mM 3
def axW:=aA mM 4
def axX:=aA mM 5
def axY:=aA mM 6
def axZ:=aA mM 7
def ayA:=cA mM 0
def ayB:=aA mM 8
def aeP:=cA mM 1
def aeQ:=aA mM 9
def aeR:=aA mM 10
def aeO:aC:=(dD axZ 23 1 aeR (.block 3 (dq ayA (.cond (Tm 26) (sq ayB .ret) (dq aeP (.cond (Tm 36) (sq aeQ .ret) .skip))))))
def aeS:=aA mM 11
def cg:aC:=(sq axS (sq axT (.seq (.block 0 (sq axU (.cond (Tm 12) (sq axV .ret) (sq axW (.cond (Tm 16) (sq axX .ret) .skip))))) (.seq (cE axY 1 aeO) (sq aeS .ret)))))
def aVL:aX:=⟨2,46,cg,[.tmp 4]⟩
def jQ:=bO [] Proofs.Tryz.f147
def axL:=aA jQ 0
def axM:=aA jQ 1
def Hq:=aA jQ 2
def axN:=cA jQ 0
def axO:=aA jQ 3
def axP:=aA jQ 4
def Hr:=aA jQ 5
def Ht:=aA jQ 6
def Hu:=aA jQ 7
def axQ:=aA jQ 8
def adY:=aA jQ 9
def adZ:=aA jQ 10
def aeA:=aA jQ 11
def aeB:=aA jQ 12
def ui:=aA jQ 13
def uj:=aA jQ 14
def uk:=aA jQ 15
def uh:aC:=(fH axQ 37 0 uk (sq adY (sq adZ (jA aeA 49 (.region aeB) (sq ui (.region uj))))))
def ul:=aA jQ 16
def um:=aA jQ 17
def ce:aC:=(sq axL (dA axM 14 Hq (dq axN (jA axO 27 (.region axP) (sq Hr (sq Ht (.seq (cE Hu 0 uh) (sq ul (sq um .ret)))))))))
def aVI:aX:=⟨2,75,ce,[.tmp 4,.tmp 5]⟩
def kA:=bO [] Proofs.Tryz.f148
def azB:=aA kA 0
def azC:=aA kA 1
def Il:=aA kA 2
def azD:=aA kA 3
def azE:=aA kA 4
def azF:=cA kA 0
def Im:=aA kA 5
def In:=aA kA 6
def Io:=aA kA 7
def azG:=aA kA 8
def afO:=aA kA 9
def afP:=aA kA 10
def afQ:=aA kA 11
def afR:=aA kA 12
def u0:=aA kA 13
def u5:=aA kA 14
def u6:=aA kA 15
def uz:aC:=(fH azG 36 1 u6 (sq afO (sq afP (jA afQ 48 (.region afR) (sq u0 (.region u5))))))
def u7:=aA kA 16
def cv:aC:=(sq azB (.seq (.block 0 (sq azC (.cond (Tm 10) (sq Il .ret) (sq azD (.cond (Tm 17) (sq azE .ret) .skip))))) (dq azF (sq Im (sq In (.seq (cE Io 1 uz) (sq u7 .ret)))))))
def aVV:aX:=⟨2,68,cv,[.tmp 4,.tmp 5]⟩
def jR:=bO [] Proofs.Tryz.f152
def ayX:=aA jR 0
def ayY:=aA jR 1
def Ie:=aA jR 2
def ayZ:=cA jR 0
def If:=aA jR 3
def Ig:=aA jR 4
def azA:=aA jR 5
def Ih:=aA jR 6
def Ii:=aA jR 7
def Ij:=aA jR 8
def afD:=aA jR 9
def afE:=aA jR 10
def afF:=aA jR 11
def afG:=aA jR 12
def afH:=aA jR 13
def afI:=aA jR 14
def ut:aC:=(fH afD 42 2 afI (sq afE (sq afF (sq afG (.region afH)))))
def uv:=aA jR 15
def afJ:=aA jR 16
def uu:aC:=(fH azA 35 0 afJ (sq Ih (sq Ii (.seq (cE Ij 2 ut) (.region uv)))))
def uw:=aA jR 17
def cn:aC:=(sq ayX (dA ayY 17 Ie (dq ayZ (sq If (.seq (cE Ig 0 uu) (sq uw .ret))))))
def aVT:aX:=⟨2,84,cn,[.tmp 4,.tmp 5]⟩
def pH:=bO [] Proofs.Tryz.f120
def aeF:=aA pH 0
def aeG:=aA pH 1
def aeH:=aA pH 2
def aeI:=aA pH 3
def aeJ:=aA pH 4
def aeK:=aA pH 5
def aeL:=aA pH 6
def aeM:=aA pH 7
def aeN:=aA pH 8
def aeE:aC:=(dD aeL 19 0 aeN (.region aeM))
def Mu:=aA pH 9
def UO:aC:=(sq aeF (sq aeG (dA aeH 9 aeI (sq aeJ (.seq (cE aeK 0 aeE) (sq Mu .ret))))))
def aIK:aX:=⟨1,25,UO,[.tmp 2]⟩
def uE:=bO [] Proofs.Tryz.f149
def ayQ:=aA uE 0
def ayR:=aA uE 1
def Ic:=aA uE 2
def ayS:=aA uE 3
def ayT:=aA uE 4
def ayU:=aA uE 5
def ayV:=aA uE 6
def ayP:aC:=(.seq (sq ayT (.cond (Tm 20) .skip (.exit 0))) (.block 1 (sq ayU (.region ayV))))
def ayW:=aA uE 7
def cl:aC:=(sq ayQ (dA ayR 13 Ic (sq ayS (.seq (.block 0 (.loop ayP)) (sq ayW .ret)))))
def aVQ:aX:=⟨2,30,cl,[.tmp 4,.tmp 5]⟩
def wG:=bO [] Proofs.Tryz.f150
def ayC:=aA wG 0
def ayD:=aA wG 1
def Hw:=aA wG 2
def ayE:=aA wG 3
def ayF:=aA wG 4
def ayG:=cA wG 0
def ayH:=aA wG 5
def ci:aC:=(sq ayC (.seq (.block 0 (sq ayD (.cond (Tm 9) (sq Hw .ret) (sq ayE (.cond (Tm 16) (sq ayF .ret) .skip))))) (dq ayG (sq ayH .ret))))
def aVM:aX:=⟨2,34,ci,[.tmp 4,.tmp 5,.tmp 6]⟩
def nL:=bO [] Proofs.Tryz.f178
def M3:=aA nL 0
def M4:=aA nL 1
def M5:=aA nL 2
def M6:=aA nL 3
def M7:=aA nL 4
def M8:=aA nL 5
def M9:=aA nL 6
def Nb:=aA nL 7
def Nc:=aA nL 8
def M2:aC:=(dD M7 16 0 Nc (sq M8 (sq M9 (.region Nb))))
def Cc:=aA nL 9
def OC:aC:=(sq M3 (sq M4 (sq M5 (.seq (cE M6 0 M2) (sq Cc .ret)))))
def afM:aX:=⟨2,45,OC,[.tmp 4,.tmp 5]⟩
def qA:=bO [] Proofs.Tryz.f179
def aOA:=aA qA 0
def aOB:=aA qA 1
def aOC:=aA qA 2
def aOD:=aA qA 3
def aOE:=aA qA 4
def aOF:=aA qA 5
def aOG:=aA qA 6
def aOH:=aA qA 7
def aOI:=aA qA 8
def aOJ:=aA qA 9
def azH:aC:=(fH aOE 16 0 aOJ (sq aOF (sq aOG (sq aOH (.region aOI)))))
def azI:=aA qA 10
def azJ:=aA qA 11
def u9:aC:=(sq aOA (sq aOB (sq aOC (.seq (cE aOD 0 azH) (sq azI (sq azJ .ret))))))
def nup:aX:=⟨2,41,u9,[.tmp 4]⟩
def dC:=bO [] Proofs.Tryz.f170
def By:=aA dC 0
def Bz:=aA dC 1
def B0:=aA dC 2
def B5:=aA dC 3
def B6:=aA dC 4
def B7:=aA dC 5
def B8:=aA dC 6
def B9:=aA dC 7
def Ca:=aA dC 8
def Bx:aC:=(.seq (sq B9 (.cond (Tm 50) .skip (.exit 0))) (.block 1 (.region Ca)))
def ma:=cA dC 0
def mb:=aA dC 9
def me:=aA dC 10
def mf:=cA dC 1
def mg:=aA dC 11
def mh:=aA dC 12
def NR:=cA dC 2
def NS:=cA dC 3
def mi:=aA dC 13
def NT:=aA dC 14
def NU:=aA dC 15
def NV:=aA dC 16
def DM:aC:=(.seq (sq mi (.cond (Tm 129) .skip (.exit 4))) (.block 5 (sq NT (sq NU (sq NV (.cond (Tm 136) (.exit 4) .skip))))))
def NW:=aA dC 17
def NX:=aA dC 18
def NY:=aA dC 19
def DN:=aA dC 20
def mj:=aA dC 21
def NP:aC:=(dD mh 85 2 mj (dq NR (dq NS (.seq (.block 4 (.loop DM)) (jA NW 146 (sq NX (.region NY)) (.region DN))))))
def NZ:=aA dC 22
def OA:=aA dC 23
def ml:=aA dC 24
def mm:=aA dC 25
def mo:=cA dC 4
def mp:=aA dC 26
def NQ:aC:=(fH ml 168 6 mp (sq mm (.draw mo)))
def mq:=cA dC 5
def JJ:aC:=(sq By (dA Bz 24 B0 (jA B5 29 (sq B6 (sq B7 .ret)) (sq B8 (.seq (.block 0 (.loop Bx)) (dq ma (sq mb (sq me (dq mf (.seq (cE mg 2 NP) (sq NZ (.seq (cE OA 6 NQ) (dq mq .ret)))))))))))))
def Hx:aX:=⟨2,198,JJ,[.tmp 4,.tmp 5]⟩
def gX:=bO [] Proofs.Tryz.f180
def cx:=aA gX 0
def cz:=aA gX 1
def c7:=aA gX 2
def c8:=aA gX 3
def c9:=aA gX 4
def da:=aA gX 5
def db:=aA gX 6
def dc:=aA gX 7
def dd:=aA gX 8
def de:=aA gX 9
def ZB:=aA gX 10
def ZA:aC:=(fH c8 16 0 ZB (sq c9 (sq da (sq db (sq dc (sq dd (.region de)))))))
def ZC:=aA gX 11
def ZD:=aA gX 12
def ZE:=aA gX 13
def CS:aC:=(sq cx (sq cz (.seq (cE c7 0 ZA) (sq ZC (sq ZD (sq ZE .ret))))))
def cw:aX:=⟨3,65,CS,[.tmp 6]⟩
def mW:=bO [] Proofs.Tryz.f181
def mw:=aA mW 0
def my:=aA mW 1
def mz:=aA mW 2
def m5:=aA mW 3
def m6:=aA mW 4
def m7:=aA mW 5
def m8:=aA mW 6
def m9:=aA mW 7
def mu:aC:=(fH mz 10 0 m9 (sq m5 (sq m6 (sq m7 (.region m8)))))
def na:=aA mW 8
def FD:aC:=(sq mw (.seq (cE my 0 mu) (.region na)))
def uy:aX:=⟨2,41,FD,[]⟩
open Go Go.RowKit Go.ChangeShapes Go.WideShapes
inductive AT where
 |one (ct:CT)
 |struct (cts:List CT)
 deriving Inhabited
def aFU(P:Program)(n:Nat)(t:TypeId):Option AT:=
 match P.underlying t with
 |some .bool=>some (.one .bool)
 |some (.int k)=>some (.one (.int k))
 |some .string=>some (.one .str)
 |some (.slice _)=>match lW P n t with
  |some [ct]=>some (.one ct)
  |_=>none
 |some (.struct _)=>(lW P n t).map .struct
 |_=>none
def QL(P:Program)(n:Nat):List TypeId→Option (List AT)
 |[]=>some []
 |t::ts=>match aFU P n t,QL P n ts with
  |some a,some e=>some (a::e)
  |_,_=>none
inductive AT.Ty:AT→PV→Prop
 |one {ct:CT} {pv:PV} (h:PV.Ty ct pv):AT.Ty (.one ct) pv
 |struct {cts:List CT} {pvs:List PV} (hl:Z' pvs=Z' cts) (h:∀(j:Nat) pv ct,pvs[j]?=some pv→cts[j]?=some ct→PV.Ty ct pv):AT.Ty (.struct cts) (.agg pvs)
def AT.TyL:List AT→List PV→Prop
 |[],[]=>True
 |a::e,p::ps=>AT.Ty a p∧AT.TyL e ps
 |_,_=>False
section
variable {H:Type} {enc:TypeId × Value→H} {P:Program} {W:World} {sp:Nat→Bool} {held:Bool}
theorem a5A{r:Reach}{base:Nat}(num:Nat→FuncId){t:TypeId}{v:Value}{d:DataW H}{ps:List MemPlace}{n:Nat}{a:AT}
  (j:Value.okWide P W r base t v) (A:DataW.Trod enc P W 0 sp held t v d ps) (u:aFU P n t=some a):∃pv,bF (Env.of W num) pv v∧AT.Ty a pv:=by
 unfold aFU at u;cases n with
 |zero=>
  split at u
  ·rename_i l;cases u;obtain⟨b,rfl⟩:=okWide_bool l j;obtain⟨pv,w,y⟩:=CG (n:=1) (ct:=.bool) num (by simp[Value.cells]) A (by simp[lW,l]);exact⟨pv,w,.one y⟩
  ·rename_i k l;cases u;obtain⟨b,rfl⟩:=okWide_int l j;obtain⟨pv,w,y⟩:=CG (n:=1) (ct:=.int k) num (by simp[Value.cells]) A (by simp[lW,l]);exact⟨pv,w,.one y⟩
  ·rename_i l;cases u;obtain⟨b,rfl⟩:=okWide_string l j;obtain⟨pv,w,y⟩:=CG (n:=1) (ct:=.str) num (by simp[Value.cells]) A (by simp[lW,l]);exact⟨pv,w,.one y⟩
  ·simp[lW]at u
  ·simp[lW]at u
  ·cases u
 |succ n=>
  split at u
  ·rename_i l;cases u;obtain⟨b,rfl⟩:=okWide_bool l j;obtain⟨pv,w,y⟩:=CG (n:=n+1) (ct:=.bool) num (by simp[Value.cells]) A (by simp[lW,l]);exact⟨pv,w,.one y⟩
  ·rename_i k l;cases u;obtain⟨b,rfl⟩:=okWide_int l j;obtain⟨pv,w,y⟩:=CG (n:=n+1) (ct:=.int k) num (by simp[Value.cells]) A (by simp[lW,l]);exact⟨pv,w,.one y⟩
  ·rename_i l;cases u;obtain⟨b,rfl⟩:=okWide_string l j;obtain⟨pv,w,y⟩:=CG (n:=n+1) (ct:=.str) num (by simp[Value.cells]) A (by simp[lW,l]);exact⟨pv,w,.one y⟩
  ·rename_i e l;split at u
   ·rename_i ct B;cases u;obtain⟨x,len,cap,rfl⟩:=okWide_slice l j;obtain⟨pv,w,y⟩:=CG num (by simp[Value.cells]) A B;exact⟨pv,w,.one y⟩
   ·cases u
  ·rename_i I l;rw[bgM]at u;obtain⟨cts,B,rfl⟩:=u;obtain⟨F,w,y,E⟩:=aFV num l j A B;exact⟨_,w,.struct y E⟩
  ·cases u
theorem arL{r:Reach}{base:Nat}(num:Nat→FuncId){n:Nat}:∀{ts:List TypeId}{vs:List Value}{ds:List (DataW H)}{ps:List MemPlace}{l:List AT},DataW.TrodAll enc P W 0 sp held ts vs ds ps →
  (∀(j:Nat) t v,ts[j]?=some t→vs[j]?=some v→Value.okWide P W r base t v)→QL P n ts=some l→∃e,iH (Env.of W num) e vs∧AT.TyL l e
 |[],[],_,_,l,_,_,h=>by simp[QL]at h;subst h;exact⟨[],.nil,trivial⟩
 |[],_::_,_,_,_,h,_,_=>h.elim
 |_::_,[],[],_,_,h,_,_=>h.elim
 |_::_,[],_::_,_,_,h,_,_=>h.elim
 |_::_,_::_,[],_,_,h,_,_=>h.elim
 |t::ts,v::vs,d::ds,ps,l,h,w,u=>by
  obtain⟨p,q,B,E,rfl⟩:=h;simp only[QL]at u;split at u
  ·rename_i a x y A;cases u;obtain⟨pv,r1,F⟩:=a5A num (w 0 t v rfl rfl) B y;obtain⟨e,r2,I⟩:=arL num E (λj t v a b=>w (j+1) t v (by simpa using a) (by simpa using b)) A;exact⟨pv::e,.cons r1 r2,F,I⟩
  ·cases u
theorem TrodAll.length:∀{ts:List TypeId}{vs:List Value}{ds:List (DataW H)}{ps:List MemPlace},DataW.TrodAll enc P W 0 sp held ts vs ds ps→Z' ds=Z' ts
 |[],[],[],_,_=>rfl
 |[],[],_::_,_,h=>h.elim
 |[],_::_,_,_,h=>h.elim
 |_::_,[],[],_,h=>h.elim
 |_::_,[],_::_,_,h=>h.elim
 |_::_,_::_,[],_,h=>h.elim
 |t::ts,v::vs,d::ds,ps,h=>by obtain⟨p,q,j,e,rfl⟩:=h;simp[TrodAll.length e]
end
theorem V0{H:Type}{enc:TypeId × Value→H}{P:Program}{f:FuncId}{fn:Func}{s:ChangeSpec}{apart fresh l:Bool}{bt:TypeId}{num:Nat→FuncId}{name n:Nat}{ats:List AT}
  (U:laidOutB P=true) (K:fn.params.toList.all (λt=>P.readableRec t&&decide (t<P.types.size))=true) (I:fn.resultTypes=#[bt]) (F:P.underlying bt=some .bool) (O:s.vars=[])
  (X:∀ds:List (DataW H),Z' ds=Z' fn.params.toList→(s.fn H ds).results=[.lit (.bool true)]∧(s.fn H ds).args=ds∧(s.fn H ds).vars=[])
  (y:num name=f) (S:QL P n fn.params.toList=some ats) (h:∀w,AT.TyL ats w→aI ⟨P,num⟩ name w PH.nil (aK (.bool true)))
  {W:World} {base:Nat} {args:Array Value} {ds R:List (DataW H)} {u:List MemPlace}
  (B:∀(j:Nat) t v,fn.params[j]?=some t→args[j]?=some v→Value.okWide P W .any base t v) (hW:DataW.Whole enc P fn.params.toList s.vars apart W args.toList ds R u) :
  Calls P f args W λe M=>∃v,e=.returned v∧s.post enc P fn apart fresh l false W args v M:=by
 have A:∀t∈fn.params.toList,P.readableRec t=true∧t<P.types.size:=λt J=>by have:=bgY.1 K t J;simpa using this
 have E:=hW;obtain⟨p,q,N,hV,rfl,hz,Z⟩:=hW;rw[O]at hV;obtain⟨rfl,rfl⟩:=trodVars_none hV;obtain⟨w,V,J⟩:=arL num N (λj t v a b=>B j t v (by simpa using a) (by simpa using b)) S;have x:=TrodAll.length N;subst y;obtain⟨r1,r2,Y⟩:=X (ds++[]) (by simpa using x);refine(aNC (C:=⟨P,num⟩) (h w J) V).mono λe M he=>?_;obtain⟨rfl,hb⟩:=he;exact⟨_,rfl,aPC U E hb A I F O r1 (by rw[r2];simp) Y⟩
attribute [go_sem] xA mH setCells PV.cells PV.one dL storeAt eU loadCells fA bnd PV.slice PV.intOf PV.eqs PV.eq1 PV.un keyOf KS.of KS.ofs KS.sh List.all_cons List.all_nil List.set_cons_zero List.set_cons_succ bgO biG bgK bhO bgY Bool.and_self
attribute [go_sem] Bool.bne_false Bool.bne_true Int.le_refl Int.lt_irrefl decide_true decide_false exists_eq_left exists_eq_left' bfY bjP biR Int.natCast_nonneg Option.isSome_some Option.isSome_none biE Option.getD_none decide_eq_true_eq decide_eq_false_iff_not bgL bhL bgG Nat.sub_zero
def bS(xs:List Int):List (List PV):=xs.map λn=>[.int .i64 n]
theorem bD{a b:Int}(h:a≠b):(a==b)=false:=by simp[h]
theorem bT{a b:Int}(h:a=b):(a==b)=true:=by simp[h]
theorem cP{a b:Int}(h:a≠b):(a != b)=true:=by simp[h]
theorem bR{a b:Int}(h:a=b):(a != b)=false:=by simp[h]
section
variable {H:PH}
@[go_sem] theorem PH.set_set(o:Nat)(x y:cI):(H.set o x).set o y=H.set o y:=PH.ext λq=>by
 simp only[aR];split<;>rfl
@[go_sem] theorem cB(o:Nat)(x:cI):(H.set o x) o=some x:=by simp only[aR,if_true]
end
section
variable {C:Ctx} {K:cQ} {F:PF} {H:PH}
theorem PH.tU(o:Nat)(x:cI):H.over .nil (PH.nil.set o x)=H.set o x:=PH.ext λq=>by
 rw[vH];simp only[aR,He];split<;>simp_all
theorem PH.wL(o:Nat)(x y:cI):H.over (PH.nil.set o x) (PH.nil.set o y)=H.set o y:=PH.ext λq=>by
 rw[vH];simp only[aR,He];split<;>simp_all
theorem eR{name:Nat}{vs:List PV}{H0:PH}{R:PV→PH→Prop}{args:List aS}{d:Option Nat}{K:PF→PH→Prop}(h:aI C name vs H0 R)(j:aS.evs F args=some vs)(e:H0.le H)
  (l:∀r H',R r H'→qM H H0 H'→K (F.put d r) (H.over H0 H')):kF C name args [] d K F H:=
 .inl ⟨vs,H0,R,by rw[j];simp,e,h,l⟩
theorem bB{res:List fL}{R:PV→PH→Prop}{vs:List PV}{e:oW}(he:e=.normal∨e=.ret)(H0:PH)(h:fL.evs F H res=some vs)(j:H0.le H)(y:R (cF vs) H0):aW res R e F H:=by
 have l:∃vs,fL.evs F H res=some vs∧∃w x H2,mP (PF.nil.set 0 (cF vs)) H w x∧H2.le x∧∃u,w 0=some u∧R u H2:=
  ⟨vs,h,_,H,H0,.refl _ _,j,cF vs,by rw[qK,aL rfl],y⟩
 rcases he with rfl|rfl<;>exact l
theorem wk{t o s k:Nat}{rs:List (List PV)}{R:PV→PH→Prop}{e:oW}(he:e=.normal∨e=.ret)(h:F t=some (.osl o s 0 k))(y:H o=some (.rows s rs))(A:k≤Z' rs)(x:R (.sl s (rs.take k)) .nil) :
  aW [.tmp t] R e F H:=by
 have j:∃vs,fL.evs F H [.tmp t]=some vs∧∃l w H2,mP (PF.nil.set 0 (cF vs)) H l w∧H2.le w∧∃u,l 0=some u∧R u H2:=by refine⟨[.osl o s 0 k],by rw[qE,tV,h,vJ],_,_,.nil,.step o y (.refl _ _),a_,.sl s (rs.take k),?_,x⟩;have:0+k≤Z' rs:=Om;simp only[PF.frz,qK,if_true,cF,bhD,PV.frz,PV.wE,PV.dM,true_and,aL this,bhP]
 rcases he with rfl|rfl<;>exact j
def cT(v:PV)(r:PV)(H:PH):Prop:=Co r v∧H=PH.nil
theorem aI.aJR{name:Nat}{args:List PV}{H:PH}{v:PV}(h:aI C name args H (cT v)):aI C name args H (aK v):=
 h.post λr H' ⟨e,j⟩=>⟨v,e,rfl,j⟩
theorem aK.aJR{v r:PV}{H:PH}(h:aK v r H):cT v r H:=by
 obtain⟨rfl,rfl⟩:=h;exact⟨.refl _,rfl⟩
theorem KG{s b:Nat}{y:PV}{src:List (List PV)}{K:PV→PH→Prop}(u:fA H s y=some src)(l:roomFor 0 src.length b)(e:src=[]→K .aH H)
  (j:src≠[]→∀o,H o=none→K (.osl o s 0 src.length) (H.set o (.rows s src))):pF H s b .aH y K:=⟨src,u,l,e,j⟩
theorem apB{o s b len:Nat}{rs:List (List PV)}{y:PV}{src:List (List PV)}{K:PV→PH→Prop}(A:fA H s y=some src)(x:roomFor len src.length b)(w:H o=some (.rows s rs))(u:len≤Z' rs)
  (j:K (.osl o s 0 (len+Z' src)) (H.set o (.rows s (rs.take len++src))))
  (l:∀e,H e=none→K (.osl e s 0 (len+Z' src)) (H.set e (.rows s (rs.take len++src)))):pF H s b (.osl o s 0 len) y K:=
 ⟨src,A,rfl,rfl,x,rs,w,u,j,l⟩
end
def bH(H:PH)(s:Nat)(v:PV)(rows:List (List PV)):Prop:=
 (rows=[]∧v=.aH)∨∃q rs,v=.osl q s 0 rows.length∧H q=some (.rows s rs)∧Z' rows≤Z' rs∧rs.take rows.length=rows
def Seen(s:Nat)(v:PV)(rows:List (List PV)):Prop:=(rows=[]∧v=.aH)∨v=.sl s rows
section
variable {C:Ctx} {K:cQ} {F:PF} {H:PH} {s b:Nat} {v y:PV} {rows src:List (List PV)}
theorem bH.nil:bH H s .aH []:=.inl ⟨rfl,rfl⟩
theorem bH.view(h:bH H s v rows):fA H s v=some rows:=by
 rcases h with⟨rfl,rfl⟩|⟨q,rs,rfl,h1,h2,h3⟩
 ·rfl
 ·have:0+Z' rows≤Z' rs:=Om;simp only[fA,if_true,h1,true_and,aL this,bhP,h3]
theorem Seen.view(h:Seen s v rows):fA H s v=some rows:=by
 rcases h with⟨rfl,rfl⟩|rfl
 ·rfl
 ·simp[fA]
theorem bH.ext{H':PH}(h:bH H s v rows)(e:∀o x,H o=some x→H' o=some x):bH H' s v rows:=by
 rcases h with h|⟨q,rs,h0,h1,h2,h3⟩
 ·exact .inl h
 ·exact .inr ⟨q,rs,h0,e q _ h1,h2,h3⟩
theorem hY{K:PV→PH→Prop}(h:bH H s v rows)(J:fA H s y=some src)(I:roomFor rows.length src.length b)
  (E:∀v' H',bH H' s v' (rows++src)→(∀o x,H o=some x→(∀l,v≠.osl o s 0 l)→H' o=some x)→K v' H'):pF H s b v y K:=by
 rcases h with⟨rfl,rfl⟩|⟨q,rs,rfl,h1,h2,h3⟩
 ·refine⟨src,J,I,λe=>?_,λe o A=>?_⟩
  ·subst e;exact E _ _ (.inl ⟨rfl,rfl⟩) λo x A _=>A
  ·refine E _ _ (.inr ⟨o,src,rfl,by simp only[aR,if_true],bgG _,by simp⟩) λB x j _=>?_;have:B≠o:=by rintro rfl;rw[A]at j;cases j
   simp only[aR,aE this,j]
 ·have u:(rows++src).length=Z' rows+Z' src:=bgB;refine⟨src,J,rfl,rfl,I,rs,h1,h2,?_,λo A=>?_⟩
  ·rw[h3];refine E _ _ (.inr ⟨q,rows++src,by rw[u],by simp only[aR,if_true],bgG _,bhA⟩) λB x j w=>?_;have:B≠q:=by rintro rfl;exact w _ rfl
   simp only[aR,aE this,j]
  ·rw[h3];refine E _ _ (.inr ⟨o,rows++src,by rw[u],by simp only[aR,if_true],bgG _,bhA⟩) λB x j w=>?_;have M:B≠o:=by rintro rfl;rw[A]at j;cases j
   simp only[aR,aE M,j]
def Pure(u:PV):Prop:=∀q s rs,PV.frz q s rs u=u
theorem bH.frz(h:bH H s v rows):∃j,Seen s j rows∧∀F:PF,∃e l,mP F H e l∧(∀t,F t=some v→e t=some j)∧∀i u,F i=some u→Pure u→e i=some u:=by
 rcases h with⟨rfl,rfl⟩|⟨q,rs,rfl,h1,h2,h3⟩
 ·exact⟨.aH,.inl ⟨rfl,rfl⟩,λF=>⟨F,H,.refl _ _,λt h=>h,λi u h _=>h⟩⟩
 ·refine⟨.sl s rows,.inr rfl,λF=>⟨_,_,.step q h1 (.refl _ _),λt x=>?_,λi u hi w=>?_⟩⟩
  ·have:0+Z' rows≤Z' rs:=Om;simp only[PF.frz,x,bhD,PV.frz,PV.wE,PV.dM,if_true,true_and,aL this,bhP,h3]
  ·simp only[PF.frz,hi,bhD];rw[w]
theorem qW{t:Nat}{e:oW}(he:e=.normal∨e=.ret)(h:bH H s v rows)(j:F t=some v):aW [.tmp t] (cT (.sl s rows)) e F H:=by
 rcases h with⟨rfl,rfl⟩|⟨q,rs,rfl,h1,h2,h3⟩
 ·exact bB (vs:=[.aH]) he .nil (by rw[qE,tV,j,vJ]) a_ ⟨.nil s,rfl⟩
 ·exact wk he j h1 h2 ⟨by rw[h3];exact .refl _,rfl⟩
end
end Go.PM
namespace Go.PM
open Go
section
variable {C:Ctx} {F:PF} {H:PH}
@[go_sem] theorem tT(o s:Nat)(rs:List (List PV))(i:Nat):(F.frz o s rs) i=(F i).map (PV.frz o s rs):=(rfl)
theorem xT{name t o s k:Nat}{rs:List (List PV)}{v:PV}{d:Option Nat}{K:PF→PH→Prop}(h:aI C name [.sl s (rs.take k)] .nil (aK v))(l:F t=some (.osl o s 0 k))(j:H o=some (.rows s rs))(u:k≤Z' rs)
  (e:K ((F.frz o s rs).put d v) (H.frz o s rs)):kF C name [.tmp t] [] d K F H:=by
 refine .inr ⟨_,_,.step o j (.refl _ _),[.sl s (rs.take k)],.nil,aK v,?_,a_,h,?_⟩
 ·have:0+k≤Z' rs:=Om;simp only[IV,je,zc,tT,l,bhD,PV.frz,PV.wE,PV.dM,if_true,true_and,aL this,bhP,bhH]
 ·rintro r H' ⟨rfl,rfl⟩ -;rw[PH.nZ];exact e
end
end Go.PM
namespace Go.Na
def val:List Nat→Nat
 |[]=>0
 |x::xs=>x+4294967296*val xs
def Lim(xs:List Nat):Prop:=∀x∈xs,x<4294967296
def aM(n:Nat):List Nat:=if h:n=0 then[]else(n%4294967296)::aM (n/4294967296)
termination_by n
decreasing_by exact Nat.div_lt_self (biX h) aV
def nl(n:Nat):Nat:=(aM n).length
theorem kO:aM 0=[]:=by rw[aM];simp
theorem zW{n:Nat}(h:n≠0):aM n=(n%4294967296)::aM (n/4294967296):=by rw[aM];simp[h]
theorem vF{n:Nat}(h:n≠0)(hb:n<4294967296):aM n=[n]:=by
 rw[zW h,bhS hb,bjI hb,kO]
theorem aZ(n:Nat):val (aM n)=n:=by
 induction n using Nat.strongRecOn with
 |_ n e=>
  by_cases h:n=0
  ·subst h;rw[kO];rfl
  ·rw[zW h,val,e _ (Nat.div_lt_self (biX h) aV)];exact Nat.mod_add_div n 4294967296
theorem bC(n:Nat):Lim (aM n):=by
 induction n using Nat.strongRecOn with
 |_ n e=>
  by_cases h:n=0
  ·subst h;rw[kO];intro x hx;cases hx
  ·rw[zW h];intro x hx;rw[bgN]at hx;rcases hx with rfl|hx
   ·exact bhZ _ aV
   ·exact e _ (Nat.div_lt_self (biX h) aV) x hx
theorem IF:nl 0=0:=by rw[nl,kO];rfl
theorem aNU{n:Nat}(h:n≠0):nl n=nl (n/4294967296)+1:=by rw[nl,zW h];rfl
theorem nJ(n k:Nat):nl n≤k↔n<4294967296^k:=by
 induction k generalizing n with
 |zero=>
  by_cases h:n=0
  ·subst h;simp[IF]
  ·rw[aNU h];simp;omega
 |succ k e=>
  by_cases h:n=0
  ·subst h;simp[IF,bjC]
  ·rw[aNU h,Nat.succ_le_succ_iff,e,biD,bjK aV]
theorem mV{n:Nat}:nl n=0↔n=0:=by
 have:=nJ n 0;simp at this;exact this
theorem lJ(xs e:List Nat):val (xs++e)=val xs+4294967296^xs.length*val e:=by
 induction xs with
 |nil=>simp[val]
 |cons x xs j =>simp only[bjR,val,bhT,j,biD];rw[bgQ,biV,←bhB,bhE 4294967296 (4294967296^xs.length)]
theorem jU{xs:List Nat}(h:Lim xs):val xs<4294967296^xs.length:=by
 induction xs with
 |nil=>simp[val]
 |cons x xs l =>have u:=h x aY;have e:=l λy j=>h y (by simp[j]);simp only[val,bhT,biD];have:4294967296*(val xs+1)≤4294967296*4294967296^xs.length:=biW _ e;rw[bgQ,bjB]at this;rw[bhE (4294967296^xs.length)];omega
theorem Lim.app{xs j:List Nat}(h:Lim xs)(k:Lim j):Lim (xs++j):=λx e=>by
 rw[bhK]at e;exact e.elim (h x) (k x)
theorem Lim.take{xs:List Nat}(h:Lim xs)(n:Nat):Lim (xs.take n):=λx e=>h x (List.mem_of_mem_take e)
theorem Lim.drop{xs:List Nat}(h:Lim xs)(n:Nat):Lim (xs.drop n):=λx e=>h x (List.mem_of_mem_drop e)
theorem Lim.set{xs:List Nat}(h:Lim xs)(i:Nat){v:Nat}(e:v<4294967296):Lim (xs.set i v):=λx j=>by
 rcases List.mem_or_eq_of_mem_set j with h1|h1
 ·exact h x h1
 ·subst h1;exact e
theorem EH(n:Nat):Lim (bgA n 0):=λx e=>by
 rw[List.mem_replicate]at e;rw[e.2];decide
theorem AF(n:Nat):val (bgA n 0)=0:=by
 induction n with
 |zero=>rfl
 |succ n e=>simp[List.replicate_succ,val,e]
theorem aNG{xs:List Nat}(h:Lim xs)(B:∀x,xs.getLast?=some x→x≠0):aM (val xs)=xs:=by
 induction xs with
 |nil=>simp[val,kO]
 |cons x xs M=>
  have w:=h x aY;have A:Lim xs:=λy J=>h y (by simp[J]);cases xs with
  |nil =>have:=B x aY;simp only[val,Nat.mul_zero,bhL];exact vF this w
  |cons y l=>
   have j:=M A λz K=>B z (by rw[List.getLast?_cons_cons];exact K);have I:val (y::l)≠0:=λe=>by rw[e,kO]at j;cases j
   have u:x+4294967296*val (y::l)≠0:=by have:0<4294967296*val (y::l):=Nat.mul_pos aV (biX I);omega
   show aM (x+4294967296*val (y::l))=_;rw[zW u];have E:(x+4294967296*val (y::l))%4294967296=x:=by rw[Nat.add_mul_mod_self_left,bhS w]
   have F:(x+4294967296*val (y::l))/4294967296=val (y::l):=by rw[Nat.add_mul_div_left _ _ aV,bjI w,bgL]
   rw[E,F,j]
theorem anZ{xs:List Nat}{n:Nat}(h:∀j x,n≤j→xs[j]?=some x→x=0):val (xs.take n)=val xs:=by
 have e:xs.drop n=bgA (xs.drop n).length 0:=by apply bjN aY;intro i l u;rw[List.getElem_replicate,List.getElem_drop];exact h (n+i) _ Om (bgH _)
 conv=>rhs;rw[←biZ n xs,lJ,e,AF]
 simp
theorem WN{xs:List Nat}(y:Lim xs){n:Nat}(w:n≤Z' xs)(h:∀j x,n≤j→xs[j]?=some x→x=0)(u:∀x,0<n→xs[n-1]?=some x→x≠0):xs.take n=aM (val xs):=by
 rw[←anZ h,aNG (y.take n)];intro x l;rw[List.getLast?_eq_getElem?,bgP,biP w]at l;rcases biC n with e|e
 ·subst e;simp at l
 ·rw[List.getElem?_take_of_lt Om]at l;exact u x e l
theorem aCA{xs:List Nat}(u:Lim xs){n:Nat}(l:n≤Z' xs)(h:∀j x,n≤j→xs[j]?=some x→x=0)(e:∀x,0<n→xs[n-1]?=some x→x≠0):nl (val xs)=n:=by
 rw[nl,←WN u l h e,bgP];omega
theorem kL{xs:List Nat}(h:Lim xs):nl (val xs)≤Z' xs:=(nJ _ _).2 (jU h)
theorem qG {xs : List Nat} (h : Lim xs) : xs.take (nl (val xs)) = aM (val xs) := by
  have hl := kL h;have e : val (xs.take (nl (val xs)) ++ xs.drop (nl (val xs))) = val xs := by rw [biZ]
  rw [lJ, bgP, biP hl] at e;have h1 := jU (h.take (nl (val xs)));rw [bgP, biP hl] at h1;have h2 := (nJ (val xs) (nl (val xs))).1 (bgG _);have hd : val (xs.drop (nl (val xs))) = 0 := by
    rcases biC (val (xs.drop (nl (val xs)))) with h | h
    · exact h
    · have := biW (4294967296 ^ nl (val xs)) h
      omega
  have hz : ∀ j x, nl (val xs) ≤ j → xs[j]? = some x → x = 0 := by
    have zero : ∀ ys : List Nat, val ys = 0 → ∀ y ∈ ys, y = 0 := by
      intro ys
      induction ys with
      | nil => intro _ y hy; cases hy
      | cons z zs ih =>
        intro hv y hy;simp only [val] at hv;rw [bgN] at hy;rcases hy with rfl | hy
        · omega
        · exact ih (by have : 4294967296 * val zs = 0 := Om
                       rcases Nat.mul_eq_zero.1 this with h | h
                       · cases h
                       · exact h) y hy
    intro j x hj hx;refine zero _ hd x ?_;rw [List.mem_iff_getElem?];exact ⟨j - nl (val xs), by rw [bjO, Nat.add_sub_cancel' hj]; exact hx⟩
  refine WN h hl hz fun x hpos hx e => ?_;subst e;have hz2 : ∀ j x, nl (val xs) - 1 ≤ j → xs[j]? = some x → x = 0 := fun j y hj hy => by
    rcases bgV j (nl (val xs)) with h3 | h3
    · have : j = nl (val xs) - 1 := Om
      subst this; rw [hx] at hy; cases hy; rfl
    · exact hz j y h3 hy
  have h3 := anZ hz2;have h4 := jU (h.take (nl (val xs) - 1));rw [h3, bgP, biP Om] at h4;have := (nJ (val xs) (nl (val xs) - 1)).2 h4;omega
theorem alA{xs:List Nat}(h:Lim xs){n:Nat}(w:nl (val xs)=n+1):∃x,xs[n]?=some x∧x≠0:=by
 have y:=kL h;refine⟨xs[n]'Om,bgH _,λe=>?_⟩;have u:=qG h;have j:=aZ (val xs);rw[←u,w,bhW Om,e,lJ]at j;simp only[val,Nat.mul_zero,bhL]at j;have l:=jU (h.take n);rw[j,bgP,biP Om]at l;have:=(nJ (val xs) n).2 l;omega
theorem AB(xs:List Nat){k:Nat}(h:k<Z' xs):val xs=val (xs.take k)+4294967296^k*(xs[k]+4294967296*val (xs.drop (k+1))):=by
 conv=>lhs;rw[←biZ k xs,lJ,bgP,biP Om,biL h]
 rfl
theorem y7{xs e:List Nat}(y:Lim xs){k:Nat}(j:k<Z' xs)(l:k<Z' e)(x:xs.drop (k+1)=e.drop (k+1))(h:xs[k]<e[k]):val xs<val e:=by
 rw[AB xs j,AB e l,x];have u:=jU (y.take k);rw[bgP,biP Om]at u;have w:4294967296^k*(xs[k]+4294967296*val (e.drop (k+1))+1)≤4294967296^k*(e[k]+4294967296*val (e.drop (k+1))):=biW _ Om;rw[bgQ _ _ 1,bjB]at w;omega
def fJ(a b:Nat):Int:=if a<b then -1 else if b<a then 1 else 0
theorem Jx{xs e:List Nat}{k:Nat}(j:k<Z' xs)(l:k<Z' e)(u:xs.drop (k+1)=e.drop (k+1))(h:xs[k]=e[k]):xs.drop k=e.drop k:=by
 rw[biL j,biL l,u,h]
theorem kW{a b:Nat}(h:a≤b):nl a≤nl b:=(nJ a _).2 (Nat.lt_of_le_of_lt h ((nJ b _).1 (bgG _)))
theorem Vw{xs:List Nat}(h:Lim xs){j:Nat}(l:j<nl (val xs)):∃(u:j<Z' xs)(w:j<(aM (val xs)).length),xs[j]=(aM (val xs))[j]:=by
 have x:=kL h;refine⟨by omega,l,?_⟩;have e:=qG h;have:(xs.take (nl (val xs)))[j]?=(aM (val xs))[j]?:=by rw[e]
 rw[List.getElem?_take_of_lt l,bgH Om,bgH l]at this;exact biQ.inj this
def dZ(n:Nat):Nat:=if h:n=0 then 0 else dZ (n/2)+1
termination_by n
decreasing_by exact Nat.div_lt_self (biX h) aV
theorem oN:dZ 0=0:=by rw[dZ];simp
theorem vY{n:Nat}(h:n≠0):dZ n=dZ (n/2)+1:=by rw[dZ];simp[h]
theorem sE(n k:Nat):dZ n≤k↔n<2^k:=by
 induction k generalizing n with
 |zero=>
  by_cases h:n=0
  ·subst h;simp[oN]
  ·rw[vY h];simp;omega
 |succ k e=>
  by_cases h:n=0
  ·subst h;simp[oN,bjC]
  ·rw[vY h,Nat.succ_le_succ_iff,e,biD,bjK aV]
theorem pJ{n:Nat}:dZ n=0↔n=0:=by
 have:=sE n 0;simp at this;exact this
theorem Vx{hi lo k:Nat}(u:lo<2^k)(j:hi≠0):dZ (lo+2^k*hi)=k+dZ hi:=by
 apply Nat.le_antisymm
 ·rw[sE,Nat.pow_add];have e:=(sE hi _).1 (bgG _);have:2^k*(hi+1)≤2^k*2^dZ hi:=biW _ e;rw[bgQ,bjB]at this;omega
 ·obtain⟨b,hb⟩:∃b,dZ hi=b+1:=⟨dZ hi-1,by have:=mt pJ.1 j;omega⟩;rw[hb];rcases bgV (dZ (lo+2^k*hi)) (k+(b+1))with h|h
  ·have e:=(sE (lo+2^k*hi) (k+b)).1 Om;rw[Nat.pow_add]at e;have l:¬hi<2^b:=λh=>by have:=(sE hi b).2 h;omega
   have:2^k*2^b≤2^k*hi:=biW _ Om;omega
  ·exact h
theorem sF(n k:Nat):dZ n≤32*k↔nl n≤k:=by
 rw[sE,nJ,Nat.pow_mul]
end Go.Na
namespace Go.PM
theorem Lq{F e:PF}(h:F.le e:=by(repeat' (first|exact c_|refine d_ ?_ ?_))<;>first|(simp only[go_sem]<;>rfl)|rfl|assumption):F.le e:=h
end Go.PM
namespace Go.PM
open Go Go.Na
abbrev aP(xs:List Nat):List (List PV):=xs.map λ(n:Nat)=>[PV.int .u32 (n:Int)]
abbrev aN(xs:List Nat):PV:=.sl 1 (xs.map λ(n:Nat)=>[PV.int .u32 (n:Int)])
theorem dK(xs:List Nat):(aP xs).length=Z' xs:=by simp
theorem cU(xs:List Nat){i:Nat}(h:i<Z' xs):(aP xs)[i]?=some [.int .u32 (xs[i]:Nat)]:=by simp[h]
theorem Mt(xs:List Nat)(k:Nat):aN (xs.take k)=.sl 1 ((xs.map λ(n:Nat)=>[PV.int .u32 (n:Int)]).take k):=by rw[aN,List.map_take]
theorem dY(n:Nat):IntKind.u32.wrap (n:Int)=((n%4294967296:Nat):Int):=by
 have e:IntKind.u32.wrap (n:Int)=(n:Int)%4294967296:=by simp[IntKind.wrap,IntKind.bits,IntKind.signed]
 rw[e];rfl
theorem EW{k:Nat}(h:k≤9223372036854775807)(e:0<k):IntKind.i64.wrap ((k:Int)-1)=((k-1:Nat):Int):=by
 rw[wrap_i64 Om Om];omega
def aIT(xs:List Nat)(n:Nat):PF:=((PF.nil.set 0 (aN xs)).set 3 (.int .i64 n))
theorem aIV{C:Ctx}(xs:List Nat)(B:Lim xs)(F:Z' xs≤35184372087808):wH.wp C (aW RB.res (aK (.int .i64 (nl (val xs):Nat)))) (PF.args [aN xs]) .nil:=by
 simp only[go_sem,wH,UT,UU,RB];refine wp_loop (α:=Nat) (aIT xs) (λ_=>.nil) (λn=>n≤Z' xs∧∀j x,n≤j→xs[j]?=some x→x=0) (λn=>n) xs.length ⟨bgG _,λj x h e=>by rw[bhQ h]at e;cases e⟩ ?_ a_ ?_
 ·unfold aIT;exact Lq
 rintro n ⟨A,y⟩;have out:(∀x,0<n→xs[n-1]?=some x→x≠0)→nl (val xs)=n:=λh=>aCA B A y h;simp only[go_sem,US,UV,aIT];by_cases u:(n:Int)>0
 ·have w:0<n:=Om;have hi:=cU xs (Om:n-1<Z' xs);simp only[go_sem,u,EW (Om:n≤9223372036854775807) w,hi];by_cases l:xs[n-1]=0
  ·simp only[go_sem,bT (Om:((xs[n-1]:Nat):Int)=0),UW,EW (Om:n≤9223372036854775807) w];refine aG (n-1) ⟨by omega,λj x E he=>?_⟩ Om ?_ a_
   ·rcases bgV j n with h|h
    ·have:j=n-1:=Om;subst this;rw[bgH Om]at he;cases he;exact l
    ·exact y j x h he
   ·exact Lq
  ·simp only[go_sem,bD (Om:((xs[n-1]:Nat):Int)≠0),BE];refine aU (.inr rfl) rfl ?_;rw[out λx _ he=>by rw[bgH Om]at he;cases he;exact l];rfl
 ·simp only[go_sem,u,BE];refine aU (.inr rfl) rfl ?_;rw[out λx h=>by omega];rfl
theorem aNV{C:Ctx}(xs:List Nat)(e:aI C 138 [aN xs] .nil (aK (.int .i64 (nl (val xs):Nat)))):OB.wp C (aW aeZ.res (aK (.bool (decide (nl (val xs)>512))))) (PF.args [aN xs]) .nil:=by
 simp only[go_sem,OB,Mz,M0,aeZ];refine aB e rfl ?_;simp only[go_sem];refine aU (.inr rfl) rfl ?_;simp only[cF,PV.bool.injEq,decide_eq_decide];omega
def szL(n:Nat):List Nat:=if nl n>512 then[]else aM n
def szE(n:Nat):Int:=if nl n>512 then 2 else 0
def szV(n:Nat):PV:=.tup [aN (szL n),.int .i64 (szE n)]
theorem aNY{C:Ctx}(xs:List Nat)(w:Lim xs)(e:aI C 138 [aN xs] .nil (aK (.int .i64 (nl (val xs):Nat)))):OD.wp C (aW afN.res (cT (szV (val xs)))) (PF.args [aN xs]) .nil:=by
 simp only[go_sem,OD,Nd,Nf,afN];refine aB e rfl ?_;simp only[go_sem,Ng];by_cases h:nl (val xs)>512
 ·have u:((nl (val xs):Nat):Int)>512:=Om;simp only[go_sem,u,Nh];refine bB (vs:=[.aH,.int .i64 2]) (.inr rfl) .nil rfl a_ ⟨?_,rfl⟩;rw[szV,szL,szE,aL h,aL h];refine .tup rfl λj p q l hq=>?_
  match j with
  |0=>simp at l hq;subst l;subst hq;exact .nil 1
  |1=>simp at l hq;subst l;subst hq;exact .refl _
  |j+2=>simp at l
 ·have u:¬((nl (val xs):Nat):Int)>512:=Om;have y:=kL w;have x:((nl (val xs):Nat):Int)≤(Z' xs:Nat):=Om;simp only[go_sem,u,Ni,x,or_true,bhP];refine bB (.inr rfl) .nil rfl a_ ⟨?_,rfl⟩;rw[szV,szL,szE,aE h,aE h,←qG w,Mt];exact .refl _
theorem aVS{C:Ctx}(v:Nat)(K:v<18446744073709551616)(j:∀xs,Lim xs→Z' xs≤35184372087808→aI C 138 [aN xs] .nil (aK (.int .i64 (nl (val xs):Nat)))) :
  UX.wp C (aW aIW.res (aK (aN (aM v)))) (PF.args [.int .u64 v]) .nil:=by
 have B:IntKind.u32.wrap ((v:Nat):Int)=((v%4294967296:Nat):Int):=dY v;have E:Int.fdiv ((v:Nat):Int) 4294967296=((v/4294967296:Nat):Int):=by rw[Int.fdiv_eq_ediv_of_nonneg _ aV];rfl
 have w:v/4294967296<4294967296:=Om;have F:IntKind.u32.wrap ((v/4294967296:Nat):Int)=((v/4294967296:Nat):Int):=by rw[dY,bhS w]
 have l:Lim [v%4294967296,v/4294967296]:=by
  intro x A;simp only[bgN,List.mem_nil_iff,or_false]at A;rcases A with rfl|rfl
  ·exact bhZ _ aV
  ·exact w
 have e:val [v%4294967296,v/4294967296]=v:=by simp only[val,Nat.mul_zero,bhL];exact Nat.mod_add_div v 4294967296
 have J:∀a b:Int,PV.bin .shr (.int .u64 a) (.int .u64 b)=shift .shr .u64 a b:=λ_ _=>rfl;have u:shift .shr .u64 (v:Int) 32=some (.int .u64 ((v/4294967296:Nat):Int)):=by
  unfold shift;rw[aE aV];simp only;have:min (Int.toNat 32) IntKind.u64.bits=32:=by decide
  rw[this];rw[show(2:Int)^32=4294967296 by decide,E]
 simp only[go_sem,UX,afA,afB,aIW,B,u,F];have hb:(2:Nat)*1≤16777216:=by decide
 simp only[go_sem,afC];refine aB (j [v%4294967296,v/4294967296] l aY) rfl ?_;have y:=kL l;rw[e]at y ⊢;have I:((nl v:Nat):Int)≤((2:Nat):Int):=by simp at y;omega
 simp only[go_sem,I,or_true,bhP];refine aU (.inr rfl) rfl ?_;have:=qG l;rw[e]at this;rw[←this,Mt];rfl
theorem aVW{C:Ctx}(xs:List Nat)(j:Lim xs)(w:Z' xs≤35184372087808)(e:aI C 138 [aN xs] .nil (aK (.int .i64 (nl (val xs):Nat)))) :
  UZ.wp C (aW aIY.res (cT (aN (aM (val xs))))) (PF.args [aN xs]) .nil:=by
 simp only[go_sem,UZ,afU,afV,aIY];refine aB e rfl ?_;have x:=kL j;have l:((nl (val xs):Nat):Int)≤(Z' xs:Nat):=Om;simp only[go_sem,l,or_true,bhP];refine hY (rows:=[]) (src:=aP (aM (val xs))) .nil ?_ ?_ λv H' u _=>?_
 ·simp only[go_sem];rw[←qG j,←List.map_take]
 ·unfold roomFor;rw[dK];have:(aM (val xs)).length=nl (val xs):=rfl;simp only[biM,maxLen];omega
 ·exact qW (.inr rfl) (by simpa using u) rfl
end Go.PM
theorem Sq{p:Prop}(h:p:=by simp only[go_sem]):p:=h
theorem Ev{p:Prop}(h:p:=by simp only[go_sem]<;>rfl):p:=h
namespace Go.PM
open Go Go.Na
def aIL(xs e:List Nat)(i:Int):PF:=(((PF.nil.set 0 (aN xs)).set 1 (aN e)).set 7 (.int .i64 i))
theorem a2E{C:Ctx}(xs e:List Nat)(M:Lim xs)(N:Lim e)(lx:Z' xs≤35184372087808)(ly:Z' e≤35184372087808)(A:aI C 138 [aN xs] .nil (aK (.int .i64 (nl (val xs):Nat))))(B:aI C 138 [aN e] .nil (aK (.int .i64 (nl (val e):Nat)))) :
  cg.wp C (aW aVL.res (aK (.int .i64 (fJ (val xs) (val e))))) (PF.args [aN xs,aN e]) .nil:=by
 simp only[go_sem,cg,axS,axT,aVL];refine aB A Ev ?_;simp only[go_sem];refine aB B Ev ?_;simp only[go_sem,axU];have Z:=kL M;have V:=kL N;by_cases c1:nl (val xs)<nl (val e)
 ·have j:((nl (val xs):Nat):Int)<(nl (val e):Nat):=Om;simp only[go_sem,j,axV];refine aU (.inr rfl) Ev ?_;have:val xs<val e:=by
   rcases bgV (val xs) (val e)with h|h
   ·exact h
   ·have:=kW h;omega
  simp[cF,fJ,this]
 have j:¬((nl (val xs):Nat):Int)<(nl (val e):Nat):=Om;simp only[go_sem,j,axW];by_cases c2:nl (val xs)>nl (val e)
 ·have l:((nl (val xs):Nat):Int)>(nl (val e):Nat):=Om;simp only[go_sem,l,axX];refine aU (.inr rfl) Ev ?_;have:val e<val xs:=by
   rcases bgV (val e) (val xs)with h|h
   ·exact h
   ·have:=kW h;omega
  have x:¬val xs<val e:=Om;simp[cF,fJ,this,x]
 have l:¬((nl (val xs):Nat):Int)>(nl (val e):Nat):=Om;have Y:nl (val xs)=nl (val e):=Om;simp only[go_sem,l,axY];have ex:=aZ (val xs);have w:=aZ (val e);have S:=bC (val xs);have U:=bC (val e);refine wp_loop (α:=Nat) (λk=>aIL xs e ((k:Int)-1)) (λ_=>.nil) (λk=>k≤nl (val xs)∧(aM (val xs)).drop k=(aM (val e)).drop k) (λk=>k) (nl (val xs)) ⟨bgG _,?_⟩ ?_ a_ ?_
 ·rw[bkA (by rw[nl];exact bgG _),bkA (by rw[Y,nl];exact bgG _)]
 ·unfold aIL
  (repeat' (first|exact c_|refine d_ ?_ ?_))<;>first|(simp only[go_sem,wrap_i64 (show -9223372036854775808≤((nl (val xs):Nat):Int)-1 by omega) (show((nl (val xs):Nat):Int)-1≤9223372036854775807 by omega)]<;>rfl)|rfl
 rintro k ⟨hk,u⟩;simp only[go_sem,aeO,axZ,aIL];by_cases h0:0<k
 ·obtain⟨m,rfl⟩:∃m,k=m+1:=⟨k-1,by omega⟩;have E:((m+1:Nat):Int)-1=(m:Int):=Om;have y:(m:Int)≥0:=Om;obtain⟨O,F,I⟩:=Vw M (Om:m<nl (val xs));obtain⟨R,J,K⟩:=Vw N (Om:m<nl (val e));simp only[go_sem,E,y];refine bA .nil cK a_ ?_;simp only[go_sem,ayA,cU xs O,cU e R];by_cases W:xs[m]<e[m]
  ·simp only[go_sem,show((xs[m]:Nat):Int)<(e[m]:Nat) by omega,ayB];refine aU (.inr rfl) Ev ?_;have:=y7 S F J u (by rw[←I,←K];exact W);rw[ex,w]at this;simp[cF,fJ,this]
  ·simp only[go_sem,show ¬((xs[m]:Nat):Int)<(e[m]:Nat) by omega];refine bA .nil cK a_ ?_;simp only[go_sem,aeP,cU xs O,cU e R];by_cases X:xs[m]>e[m]
   ·simp only[go_sem,show((xs[m]:Nat):Int)>(e[m]:Nat) by omega,aeQ];refine aU (.inr rfl) Ev ?_;have:=y7 U J F u.symm (by rw[←I,←K];exact X);rw[ex,w]at this;have x:¬val xs<val e:=Om;simp[cF,fJ,this,x]
   ·simp only[go_sem,show ¬((xs[m]:Nat):Int)>(e[m]:Nat) by omega,aeR];refine aG m ⟨by omega,Jx F J u (by rw[←I,←K];omega)⟩ Om ?_ a_
    (repeat' (first|exact c_|refine d_ ?_ ?_))<;>first|(simp only[go_sem,wrap_i64 (Om:-9223372036854775808≤(m:Int)-1) (Om:(m:Int)-1≤9223372036854775807)]<;>rfl)|rfl
 ·have:k=0:=Om;subst this;have E:¬((0:Nat):Int)-1≥0:=by decide
  simp only[go_sem,E,aeS];refine aU (.inr rfl) Ev ?_;rw[bhP,bhP]at u;have:val xs=val e:=by rw[←ex,←w,u]
  simp[cF,fJ,this]
def aeD(k:Nat)(v:Nat):PF:=((PF.nil.set 4 (.int .i64 k)).set 5 (.int .u32 v))
theorem aVK{C:Ctx}(xs:List Nat)(A:Lim xs)(X:Z' xs≤35184372087808)(B:aI C 138 [aN xs] .nil (aK (.int .i64 (nl (val xs):Nat)))) :
  UO.wp C (aW aIK.res (aK (.int .i64 (dZ (val xs):Nat)))) (PF.args [aN xs]) .nil:=by
 simp only[go_sem,UO,aeF,aeG,aIK];refine aB B Ev ?_;simp only[go_sem,aeH];have W:=kL A;by_cases O:nl (val xs)=0
 ·simp only[go_sem,bT (show((nl (val xs):Nat):Int)=0 by omega),aeI];refine aU (.inr rfl) Ev ?_;have:val xs=0:=mV.1 O;simp[cF,this,oN]
 obtain⟨n,N⟩:∃n,nl (val xs)=n+1:=⟨nl (val xs)-1,by omega⟩;obtain⟨t,x,E⟩:=alA A N;have y:t<4294967296:=A t (bhX x);have j:n<Z' xs:=Om;have V:val xs=val (xs.take n)+4294967296^n*t:=by
  have e:=qG A;have:=aZ (val xs);have U:xs[n]=t:=by rw[bgH j]at x;exact biQ.inj x
  rw[←e,N,bhW j,U,lJ,bgP,biP Om]at this;simp only[val,Nat.mul_zero,bhL]at this;exact this.symm
 have hb:dZ (val xs)=32*n+dZ t:=by
  have J:=jU (A.take n);rw[bgP,biP Om]at J;rw[V,show(4294967296:Nat)^n=2^(32*n) by rw[Nat.pow_mul]]at *
  exact Vx J E
 have l:(aP xs)[n]?=some [.int .u32 (t:Nat)]:=by rw[cU xs j];rw[bgH j]at x;rw[biQ.inj x]
 have R:IntKind.i64.wrap (((nl (val xs):Nat):Int)-1)=(n:Int):=by rw[wrap_i64 Om Om];omega
 have S:IntKind.i64.wrap ((n:Int)*32)=((32*n:Nat):Int):=by rw[wrap_i64 Om Om];omega
 simp only[go_sem,bD (show((nl (val xs):Nat):Int)≠0 by omega),aeJ,aeK,R,S,l];refine wp_loop (α:=Nat × Nat) (λa=>aeD a.1 a.2) (λ_=>.nil) (λa=>a.1+dZ a.2=32*n+dZ t∧a.2<4294967296) (λa=>a.2) (32*n,t) ⟨rfl,y⟩ ?_ a_ ?_
 ·unfold aeD;exact Lq
 rintro⟨k,v⟩ ⟨K,hlt⟩;simp only at K hlt;have M:dZ t≤32:=(sE t 32).2 y;simp only[go_sem,aeE,aeL,aeD];by_cases I:(v:Int)>0
 ·have F:v≠0:=Om;have u:PV.bin .shr (.int .u32 (v:Int)) (.int .u64 1)=some (.int .u32 ((v/2:Nat):Int)):=by
   show shift .shr .u32 (v:Int) 1=_;unfold shift;rw[aE aV];simp only;have:min (Int.toNat 1) IntKind.u32.bits=1:=by decide
   rw[this,show(2:Int)^1=2 by decide,Int.fdiv_eq_ediv_of_nonneg _ aV];rfl
  have w:shift .shr .u32 (v:Int) 1=some (.int .u32 ((v/2:Nat):Int)):=u;simp only[go_sem,I,aeM,aeN,u,w,wZz k];refine aG (k+1,v/2) ⟨?_,?_⟩ (Nat.div_lt_self Om aV) ?_ a_
  ·have:=vY F;simp only;omega
  ·simp only;omega
  ·exact Lq
 ·have:v=0:=Om;subst this;simp only[go_sem,I,Mu];refine aU (.inr rfl) Ev ?_;rw[oN]at K;simp only[cF,PV.int.injEq,true_and];omega
structure yM(C:Ctx):Prop where
 length:∀xs,Lim xs→Z' xs≤35184372087808→aI C 138 [aN xs] .nil (aK (.int .i64 (nl (val xs):Nat)))
 large:∀xs,Lim xs→Z' xs≤35184372087808→aI C 137 [aN xs] .nil (aK (.bool (decide (nl (val xs)>512))))
 sized:∀xs,Lim xs→Z' xs≤35184372087808→aI C 141 [aN xs] .nil (aK (szV (val xs)))
 trim:∀xs,Lim xs→Z' xs≤35184372087808→aI C 135 [aN xs] .nil (aK (aN (aM (val xs))))
 make:∀v:Nat,v<18446744073709551616→aI C 132 [.int .u64 v] .nil (aK (aN (aM v)))
 cmp:∀xs ys,Lim xs→Lim ys→Z' xs≤35184372087808→Z' ys≤35184372087808→aI C 129 [aN xs,aN ys] .nil (aK (.int .i64 (fJ (val xs) (val ys))))
def nS:PV→List Nat
 | .sl _ rows=>rows.map λr=>match r with|[.int _ n]=>n.toNat|_=>0
 |_=>[]
theorem hJ(xs:List Nat):nS (aN xs)=xs:=by
 simp[nS,bjF,Function.comp_def]
def aIJ:Spec:=λname vs=>match name,vs with
 |138,[x]=>some ([],λ_=>aK (.int .i64 (nl (val (nS x)):Nat)))
 |_,_=>none
theorem vG(xs:List Nat):aIJ 138 [aN xs]=some ([],λ_=>aK (.int .i64 (nl (val xs):Nat))):=by
 show some _=_;rw[hJ]
theorem II(P:List Nat)(k v:Nat):(P++bgA (k+1) 0).set P.length v=(P++[v])++bgA k 0:=by
 rw[bjU _ _ (bgG _),Nat.sub_self,List.replicate_succ,List.set_cons_zero,bgX];rfl
theorem kM(L:List Nat)(i v:Nat):(aP L).set i [.int .u32 (v:Int)]=aP (L.set i v):=by
 unfold aP;rw[List.map_set]
theorem oG(P:List Nat)(v:Nat):val (P++[v])=val P+4294967296^P.length*v:=by
 rw[lJ];simp[val]
theorem dP(xs:List Nat){i:Nat}(h:i<Z' xs):val (xs.take (i+1))=val (xs.take i)+4294967296^i*xs[i]:=by
 rw[bhW h,oG,bgP,biP Om]
theorem GX{v:Nat}:shift .shr .u64 (v:Int) 32=some (.int .u64 ((v/4294967296:Nat):Int)):=by
 unfold shift;rw[aE aV];simp only;have:min (Int.toNat 32) IntKind.u64.bits=32:=by decide
 rw[this,show(2:Int)^32=4294967296 by decide,Int.fdiv_eq_ediv_of_nonneg _ aV];rfl
theorem jV{a b:Nat}(h:a+b<18446744073709551616):IntKind.u64.wrap ((a:Int)+(b:Int))=((a+b:Nat):Int):=by
 rw[wrap_u64 Om Om];omega
theorem bW{a:Nat}(h:a<18446744073709551616):IntKind.u64.wrap (a:Int)=(a:Int):=wrap_u64 Om Om
def Bw(a b:List Nat)(o i c:Nat):PF:=(((((((PF.nil.set 0 (aN a)).set 1 (aN b)).set 6 (.osl o 1 0 (Z' a+1))).set 7 (.int .u64 c)).set 35 (.int .i64 (Z' a:Nat))).set 34 (aN a)).set 36 (.int .i64 i))
theorem Ms{C:Ctx}(L:yM C)(a b:List Nat)(ha:Lim a)(hb:Lim b)(hl:Z' b≤Z' a)(h1:Z' a≤1000)(F:PF)(f0:F 0=some (aN a))(f1:F 1=some (aN b)) :
  aC.wp C (.seq (.region Hr) (.seq (.region Ht) (.seq (.seq (.region Hu) (.block 0 (.loop uh))) (.seq (.region ul) (.seq (.region um) .ret))))) (aW [.tmp 4,.tmp 5] (cT (szV (val a+val b)))) F .nil:=by
 have S:IntKind.i64.wrap ((Z' a:Int)+1)=((Z' a+1:Nat):Int):=eT Om;have η:((Z' a+1:Nat):Int)*((4:Nat):Int)≤140737488355328:=Om;have θ:((Z' a+1:Nat):Int)≤9223372036854775807:=Om;have hz:bgA (Z' a+1) [PV.int .u32 0]=aP ([]++bgA (Z' a+1) 0):=by simp[aP]
 simp only[go_sem,Hr,f0,S,η,θ,hz];refine aQ λo ho=>?_;simp only[go_sem,Ht,Hu,f0];refine wp_loop (α:=List Nat × Nat × Nat) (λs=>Bw a b s.2.2 s.1.length s.2.1) (λs=>PH.nil.set s.2.2 (.rows 1 (aP (s.1++bgA (Z' a+1-s.1.length) 0))))
  (λs=>s.1.length≤Z' a∧Lim s.1∧s.2.1≤1∧val s.1+4294967296^s.1.length*s.2.1=val (a.take s.1.length)+val (b.take s.1.length)) (λs=>Z' a-s.1.length) ([],0,o) ⟨by simp,by simp[Lim],by simp,by simp[val]⟩ ?_ ?_ ?_
 ·unfold Bw;exact Lq
 ·exact e_ a_ (by simp only[go_sem,biM])
 rintro⟨P,c,q⟩ ⟨hP,j,hc,A⟩;simp only at hP j hc A;simp only[go_sem,uh,axQ,Bw];by_cases Y:Z' P<Z' a
 ·have E:(Z' P:Int)<(Z' a:Nat):=Om;have ι:=ha _ (bgD Y);obtain⟨k,W⟩:∃k,Z' a+1-Z' P=k+1:=⟨Z' a-Z' P,by omega⟩;have M:(aP (P++bgA (k+1) 0))[Z' P]?=some [.int .u32 ((0:Nat):Int)]:=by rw[cU _ aY];simp
  have l:Z' a+1-(Z' P+1)=k:=Om;have I:(Z' P:Int)<((Z' a+1:Nat):Int):=Om;have fin:∀(t:Nat)(w:PF)(H':PH),t<2*4294967296→val P+4294967296^P.length*t=val (a.take (Z' P+1))+val (b.take (Z' P+1)) →
    w 0=some (aN a)→w 1=some (aN b)→w 6=some (.osl q 1 0 (Z' a+1))→w 7=some (.int .u64 (t:Nat))→w 8=some (.int .i64 P.length)→w 34=some (aN a)→w 35=some (.int .i64 (Z' a:Nat))→w 36=some (.int .i64 P.length) →
    H' q=some (.rows 1 (aP (P++bgA (k+1) 0)))→∀K:cQ,(∀y B V H2,Z' y=Z' P+1→Lim y→B≤1→val y+4294967296^y.length*B=val (a.take (Z' P+1))+val (b.take (Z' P+1))→(Bw a b q y.length B).le V→H2 q=some (.rows 1 (aP (y++bgA k 0)))→K .normal V H2) →
    aC.wp C (.seq (.region ui) (.region uj)) (fN 1 (kJ C (aC.wp C (.region uk)) K)) w H':=by
   intro t w H' ht hv g0 g1 g6 g7 g8 γ δ ε gH K hK;have u:(aP (P++bgA (k+1) 0)).set P.length [.int .u32 ((t%4294967296:Nat):Int)]=aP ((P++[t%4294967296])++bgA k 0):=by rw[kM,II]
   simp only[go_sem,ui,g6,g8,g7,dY,I,gH,M,u,uj,GX,uk,ε,eT (Om:Z' P<9223372036854775807)];refine hK (P++[t%4294967296]) (t/4294967296) _ _ aY (j.app λx X=>by simp at X;subst X;exact bhZ _ aV) Om ?_ ?_ Sq
   ·rw[oG,bgB,bgI,biD,bhB,biV,←bgQ,Nat.mod_add_div];exact hv
   ·unfold Bw;rw[bgB,bgI];refine d_ (d_ (d_ (d_ (d_ (d_ (d_ c_ ?_) ?_) ?_) ?_) ?_) ?_) ?_<;>simp only[go_sem,g0,g1,g6,γ,δ]
  have U:=dP a Y;have ea:IntKind.u64.wrap ((a[Z' P]:Nat):Int)=((a[Z' P]:Nat):Int):=bW Om;have es:IntKind.u64.wrap ((c:Nat)+((a[Z' P]:Nat):Int))=((c+a[Z' P]:Nat):Int):=jV Om;simp only[go_sem,E,adY,adZ,cU a Y,ea,es,aeA];by_cases Z:Z' P<Z' b
  ·have J:(Z' P:Int)<(Z' b:Nat):=Om;have κ:=hb _ (bgD Z);have N:=dP b Z;have eb:IntKind.u64.wrap ((b[Z' P]:Nat):Int)=((b[Z' P]:Nat):Int):=bW Om;have β:IntKind.u64.wrap (((c+a[Z' P]:Nat):Int)+((b[Z' P]:Nat):Int))=((c+a[Z' P]+b[Z' P]:Nat):Int):=jV Om;simp only[go_sem,J,aeB,cU b Z,eb,β];refine fin (c+a[Z' P]+b[Z' P]) _ _ Om ?_ ?_ ?_ ?_ ?_ ?_ ?_ ?_ ?_ ?_ _ ?_
   ·rw[U,N,bgQ,bgQ];omega
   any_goals simp only[go_sem,W]
   intro y B V H2 O e2 e3 R e5 e6;rw[←O]at R;refine aG (y,B,q) ⟨by simp only;omega,e2,e3,R⟩ (by simp only;omega) e5 (e_ a_ ?_);simp only;rw[O,l];exact e6
  ·have J:¬(Z' P:Int)<(Z' b:Nat):=Om;have N:val (b.take (Z' P+1))=val (b.take P.length):=by rw[bgR Om,bgR Om]
   simp only[go_sem,J];refine fin (c+a[Z' P]) _ _ Om ?_ ?_ ?_ ?_ ?_ ?_ ?_ ?_ ?_ ?_ _ ?_
   ·rw[U,N,bgQ];omega
   any_goals simp only[go_sem,W]
   intro y B V H2 O e2 e3 R e5 e6;rw[←O]at R;refine aG (y,B,q) ⟨by simp only;omega,e2,e3,R⟩ (by simp only;omega) e5 (e_ a_ ?_);simp only;rw[O,l];exact e6
 ·have e:Z' P=Z' a:=Om;have E:¬(Z' P:Int)<(Z' a:Nat):=Om;have W:bgA (Z' a+1-Z' P) 0=[0]:=by rw[show a.length+1-Z' P=1 by omega];rfl
  have M:(aP (P++[0]))[Z' a]?=some [.int .u32 ((0:Nat):Int)]:=by rw[cU _ (by simp;omega)];simp[e]
  have u:(aP (P++[0])).set a.length [.int .u32 ((c%4294967296:Nat):Int)]=aP (P++[c]):=by have:=II P 0 (c%4294967296);simp only[List.replicate_zero,bhH,bgL,List.replicate_one]at this;rw[←e,kM,this,bhS Om]
  have I:(Z' a:Int)<((Z' a+1:Nat):Int):=Om;have hV:val (P++[c])=val a+val b:=by rw[oG,A,e,bhA,bgR hl]
  have ζ:Lim (P++[c]):=j.app λx X=>by simp at X;omega
  simp only[go_sem,E,ul,dY,W,M,I,u,um];have hs:=L.sized _ ζ (by simp;omega);rw[hV]at hs;refine xT (o:=q) (s:=1) (k:=Z' a+1) (rs:=aP (P++[c])) (v:=szV (val a+val b)) ?_ rfl Sq (by rw[dK];simp;omega) ?_
  ·rw[bgR (by rw[dK];simp;omega)];exact hs
  ·simp only[go_sem,szV];exact bB (.inr rfl) .nil rfl a_ ⟨.refl _,rfl⟩
def opV(big:Bool)(n:Nat):PV:=if big then .tup [aN [],.int .i64 2]else szV n
def gJ(a b:Nat):Bool:=decide (nl a>512)||decide (nl b>512)
theorem jB{res:List fL}{F:PF}{H:PH}{e:Int}(h:fL.evs F H res=some [.aH,.int .i64 e]):aW res (cT (.tup [aN [],.int .i64 e])) .ret F H:=by
 refine bB (.inr rfl) .nil h a_ ⟨?_,rfl⟩;refine .tup rfl λj p q l hq=>?_
 match j with
 |0=>simp at l hq;subst l;subst hq;exact .nil 1
 |1=>simp at l hq;subst l;subst hq;exact .refl _
 |j+2=>simp at l
theorem bJ(n:Nat):(aM n).length=nl n:=rfl
theorem nU{xs:List Nat}(h:Lim xs):(xs.map λ(n:Nat)=>[PV.int .u32 (n:Int)]).take (nl (val xs))=(aM (val xs)).map λ(n:Nat)=>[PV.int .u32 (n:Int)]:=by
 rw[←List.map_take,qG h]
theorem a2B{C:Ctx}(L:yM C)(a b:List Nat)(w:Lim a)(hb:Lim b)(A:Z' a≤35184372087808)(B:Z' b≤35184372087808) :
  ce.wp C (aW aVI.res (cT (opV (gJ (val a) (val b)) (val a+val b)))) (PF.args [aN a,aN b]) .nil:=by
 simp only[go_sem,ce,axL,axM,aVI];refine aB (L.large a w A) rfl ?_;by_cases l:nl (val a)>512
 ·simp only[go_sem,l,Hq];rw[show opV (gJ (val a) (val b)) (val a+val b)=.tup [aN [],.int .i64 2] by simp[opV,gJ,l]];exact jB rfl
 simp only[go_sem,l];refine aB (L.large b hb B) rfl ?_;by_cases u:nl (val b)>512
 ·simp only[go_sem,u,Hq];rw[show opV (gJ (val a) (val b)) (val a+val b)=.tup [aN [],.int .i64 2] by simp[opV,gJ,u]];exact jB rfl
 have e:opV (gJ (val a) (val b)) (val a+val b)=szV (val a+val b):=by simp[opV,gJ,l,u]
 rw[e];simp only[go_sem,u];refine bA .nil aIJ a_ ?_;simp only[go_sem,axN];have J:=kL w;have K:=kL hb;have x:((nl (val a):Nat):Int)≤(Z' a:Nat):=Om;have y:((nl (val b):Nat):Int)≤(Z' b:Nat):=Om;refine cO (vG a) (L.length a w A) rfl a_ ?_;simp only[go_sem,x,or_true,bhP,nU w];refine cO (vG b) (L.length b hb B) rfl a_ ?_;simp only[go_sem,y,or_true,bhP,nU hb,axO,bJ];have E:=aZ (val a);have F:=aZ (val b);by_cases I:nl (val a)<nl (val b)
 ·have j:((nl (val a):Nat):Int)<(nl (val b):Nat):=Om;simp only[go_sem,j,axP];have:=Ms L (aM (val b)) (aM (val a)) (bC _) (bC _) (by rw[bJ,bJ];omega) (by rw[bJ];omega);rw[E,F,Nat.add_comm]at this;exact this _ rfl rfl
 ·have j:¬((nl (val a):Nat):Int)<(nl (val b):Nat):=Om;simp only[go_sem,j];have:=Ms L (aM (val a)) (aM (val b)) (bC _) (bC _) (by rw[bJ,bJ];omega) (by rw[bJ];omega);rw[E,F]at this;exact this _ rfl rfl
theorem kZ(n:Int):IntKind.u64.wrap n=n%18446744073709551616:=by simp[IntKind.wrap,IntKind.bits,IntKind.signed]
theorem po(n:Int):IntKind.u32.wrap n=n%4294967296:=by simp[IntKind.wrap,IntKind.bits,IntKind.signed]
theorem aJT{v:Int}:shift .shr .u64 v 63=some (.int .u64 (v/9223372036854775808)):=by
 unfold shift;rw[aE aV];simp only;have:min (Int.toNat 63) IntKind.u64.bits=63:=by decide
 rw[this,show(2:Int)^63=9223372036854775808 by decide,Int.fdiv_eq_ediv_of_nonneg _ aV]
def fk(a bor b:Nat):Nat:=(a+4294967296-bor-b)%4294967296
def xi(a bor b:Nat):Nat:=if a<bor+b then 1 else 0
theorem akE{a bor b:Nat}(e:a<4294967296)(hb:b<4294967296)(j:bor≤1)(v:Int)(l:v=((a:Int)-bor-b)%18446744073709551616) :
  IntKind.u32.wrap v=((fk a bor b:Nat):Int)∧v/9223372036854775808=((xi a bor b:Nat):Int)∧a+4294967296*xi a bor b=fk a bor b+b+bor∧fk a bor b<4294967296:=by
 rw[po];unfold fk xi;split<;>omega
def Cd(a b:List Nat)(o i c:Nat):PF:=(((((((PF.nil.set 0 (aN a)).set 1 (aN b)).set 6 (.osl o 1 0 a.length)).set 7 (.int .u64 c)).set 33 (aN a)).set 34 (.int .i64 (Z' a:Nat))).set 35 (.int .i64 i))
theorem aNZ{C:Ctx}(L:yM C)(a b:List Nat)(ha:Lim a)(hb:Lim b)(κ:val b≤val a)(hl:Z' b≤Z' a)(h1:Z' a≤1000)(F:PF)(f0:F 0=some (aN a))(f1:F 1=some (aN b)) :
  aC.wp C (.seq (.region Im) (.seq (.region In) (.seq (.seq (.region Io) (.block 1 (.loop uz))) (.seq (.region u7) .ret)))) (aW [.tmp 4,.tmp 5] (cT (szV (val a-val b)))) F .nil:=by
 have η:(Z' a:Int)*((4:Nat):Int)≤140737488355328:=Om;have θ:(Z' a:Int)≤9223372036854775807:=Om;have hz:bgA a.length [PV.int .u32 0]=aP ([]++bgA a.length 0):=by simp[aP]
 simp only[go_sem,Im,f0,η,θ,hz];refine aQ λo ho=>?_;simp only[go_sem,In,Io,f0];refine wp_loop (α:=List Nat × Nat × Nat) (λs=>Cd a b s.2.2 s.1.length s.2.1) (λs=>PH.nil.set s.2.2 (.rows 1 (aP (s.1++bgA (Z' a-s.1.length) 0))))
  (λs=>s.1.length≤Z' a∧Lim s.1∧s.2.1≤1∧val (a.take s.1.length)+4294967296^s.1.length*s.2.1=val s.1+val (b.take s.1.length)) (λs=>Z' a-s.1.length) ([],0,o) ⟨by simp,by simp[Lim],by simp,by simp[val]⟩ ?_ ?_ ?_
 ·unfold Cd;exact Lq
 ·exact e_ a_ (by simp only[go_sem,biM])
 rintro⟨P,c,q⟩ ⟨hP,j,hc,B⟩;simp only at hP j hc B;simp only[go_sem,uz,azG,Cd];by_cases V:Z' P<Z' a
 ·have A:(Z' P:Int)<(Z' a:Nat):=Om;have δ:=ha _ (bgD V);obtain⟨k,U⟩:∃k,Z' a-Z' P=k+1:=⟨Z' a-Z' P-1,by omega⟩;have ζ:(aP (P++bgA (k+1) 0))[Z' P]?=some [.int .u32 ((0:Nat):Int)]:=by rw[cU _ aY];simp
  have l:Z' a-(Z' P+1)=k:=Om;have ι:=dP a V;have fin:∀(t:Nat)(v:Int)(w:PF)(H':PH),t<4294967296→v=((a[Z' P]:Int)-c-t)%18446744073709551616→val (b.take (Z' P+1))=val (b.take P.length)+4294967296^P.length*t →
    w 0=some (aN a)→w 1=some (aN b)→w 6=some (.osl q 1 0 a.length)→w 9=some (.int .u64 v)→w 8=some (.int .i64 P.length)→w 33=some (aN a)→w 34=some (.int .i64 (Z' a:Nat))→w 35=some (.int .i64 P.length) →
    H' q=some (.rows 1 (aP (P++bgA (k+1) 0)))→∀K:cQ,(∀y E S H2,Z' y=Z' P+1→Lim y→E≤1→val (a.take (Z' P+1))+4294967296^y.length*E=val y+val (b.take (Z' P+1))→(Cd a b q y.length E).le S→H2 q=some (.rows 1 (aP (y++bgA k 0)))→K .normal S H2) →
    aC.wp C (.seq (.region u0) (.region u5)) (fN 2 (kJ C (aC.wp C (.region u6)) K)) w H':=by
   intro t v w H' ht hv u g0 g1 g6 g9 g8 Z β γ gH K hK;obtain⟨J,N,O,M⟩:=akE δ ht hc v hv;have R:(aP (P++bgA (k+1) 0)).set P.length [.int .u32 ((fk a[Z' P] c t:Nat):Int)]=aP ((P++[fk a[Z' P] c t])++bgA k 0):=by rw[kM,II]
   simp only[go_sem,u0,g6,g8,g9,J,A,gH,ζ,R,u5,aJT,N,u6,γ,eT (Om:Z' P<9223372036854775807)];refine hK (P++[fk a[Z' P] c t]) (xi a[Z' P] c t) _ _ aY (j.app λx hx=>by simp at hx;subst hx;exact M) (by unfold xi;split<;>omega) ?_ ?_ Sq
   ·rw[oG,bgB,bgI,biD,bhB,ι,u,biV,←bgQ,O,bgQ,bgQ];omega
   ·unfold Cd;rw[bgB,bgI];refine d_ (d_ (d_ (d_ (d_ (d_ (d_ c_ ?_) ?_) ?_) ?_) ?_) ?_) ?_<;>simp only[go_sem,g0,g1,g6,Z,β]
  have ea:IntKind.u64.wrap ((a[Z' P]:Nat):Int)=((a[Z' P]:Nat):Int):=bW Om;simp only[go_sem,A,afO,afP,cU a V,ea,afQ];by_cases W:Z' P<Z' b
  ·have I:(Z' P:Int)<(Z' b:Nat):=Om;have ε:=hb _ (bgD W);have u:=dP b W;have eb:IntKind.u64.wrap ((b[Z' P]:Nat):Int)=((b[Z' P]:Nat):Int):=bW Om;simp only[go_sem,I,afR,cU b W,eb];refine fin b[Z' P] (IntKind.u64.wrap (IntKind.u64.wrap ((a[Z' P]:Int)-(c:Int))-(b[Z' P]:Int))) _ _ ε (by rw[kZ,kZ];omega) u ?_ ?_ ?_ ?_ ?_ ?_ ?_ ?_ ?_ _ ?_
   any_goals simp only[go_sem,U]
   intro y E S H2 J N O M X Y;rw[←J]at M;refine aG (y,E,q) ⟨by simp only;omega,N,O,M⟩ (by simp only;omega) X (e_ a_ ?_);simp only;rw[J,l];exact Y
  ·have I:¬(Z' P:Int)<(Z' b:Nat):=Om;have u:val (b.take (Z' P+1))=val (b.take P.length)+4294967296^P.length*0:=by rw[bgR Om,bgR Om];simp
   simp only[go_sem,I];refine fin 0 (IntKind.u64.wrap ((a[Z' P]:Int)-(c:Int))) _ _ aV (by rw[kZ];omega) u ?_ ?_ ?_ ?_ ?_ ?_ ?_ ?_ ?_ _ ?_
   any_goals simp only[go_sem,U]
   intro y E S H2 J N O M X Y;rw[←J]at M;refine aG (y,E,q) ⟨by simp only;omega,N,O,M⟩ (by simp only;omega) X (e_ a_ ?_);simp only;rw[J,l];exact Y
 ·have e:Z' P=Z' a:=Om;have A:¬(Z' P:Int)<(Z' a:Nat):=Om;have U:bgA (Z' a-Z' P) 0=[]:=by rw[show a.length-Z' P=0 by omega];rfl
  have hV:val P=val a-val b:=by
   rw[e,bhA,bgR hl]at B;have hlt:=jU j;rw[e]at hlt;rcases biC c with h|h
   ·subst h;omega
   ·have:c=1:=Om;subst this;omega
  simp only[go_sem,A,U,bhH,u7];have hs:=L.sized _ j Om;rw[hV]at hs;refine xT (o:=q) (s:=1) (k:=Z' a) (rs:=aP P) (v:=szV (val a-val b)) ?_ rfl Sq (by rw[dK];omega) ?_
  ·rw[bgR (by rw[dK];omega)];exact hs
  ·simp only[go_sem,szV];exact bB (.inr rfl) .nil rfl a_ ⟨.refl _,rfl⟩
def zN(a b:Nat):PV:=if gJ a b then .tup [aN [],.int .i64 2]else if a<b then .tup [aN [],.int .i64 4]else szV (a-b)
theorem a2M{C:Ctx}(L:yM C)(a b:List Nat)(l:Lim a)(hb:Lim b)(A:Z' a≤35184372087808)(B:Z' b≤35184372087808) :
  cv.wp C (aW aVV.res (cT (zN (val a) (val b)))) (PF.args [aN a,aN b]) .nil:=by
 simp only[go_sem,cv,azB,azC,aVV];refine aB (L.large a l A) rfl ?_;by_cases e:nl (val a)>512
 ·simp only[go_sem,e,Il];rw[show zN (val a) (val b)=.tup [aN [],.int .i64 2] by simp[zN,gJ,e]];exact jB rfl
 simp only[go_sem,e];refine aB (L.large b hb B) rfl ?_;by_cases j:nl (val b)>512
 ·simp only[go_sem,j,Il];rw[show zN (val a) (val b)=.tup [aN [],.int .i64 2] by simp[zN,gJ,j]];exact jB rfl
 simp only[go_sem,j,azD];refine aB (L.cmp a b l hb A B) rfl ?_;by_cases u:val a<val b
 ·have y:fJ (val a) (val b)<0:=by simp[fJ,u]
  simp only[go_sem,y,azE];rw[show zN (val a) (val b)=.tup [aN [],.int .i64 4] by simp[zN,gJ,e,j,u]];exact jB rfl
 have y:¬fJ (val a) (val b)<0:=by unfold fJ;rw[aE u];split<;>decide
 rw[show zN (val a) (val b)=szV (val a-val b) by simp[zN,gJ,e,j,u]];simp only[go_sem,y];refine bA .nil aIJ a_ ?_;simp only[go_sem,azF];have I:=kL l;have J:=kL hb;have w:((nl (val a):Nat):Int)≤(Z' a:Nat):=Om;have x:((nl (val b):Nat):Int)≤(Z' b:Nat):=Om;refine cO (vG a) (L.length a l A) rfl a_ ?_;simp only[go_sem,w,or_true,bhP,nU l];refine cO (vG b) (L.length b hb B) rfl a_ ?_;simp only[go_sem,x,or_true,bhP,nU hb];have E:=aZ (val a);have F:=aZ (val b);have K:=kW (Om:val b≤val a);have:=aNZ L (aM (val a)) (aM (val b)) (bC _) (bC _) Om (by rw[bJ,bJ];omega) (by rw[bJ];omega);rw[E,F]at this;exact this _ rfl rfl
end Go.PM
namespace Go.Na
def gE:Nat→Nat→List Nat
 |0,_=>[]
 |k+1,n=>(n%4294967296)::gE k (n/4294967296)
theorem rS:∀k n,(gE k n).length=k
 |0,_=>rfl
 |k+1,n=>by simp[gE,rS k]
theorem SB{xs:List Nat}(h:Lim xs):gE xs.length (val xs)=xs:=by
 induction xs with
 |nil=>rfl
 |cons x xs u =>have w:=h x aY;have e:(x+4294967296*val xs)%4294967296=x:=Om;have j:(x+4294967296*val xs)/4294967296=val xs:=Om;simp only[bhT,gE,val];rw[e,j,u λy l=>h y (by simp[l])]
theorem tA:∀k n,Lim (gE k n)
 |0,_=>λx hx=>by cases hx
 |k+1,n=>λx hx=>by
  simp only[gE,bgN]at hx;rcases hx with rfl|hx
  ·exact bhZ _ aV
  ·exact tA k _ x hx
theorem JY:∀k n,val (gE k n)=n%4294967296^k
 |0,n=>by simp[gE,val,Nat.mod_one]
 |k+1,n=>by simp only[gE,val,JY k];rw[biD,bhE (4294967296^k) 4294967296,Nat.mod_mul]
theorem vL{k n:Nat}(h:n<4294967296^k):val (gE k n)=n:=by rw[JY,bhS h]
end Go.Na
namespace Go.PM
open Go Go.Na
theorem a8F{a b:Nat}(e:a<18446744073709551616)(hb:b<18446744073709551616):(BitVec.ofInt 64 (a:Int) ||| BitVec.ofInt 64 (b:Int)).toNat=a ||| b:=by
 rw[BitVec.ofInt_natCast,BitVec.ofInt_natCast,BitVec.toNat_or,BitVec.toNat_ofNat,BitVec.toNat_ofNat,bhS (by simpa using e),bhS (by simpa using hb)]
theorem agC{c x s:Nat}(e:c<2^s)(h:c+2^s*x<18446744073709551616):c ||| (2^s*x)=c+2^s*x:=by
 rw[Nat.or_comm,←Nat.two_pow_add_eq_or_of_lt e,Nat.add_comm]
theorem orI{a b n:Nat}(e:a<18446744073709551616)(hb:b<18446744073709551616)(h:a ||| b=n)(j:n<18446744073709551616):rQ .or .u64 (a:Int) (b:Int)=some (.int .u64 (n:Int)):=by
 show some (PV.int .u64 (IntKind.u64.wrap (((BitVec.ofInt 64 (a:Int) ||| BitVec.ofInt 64 (b:Int)).toNat:Nat):Int)))=_;rw[a8F e hb,h,bW j]
theorem WC{x s:Nat}(e:s≤64)(h:x*2^s<18446744073709551616):shift .shl .u64 (x:Int) (s:Int)=some (.int .u64 ((2^s*x:Nat):Int)):=by
 unfold shift;rw[aE Om];simp only;have:min (Int.toNat (s:Int)) IntKind.u64.bits=s:=by rw[show IntKind.u64.bits=64 from rfl];omega
 rw[this,show(x:Int)*2^s=((x*2^s:Nat):Int) by simp,bW h,bhE]
def aVX(a:List Nat)(s o i c:Nat):PF:=(((((((PF.nil.set 0 (aN a)).set 1 (.int .u64 s)).set 5 (.osl o 1 0 (Z' a+1))).set 6 (.int .u64 c)).set 13 (aN a)).set 14 (.int .i64 (Z' a:Nat))).set 15 (.int .i64 i))
def upR(a:List Nat)(s:Nat)(r:PV)(H:PH):Prop:=∃o,r=.osl o 1 0 (Z' a+1)∧H=PH.nil.set o (.rows 1 (aP (gE (Z' a+1) (val a*2^s))))
theorem a5U{C:Ctx}(a:List Nat)(s:Nat)(ha:Lim a)(hs:s<32)(h1:Z' a≤1000):u9.wp C (aW nup.res (upR a s)) (PF.args [aN a,.int .u64 s]) .nil:=by
 have J:IntKind.i64.wrap ((Z' a:Int)+1)=((Z' a+1:Nat):Int):=eT Om;have W:((Z' a+1:Nat):Int)*((4:Nat):Int)≤140737488355328:=Om;have X:((Z' a+1:Nat):Int)≤9223372036854775807:=Om;have hz:bgA (Z' a+1) [PV.int .u32 0]=aP ([]++bgA (Z' a+1) 0):=by simp[aP]
 have R:2^s≤2147483648:=Nat.pow_le_pow_right (show 0<2 by decide) (Om:s≤31);have F:0<2^s:=bjC aV;simp only[go_sem,u9,aOA,aOB,nup,J,W,X,hz];refine aQ λo ho=>?_;simp only[go_sem,aOC,aOD];refine wp_loop (α:=List Nat × Nat × Nat) (λt=>aVX a s t.2.2 t.1.length t.2.1) (λt=>PH.nil.set t.2.2 (.rows 1 (aP (t.1++bgA (Z' a+1-t.1.length) 0))))
  (λt=>t.1.length≤Z' a∧Lim t.1∧t.2.1<2^s∧val t.1+4294967296^t.1.length*t.2.1=val (a.take t.1.length)*2^s) (λt=>Z' a-t.1.length) ([],0,o) ⟨by simp,by simp[Lim],F,by simp[val]⟩ ?_ ?_ ?_
 ·unfold aVX;exact Lq
 ·exact e_ a_ (by simp only[go_sem,biM])
 rintro⟨P,c,q⟩ ⟨hP,j,hc,u⟩;simp only at hP j hc u;simp only[go_sem,azH,aOE,aVX];by_cases M:Z' P<Z' a
 ·have w:(Z' P:Int)<(Z' a:Nat):=Om;have β:=ha _ (bgD M);obtain⟨k,V⟩:∃k,Z' a+1-Z' P=k+1:=⟨Z' a-Z' P,by omega⟩;have B:(aP (P++bgA (k+1) 0))[Z' P]?=some [.int .u32 ((0:Nat):Int)]:=by rw[cU _ aY];simp
  have E:Z' a+1-(Z' P+1)=k:=Om;have A:(Z' P:Int)<((Z' a+1:Nat):Int):=Om;have Y:=dP a M;generalize Z:a[Z' P]=x at *
  have γ:x*2^s≤4294967295*2147483648:=bjL Om R;have ex:IntKind.u64.wrap ((x:Nat):Int)=((x:Nat):Int):=bW Om;have K:2^s*x=x*2^s:=bhE _ _;have O:shift .shl .u64 (x:Int) (s:Int)=some (.int .u64 ((2^s*x:Nat):Int)):=WC Om Om;have N:=orI (a:=c) (b:=2^s*x) (n:=c+2^s*x) Om Om (agC hc Om) Om;have I:(c+2^s*x)/4294967296<2^s:=by rw[bjK aV];have:2^s*(x+1)≤2^s*4294967296:=biW _ Om;rw[bgQ,bjB]at this;omega
  have l:(aP (P++bgA (k+1) 0)).set P.length [.int .u32 (((c+2^s*x)%4294967296:Nat):Int)]=aP ((P++[(c+2^s*x)%4294967296])++bgA k 0):=by rw[kM,II]
  have U:(aP a)[Z' P]?=some [.int .u32 ((x:Nat):Int)]:=by rw[cU a M,Z]
  simp only[go_sem,w,aOF,aOG,U,ex,O,N,aOH,dY,V,A,B,l,aOI,GX,aOJ,eT (Om:Z' P<9223372036854775807)];refine aG (P++[(c+2^s*x)%4294967296],(c+2^s*x)/4294967296,q) ⟨by simp;omega,j.app λy hy=>by simp at hy;subst hy;exact bhZ _ aV,I,?_⟩ (by simp;omega) ?_ (e_ a_ ?_)
  ·simp only;rw[oG,bgB,bgI,biD,bhB,biV,←bgQ,Nat.mod_add_div,Y,bgQ,bhN,←biV,u,K,bhB]
  ·simp only;rw[bgB,bgI];exact Lq
  ·simp only;rw[bgB,bgI,E];simp only[go_sem]
 ·have e:Z' P=Z' a:=Om;have w:¬(Z' P:Int)<(Z' a:Nat):=Om;have V:bgA (Z' a+1-Z' P) 0=[0]:=by rw[show a.length+1-Z' P=1 by omega];rfl
  have B:(aP (P++[0]))[Z' a]?=some [.int .u32 ((0:Nat):Int)]:=by rw[cU _ (by simp;omega)];simp[e]
  have l:(aP (P++[0])).set a.length [.int .u32 ((c%4294967296:Nat):Int)]=aP (P++[c]):=by have:=II P 0 (c%4294967296);simp only[List.replicate_zero,bhH,bgL,List.replicate_one]at this;rw[←e,kM,this,bhS Om]
  have A:(Z' a:Int)<((Z' a+1:Nat):Int):=Om;have hV:val (P++[c])=val a*2^s:=by rw[oG,u,e,bhA]
  have S:Lim (P++[c]):=j.app λx Z=>by simp at Z;omega
  have hD:gE (Z' a+1) (val a*2^s)=P++[c]:=by have:=SB S;rw[hV,bgB,bgI,e]at this;exact this
  simp only[go_sem,w,azI,dY,V,B,A,l,azJ];exact bB (vs:=[.osl q 1 0 (Z' a+1)]) (.inr rfl) (PH.nil.set q (.rows 1 (aP (P++[c])))) Ev (e_ a_ Sq) ⟨q,rfl,by rw[hD]⟩
def Ik(a:List Nat)(d o k r:Nat):PF:=(((((PF.nil.set 0 (aN a)).set 1 (.int .u32 d)).set 6 (.osl o 1 0 a.length)).set 7 (.int .u64 r)).set 8 (.int .i64 ((k:Int)-1)))
theorem aNX{C:Ctx}(L:yM C)(a:List Nat)(d:Nat)(ha:Lim a)(l:0<d)(hd:d<4294967296)(h1:Z' a≤1000) :
  OC.wp C (aW afM.res (aK (.tup [aN (aM (val a/d)),.int .u32 ((val a%d:Nat):Int)]))) (PF.args [aN a,.int .u32 d]) .nil:=by
 have Y:(Z' a:Int)*((4:Nat):Int)≤140737488355328:=Om;have Z:(Z' a:Int)≤9223372036854775807:=Om;have hz:bgA a.length [PV.int .u32 0]=aP (bgA a.length 0++[]):=by simp[aP]
 simp only[go_sem,OC,M3,M4,afM,Y,Z,hz];refine aQ λo ho=>?_;simp only[go_sem,M5,M6];refine wp_loop (α:=Nat × List Nat × Nat × Nat) (λt=>Ik a d t.2.2.2 t.1 t.2.2.1) (λt=>PH.nil.set t.2.2.2 (.rows 1 (aP (bgA t.1 0++t.2.1))))
  (λt=>t.1+t.2.1.length=Z' a∧Lim t.2.1∧t.2.2.1<d∧val t.2.1*d+t.2.2.1=val (a.drop t.1)) (λt=>t.1) (Z' a,[],0,o) ⟨by simp,by simp[Lim],l,by simp[val]⟩ ?_ ?_ ?_
 ·unfold Ik
  (repeat' (first|exact c_|refine d_ ?_ ?_))<;>first|(simp only[go_sem,wrap_i64 (Om:-9223372036854775808≤(Z' a:Int)-1) (Om:(Z' a:Int)-1≤9223372036854775807)]<;>rfl)|rfl
 ·exact e_ a_ Sq
 rintro⟨k,S,r,q⟩ ⟨hk,e,M,j⟩;simp only at hk e M j;simp only[go_sem,M2,M7,Ik];by_cases h0:0<k
 ·obtain⟨m,rfl⟩:∃m,k=m+1:=⟨k-1,by omega⟩;have A:((m+1:Nat):Int)-1=(m:Int):=Om;have W:(m:Int)≥0:=Om;have w:m<Z' a:=Om;have hlt:(m:Int)<(Z' a:Nat):=Om;have γ:=ha _ (bgD w);have u:val (a.drop m)=a[m]+4294967296*val (a.drop (m+1)):=by rw[biL w];rfl
  generalize hx:a[m]=x at *
  have O:(aP a)[m]?=some [.int .u32 ((x:Nat):Int)]:=by rw[cU a w,hx]
  have ex:IntKind.u64.wrap ((x:Nat):Int)=((x:Nat):Int):=bW Om;have ed:IntKind.u64.wrap ((d:Nat):Int)=((d:Nat):Int):=bW Om;have I:shift .shl .u64 (r:Int) 32=some (.int .u64 ((2^32*r:Nat):Int)):=WC (s:=32) Om Om;have N:(2:Nat)^32=4294967296:=by decide
  have B:=orI (a:=2^32*r) (b:=x) (n:=2^32*r+x) Om Om (Nat.two_pow_add_eq_or_of_lt Om r).symm Om;rw[N]at I B;have hq:(4294967296*r+x)/d<4294967296:=by rw[bjK l];have:4294967296*(r+1)≤4294967296*d:=biW _ M;omega
  have R:¬((d:Nat):Int)=0:=Om;have E:IntKind.u64.wrap (Int.tdiv ((4294967296*r+x:Nat):Int) ((d:Nat):Int))=(((4294967296*r+x)/d:Nat):Int):=by rw[show Int.tdiv ((4294967296*r+x:Nat):Int) ((d:Nat):Int)=(((4294967296*r+x)/d:Nat):Int)from rfl];exact bW Om
  have F:Int.tmod ((4294967296*r+x:Nat):Int) ((d:Nat):Int)=(((4294967296*r+x)%d:Nat):Int):=rfl;have ec:IntKind.u32.wrap (((4294967296*r+x)/d:Nat):Int)=(((4294967296*r+x)/d:Nat):Int):=by rw[dY,bhS hq]
  have J:bgA (m+1) 0++S=bgA m 0++(0::S):=by rw[List.replicate_succ',bgX];rfl
  have X:(aP (bgA m 0++(0::S)))[m]?=some [.int .u32 ((0:Nat):Int)]:=by rw[cU _ aY];simp
  have K:(aP (bgA m 0++(0::S))).set m [.int .u32 (((4294967296*r+x)/d:Nat):Int)]=aP (bgA m 0++(((4294967296*r+x)/d)::S)):=by rw[kM,bjU _ _ aY];simp
  simp only[go_sem,A,W,M8,I,O,ex,B,M9,ed,R,E,ec,hlt,J,X,K,Nb,F,Nc];refine aG (m,((4294967296*r+x)/d)::S,(4294967296*r+x)%d,q) ⟨by simp only[bhT];omega,λy hy=>?_,bhZ _ l,?_⟩ (by simp only;omega) ?_ (e_ a_ Sq)
  ·rw[bgN]at hy;rcases hy with rfl|hy
   ·exact hq
   ·exact e y hy
  ·simp only[val];rw[u,←j,bhN,bgQ,bhB];have:=bjV (4294967296*r+x) d;rw[bhE d]at this;omega
  ·(repeat' (first|exact c_|refine d_ ?_ ?_))<;>first|(simp only[go_sem,wrap_i64 (Om:-9223372036854775808≤(m:Int)-1) (Om:(m:Int)-1≤9223372036854775807)]<;>rfl)|rfl
 ·have:k=0:=Om;subst this;have A:¬((0:Nat):Int)-1≥0:=by decide
  rw[bhP]at j;have hS:Z' S=Z' a:=Om;have hq:val S=val a/d:=by rw[←j,bhE,Nat.mul_add_div l,bjI M,bhL]
  have β:r=val a%d:=by rw[←j,bhE,Nat.mul_add_mod,bhS M]
  have δ:bgA 0 0++S=S:=by simp
  simp only[go_sem,A,Cc,bjH];have hl:=L.length S e Om;have ε:=kL e;have hc:((nl (val S):Nat):Int)≤(Z' S:Nat):=Om;refine xT (o:=q) (s:=1) (k:=Z' a) (rs:=aP S) (v:=.int .i64 (nl (val S):Nat)) ?_ Sq Sq (by rw[dK];omega) ?_
  ·rw[bgR (by rw[dK];omega)];exact hl
  ·have V:PV.frz q 1 (aP S) (.osl q 1 0 a.length)=aN S:=by
    have:0+Z' a≤(aP S).length:=by rw[dK];omega
    simp only[PV.frz,PV.wE,PV.dM,if_true,true_and,aL this,bhP];rw[bgR (by rw[dK];omega)]
   have U:∀n:Int,∀k,PV.frz q 1 (aP S) (.int k n)=.int k n:=λ_ _=>rfl;have er:IntKind.u32.wrap ((r:Nat):Int)=((r:Nat):Int):=by rw[dY,bhS Om]
   simp only[go_sem,V,U,hc,or_true,bhP,nU e,er];refine bB (vs:=[aN (aM (val S)),.int .u32 ((r:Nat):Int)]) (.inr rfl) .nil Ev a_ ⟨?_,rfl⟩;simp only[cF,←hq,←β]
end Go.PM
namespace Go.Na
theorem RO{L:List Nat}{i:Nat}(h:i<Z' L)(v:Nat):val (L.set i v)+4294967296^i*L[i]=val L+4294967296^i*v:=by
 have e:i<(L.set i v).length:=by rw[bhU];exact h
 rw[AB L h,AB (L.set i v) e,List.getElem_set_self,List.take_set_of_le (bgG _),List.drop_set_of_lt Om,bgQ,bgQ];omega
theorem Fa{L:List Nat}{i:Nat}(h:∀(j x:Nat),i≤j→L[j]?=some x→x=0)(k v:Nat)(u:k<i):∀(j x:Nat),i≤j→(L.set k v)[j]?=some x→x=0:=λj x l e=>by
 rw[List.getElem?_set_ne Om]at e;exact h j x l e
end Go.Na
namespace Go.PM
open Go Go.Na
def qU(a b:List Nat)(o i:Nat):PF:=((((((PF.nil.set 0 (aN a)).set 1 (aN b)).set 6 (.osl o 1 0 (Z' a+Z' b))).set 32 (aN a)).set 33 (.int .i64 (Z' a:Nat))).set 34 (.int .i64 i))
def aIX(a b:List Nat)(o i x c j:Nat):PF:=((((((((((((PF.nil.set 0 (aN a)).set 1 (aN b)).set 6 (.osl o 1 0 (Z' a+Z' b))).set 32 (aN a)).set 33 (.int .i64 (Z' a:Nat))).set 34 (.int .i64 i)).set 7 (.int .i64 i)).set 8 (.int .u32 x)).set 9 (.int .u64 c)).set 39 (aN b)).set 40 (.int .i64 (Z' b:Nat))).set 41 (.int .i64 j))
structure QJ(a b L:List Nat)(i:Nat):Prop where
 len:Z' L=Z' a+Z' b
 lim:Lim L
 v:val L=val (a.take i)*val b
 z:∀j x,i+Z' b≤j→L[j]?=some x→x=0
theorem axJ{x y:Nat}(e:x<4294967296)(j:y<4294967296):IntKind.u64.wrap ((x:Int)*(y:Int))=((x*y:Nat):Int):=by
 have:x*y≤4294967295*4294967295:=bjL Om Om;rw[show(x:Int)*(y:Int)=((x*y:Nat):Int) by simp];exact bW Om
theorem lT{a b:Nat}(h:a+b≤9223372036854775807):IntKind.i64.wrap ((a:Int)+(b:Int))=((a+b:Nat):Int):=by
 rw[wrap_i64 Om Om];omega
theorem aVU{C:Ctx}(a b:List Nat)(ha:Lim a)(hb:Lim b)(h1:Z' a≤1000)(h2:Z' b≤1000)(L:List Nat)(i:Nat)(hi:i<Z' a)(O:QJ a b L i)(q:Nat)(K:cQ)(F:PF)(H:PH)(N:(qU a b q i).le F)(hH:H q=some (.rows 1 (aP L)))
  (hK:∀L' F' H',QJ a b L' (i+1)→(qU a b q i).le F'→H' q=some (.rows 1 (aP L'))→K .normal F' H') :
  aC.wp C (.block 1 (.seq (.region Ih) (.seq (.region Ii) (.seq (.seq (.region Ij) (.block 2 (.loop ut))) (.region uv))))) K F H:=by
 have f0:=N 0 _ (by unfold qU;simp only[go_sem];rfl);have f1:=N 1 _ (by unfold qU;simp only[go_sem];rfl);have f6:=N 6 _ (by unfold qU;simp only[go_sem];rfl);have V:=N 32 _ (by unfold qU;simp only[go_sem];rfl);have θ:=N 33 _ (by unfold qU;simp only[go_sem];rfl);have W:=N 34 _ (by unfold qU;simp only[go_sem];rfl);have hx:=ha _ (bgD hi);have γ:=dP a hi;generalize ε:a[i]=x at *
 have Z:(aP a)[i]?=some [.int .u32 ((x:Nat):Int)]:=by rw[cU a hi,ε]
 simp only[go_sem,Ih,Ii,Ij,V,W,f1,Z];refine wp_loop (α:=List Nat × Nat × Nat) (λt=>aIX a b q i x t.2.1 t.2.2) (λt=>PH.nil.set q (.rows 1 (aP t.1)))
  (λt=>t.2.2≤Z' b∧t.1.length=Z' a+Z' b∧Lim t.1∧t.2.1<4294967296∧val t.1+4294967296^(i+t.2.2)*t.2.1=val (a.take i)*val b+4294967296^i*(x*val (b.take t.2.2))∧∀j y,i+Z' b≤j→t.1[j]?=some y→y=0) (λt=>Z' b-t.2.2) (L,0,0)
  ⟨by simp,O.len,O.lim,by simp,by simp[val,O.v],O.z⟩ ?_ (e_ a_ hH) ?_
 ·unfold aIX;exact Lq
 rintro⟨M,c,j⟩ ⟨hj,Y,l,hc,A,S⟩;simp only at hj Y l hc A S;simp only[go_sem,ut,afD,aIX];by_cases U:j<Z' b
 ·have B:(j:Int)<(Z' b:Nat):=Om;have R:=hb _ (bgD U);have δ:=dP b U;generalize ζ:b[j]=y at *
  have β:(aP b)[j]?=some [.int .u32 ((y:Nat):Int)]:=by rw[cU b U,ζ]
  have e:i+j<Z' M:=Om;have J:=l _ (bgD e);have w:=RO e;generalize η:M[i+j]=z at *
  have I:(aP M)[i+j]?=some [.int .u32 ((z:Nat):Int)]:=by rw[cU M e,η]
  have ex:IntKind.u64.wrap ((x:Nat):Int)=((x:Nat):Int):=bW Om;have ey:IntKind.u64.wrap ((y:Nat):Int)=((y:Nat):Int):=bW Om;have ez:IntKind.u64.wrap ((z:Nat):Int)=((z:Nat):Int):=bW Om;have em:=axJ hx R;have κ:x*y≤4294967295*4294967295:=bjL Om Om;have e1:IntKind.u64.wrap (((x*y:Nat):Int)+(z:Int))=((x*y+z:Nat):Int):=jV Om;have e2:IntKind.u64.wrap ((c:Int)+((x*y+z:Nat):Int))=((c+(x*y+z):Nat):Int):=jV Om;have E:IntKind.i64.wrap ((i:Int)+(j:Int))=((i+j:Nat):Int):=lT Om;have hlt:((i+j:Nat):Int)<((Z' a+Z' b:Nat):Int):=Om;generalize ht:c+(x*y+z)=t at *
  have ι:t<4294967296*4294967296:=Om;have u:(aP M).set (i+j) [.int .u32 ((t%4294967296:Nat):Int)]=aP (M.set (i+j) (t%4294967296)):=kM M (i+j) _;simp only[go_sem,B,afE,β,afF,ex,ey,em,E,hlt,I,ez,e1,e2,afG,dY,u,afH,GX,afI,wZz j];refine aG (M.set (i+j) (t%4294967296),t/4294967296,j+1) ⟨by simp only;omega,by simp only[bhU];exact Y,l.set _ (bhZ _ aV),by simp only;omega,?_,Fa S _ _ Om⟩ (by simp only;omega) ?_ (e_ a_ Sq)
  ·simp only;have X:=w (t%4294967296);have h4:4294967296^(i+(j+1))*(t/4294967296)+4294967296^(i+j)*(t%4294967296)=4294967296^(i+j)*t:=by rw[←biV,biD,bhB,←bgQ,bjV]
   have h5:4294967296^(i+j)*t=4294967296^(i+j)*c+(4294967296^(i+j)*(x*y)+4294967296^(i+j)*z):=by rw[←ht,bgQ,bgQ]
   have h6:4294967296^i*(x*val (b.take (j+1)))=4294967296^i*(x*val (b.take j))+4294967296^(i+j)*(x*y):=by rw[δ,bgQ,bgQ,Nat.pow_add];congr 1;rw[Nat.mul_left_comm x,bhB]
   omega
  ·exact Lq
 ·have he:j=Z' b:=Om;have B:¬(j:Int)<(Z' b:Nat):=Om;subst he;have e:i+Z' b<Z' M:=Om;have J:M[i+Z' b]=0:=S _ _ (bgG _) (bgH e);have w:=RO e;have I:(aP M)[i+Z' b]?=some [.int .u32 ((0:Nat):Int)]:=by rw[cU M e,J]
  have E:IntKind.i64.wrap ((i:Int)+(Z' b:Int))=((i+Z' b:Nat):Int):=lT Om;have hlt:((i+Z' b:Nat):Int)<((Z' a+Z' b:Nat):Int):=Om;have u:(aP M).set (i+Z' b) [.int .u32 ((c%4294967296:Nat):Int)]=aP (M.set (i+Z' b) c):=by rw[bhS hc];exact kM M _ _
  simp only[go_sem,B,uv,E,dY,hlt,I,u];refine hK (M.set (i+Z' b) c) _ _ ⟨by rw[bhU];exact Y,l.set _ hc,?_,λj y hj R=>?_⟩ (by unfold qU;exact Lq) Sq
  ·have X:=w c;rw[J,Nat.mul_zero,bhL]at X;rw[X,A,bhA,γ,bhN,bhB]
  ·rw[List.getElem?_set_ne Om]at R;exact S j y Om R
theorem aNW{C:Ctx}(L:yM C)(a b:List Nat)(W:Lim a)(hb:Lim b)(U:Z' a≤1000)(V:Z' b≤1000)(F:PF)(f0:F 0=some (aN a))(f1:F 1=some (aN b)) :
  aC.wp C (.seq (.region If) (.seq (.seq (.region Ig) (.block 0 (.loop uu))) (.seq (.region uw) .ret))) (aW [.tmp 4,.tmp 5] (cT (szV (val a*val b)))) F .nil:=by
 have w:IntKind.i64.wrap ((Z' a:Int)+(Z' b:Int))=((Z' a+Z' b:Nat):Int):=lT Om;have I:((Z' a+Z' b:Nat):Int)*((4:Nat):Int)≤140737488355328:=Om;have J:((Z' a+Z' b:Nat):Int)≤9223372036854775807:=Om;have X:bgA (Z' a+Z' b) [PV.int .u32 0]=aP (bgA (Z' a+Z' b) 0):=by simp[aP]
 simp only[go_sem,If,f0,f1,w,I,J,X];refine aQ λo ho=>?_;simp only[go_sem,Ig,f0];refine wp_loop (α:=List Nat × Nat) (λt=>qU a b o t.2) (λt=>PH.nil.set o (.rows 1 (aP t.1))) (λt=>t.2≤Z' a∧QJ a b t.1 t.2) (λt=>Z' a-t.2) (bgA (Z' a+Z' b) 0,0)
  ⟨by simp,by simp,EH _,by simp[val,AF],λj x _ N=>by rw[bkC]at N;split at N<;>simp_all⟩ ?_ (e_ a_ Sq) ?_
 ·unfold qU;exact Lq
 rintro⟨M,i⟩ ⟨hi,l⟩;simp only at hi l;simp only[go_sem,uu,azA,qU];by_cases O:i<Z' a
 ·have u:(i:Int)<(Z' a:Nat):=Om;have y:=aVU (C:=C) a b W hb U V M i O l o;simp only[go_sem]at y;simp only[go_sem,u];refine y _ _ _ (by unfold qU;exact Lq) Sq ?_;intro L' Y H' E e B;have A:=e 34 _ (by unfold qU;simp only[go_sem];rfl);have g0:=e 0 _ (by unfold qU;simp only[go_sem];rfl);have g1:=e 1 _ (by unfold qU;simp only[go_sem];rfl);have Z:=e 6 _ (by unfold qU;simp only[go_sem];rfl);have R:=e 32 _ (by unfold qU;simp only[go_sem];rfl);have S:=e 33 _ (by unfold qU;simp only[go_sem];rfl);simp only[go_sem,afJ,A,wZz i];refine aG (L',i+1) ⟨by simp only;omega,E⟩ (by simp only;omega) ?_ (e_ a_ B);exact Lq
 ·have he:i=Z' a:=Om;subst he;have u:¬(Z' a:Int)<(Z' a:Nat):=Om;have hV:val M=val a*val b:=by rw[l.v,bhA]
  simp only[go_sem,uw];have K:=L.sized _ l.lim (by rw[l.len];omega);rw[hV]at K;refine xT (o:=o) (s:=1) (k:=Z' a+Z' b) (rs:=aP M) (v:=szV (val a*val b)) ?_ rfl Sq (by rw[dK,l.len];exact bgG _) ?_
  ·rw[bgR (by rw[dK,l.len];exact bgG _)];exact K
  ·simp only[go_sem,szV];exact bB (.inr rfl) .nil rfl a_ ⟨.refl _,rfl⟩
theorem a2L{C:Ctx}(L:yM C)(a b:List Nat)(u:Lim a)(hb:Lim b)(y:Z' a≤35184372087808)(A:Z' b≤35184372087808) :
  cn.wp C (aW aVT.res (cT (opV (gJ (val a) (val b)) (val a*val b)))) (PF.args [aN a,aN b]) .nil:=by
 simp only[go_sem,cn,ayX,ayY,aVT];refine aB (L.large a u y) rfl ?_;by_cases j:nl (val a)>512
 ·simp only[go_sem,j,Ie];rw[show opV (gJ (val a) (val b)) (val a*val b)=.tup [aN [],.int .i64 2] by simp[opV,gJ,j]];exact jB rfl
 simp only[go_sem,j];refine aB (L.large b hb A) rfl ?_;by_cases l:nl (val b)>512
 ·simp only[go_sem,l,Ie];rw[show opV (gJ (val a) (val b)) (val a*val b)=.tup [aN [],.int .i64 2] by simp[opV,gJ,l]];exact jB rfl
 have e:opV (gJ (val a) (val b)) (val a*val b)=szV (val a*val b):=by simp[opV,gJ,j,l]
 rw[e];simp only[go_sem,l];refine bA .nil aIJ a_ ?_;simp only[go_sem,ayZ];have I:=kL u;have J:=kL hb;have w:((nl (val a):Nat):Int)≤(Z' a:Nat):=Om;have x:((nl (val b):Nat):Int)≤(Z' b:Nat):=Om;refine cO (vG a) (L.length a u y) rfl a_ ?_;simp only[go_sem,w,or_true,bhP,nU u];refine cO (vG b) (L.length b hb A) rfl a_ ?_;simp only[go_sem,x,or_true,bhP,nU hb];have B:=aZ (val a);have E:=aZ (val b);have:=aNW L (aM (val a)) (aM (val b)) (bC _) (bC _) (by rw[bJ];omega) (by rw[bJ];omega);rw[B,E]at this;have:=λF f0 f1=>this F f0 f1;simp only[go_sem]at this;exact this _ rfl rfl
open Go Go.Na
theorem Dh{A P W Z:List Nat}{i:Nat}(j:Z' P=i)(hi:i<Z' W):(aP (A++(P++W.drop i)++Z))[Z' A+i]?=some [.int .u32 ((W[i]:Nat):Int)]:=by
 have e:Z' A+i<(A++(P++W.drop i)++Z).length:=by simp;omega
 rw[cU _ e];congr 4;rw[List.getElem_append_left (by simp;omega),List.getElem_append_right Om,List.getElem_append_right Om,List.getElem_drop];congr 1;omega
theorem RM{A P W Z:List Nat}{i:Nat}(e:Z' P=i)(hi:i<Z' W)(v:Nat):(aP (A++(P++W.drop i)++Z)).set (Z' A+i) [.int .u32 (v:Int)]=aP (A++((P++[v])++W.drop (i+1))++Z):=by
 rw[kM];congr 1;rw[List.set_append_left _ _ (by simp;omega),bjU _ _ Om,bjU _ _ Om,biL hi];rw[show A.length+i-Z' A-Z' P=0 by omega,List.set_cons_zero];simp
theorem aSH{t:Nat}(h:t<18446744073709551616):rQ .and .u64 (t:Int) 4294967295=some (.int .u64 ((t%4294967296:Nat):Int)):=by
 show some (PV.int .u64 (IntKind.u64.wrap (((BitVec.ofInt 64 (t:Int) &&& BitVec.ofInt 64 (4294967295:Int)).toNat:Nat):Int)))=_;have e:BitVec.ofInt 64 (4294967295:Int)=BitVec.ofNat 64 4294967295:=by rfl
 rw[e,BitVec.ofInt_natCast,BitVec.toNat_and,BitVec.toNat_ofNat,BitVec.toNat_ofNat,bhS (by simpa using h)];have j:(4294967295:Nat)%2^64=2^32-1:=by decide
 rw[j,Nat.and_two_pow_sub_one_eq_mod];rw[bW (Nat.lt_of_lt_of_le (bhZ _ aV) aV)]
theorem aSJ{c f x:Nat}(j:c<4294967296)(e:f≤4294967296)(l:x<4294967296):c+f*x<18446744073709551616∧(c+f*x)/4294967296<4294967296∧f*x≤4294967296*4294967295:=by
 have:f*x≤4294967296*4294967295:=bjL e Om;refine⟨by omega,?_,this⟩;omega
def afS(v:List Nat)(j o i c b:Nat)(f:Nat):PF:=((((((((PF.nil.set 0 (.osl o 1 j (Z' v+1))).set 1 (aN v)).set 2 (.int .u64 f)).set 7 (.int .u64 c)).set 8 (.int .u64 b)).set 13 (aN v)).set 14 (.int .i64 (Z' v:Nat))).set 15 (.int .i64 i))
def WJ(n w m:Nat):Nat:=if w<m then w+4294967296^n-m else w-m
theorem afT{C:Ctx}(A W Z v:List Nat)(f:Nat)(hW:Lim W)(hv:Lim v)(hl:Z' W=Z' v+1)(h1:Z' A+Z' v≤100000)(hf:f≤4294967296)(ν:val v*f≤val W+4294967296^(Z' v+1))(o:Nat) :
  CS.wp C (aW cw.res (λr H'=>r=.bool (decide (val W<val v*f))∧H'=PH.nil.set o (.rows 1 (aP (A++gE (Z' v+1) (WJ (Z' v+1) (val W) (val v*f))++Z)))))
   (PF.args [.osl o 1 A.length (Z' v+1),aN v,.int .u64 f]) (PH.nil.set o (.rows 1 (aP (A++W++Z)))):=by
 simp only[go_sem,CS,cx,cz,c7,cw];refine wp_loop (α:=List Nat × Nat × Nat) (λt=>afS v A.length o t.1.length t.2.1 t.2.2 f) (λt=>PH.nil.set o (.rows 1 (aP (A++(t.1++W.drop t.1.length)++Z))))
  (λt=>t.1.length≤Z' v∧Lim t.1∧t.2.1<4294967296∧t.2.2≤1∧val (W.take t.1.length)+4294967296^t.1.length*t.2.2+4294967296^t.1.length*t.2.1=val t.1+val (v.take t.1.length)*f) (λt=>Z' v-t.1.length) ([],0,0)
  ⟨by simp,by simp[Lim],by simp,by simp,by simp[val]⟩ ?_ (e_ a_ (by simp only[go_sem,biM,bhP,bjH])) ?_
 ·unfold afS;exact Lq
 rintro⟨P,c,b⟩ ⟨hP,j,hc,hb,w⟩;simp only at hP j hc hb w;simp only[go_sem,ZA,c8,afS];by_cases c1:Z' P<Z' v
 ·have I:(Z' P:Int)<(Z' v:Nat):=Om;have E:Z' P<Z' W:=Om;have J:(Z' P:Int)<((Z' v+1:Nat):Int):=Om;have hx:=hv _ (bgD c1);have hw:=hW _ (bgD E);have η:=dP v c1;have F:=dP W E;have M:=Dh (A:=A) (Z:=Z) (P:=P) rfl E;have u:=RM (A:=A) (Z:=Z) (P:=P) rfl E;generalize μ:v[Z' P]=x at *
  generalize κ:W[Z' P]=y at *
  have ι:(aP v)[Z' P]?=some [.int .u32 ((x:Nat):Int)]:=by rw[cU v c1,μ]
  obtain⟨k1,k2,k3⟩:=aSJ hc hf hx;have ex:IntKind.u64.wrap ((x:Nat):Int)=((x:Nat):Int):=bW Om;have ey:IntKind.u64.wrap ((y:Nat):Int)=((y:Nat):Int):=bW Om;have em:IntKind.u64.wrap ((f:Int)*(x:Int))=((f*x:Nat):Int):=by rw[show(f:Int)*(x:Int)=((f*x:Nat):Int) by simp];exact bW Om
  have l:c+f*x<18446744073709551616:=k1;have ea:IntKind.u64.wrap ((c:Int)+((f*x:Nat):Int))=((c+f*x:Nat):Int):=jV l;have S:=aSH l;have θ:val (v.take (Z' P+1))*f=val (v.take P.length)*f+4294967296^P.length*(f*x):=by rw[η,bhN,bhB,bhE x f]
  generalize f*x=B at *
  have V:(c+B)%4294967296<4294967296:=bhZ _ aV;obtain⟨s1,s2,s3,s4⟩:=akE (a:=y) (bor:=b) (b:=(c+B)%4294967296) hw V hb (IntKind.u64.wrap (IntKind.u64.wrap ((y:Int)-(((c+B)%4294967296:Nat):Int))-(b:Int))) (by rw[kZ,kZ];omega);generalize hd:fk y b ((c+B)%4294967296)=d at *
  generalize δ:xi y b ((c+B)%4294967296)=Y at *
  have γ:Y≤1:=by rw[←δ];unfold xi;split<;>omega
  have hs:=u d;simp only[go_sem,I,c9,ι,da,ex,em,ea,db,J,M,ey,S,dc,s1,hs,dd,aJT,s2,de,GX,ZB,eT (Om:Z' P<9223372036854775807)];refine aG (P++[d],(c+B)/4294967296,Y) ⟨by simp;omega,j.app λz hz=>by simp at hz;omega,k2,γ,?_⟩ (by simp;omega) ?_ (e_ a_ ?_)
  ·simp only;rw[bgB,bgI,oG,F,θ,biD,bhB,bhB];have h4:4294967296^P.length*y+4294967296^P.length*(4294967296*Y)=4294967296^P.length*d+4294967296^P.length*((c+B)%4294967296)+4294967296^P.length*b:=by rw[←bgQ,s3,bgQ,bgQ]
   have h5:4294967296^P.length*(4294967296*((c+B)/4294967296))+4294967296^P.length*((c+B)%4294967296)=4294967296^P.length*c+4294967296^P.length*B:=by rw[←bgQ,bjV,bgQ]
   omega
  ·simp only;rw[bgB,bgI];exact Lq
  ·simp only;rw[bgB,bgI];simp only[go_sem]
 ·have e:Z' P=Z' v:=Om;have I:¬(Z' P:Int)<(Z' v:Nat):=Om;have E:Z' v<Z' W:=Om;have J:(Z' v:Int)<((Z' v+1:Nat):Int):=Om;have hw:=hW _ (bgD E);have F:=dP W E;have M:=Dh (A:=A) (Z:=Z) (P:=P) e E;have u:=RM (A:=A) (Z:=Z) (P:=P) e E;have K:val (W.take (Z' v+1))=val W:=by rw[bgR Om]
  generalize κ:W[Z' v]=y at *
  have ey:IntKind.u64.wrap ((y:Nat):Int)=((y:Nat):Int):=bW Om;have β:=jU j;rw[e]at w β;rw[bhA]at w;rw[K]at F;have X:4294967296^(Z' v+1)=4294967296^v.length*4294967296:=biD _ _;have ο:val W+4294967296^v.length*(b+c)=val P+val v*f+4294967296^v.length*y:=by rw[F,bgQ];omega
  have ξ:b+c≤y+4294967296:=by
   rcases bgV (y+4294967296) (b+c)with h|h
   ·exfalso;have:4294967296^v.length*(y+4294967296+1)≤4294967296^v.length*(b+c):=biW _ h;rw[bgQ,bgQ,bjB]at this;omega
   ·exact h
  have O:∃d k:Nat,d<4294967296∧k≤1∧y+4294967296*k=d+(b+c)∧IntKind.u32.wrap (IntKind.u64.wrap (IntKind.u64.wrap ((y:Int)-(c:Int))-(b:Int)))=(d:Int)∧((IntKind.u64.wrap (IntKind.u64.wrap ((y:Int)-(c:Int))-(b:Int))/9223372036854775808==1)=decide (k=1)):=by
   rw[po,kZ,kZ];by_cases h:y<b+c
   ·refine⟨y+4294967296-(b+c),1,by omega,by omega,by omega,by omega,?_⟩;simp only[decide_true];exact bT Om
   ·refine⟨y-(b+c),0,by omega,by omega,by omega,by omega,?_⟩;exact bD Om
  obtain⟨d,k,hd,hk,hy,w1,w2⟩:=O;have hs:=u d;have hN:val (P++[d])+val v*f=val W+4294967296^(Z' v+1)*k:=by
   have:4294967296^v.length*y+4294967296^v.length*(4294967296*k)=4294967296^v.length*d+4294967296^v.length*(b+c):=by rw[←bgQ,hy,bgQ]
   rw[oG,e,X,bhB];omega
  have U:Lim (P++[d]):=j.app λz hz=>by simp at hz;omega
  have ε:=jU U;rw[bgB,bgI,e]at ε;have N:decide (k=1)=decide (val W<val v*f):=by
   congr 1;apply propext;constructor
   ·intro h;subst h;omega
   ·intro h;rcases biC k with h0|h0
    ·subst h0;omega
    ·omega
  have R:WJ (Z' v+1) (val W) (val v*f)=val (P++[d]):=by
   unfold WJ;split
   ·rename_i h;have:k=1:=by simpa[h]using N
    subst this;omega
   ·rename_i h;have:k=0:=by
     have:¬k=1:=by simpa[h]using N
     omega
    subst this;omega
  have hD:gE (Z' v+1) (WJ (Z' v+1) (val W) (val v*f))=P++[d]:=by have:=SB U;rw[bgB,bgI,e]at this;rw[R,this]
  have ζ:W.drop (Z' v+1)=[]:=bkA Om;simp only[go_sem,I,ZC,e,J,M,ey,ZD,w1,hs,ZE,aJT,w2,N];refine bB (vs:=[.bool (decide (val W<val v*f))]) (.inr rfl) (PH.nil.set o (.rows 1 (aP (A++(P++[d]++W.drop (Z' v+1))++Z)))) rfl (e_ a_ Sq) ⟨rfl,?_⟩;rw[hD,ζ,bhH]
end Go.PM
namespace Go.Na
theorem avX{xs e:List Nat}(u:Lim xs)(w:Lim e)(j:Z' xs=Z' e)(l:val xs=val e):xs=e:=by
 rw[←SB u,←SB w,j,l]
theorem a0E{k n:Nat}{xs:List Nat}(l:Lim xs)(e:Z' xs=k)(j:val xs=n%4294967296^k):gE k n=xs:=
 avX (tA k n) l (by rw[rS,e]) (by rw[JY,j])
end Go.Na
namespace Go.PM
open Go Go.Na
def afL(v:List Nat)(j o i c:Nat):PF:=((((((PF.nil.set 0 (.osl o 1 j (Z' v+1))).set 1 (aN v)).set 4 (.int .u64 c)).set 7 (aN v)).set 8 (.int .i64 (Z' v:Nat))).set 9 (.int .i64 i))
theorem aqP{C:Ctx}(A W Z v:List Nat)(hW:Lim W)(hv:Lim v)(hl:Z' W=Z' v+1)(h1:Z' A+Z' v≤100000)(o:Nat) :
  FD.wp C (aW uy.res (λr H'=>r=.tup []∧H'=PH.nil.set o (.rows 1 (aP (A++gE (Z' v+1) (val W+val v)++Z)))))
   (PF.args [.osl o 1 A.length (Z' v+1),aN v]) (PH.nil.set o (.rows 1 (aP (A++W++Z)))):=by
 simp only[go_sem,FD,mw,my,uy];refine wp_loop (α:=List Nat × Nat) (λt=>afL v A.length o t.1.length t.2) (λt=>PH.nil.set o (.rows 1 (aP (A++(t.1++W.drop t.1.length)++Z))))
  (λt=>t.1.length≤Z' v∧Lim t.1∧t.2≤1∧val (W.take t.1.length)+val (v.take t.1.length)=val t.1+4294967296^t.1.length*t.2) (λt=>Z' v-t.1.length) ([],0)
  ⟨by simp,by simp[Lim],by simp,by simp[val]⟩ ?_ (e_ a_ (by simp only[go_sem,biM,bhP,bjH])) ?_
 ·unfold afL;exact Lq
 rintro⟨P,c⟩ ⟨hP,j,hc,u⟩;simp only at hP j hc u;simp only[go_sem,mu,mz,afL];by_cases O:Z' P<Z' v
 ·have B:(Z' P:Int)<(Z' v:Nat):=Om;have w:Z' P<Z' W:=Om;have E:(Z' P:Int)<((Z' v+1:Nat):Int):=Om;have hx:=hv _ (bgD O);have hw:=hW _ (bgD w);have X:=dP v O;have J:=dP W w;have I:=Dh (A:=A) (Z:=Z) (P:=P) rfl w;have l:=RM (A:=A) (Z:=Z) (P:=P) rfl w;generalize γ:v[Z' P]=x at *
  generalize β:W[Z' P]=y at *
  have Y:(aP v)[Z' P]?=some [.int .u32 ((x:Nat):Int)]:=by rw[cU v O,γ]
  have ex:IntKind.u64.wrap ((x:Nat):Int)=((x:Nat):Int):=bW Om;have R:IntKind.u64.wrap ((y:Nat):Int)=((y:Nat):Int):=bW Om;have e1:IntKind.u64.wrap ((y:Int)+(x:Int))=((y+x:Nat):Int):=jV Om;have e2:IntKind.u64.wrap ((c:Int)+((y+x:Nat):Int))=((c+(y+x):Nat):Int):=jV Om;have V:=l ((c+(y+x))%4294967296);simp only[go_sem,B,m5,Y,m6,E,I,ex,R,e1,e2,m7,dY,V,m8,GX,m9,eT (Om:Z' P<9223372036854775807)];refine aG (P++[(c+(y+x))%4294967296],(c+(y+x))/4294967296) ⟨by simp;omega,j.app λz N=>by simp at N;subst N;exact bhZ _ aV,by simp only;omega,?_⟩ (by simp;omega) ?_ (e_ a_ ?_)
  ·simp only;rw[bgB,bgI,oG,J,X,biD,bhB];have h5:4294967296^P.length*(4294967296*((c+(y+x))/4294967296))+4294967296^P.length*((c+(y+x))%4294967296)=4294967296^P.length*c+(4294967296^P.length*y+4294967296^P.length*x):=by rw[←bgQ,bjV,bgQ,bgQ]
   omega
  ·simp only;rw[bgB,bgI];exact Lq
  ·simp only;rw[bgB,bgI];simp only[go_sem]
 ·have e:Z' P=Z' v:=Om;have B:¬(Z' P:Int)<(Z' v:Nat):=Om;have w:Z' v<Z' W:=Om;have E:(Z' v:Int)<((Z' v+1:Nat):Int):=Om;have hw:=hW _ (bgD w);have J:=dP W w;have I:=Dh (A:=A) (Z:=Z) (P:=P) e w;have l:=RM (A:=A) (Z:=Z) (P:=P) e w;have F:val (W.take (Z' v+1))=val W:=by rw[bgR Om]
  generalize β:W[Z' v]=y at *
  have S:=jU j;rw[e]at u S;rw[bhA]at u;rw[F]at J;have ec:IntKind.u32.wrap ((c:Nat):Int)=((c:Nat):Int):=by rw[dY,bhS Om]
  have R:IntKind.u32.wrap ((y:Int)+(c:Int))=(((y+c)%4294967296:Nat):Int):=by rw[show(y:Int)+(c:Int)=((y+c:Nat):Int) by omega,dY]
  have V:=l ((y+c)%4294967296);have K:Lim (P++[(y+c)%4294967296]):=j.app λz N=>by simp at N;subst N;exact bhZ _ aV
  have M:=jU K;rw[bgB,bgI,e]at M;have hD:gE (Z' v+1) (val W+val v)=P++[(y+c)%4294967296]:=by
   refine a0E K (by rw[bgB,bgI,e]) ?_;have:val W+val v=val (P++[(y+c)%4294967296])+4294967296^(Z' v+1)*((y+c)/4294967296):=by rw[oG,e,biD,bhB,biV,←bgQ,Nat.mod_add_div,bgQ];omega
   rw[this,Nat.add_mul_mod_self_left,bhS M]
  have U:W.drop (Z' v+1)=[]:=bkA Om;simp only[go_sem,B,na,e,E,I,ec,R,V];refine bB (vs:=[]) (.inl rfl) (PH.nil.set o (.rows 1 (aP (A++(P++[(y+c)%4294967296]++W.drop (Z' v+1))++Z)))) rfl (e_ a_ Sq) ⟨rfl,?_⟩;rw[hD,U,bhH]
def aIU(o n:Nat)(len:Nat):PF:=((PF.nil.set 0 (.osl o 1 0 len)).set 3 (.int .i64 n))
theorem aqO{C:Ctx}(xs:List Nat)(B:Lim xs)(F:Z' xs≤35184372087808)(o:Nat):wH.wp C (aW RB.res (λr H'=>r=.int .i64 (nl (val xs):Nat)∧H'=PH.nil.set o (.rows 1 (aP xs)))) (PF.args [.osl o 1 0 xs.length]) (PH.nil.set o (.rows 1 (aP xs))):=by
 simp only[go_sem,wH,UT,UU,RB];refine wp_loop (α:=Nat) (λn=>aIU o n xs.length) (λ_=>PH.nil.set o (.rows 1 (aP xs))) (λn=>n≤Z' xs∧∀j x,n≤j→xs[j]?=some x→x=0) (λn=>n) xs.length ⟨bgG _,λj x h e=>by rw[bhQ h]at e;cases e⟩ ?_ b_ ?_
 ·unfold aIU;exact Lq
 rintro n ⟨A,y⟩;have out:(∀x,0<n→xs[n-1]?=some x→x≠0)→nl (val xs)=n:=λh=>aCA B A y h;simp only[go_sem,US,UV,aIU];by_cases u:(n:Int)>0
 ·have w:0<n:=Om;have hi:=cU xs (Om:n-1<Z' xs);have hlt:((n-1:Nat):Int)<(Z' xs:Nat):=Om;simp only[go_sem,u,EW (Om:n≤9223372036854775807) w,hi,hlt];by_cases l:xs[n-1]=0
  ·simp only[go_sem,bT (Om:((xs[n-1]:Nat):Int)=0),UW,EW (Om:n≤9223372036854775807) w];refine aG (n-1) ⟨by omega,λj x E he=>?_⟩ Om ?_ b_
   ·rcases bgV j n with h|h
    ·have:j=n-1:=Om;subst this;rw[bgH Om]at he;cases he;exact l
    ·exact y j x h he
   ·exact Lq
  ·simp only[go_sem,bD (Om:((xs[n-1]:Nat):Int)≠0),BE];refine bB (.inr rfl) _ rfl b_ ⟨?_,rfl⟩;rw[out λx _ he=>by rw[bgH Om]at he;cases he;exact l];rfl
 ·simp only[go_sem,u,BE];refine bB (.inr rfl) _ rfl b_ ⟨?_,rfl⟩;rw[out λx h=>by omega];rfl
end Go.PM
namespace Go.Na
structure Kn(V W top next Vr head u2 Wr p:Nat):Prop where
 hV:V=top*(4294967296*p)+next*p+Vr
 hW:W=head*(4294967296*p)+u2*p+Wr
 hVr:Vr<p
 hWr:Wr<p
 htop:2147483648≤top
 bfH:next<4294967296
 hu2:u2<4294967296
 hlt:W<V*4294967296
section
variable {V W top next Vr head u2 Wr p:Nat}
theorem Kn.low(K:Kn V W top next Vr head u2 Wr p):next*p+Vr<4294967296*p∧u2*p+Wr<4294967296*p:=by
 have e:(next+1)*p≤4294967296*p:=bhF _ K.bfH;have j:(u2+1)*p≤4294967296*p:=bhF _ K.hu2;rw[bhN,Nat.one_mul]at e j;have:=K.hVr;have:=K.hWr;omega
theorem Kn.Vo(K:Kn V W top next Vr head u2 Wr p):0<V∧4294967296*p≤V∧0<p:=by
 have:=K.hVr;have h:1*(4294967296*p)≤top*(4294967296*p):=bhF _ (by have:=K.htop;omega);have:=K.hV;omega
theorem Kn.a5Z(K:Kn V W top next Vr head u2 Wr p):W/V<4294967296:=by
 rw[bjK K.Vo.1,bhE];exact K.hlt
theorem Kn.g0(K:Kn V W top next Vr head u2 Wr p):W/V≤head/top:=by
 have e:0<top:=by have:=K.htop;omega
 rw[Nat.le_div_iff_mul_le e];have j:W/V*V≤W:=Nat.div_mul_le_self W V;have l:W/V*(top*(4294967296*p))≤W/V*V:=biW _ (by have:=K.hV;omega);have u:=K.low.2;have w:=K.hW;have h5:(W/V*top)*(4294967296*p)<(head+1)*(4294967296*p):=by rw[bhB,bhN,Nat.one_mul];omega
 have:=Nat.lt_of_mul_lt_mul_right h5;omega
theorem Kn.g1(K:Kn V W top next Vr head u2 Wr p){g r:Nat}(u:g*top+r=head)(hq:W/V≤g)(h:g≥4294967296∨g*next>r*4294967296+u2):1≤g∧W/V≤g-1:=by
 have x:=K.a5Z;have j:=Nat.div_mul_le_self W V;generalize W/V=Q at *
 rcases h with h|h
 ·omega
 ·have w:Q≠g:=by
   intro e;have y:g*V≤W:=by rw[←e];exact j
   have A:g*V=g*top*(4294967296*p)+g*next*p+g*Vr:=by rw[K.hV,bgQ,bgQ,bhB,bhB]
   have l:(r*4294967296+u2+1)*p≤g*next*p:=bhF _ h
   rw[bhN,bhN,Nat.one_mul,bhB r]at l;have B:g*top*(4294967296*p)+r*(4294967296*p)=head*(4294967296*p):=by rw[←bhN,u]
   have:=K.hW;have:=K.hWr;omega
  omega
theorem Kn.g2(K:Kn V W top next Vr head u2 Wr p){g r:Nat}(w:g*top+r=head)(x:g≤4294967296)(h:g*next≤r*4294967296+u2):g≤W/V+1:=by
 rcases biC g with e|e
 ·rw[e];exact bgE _
 have l:g*V=g*top*(4294967296*p)+g*next*p+g*Vr:=by rw[K.hV,bgQ,bgQ,bhB,bhB]
 have j:g*next*p≤(r*4294967296+u2)*p:=bhF _ h
 rw[bhN,bhB r]at j;have u:g*top*(4294967296*p)+r*(4294967296*p)=head*(4294967296*p):=by rw[←bhN,w]
 have h5:g*Vr≤4294967296*Vr:=bhF _ x;have y:4294967296*(Vr+1)≤4294967296*p:=biW _ K.hVr;have hV:=K.Vo;have hW:=K.hW;have h7:(g-1)*V≤W:=by
  have:g*V=(g-1)*V+V:=by obtain⟨k,rfl⟩:∃k,g=k+1:=⟨g-1,by omega⟩;rw[bhN,Nat.one_mul];rfl
  omega
 have:=(Nat.le_div_iff_mul_le hV.1).2 h7;generalize W/V=Q at *
 clear l j u h5 h7;omega
theorem Kn.g3(K:Kn V W top next Vr head u2 Wr p){g r:Nat}(w:g*top+r=head)(x:g≤4294967296)(y:4294967296≤r):g≤W/V+1:=by
 have e:=K.low.1;have hV:=K.Vo;have j:g*V=g*top*(4294967296*p)+g*(next*p+Vr):=by rw[K.hV,biV,bgQ,bhB]
 have l:g*(next*p+Vr)≤4294967296*(4294967296*p):=bjL x Om;have u:g*top*(4294967296*p)+r*(4294967296*p)=head*(4294967296*p):=by rw[←bhN,w]
 have h5:4294967296*(4294967296*p)≤r*(4294967296*p):=bhF _ y;have hW:=K.hW;have h7:g*V≤W:=Om;have:=(Nat.le_div_iff_mul_le hV.1).2 h7;generalize W/V=Q at *
 clear j l u h5 h7;omega
theorem Kn.g4(K:Kn V W top next Vr head u2 Wr p):head/top≤4294967296+1:=by
 have e:=K.low.1;have hV:=K.Vo;have hW:=K.hW;have hlt:=K.hlt;have x:=K.htop;have u:head<(top+1)*4294967296:=by
  have j:V<(top+1)*(4294967296*p):=by rw[K.hV,bhN,Nat.one_mul];omega
  have w:V*4294967296≤(top+1)*(4294967296*p)*4294967296:=bhF _ (Nat.le_of_lt j);have l:head*(4294967296*p)<(top+1)*4294967296*(4294967296*p):=by
   have:(top+1)*(4294967296*p)*4294967296=(top+1)*4294967296*(4294967296*p):=by rw[bhB,bhE (4294967296*p) 4294967296,←bhB]
   omega
  exact Nat.lt_of_mul_lt_mul_right l
 have h5:head/top<4294967296+2:=by rw[bjK Om];omega
 omega
end
theorem EB:∀(k n:Nat),gE (k+1) n=gE k n++[n/4294967296^k%4294967296]
 |0,n=>by simp[gE]
 |k+1,n=>by show(n%4294967296)::gE (k+1) (n/4294967296)=(n%4294967296)::gE k (n/4294967296)++[n/4294967296^(k+1)%4294967296];rw[EB k (n/4294967296),Nat.div_div_eq_div_mul,biD,bhE 4294967296];rfl
theorem DD{xs:List Nat}(h:Lim xs):∀{k:Nat},k≤Z' xs→val (xs.drop k)=val xs/4294967296^k:=by
 intro k j;have e:val xs=val (xs.take k)+4294967296^k*val (xs.drop k):=by
  conv=>lhs;rw[←biZ k xs,lJ,bgP,biP j]
 have l:=jU (h.take k);rw[bgP,biP j]at l;rw[e,Nat.add_mul_div_left _ _ (bjC aV),bjI l,bgL]
theorem nw{R s i j l X:Nat}(w:s<32)(h:R/4294967296^i=j+4294967296*(l+4294967296*X)):(R/2^s)/4294967296^i%4294967296=(4294967296*l+j)/2^s%4294967296:=by
 rw[Nat.div_div_eq_div_mul,bhE (2^s),←Nat.div_div_eq_div_mul,h];have u:4294967296*4294967296=2^s*(2^(32-s)*4294967296):=by rw[←bhB,←Nat.pow_add,show s+(32-s)=32 by omega]
 have e:j+4294967296*(l+4294967296*X)=(4294967296*l+j)+2^s*(2^(32-s)*X*4294967296):=by
  have:4294967296*(4294967296*X)=2^s*(2^(32-s)*X*4294967296):=by rw[←bhB,u,bhB,bhB,bhB,bhE 4294967296 X]
  rw[bgQ,this];omega
 rw[e,Nat.add_mul_div_left _ _ (bjC aV),Nat.add_mul_mod_self_right]
end Go.Na
namespace Go.PM
open Go Go.Na
theorem a3H{A W Z:List Nat}{i:Nat}(hi:i<Z' W):(aP (A++W++Z))[Z' A+i]?=some [.int .u32 ((W[i]:Nat):Int)]:=by
 have e:Z' A+i<(A++W++Z).length:=by simp;omega
 rw[cU _ e];congr 4;rw[List.getElem_append_left (by simp;omega),List.getElem_append_right Om];congr 1;omega
def dF(u v:PV)(n:Nat)(q:PV)(e next j s:Nat):PF:=((((((((PF.nil.set 8 (.int .u64 s)).set 9 (u)).set 10 (v)).set 11 (.int .i64 n)).set 12 (q)).set 13 (.int .u64 e)).set 14 (.int .u64 next)).set 15 (.int .i64 j))
def dG(u v:PV)(n:Nat)(q:PV)(e next j s g r:Nat):PF:=((((((((((PF.nil.set 8 (.int .u64 s)).set 9 (u)).set 10 (v)).set 11 (.int .i64 n)).set 12 (q)).set 13 (.int .u64 e)).set 14 (.int .u64 next)).set 15 (.int .i64 j)).set 17 (.int .u64 g)).set 18 (.int .u64 r))
theorem Uc{C:Ctx}{V J e next Vr l w Wr p:Nat}(x:Kn V J e next Vr l w Wr p)(htop:e<4294967296)(o y m j s:Nat)(v q:PV)(θ:j+m+2<y)(ι:y≤100000)(U:List Nat)(hU:(aP U)[j+m]?=some [.int .u32 (w:Nat)])(K:cQ)(F:PF)(H:PH)
  (hF:(dG (.osl o 1 0 y) v (m+2) q e next j s (l/e) (l%e)).le F) (hH:H o=some (.rows 1 (aP U)))
  (hK:∀g r I,J/V≤g→g≤J/V+1→g≤4294967296→(dG (.osl o 1 0 y) v (m+2) q e next j s g r).le I→K .normal I H) :
  aC.wp C (.block 4 (.loop DM)) K F H:=by
 have γ:0<e:=by have:=x.htop;omega
 have hn:=x.bfH;have hu2:=x.hu2;simp only[go_sem];refine wp_loop (α:=Nat × Nat) (λt=>dG (.osl o 1 0 y) v (m+2) q e next j s t.1 t.2) (λ_=>H) (λt=>t.1*e+t.2=l∧J/V≤t.1∧t.1≤4294967296+1∧t.2<4294967296) (λt=>t.1) (l/e,l%e)
  ⟨by simp only;rw[bhE];exact bjV l e,x.g0,x.g4,Nat.lt_trans (bhZ _ γ) htop⟩ hF b_ ?_
 rintro⟨g,r⟩ ⟨R,hq,β,hr⟩;simp only at R hq β hr;have e1:IntKind.i64.wrap ((j:Int)+((m+2:Nat):Int))=((j+(m+2):Nat):Int):=lT Om;have e2:IntKind.i64.wrap (((j+(m+2):Nat):Int)-2)=((j+m:Nat):Int):=by rw[wrap_i64 Om Om];omega
 have hlt:((j+m:Nat):Int)<(y:Nat):=Om;have X:IntKind.u64.wrap ((w:Nat):Int)=((w:Nat):Int):=bW Om;have N:shift .shl .u64 (r:Int) 32=some (.int .u64 ((2^32*r:Nat):Int)):=WC (s:=32) Om Om;have W:(2:Nat)^32=4294967296:=by decide
 have M:=orI (a:=2^32*r) (b:=w) (n:=2^32*r+w) Om Om (Nat.two_pow_add_eq_or_of_lt Om r).symm Om;rw[W]at N M;have A:(g≥4294967296∨g*next>r*4294967296+w)→∀I:PF,(dG (.osl o 1 0 y) v (m+2) q e next j s g r).le I→aC.wp C (.block 5 (.seq (.region NT) (.seq (.region NU) (.seq (.region NV) (.cond (.tmp 136) (.exit 4) .skip)))))
   (fZ (λt:Nat × Nat=>dG (.osl o 1 0 y) v (m+2) q e next j s t.1 t.2) (λ_=>H) (λt=>t.1*e+t.2=l∧J/V≤t.1∧t.1≤4294967296+1∧t.2<4294967296) (λt=>t.1) g (fN 4 K)) I H:=by
  intro hc I u;obtain⟨g1,g2⟩:=x.g1 R hq hc;have f8:=u 8 _ (by unfold dG;simp only[go_sem];rfl);have f9:=u 9 _ (by unfold dG;simp only[go_sem];rfl);have δ:=u 10 _ (by unfold dG;simp only[go_sem];rfl);have f11:=u 11 _ (by unfold dG;simp only[go_sem];rfl);have ε:=u 12 _ (by unfold dG;simp only[go_sem];rfl);have f13:=u 13 _ (by unfold dG;simp only[go_sem];rfl);have f14:=u 14 _ (by unfold dG;simp only[go_sem];rfl);have ζ:=u 15 _ (by unfold dG;simp only[go_sem];rfl);have Y:=u 17 _ (by unfold dG;simp only[go_sem];rfl);have Z:=u 18 _ (by unfold dG;simp only[go_sem];rfl);have w1:IntKind.u64.wrap ((g:Int)-1)=((g-1:Nat):Int):=by rw[wrap_u64 Om Om];omega
  have w2:IntKind.u64.wrap ((r:Int)+(e:Int))=((r+e:Nat):Int):=jV Om;have O:(g-1)*e+(r+e)=l:=by obtain⟨k,rfl⟩:∃k,g=k+1:=⟨g-1,by omega⟩;rw[bhN,Nat.one_mul]at R;simp only[Nat.add_sub_cancel];omega
  simp only[go_sem,NT,NU,NV,Y,Z,f13,w1,w2];by_cases c:r+e≥4294967296
  ·have S:((r+e:Nat):Int)≥4294967296:=Om;simp only[go_sem,S];refine hK (g-1) (r+e) _ g2 (x.g3 O Om c) Om ?_;unfold dG;exact Lq
  ·have S:¬((r+e:Nat):Int)≥4294967296:=Om;simp only[go_sem,S];refine aG (g-1,r+e) ⟨O,g2,by simp only;omega,by simp only;omega⟩ (by simp only;omega) ?_ b_;unfold dG;exact Lq
 simp only[go_sem,DM,mi,dG];by_cases c1:g≥4294967296
 ·have B:(g:Int)≥4294967296:=Om;simp only[go_sem,B];have:=A (.inl c1);simp only[go_sem,dG]at this;refine this _ ?_;exact Lq
 ·have B:¬(g:Int)≥4294967296:=Om;have η:g*next≤4294967295*4294967295:=bjL Om Om
  have em:IntKind.u64.wrap ((g:Int)*(next:Int))=((g*next:Nat):Int):=by rw[show(g:Int)*(next:Int)=((g*next:Nat):Int) by simp];exact bW Om
  simp only[go_sem,B,em,N,e1,e2,hlt,hH,hU,X,M];by_cases c2:g*next>r*4294967296+w
  ·have E:((g*next:Nat):Int)>((4294967296*r+w:Nat):Int):=Om;simp only[go_sem,E];have:=A (.inr c2);simp only[go_sem,dG]at this;refine this _ ?_;exact Lq
  ·have E:¬((g*next:Nat):Int)>((4294967296*r+w:Nat):Int):=Om;simp only[go_sem,E];refine hK g r _ hq (x.g2 R Om Om) Om ?_;unfold dG;exact Lq
end Go.PM
namespace Go.Na
theorem a8U{W v:List Nat}{m:Nat}(hW:Lim W)(e:Lim v)(y:Z' v=m+2)(x:Z' W=m+3)(A:2147483648≤v[m+1])(hlt:val W<val v*4294967296) :
  Kn (val v) (val W) (v[m+1]) (v[m]) (val (v.take m)) (W[m+2]*4294967296+W[m+1]) (W[m]) (val (W.take m)) (4294967296^m):=by
 have u:val v=val (v.take m)+4294967296^m*(v[m]+4294967296*v[m+1]):=by
  rw[AB v (Om:m<Z' v)];congr 4;have:v.drop (m+1)=[v[m+1]]:=by rw[biL Om,bkA Om]
  rw[this];simp[val]
 have w:val W=val (W.take m)+4294967296^m*(W[m]+4294967296*(W[m+1]+4294967296*W[m+2])):=by
  rw[AB W (Om:m<Z' W)];congr 4;have:W.drop (m+1)=[W[m+1],W[m+2]]:=by rw[biL Om,biL Om,bkA Om]
  rw[this];simp[val]
 have j:=jU (e.take m);have l:=jU (hW.take m);rw[bgP,biP Om]at j l;refine⟨?_,?_,j,l,A,e _ (bgD _),hW _ (bgD _),hlt⟩
 ·rw[u,bgQ,bhE (4294967296^m) (v[m]),←bhB (4294967296^m),bhE (4294967296^m*4294967296),bhE (4294967296^m) 4294967296];omega
 ·rw[w,bgQ,bhE (4294967296^m) (W[m]),←bhB (4294967296^m),bhE (4294967296^m*4294967296),bhE (4294967296^m) 4294967296,bhE (W[m+2]),Nat.add_comm (4294967296*W[m+2])];omega
end Go.Na
namespace Go.PM
open Go Go.Na
structure Uo(C:Ctx):Prop where
 subtract:∀(A W Z v:List Nat)(f o:Nat),Lim W→Lim v→Z' W=Z' v+1→Z' A+Z' v≤100000→f≤4294967296→val v*f≤val W+4294967296^(Z' v+1) →
  aI C 142 [.osl o 1 A.length (Z' v+1),aN v,.int .u64 f] (PH.nil.set o (.rows 1 (aP (A++W++Z)))) (λr H'=>r=.bool (decide (val W<val v*f))∧H'=PH.nil.set o (.rows 1 (aP (A++gE (Z' v+1) (WJ (Z' v+1) (val W) (val v*f))++Z))))
 restore:∀(A W Z v:List Nat)(o:Nat),Lim W→Lim v→Z' W=Z' v+1→Z' A+Z' v≤100000 →
  aI C 139 [.osl o 1 A.length (Z' v+1),aN v] (PH.nil.set o (.rows 1 (aP (A++W++Z)))) (λr H'=>r=.tup []∧H'=PH.nil.set o (.rows 1 (aP (A++gE (Z' v+1) (val W+val v)++Z))))
theorem V7(k n:Nat):gE k (n%4294967296^k)=gE k n:=
 avX (tA _ _) (tA _ _) (by rw[rS,rS]) (by rw[JY,JY,Nat.mod_mod])
theorem Ub{C:Ctx}(D:Uo C)(A W Z v Q:List Nat)(m o S R s:Nat)(β:S≠o)(hW:Lim W)(hv:Lim v)(ο:Z' v=m+2)(ξ:Z' W=m+3)(ht:2147483648≤v[m+1])(hlt:val W<val v*4294967296)
  (p':R=Z' A+(m+3)+Z' Z) (k':R≤10000) (a':Z' A<Z' Q) (K:cQ) (F:PF) (H:PH) (U:(dF (.osl o 1 0 R) (aN v) (m+2) (.osl S 1 0 Q.length) (v[m+1]) (v[m]) A.length s).le F)
  (hH:H o=some (.rows 1 (aP (A++W++Z)))) (κ:H S=some (.rows 1 (aP Q)))
  (hK:∀F' H',(dF (.osl o 1 0 R) (aN v) (m+2) (.osl S 1 0 Q.length) (v[m+1]) (v[m]) A.length s).le F'→H' o=some (.rows 1 (aP (A++gE (m+3) (val W%val v)++Z)))→H' S=some (.rows 1 (aP (Q.set A.length (val W/val v))))→K .normal F' H') :
  aC.wp C (.block 3 (.seq (.draw NR) (.seq (.draw NS) (.seq (.block 4 (.loop DM)) (.seq (.seq (.region NW) (.cond (.tmp 146) (.seq (.region NX) (.region NY)) .skip)) (.region DN)))))) K F H:=by
 have Kk:=a8U hW hv ο ξ ht hlt;have x:∀i (h:i<Z' W),(aP (A++W++Z))[Z' A+i]?=some [.int .u32 ((W[i]:Nat):Int)]:=λi h=>a3H h;have g0:=x (m+2) Om;have g1:=x (m+1) Om;have g2:=x m Om;have hq:=Kk.a5Z;have htop:v[m+1]<4294967296:=hv _ (bgD _);have t':=hW _ (bgD (Om:m+2<Z' W));have u':=hW _ (bgD (Om:m+1<Z' W));have α:=Kk.Vo.1;generalize s':v[m+1]=l at *
 generalize q':v[m]=next at *
 generalize v':W[m+2]=I at *
 generalize w':W[m+1]=u1 at *
 generalize x':W[m]=u2 at *
 have f8:=U 8 _ (by unfold dF;simp only[go_sem];rfl);have f9:=U 9 _ (by unfold dF;simp only[go_sem];rfl);have Θ:=U 10 _ (by unfold dF;simp only[go_sem];rfl);have f11:=U 11 _ (by unfold dF;simp only[go_sem];rfl);have Λ:=U 12 _ (by unfold dF;simp only[go_sem];rfl);have f13:=U 13 _ (by unfold dF;simp only[go_sem];rfl);have f14:=U 14 _ (by unfold dF;simp only[go_sem];rfl);have ζ:=U 15 _ (by unfold dF;simp only[go_sem];rfl);have e1:IntKind.i64.wrap ((Z' A:Int)+((m+2:Nat):Int))=((Z' A+(m+2):Nat):Int):=lT Om;have e2:IntKind.i64.wrap (((Z' A+(m+2):Nat):Int)-1)=((Z' A+(m+1):Nat):Int):=by rw[wrap_i64 Om Om];omega
 have c0:((Z' A+(m+2):Nat):Int)<(R:Nat):=Om;have c1:((Z' A+(m+1):Nat):Int)<(R:Nat):=Om;have Γ:IntKind.u64.wrap ((I:Nat):Int)=((I:Nat):Int):=bW Om;have Δ:IntKind.u64.wrap ((u1:Nat):Int)=((u1:Nat):Int):=bW Om;have ε:shift .shl .u64 (I:Int) 32=some (.int .u64 ((2^32*I:Nat):Int)):=WC (s:=32) Om Om;have ω:(2:Nat)^32=4294967296:=by decide
 have X:=orI (a:=2^32*I) (b:=u1) (n:=2^32*I+u1) Om Om (Nat.two_pow_add_eq_or_of_lt Om I).symm Om;rw[ω]at ε X;have Φ:4294967296*I+u1=I*4294967296+u1:=Om;rw[Φ]at X;simp only[go_sem];refine bA H cK b_ ?_;simp only[go_sem,NR,f9,ζ,f11,e1,e2,c0,c1,hH,g0,g1,Γ,Δ,ε,X];refine bA H cK b_ ?_;have r':0<l:=Om;have e':¬((l:Nat):Int)=0:=Om;generalize o':I*4294967296+u1=e at *
 have γ:IntKind.u64.wrap (Int.tdiv ((e:Nat):Int) ((l:Nat):Int))=((e/l:Nat):Int):=by rw[show Int.tdiv ((e:Nat):Int) ((l:Nat):Int)=((e/l:Nat):Int)from rfl];exact bW (by have:=Kk.g4;omega)
 have δ:Int.tmod ((e:Nat):Int) ((l:Nat):Int)=((e%l:Nat):Int):=rfl;simp only[go_sem,NS,f13,e',γ,δ];have w:=Uc (C:=C) Kk htop o R m A.length s (aN v) (.osl S 1 0 Q.length) Om Om (A++W++Z) g2;simp only[go_sem]at w;refine w _ _ H ?_ hH ?_
 ·unfold dG;refine d_ (d_ (d_ (d_ (d_ (d_ (d_ (d_ (d_ (d_ c_ ?_) ?_) ?_) ?_) ?_) ?_) ?_) ?_) ?_) ?_<;>simp only[go_sem,f8,f9,Θ,f11,Λ,f13,f14,ζ]
 clear w;intro g r F' q1 q2 q3 j;have h8:=j 8 _ (by unfold dG;simp only[go_sem];rfl);have h9:=j 9 _ (by unfold dG;simp only[go_sem];rfl);have J:=j 10 _ (by unfold dG;simp only[go_sem];rfl);have M:=j 11 _ (by unfold dG;simp only[go_sem];rfl);have η:=j 12 _ (by unfold dG;simp only[go_sem];rfl);have θ:=j 13 _ (by unfold dG;simp only[go_sem];rfl);have ι:=j 14 _ (by unfold dG;simp only[go_sem];rfl);have N:=j 15 _ (by unfold dG;simp only[go_sem];rfl);have Y:=j 17 _ (by unfold dG;simp only[go_sem];rfl);have e3:IntKind.i64.wrap (((Z' A+(m+2):Nat):Int)+1)=((Z' A+(m+3):Nat):Int):=by rw[wrap_i64 Om Om];omega
 have c3:(Z' A:Int)≤((Z' A+(m+3):Nat):Int):=Om;have c4:((Z' A+(m+3):Nat):Int)≤(R:Nat):=Om;have e4:Z' A+(m+3)-Z' A=Z' v+1:=Om;have B:Z' v+1=m+3:=Om;have n':val v*(val W/val v)+val W%val v=val W:=bjV _ _;have μ:=jU hW;rw[ξ]at μ;have ψ:val W%val v<val v:=bhZ _ α;have υ:=jU hv;rw[ο]at υ;have σ:4294967296^(m+3)=4294967296^(m+2)*4294967296:=biD _ _;generalize l':val W/val v=E at *
 generalize m':val W%val v=rd at *
 have V:∀(y:PF)(H2:PH),y 8=some (.int .u64 s)→y 9=some (.osl o 1 0 R)→y 10=some (aN v)→y 11=some (.int .i64 ((m+2:Nat):Int))→y 12=some (.osl S 1 0 Q.length)→y 13=some (.int .u64 l)→y 14=some (.int .u64 next)→y 15=some (.int .i64 A.length)→y 17=some (.int .u64 E) →
   H2 o=some (.rows 1 (aP (A++gE (m+3) rd++Z)))→H2 S=some (.rows 1 (aP Q))→aC.wp C (.region DN) (fN 3 K) y H2:=by
  intro y H2 k8 k9 f' g' φ h' i' χ j' kH kQ;have d':(aP Q)[Z' A]?=some [.int .u32 ((Q[Z' A]:Nat):Int)]:=cU Q a';have c':(Z' A:Int)<(Z' Q:Nat):=Om;have eq:IntKind.u32.wrap ((E:Nat):Int)=((E:Nat):Int):=by rw[dY,bhS hq]
  have τ:=kM Q A.length E;have ρ:¬o=S:=λh=>β h.symm;simp only[go_sem,DN,φ,χ,j',eq,c',kQ,d',τ];refine hK _ _ ?_ (by simp only[go_sem,ρ,kH]) Sq;unfold dF;refine d_ (d_ (d_ (d_ (d_ (d_ (d_ (d_ c_ ?_) ?_) ?_) ?_) ?_) ?_) ?_) ?_<;>simp only[go_sem,k8,k9,f',g',φ,h',i',χ]
 have b':(PH.nil.set o (.rows 1 (aP (A++W++Z)))).le H:=e_ a_ hH;have ν:val v*g≤val W+4294967296^(Z' v+1):=by have:val v*g≤val v*(E+1):=biW _ q2;rw[bgQ,bjB]at this;rw[B,σ];omega
 simp only[go_sem,NW,h9,N,M,e1,e3,c3,c4,e4,J,Y];refine eR (D.subtract A W Z v g o hW hv Om Om q3 ν) rfl b' ?_;rintro rr H' ⟨rfl,rfl⟩ -;rw[PH.wL];by_cases Ω:g=E
 ·subst Ω;have u:¬val W<val v*g:=Om;have hN:WJ (Z' v+1) (val W) (val v*g)=rd:=by unfold WJ;rw[aE u];omega
  rw[hN,B];simp only[go_sem,u];have:=V;simp only[go_sem]at this;refine this _ _ ?_ ?_ ?_ ?_ ?_ ?_ ?_ ?_ ?_ ?_ ?_<;>simp only[go_sem,h8,h9,J,M,η,θ,ι,N,Y,β,κ]
 ·have Ψ:g=E+1:=Om;subst Ψ;rw[bgQ,bjB];have u:val W<val v*E+val v:=Om;have hN:WJ (Z' v+1) (val W) (val v*E+val v)=rd+4294967296^(m+3)-val v:=by unfold WJ;rw[aL u,B];omega
  rw[hN];have w1:IntKind.u64.wrap (((E+1:Nat):Int)-1)=((E:Nat):Int):=by rw[wrap_u64 Om Om];omega
  simp only[go_sem,u,NX,Y,w1,NY,h9,N,M,e1,e3,c3,c4,e4,J];have Ξ:val (gE (Z' v+1) (rd+4294967296^(m+3)-val v))=rd+4294967296^(m+3)-val v:=vL (by rw[B];omega);refine eR (D.restore A (gE (Z' v+1) (rd+4294967296^(m+3)-val v)) Z v o (tA _ _) hv (rS _ _) Om) rfl (e_ a_ Sq) ?_;rintro rr H' ⟨rfl,rfl⟩ -;rw[PH.wL,PH.set_set,Ξ];have O:gE (Z' v+1) (rd+4294967296^(m+3)-val v+val v)=gE (m+3) rd:=by rw[B,←V7 (m+3) (rd+4294967296^(m+3)-val v+val v)];rw[show rd+4294967296^(m+3)-val v+val v=rd+4294967296^(m+3) by omega,Nat.add_mod_right,V7]
  rw[O];simp only[go_sem];have:=V;simp only[go_sem]at this;refine this _ _ ?_ ?_ ?_ ?_ ?_ ?_ ?_ ?_ ?_ ?_ ?_<;>simp only[go_sem,h8,h9,J,M,η,θ,ι,N,β,κ]
open Go
section
variable {C:Ctx} {K:cQ} {F:PF} {H Hs:PH} {S:Spec}
theorem arT{name:Nat}{vs:List PV}{R:PV→PH→Prop}{args:List aS}{st:Bool}{d:Option Nat}{K:PF→PH→Prop}(w:S name vs=some ([],λ_=>R))(h:aI C name vs .nil R)(e:aS.evs F args=some vs)
  (j:∀G:PH,∃r H',R r H'∧qM G .nil H') (y:∀r H',R r H'→qM H .nil H'→Hs.le (H.over .nil H')∧K (F.put d r) (H.over .nil H')):dOp C Hs S st (.call name args) d K F H:=by
 refine⟨vs,[],λ_=>R,e,w,λo A=>by simp at A,by rw[VC];exact h,λG=>?_,λr H' B e=>?_⟩
 ·obtain⟨r,H',l,u⟩:=j G;exact⟨r,H',l,λo x E I=>u o x E (by simp[PH.nil])⟩
 ·rw[VC]at e ⊢;exact y r H' B e
theorem PH.over_self(H0:PH)(h:H0.le H):H.over H0 H0=H:=PH.ext λq=>by
 rw[vH];cases e:H0 q with
 |none=>rfl
 |some x=>exact(h q x e).symm
theorem agB{o:Nat}{x:cI}(h:H o=some x):H.only [o]=PH.nil.set o x:=PH.ext λq=>by
 rw[xL,aR];by_cases e:q=o
 ·subst e;simp[h]
 ·simp[e,He]
theorem SA{name o:Nat}{x:cI}{vs:List PV}{v:PV}{R:PH→PV→PH→Prop}{args:List aS}{st:Bool}{d:Option Nat}{K:PF→PH→Prop}(E:S name vs=some ([o],R))(B:H o=some x)
  (h:aI C name vs (PH.nil.set o x) (λr H'=>r=v∧H'=PH.nil.set o x)) (j:R (PH.nil.set o x) v (PH.nil.set o x)) (u:∀r H',R (PH.nil.set o x) r H'→r=v∧H'=PH.nil.set o x) (I:aS.evs F args=some vs) (w:Hs.le H) (J:K (F.put d v) H) :
  dOp C Hs S st (.call name args) d K F H:=by
 have e:=agB B;refine⟨vs,[o],_,I,E,λq hq=>?_,?_,λG=>⟨v,_,by rw[e];exact j,λq y M A=>?_⟩,λr H' l _=>?_⟩
 ·simp at hq;subst hq;exact⟨x,B⟩
 ·rw[e];exact h.post λr H' l=>⟨r,.refl _,by rw[l.1,l.2];exact j⟩
 ·rw[e]at A;rw[M]at A;cases A
 ·rw[e]at l;obtain⟨rfl,rfl⟩:=u r H' l;rw[e,PH.over_self _ (by rw[←e];exact jz H [o])];exact⟨w,J⟩
theorem arB{c:aC}{α:Type}(e:α→PF)(Hs:α→PH)(j:α→Prop)(m:α→Nat)(l:α)(o:Nat){s:Nat}{rs:List (List PV)}(y:H o=some (.rows s rs))(u:j l)(w:(e l).le (F.frz o s rs))(x:(Hs l).le (H.frz o s rs))
  (hb:∀a,j a→c.wp C (fZ e Hs j m (m a) K) (e a) (Hs a)):aC.wp C (.loop c) K F H:=
 ⟨α,e,Hs,j,m,l,_,_,.step o y (.refl _ _),u,w,x,hb⟩
@[go_sem] theorem IA(o s:Nat)(rs:List (List PV))(q:Nat):(H.frz o s rs) q=if q=o then none else(H q).map (cI.frz o s rs):=(rfl)
theorem aPP{t u o1 o2 s1 s2 k1 k2:Nat}{rs1 rs2:List (List PV)}{R:PV→PH→Prop}{e:oW}(he:e=.normal∨e=.ret)(l:o1≠o2)(M:F t=some (.osl o1 s1 0 k1))(N:F u=some (.osl o2 s2 0 k2))(x:H o1=some (.rows s1 rs1))(y:H o2=some (.rows s2 rs2))
  (U:k1≤Z' rs1) (V:k2≤Z' rs2) (A:rs2.map (λr=>r.map (PV.dM o1 s1 rs1))=rs2) (W:(rs1.take k1)=rs1.take k1) (O:R (.tup [.sl s1 (rs1.take k1),.sl s2 (rs2.take k2)]) .nil):aW [.tmp t,.tmp u] R e F H:=by
 have B:∃vs,fL.evs F H [.tmp t,.tmp u]=some vs∧∃E I H2,mP (PF.nil.set 0 (cF vs)) H E I∧H2.le I∧∃w,E 0=some w∧R w H2:=by
  have j:o2≠o1:=λh=>l h.symm;have J:(H.frz o1 s1 rs1) o2=some (.rows s2 rs2):=by rw[IA,aE j,y];simp only[bhD,cI.frz,A]
  refine⟨[.osl o1 s1 0 k1,.osl o2 s2 0 k2],by rw[qE,tV,M,qE,tV,N,vJ],_,_,.nil,.step o1 x (.step o2 J (.refl _ _)),a_,_,?_,O⟩;have a1:0+k1≤Z' rs1:=Om;have a2:0+k2≤Z' rs2:=Om;simp only[PF.frz,qK,if_true,cF,bhD,PV.frz,PV.wE,PV.dM,bhJ,biS,true_and,aL a1,aL a2,bhP,aE j]
 rcases he with rfl|rfl<;>exact B
end
end Go.PM
namespace Go.Na
structure vS(U0 V n lu lq:Nat)(k:Nat)(U Q:List Nat):Prop where
 lu':Z' U=lu
 lq':Z' Q=lq
 limU:Lim U
 limQ:Lim Q
 v:val U+val Q*V=U0
 r:val (U.drop k)<V
 z:∀i x,i<k→Q[i]?=some x→x=0
theorem V8{N V n M A j:Nat}{U Q:List Nat}(h:vS N V n M A (j+1) U Q)(hV:V<4294967296^n)(hj:j<A)(hl:M=A+n) :
  val ((U.drop j).take (n+1))<V*4294967296∧vS N V n M A j (U.take j++gE (n+1) (val ((U.drop j).take (n+1))%V)++U.drop (j+(n+1))) (Q.set j (val ((U.drop j).take (n+1))/V)):=by
 have Z:=h.lu';have J:=h.lq';have e:0<V:=by have:=h.r;omega
 have u:j<Z' U:=Om;have e1:val (U.drop j)=U[j]+4294967296*val (U.drop (j+1)):=by rw[biL u];rfl
 have X:=h.limU _ (bgD u);have hlt:val (U.drop j)<V*4294967296:=by have:=h.r;omega
 have I:((U.drop j).take (n+1)).length=n+1:=by rw[bgP,bhR];omega
 have O:val (U.drop j)=val ((U.drop j).take (n+1))+4294967296^(n+1)*val (U.drop (j+(n+1))):=by
  conv=>lhs;rw[←biZ (n+1) (U.drop j),lJ,I,List.drop_drop]
 have R:4294967296^(n+1)=4294967296^n*4294967296:=biD _ _;have Y:V*4294967296≤4294967296^n*4294967296:=bhF _ (Nat.le_of_lt hV);have E:val (U.drop (j+(n+1)))=0:=by
  rcases biC (val (U.drop (j+(n+1))))with h0|h0
  ·exact h0
  ·have:=biW (4294967296^(n+1)) h0;omega
 rw[E,Nat.mul_zero,bhL]at O;generalize hW:val ((U.drop j).take (n+1))=W at *
 have e3:val U=val (U.take j)+4294967296^j*W:=by
  conv=>lhs;rw[←biZ j U,lJ,bgP,biP Om,O]
 have y:W%V<V:=bhZ _ e;have F:V*(W/V)+W%V=W:=bjV _ _;have K:W/V<4294967296:=by rw[bjK e,bhE];omega
 have hD:val (gE (n+1) (W%V))=W%V:=vL Om;have B:Q[j]=0:=h.z j _ Om (bgH Om);have l:=RO (Om:j<Z' Q) (W/V);rw[B,Nat.mul_zero,bhL]at l;have w:(U.take j).length=j:=by rw[bgP];omega
 refine⟨by omega,?_,?_,?_,?_,?_,?_,?_⟩
 ·simp only[bgB,rS,bhR,bgP];omega
 ·rw[bhU];exact J
 ·exact((h.limU.take j).app (tA _ _)).app (h.limU.drop _)
 ·exact h.limQ.set _ K
 ·rw[bgX,lJ,lJ,w,hD,rS,E,Nat.mul_zero,bhL,l];have:=h.v;have h5:(val Q+4294967296^j*(W/V))*V=val Q*V+4294967296^j*(V*(W/V)):=by rw[bhN,bhB,bhE (W/V) V]
  have h6:4294967296^j*W=4294967296^j*(V*(W/V))+4294967296^j*(W%V):=by rw[←bgQ,F]
  omega
 ·rw[bgX,List.drop_append_of_le_length Om,bkA Om,bjH,lJ,hD,E,Nat.mul_zero,bhL];exact y
 ·intro i x hi S;rw[List.getElem?_set_ne Om]at S;exact h.z i x Om S
end Go.Na
namespace Go.PM
open Go Go.Na
def dI(u v:PV)(n:Nat)(q:PV)(e next s:Nat)(j:Int):PF:=((((((((PF.nil.set 8 (.int .u64 s)).set 9 (u)).set 10 (v)).set 11 (.int .i64 n)).set 12 (q)).set 13 (.int .u64 e)).set 14 (.int .u64 next)).set 15 (.int .i64 j))
theorem zU(o s:Nat)(rs:List (List PV))(L:List Nat):(aP L).map (λr=>r.map (PV.dM o s rs))=aP L:=by
 unfold aP;rw[bjF];rfl
theorem aeU{C:Ctx}(D:Uo C)(X m y w o o2 x s:Nat)(v e:List Nat)(h2:o2≠o)(h3:x≠o)(h4:x≠o2)(hv:Lim v)(R:Z' v=m+2)(Δ:(aP e).take (m+2)=aP v)(Θ:m+2≤Z' e)(ht:2147483648≤v[m+1])
  (Γ:y=w+(m+2)) (S:y≤10000) (U:List Nat) (E:vS X (val v) (m+2) y w w U (bgA w 0)) (K:cQ) (F:PF) (H:PH)
  (B:(dI (.osl o 1 0 y) (.osl o2 1 0 (m+2)) (m+2) (.osl x 1 0 w) (v[m+1]) (v[m]) s ((w:Int)-1)).le F) (hH:H o=some (.rows 1 (aP U))) (ν:H o2=some (.rows 1 (aP e))) (μ:H x=some (.rows 1 (aP (bgA w 0))))
  (hK:∀U' Q' W,vS X (val v) (m+2) y w 0 U' Q'→(dI (.osl o 1 0 y) (aN v) (m+2) (.osl x 1 0 w) (v[m+1]) (v[m]) s (-1)).le W→K .normal W ((PH.nil.set o (.rows 1 (aP U'))).set x (.rows 1 (aP Q')))) :
  aC.wp C (.block 2 (.loop NP)) K F H:=by
 have f8:=B 8 _ (by unfold dI;simp only[go_sem];rfl);have f9:=B 9 _ (by unfold dI;simp only[go_sem];rfl);have Z:=B 10 _ (by unfold dI;simp only[go_sem];rfl);have f11:=B 11 _ (by unfold dI;simp only[go_sem];rfl);have β:=B 12 _ (by unfold dI;simp only[go_sem];rfl);have f13:=B 13 _ (by unfold dI;simp only[go_sem];rfl);have f14:=B 14 _ (by unfold dI;simp only[go_sem];rfl);have γ:=B 15 _ (by unfold dI;simp only[go_sem];rfl);have I:¬o=o2:=λh=>h2 h.symm;have J:¬x=o2:=h4;have V:¬o=x:=λh=>h3 h.symm;have υ:∀(k:IntKind)(n:Int),PV.frz o2 1 (aP e) (.int k n)=.int k n:=λ_ _=>rfl;have χ:∀l,PV.frz o2 1 (aP e) (.osl o 1 0 l)=.osl o 1 0 l:=λl=>by simp only[PV.frz,PV.wE,PV.dM,aE I]
 have φ:∀l,PV.frz o2 1 (aP e) (.osl x 1 0 l)=.osl x 1 0 l:=λl=>by simp only[PV.frz,PV.wE,PV.dM,aE J]
 have ψ:PV.frz o2 1 (aP e) (.osl o2 1 0 (m+2))=aN v:=by
  have:0+(m+2)≤(aP e).length:=by rw[dK];omega
  simp only[PV.frz,PV.wE,PV.dM,if_true,true_and,aL this,bhP,Δ]
 simp only[go_sem];refine arB (α:=Nat × List Nat × List Nat) (λt=>dI (.osl o 1 0 y) (aN v) (m+2) (.osl x 1 0 w) (v[m+1]) (v[m]) s ((t.1:Int)-1)) (λt=>(PH.nil.set o (.rows 1 (aP t.2.1))).set x (.rows 1 (aP t.2.2)))
  (λt=>t.1≤w∧vS X (val v) (m+2) y w t.1 t.2.1 t.2.2) (λt=>t.1) (w,U,bgA w 0) o2 ν ⟨bgG _,E⟩ ?_ ?_ ?_
 ·unfold dI;refine d_ (d_ (d_ (d_ (d_ (d_ (d_ (d_ c_ ?_) ?_) ?_) ?_) ?_) ?_) ?_) ?_<;>simp only[go_sem,f8,f9,Z,f11,β,f13,f14,γ,υ,χ,φ,ψ]
 ·refine e_ (e_ a_ ?_) ?_
  ·simp only[go_sem,I,hH,cI.frz,zU]
  ·simp only[go_sem,J,μ,cI.frz,zU]
 rintro⟨k,U,Q⟩ ⟨hk,E⟩;simp only at hk E;simp only[go_sem,NP,mh,dI];by_cases h0:0<k
 ·obtain⟨j,rfl⟩:∃j,k=j+1:=⟨k-1,by omega⟩;have hz:((j+1:Nat):Int)-1=(j:Int):=Om;have ω:(j:Int)≥0:=Om;have O:val v<4294967296^(m+2):=by have:=jU hv;rw[R]at this;exact this
  obtain⟨hlt,ξ⟩:=V8 E O Om Γ;have ρ:=E.lu';have ο:=E.lq';have hA:(U.take j).length=j:=by rw[bgP];omega
  have σ:((U.drop j).take (m+3)).length=m+3:=by rw[bgP,bhR];omega
  have A:U.take j++(U.drop j).take (m+3)++U.drop (j+(m+3))=U:=by rw[bgX,←List.drop_drop,biZ,biZ]
  have τ:(U.drop (j+(m+3))).length=y-(j+(m+3)):=by rw[bhR,ρ]
  have M:=Ub (C:=C) D (U.take j) ((U.drop j).take (m+3)) (U.drop (j+(m+3))) v Q m o x y s h3 ((E.limU.drop _).take _) hv R σ ht hlt (by rw[hA,τ];omega) S (by rw[hA];omega);rw[hA,A,ο]at M;have Y:IntKind.i64.wrap ((j:Int)-1)=(j:Int)-1:=wrap_i64 Om Om;simp only[go_sem,hz,ω];simp only[go_sem]at M;refine M _ _ _ ?_ (by simp only[go_sem,V]) Sq ?_
  ·unfold dF;exact Lq
  ·intro W H' u κ N;have g8:=u 8 _ (by unfold dF;simp only[go_sem];rfl);have g9:=u 9 _ (by unfold dF;simp only[go_sem];rfl);have δ:=u 10 _ (by unfold dF;simp only[go_sem];rfl);have ε:=u 11 _ (by unfold dF;simp only[go_sem];rfl);have ζ:=u 12 _ (by unfold dF;simp only[go_sem];rfl);have η:=u 13 _ (by unfold dF;simp only[go_sem];rfl);have θ:=u 14 _ (by unfold dF;simp only[go_sem];rfl);have ι:=u 15 _ (by unfold dF;simp only[go_sem];rfl);simp only[go_sem,mj,ι,Y];refine aG (j,_,_) ⟨by simp only;omega,ξ⟩ (by simp only;omega) ?_ (e_ (e_ a_ κ) N);refine d_ (d_ (d_ (d_ (d_ (d_ (d_ (d_ c_ ?_) ?_) ?_) ?_) ?_) ?_) ?_) ?_<;>simp only[go_sem,g8,g9,δ,ε,ζ,η,θ]
 ·have:k=0:=Om;subst this;have hz:¬((0:Nat):Int)-1≥0:=by decide
  simp only[go_sem,hz];refine hK U Q _ E ?_;unfold dI
  (repeat' (first|exact c_|refine d_ ?_ ?_))<;>first|(simp only[go_sem,show((0:Nat):Int)-1=-1 from rfl]<;>rfl)|rfl
open Go Go.Na
def rFr(o j l e or n s i:Nat):PF:=((((((PF.nil.set 8 (.int .u64 s)).set 9 (.osl o 1 0 j)).set 12 (.osl l 1 0 e)).set 19 (.osl or 1 0 n)).set 166 (.int .i64 n)).set 167 (.int .i64 i))
theorem a6I{x s:Nat}(e:s≤64):shift .shr .u64 (x:Int) (s:Int)=some (.int .u64 ((x/2^s:Nat):Int)):=by
 unfold shift;rw[aE Om];simp only;have:min (Int.toNat (s:Int)) IntKind.u64.bits=s:=by rw[show IntKind.u64.bits=64 from rfl];omega
 rw[this,Int.fdiv_eq_ediv_of_nonneg _ (by exact_mod_cast bgE _)]
 norm_cast
theorem aeV{C:Ctx}(o w j lq n s:Nat)(U Q:List Nat)(hs:s<32)(h3:j≠o)(Z:Lim U)(hl:Z' U=w)(hn:n<w)(ε:w≤10000)(K:cQ)(F:PF)
  (f8:F 8=some (.int .u64 s)) (f9:F 9=some (.osl o 1 0 w)) (f11:F 11=some (.int .i64 n)) (ζ:F 12=some (.osl j 1 0 lq))
  (hK:∀or F' H',or≠o→or≠j→(rFr o w j lq or n s n).le F'→H' j=some (.rows 1 (aP Q))→H' or=some (.rows 1 (aP (gE n (val U/2^s))))→K .normal F' H') :
  aC.wp C (.seq (.region NZ) (.seq (.region OA) (.block 6 (.loop NQ)))) K F ((PH.nil.set o (.rows 1 (aP U))).set j (.rows 1 (aP Q))):=by
 have γ:((n:Nat):Int)*((4:Nat):Int)≤140737488355328:=Om;have δ:((n:Nat):Int)≤9223372036854775807:=Om;have hz:bgA n [PV.int .u32 0]=aP ([]++bgA n 0):=by simp[aP]
 simp only[go_sem,NZ,f11,γ,δ,hz];refine aQ λor O=>?_;have n1:¬or=j:=(nE.1 O).1;have n2:¬or=o:=(nE.1 (nE.1 O).2).1;have A:¬j=or:=λh=>n1 h.symm;have B:¬o=or:=λh=>n2 h.symm;have n3:¬j=o:=h3;have E:¬o=j:=λh=>n3 h.symm;simp only[go_sem,OA];refine wp_loop (α:=List Nat) (λP=>rFr o w j lq or n s P.length) (λP=>((PH.nil.set o (.rows 1 (aP U))).set j (.rows 1 (aP Q))).set or (.rows 1 (aP (P++bgA (n-Z' P) 0)))) (λP=>Z' P≤n∧P=gE P.length (val U/2^s)) (λP=>n-Z' P) []
  ⟨by simp,rfl⟩ ?_ ?_ ?_
 ·unfold rFr;exact Lq
 ·refine e_ (e_ (e_ a_ ?_) ?_) ?_<;>simp only[go_sem,n1,A,n2,B,n3,E,biM]
 rintro P ⟨hP,hD⟩;simp only[go_sem,NQ,ml,rFr];by_cases c1:Z' P<n
 ·have u:(Z' P:Int)<(n:Nat):=Om;obtain⟨k,hk⟩:∃k,n-Z' P=k+1:=⟨n-Z' P-1,by omega⟩;have β:(aP (P++bgA (k+1) 0))[Z' P]?=some [.int .u32 ((0:Nat):Int)]:=by rw[cU _ aY];simp
  have V:Z' P<Z' U:=Om;have a1:Z' P+1<Z' U:=Om;have b0:(Z' P:Int)<(w:Nat):=Om;have b1:((Z' P+1:Nat):Int)<(w:Nat):=Om;have η:=Z _ (bgD V);have θ:=Z _ (bgD a1);have e:val U/4294967296^P.length=U[Z' P]+4294967296*(U[Z' P+1]+4294967296*val (U.drop (Z' P+2))):=by rw[←DD Z Om,biL V,biL a1];rfl
  have N:=nw hs e;have g0:=cU U V;have g1:=cU U a1;generalize ι:U[Z' P]=y at *
  generalize κ:U[Z' P+1]=l at *
  have e1:IntKind.i64.wrap ((Z' P:Int)+1)=((Z' P+1:Nat):Int):=eT Om;have X:IntKind.u64.wrap ((y:Nat):Int)=((y:Nat):Int):=bW Om;have Y:IntKind.u64.wrap ((l:Nat):Int)=((l:Nat):Int):=bW Om;have J:shift .shl .u64 (l:Int) 32=some (.int .u64 ((2^32*l:Nat):Int)):=WC (s:=32) Om Om;have W:(2:Nat)^32=4294967296:=by decide
  have I:=orI (a:=2^32*l) (b:=y) (n:=2^32*l+y) Om Om (Nat.two_pow_add_eq_or_of_lt Om l).symm Om;rw[W]at J I;have M:=a6I (x:=4294967296*l+y) (s:=s) Om;have S:(aP (P++bgA (k+1) 0)).set P.length [.int .u32 (((4294967296*l+y)/2^s%4294967296:Nat):Int)]=aP ((P++[(4294967296*l+y)/2^s%4294967296])++bgA k 0):=by rw[kM,II]
  simp only[go_sem,u,mm];refine bA .nil cK a_ ?_;simp only[go_sem,mo,u,e1,b0,b1,B,E,g0,g1,X,Y,J,I,M,dY,hk,β,S];refine⟨a_,?_⟩;simp only[go_sem,mp,e1];refine aG (P++[(4294967296*l+y)/2^s%4294967296]) ⟨by simp;omega,?_⟩ (by simp;omega) ?_ (e_ (e_ (e_ a_ ?_) ?_) ?_)
  ·rw[bgB,bgI,EB,←hD,N]
  ·rw[bgB,bgI];exact Lq
  ·simp only[go_sem,B,E]
  ·simp only[go_sem,A]
  ·rw[bgB,bgI,show n-(Z' P+1)=k by omega];simp only[go_sem]
 ·have e:Z' P=n:=Om;have u:¬(Z' P:Int)<(n:Nat):=Om;have R:bgA (n-Z' P) 0=[]:=by rw[show n-Z' P=0 by omega];rfl
  rw[e]at hD;simp only[go_sem,u,R,bhH];refine hK or _ _ n2 n1 ?_ (by simp only[go_sem,A]) (by simp only[go_sem];rw[←hD]);unfold rFr;rw[e];exact Lq
structure Vg(C:Ctx):Prop where
 L:yM C
 D:Uo C
 up:∀(a:List Nat)(s:Nat),Lim a→s<32→Z' a≤1000→aI C 143 [aN a,.int .u64 s] .nil (upR a s)
 short:∀(a:List Nat)(d:Nat),Lim a→0<d→d<4294967296→Z' a≤1000→aI C 140 [aN a,.int .u32 d] .nil (aK (.tup [aN (aM (val a/d)),.int .u32 ((val a%d:Nat):Int)]))
 lengthO:∀(xs:List Nat)(o:Nat),Lim xs→Z' xs≤35184372087808→aI C 138 [.osl o 1 0 xs.length] (PH.nil.set o (.rows 1 (aP xs))) (λr H'=>r=.int .i64 (nl (val xs):Nat)∧H'=PH.nil.set o (.rows 1 (aP xs)))
def aSW:Spec:=λname vs=>match name,vs with
 |143,[x,.int _ s]=>some ([],λ_=>upR (nS x) s.toNat)
 |138,[.osl q _ _ _]=>some ([q],λH0 r H'=>H'=H0∧∀xs,Lim xs→H0 q=some (.rows 1 (aP xs))→r=.int .i64 (nl (val xs):Nat))
 |_,_=>none
theorem arU(a:List Nat)(s:Nat):aSW 143 [aN a,.int .u64 s]=some ([],λ_=>upR a s):=by
 show some _=_;rw[hJ,biR]
theorem anK(a:List Nat)(s:Nat):∀G:PH,∃r H',upR a s r H'∧qM G .nil H':=λG=>by
 obtain⟨o,l⟩:=G.fresh;refine⟨_,_,⟨o,rfl,rfl⟩,λq x j _=>?_⟩;rw[aR]at j;split at j
 ·rename_i e;subst e;exact l
 ·cases j
theorem cu{xs e:List Nat}(h:aP xs=aP e):xs=e:=by
 have:=congrArg nS (show aN xs=aN e by show PV.sl 1 (aP xs)=PV.sl 1 (aP e);rw[h])
 rwa[hJ,hJ]at this
theorem Pf(q:Nat)(L:List Nat):(PH.nil.set q (.rows 1 (aP L)))=(PH.nil.set q (.rows 1 (aP L)))∧∀xs,Lim xs→(PH.nil.set q (.rows 1 (aP L))) q=some (.rows 1 (aP xs))→(PV.int .i64 (nl (val L):Nat))=.int .i64 (nl (val xs):Nat):=by
 refine⟨rfl,λxs j e=>?_⟩;rw[cB]at e;have:aP L=aP xs:=(cI.rows.inj (biQ.inj e)).2;rw[cu this]
def xX(A B:Nat):PV:=.tup [aN (aM (A/B)),aN (aM (A%B))]
def aIM(a b:List Nat)(s:Nat):PF:=(((PF.nil.set 0 (aN a)).set 1 (aN b)).set 8 (.int .u64 s))
theorem a3K{x s:Nat}(e:s≤31)(h:x*2^s<4294967296):shift .shl .u32 (x:Int) (s:Int)=some (.int .u32 ((x*2^s:Nat):Int)):=by
 unfold shift;rw[aE Om];simp only;have:min (Int.toNat (s:Int)) IntKind.u32.bits=s:=by rw[show IntKind.u32.bits=32 from rfl];omega
 rw[this,show(x:Int)*2^s=((x*2^s:Nat):Int) by simp,dY,bhS h]
theorem apH{n i x:Nat}(e:(bgA n 0)[i]?=some x):x=0:=by
 have:=bhX e;rw[List.mem_replicate]at this;exact this.2
theorem aIO{C:Ctx}(K:Vg C)(A B:Nat)(hB:B≠0)(hA:nl A≤900)(k':nl B≤900) :
  JJ.wp C (aW Hx.res (cT (xX A B))) (PF.args [aN (aM A),aN (aM B)]) .nil:=by
 have LA:=bC A;have LB:=bC B;have vA:=aZ A;have vB:=aZ B;have lA:(aM A).length=nl A:=rfl;have lB:(aM B).length=nl B:=rfl;simp only[go_sem,JJ,By,Bz,Hx];refine aB (K.L.cmp _ _ LA LB Om Om) rfl ?_;rw[vA,vB];by_cases c1:A<B
 ·have hc:fJ A B<0:=by simp[fJ,c1]
  simp only[go_sem,hc,B0];refine aB (K.L.trim _ LA Om) rfl ?_;rw[vA];simp only[go_sem];refine bB (vs:=[.aH,aN (aM A)]) (.inr rfl) .nil rfl a_ ⟨?_,rfl⟩;rw[xX,bjI c1,bhS c1,kO];refine .tup rfl λj p q hp hq=>?_
  match j with
  |0=>simp at hp hq;subst hp;subst hq;exact .nil 1
  |1=>simp at hp hq;subst hp;subst hq;exact .refl _
  |j+2=>simp at hp
 have hc:¬fJ A B<0:=by unfold fJ;rw[aE c1];split<;>decide
 have W:0<B:=biX hB;have n':nl B≠0:=λh=>hB (mV.1 h);simp only[go_sem,hc,B5];by_cases c2:nl B=1
 ·have ε:B<4294967296:=by have:=(nJ B 1).1 Om;simpa using this
  have Ψ:aM B=[B]:=vF hB ε;have hr:A%B<B:=bhZ _ W;have ew:IntKind.u64.wrap ((A%B:Nat):Int)=((A%B:Nat):Int):=bW Om;rw[Ψ];have ρ:=K.short (aM A) B LA W ε Om;rw[vA]at ρ;simp only[go_sem,show(((1:Nat):Int)==1)=true from rfl,B6];refine aB ρ rfl ?_;simp only[go_sem,B7,ew];refine aB (K.L.make (A%B) Om) rfl ?_;simp only[go_sem];exact bB (vs:=[aN (aM (A/B)),aN (aM (A%B))]) (.inr rfl) .nil rfl a_ ⟨.refl _,rfl⟩
 obtain⟨m,hm⟩:∃m,nl B=m+2:=⟨nl B-2,by omega⟩;have j':nl B≤nl A:=kW Om;obtain⟨bt,y,g'⟩:=alA LB (n:=m+1) (by rw[vB];exact hm);have O:m+1<(aM B).length:=Om;have μ:bt<4294967296:=LB bt (bhX y);have l':B=val ((aM B).take (m+1))+4294967296^(m+1)*bt:=by have u:=dP (aM B) O;rw[bgR Om,vB]at u;rw[bgH O]at y;rw[biQ.inj y]at u;exact u
 have X:=jU (LB.take (m+1));rw[bgP,biP Om]at X;have ο:(aP (aM B))[m+1]?=some [.int .u32 ((bt:Nat):Int)]:=by rw[cU _ O];rw[bgH O]at y;rw[biQ.inj y]
 have i1:IntKind.i64.wrap ((((aM B).length:Nat):Int)-1)=((m+1:Nat):Int):=by rw[wrap_i64 Om Om];omega
 have ν:¬(((aM B).length:Nat):Int)=1:=Om;simp only[go_sem,bD ν,B8];refine wp_loop (α:=Nat) (λs=>aIM (aM A) (aM B) s) (λ_=>.nil) (λs=>s≤31∧bt*2^s<4294967296) (λs=>32-s) 0 ⟨by omega,by simpa using μ⟩ ?_ a_ ?_
 ·unfold aIM;exact Lq
 rintro s ⟨hs,Ξ⟩;have χ:=a3K hs Ξ;simp only[go_sem,Bx,B9,aIM,i1,ο,χ];refine aSP ?_ ?_
 ·intro c3;have φ:=of_decide_eq_true c3;have h':s<31:=by
   rcases bgV s 31 with h|h
   ·exact h
   ·exfalso;have u:2147483648≤2^s:=Nat.pow_le_pow_right (show 0<2 by decide) h;have M:1*2^s≤bt*2^s:=bhF _ Om;omega
  have es:IntKind.u64.wrap ((s:Int)+1)=((s+1:Nat):Int):=by rw[wrap_u64 Om Om];omega
  simp only[go_sem,Ca,es];refine aG (s+1) ⟨by omega,by rw[biD,←bhB];omega⟩ Om ?_ a_;exact Lq
 intro c3;have φ:=of_decide_eq_false c3;have F:s<32:=Om;have E:0<2^s:=bjC aV;have V:2147483648*4294967296^(m+1)≤B*2^s:=by
  have u:2147483648*4294967296^(m+1)≤(bt*2^s)*4294967296^(m+1):=bhF _ Om;have M:(4294967296^(m+1)*bt)*2^s≤B*2^s:=bhF _ Om;have h3:(4294967296^(m+1)*bt)*2^s=(bt*2^s)*4294967296^(m+1):=by rw[bhB,bhE]
  omega
 have κ:B*2^s<4294967296^(m+2):=by
  have h0:(bt+1)*2^s≤4294967296:=by
   have i':(4294967296:Nat)=2^(32-s)*2^s:=by rw[←Nat.pow_add,show 32-s+s=32 by omega]
   have:bt<2^(32-s):=by
    rcases bgV bt (2^(32-s))with h|h
    ·exact h
    ·have:=bhF (2^s) h;omega
   have:=bhF (2^s) (show bt+1≤2^(32-s)from this);omega
  have u:B<(bt+1)*4294967296^(m+1):=by rw[bhN,Nat.one_mul,bhE bt];omega
  have M:B*2^s<(bt+1)*4294967296^(m+1)*2^s:=Nat.mul_lt_mul_of_pos_right u E;have h3:(bt+1)*4294967296^(m+1)*2^s=(bt+1)*2^s*4294967296^(m+1):=Nat.mul_right_comm _ _ _;have h4:(bt+1)*2^s*4294967296^(m+1)≤4294967296*4294967296^(m+1):=bhF _ h0;have h5:4294967296^(m+2)=4294967296*4294967296^(m+1):=by rw[biD,bhE]
  omega
 have U:A<4294967296^nl A:=(nJ A _).1 (bgG _);simp only[go_sem];refine bA .nil aSW a_ ?_;simp only[go_sem,ma];have ua:=K.up (aM A) s LA F Om;have ub:=K.up (aM B) s LB F Om;refine arT (arU (aM A) s) ua rfl (anK _ _) ?_;rintro r H' ⟨o,rfl,rfl⟩ -;rw[PH.tU,lA,vA];refine⟨a_,?_⟩;simp only[go_sem];refine arT (arU (aM B) s) ub rfl (anK _ _) ?_;rintro r H' ⟨o2,rfl,rfl⟩ Λ;rw[PH.tU,lB,vB,hm];refine⟨a_,?_⟩;have Φ:=Λ o2 _ (by rw[aR,aL rfl]) (by rfl);have τ:¬o2=o:=(nE.1 Φ).1;have e':¬o=o2:=λh=>τ h.symm;have k1:((m+2:Nat):Int)≤((m+2+1:Nat):Int):=Om;have k2:IntKind.i64.wrap (((nl A+1:Nat):Int)-((m+2:Nat):Int))=((nl A+1-(m+2):Nat):Int):=by rw[wrap_i64 Om Om];omega
 obtain⟨e,Ω⟩:∃e,nl A+1-(m+2)=e:=⟨_,rfl⟩;have a':nl A+1=e+(m+2):=Om;rw[Ω]at k2;have k3:((e:Nat):Int)*((4:Nat):Int)≤140737488355328:=Om;have k4:((e:Nat):Int)≤9223372036854775807:=Om;have hz:bgA e [PV.int .u32 0]=aP (bgA e 0):=by simp[aP]
 have k5:m+2-0=m+2:=Om;simp only[go_sem,lB,hm,k1,k5,mb,me,k2,k3,k4,hz];refine aQ λJ ξ=>?_;have q2:¬J=o2:=(nE.1 ξ).1;have q1:¬J=o:=(nE.1 (nE.1 ξ).2).1;have υ:¬o2=J:=λh=>q2 h.symm;have f':¬o=J:=λh=>q1 h.symm;have b':gE (m+2+1) (B*2^s)=gE (m+2) (B*2^s)++[B*2^s/4294967296^(m+2)%4294967296]:=EB _ _;have Lv:=tA (m+2) (B*2^s);have lv:=rS (m+2) (B*2^s);have vv:val (gE (m+2) (B*2^s))=B*2^s:=vL κ;have σ:(aP (gE (m+2+1) (B*2^s))).take (m+2)=aP (gE (m+2) (B*2^s)):=by unfold aP;rw[←List.map_take,b',List.take_append_of_le_length Om,bgR Om]
 generalize q':gE (m+2) (B*2^s)=v at *
 have r':(gE (m+2+1) (B*2^s)).length=m+2+1:=rS _ _;have S:∀i (h:i<Z' v),(aP (gE (m+2+1) (B*2^s)))[i]?=some [.int .u32 ((v[i]:Nat):Int)]:=by intro i h;have u:(aP v)[i]?=some [.int .u32 ((v[i]:Nat):Int)]:=cU v h;rw[←σ,List.getElem?_take_of_lt Om]at u;exact u
 have g1:=S (m+1) Om;have g0:=S m Om;have htop:2147483648≤v[m+1]:=by
  have u:=dP v (Om:m+1<Z' v);rw[bgR Om,vv]at u;have M:=jU (Lv.take (m+1));rw[bgP,biP Om]at M;rcases bgV v[m+1] 2147483648 with h|h
  ·exfalso;have h3:4294967296^(m+1)*(v[m+1]+1)≤4294967296^(m+1)*2147483648:=biW _ h;rw[bgQ,bjB]at h3;rw[bhE 2147483648]at V;omega
  ·exact h
 have p':=Lv _ (bgD (Om:m+1<Z' v));have o':=Lv _ (bgD (Om:m<Z' v));have w1:IntKind.u64.wrap ((v[m+1]:Nat):Int)=((v[m+1]:Nat):Int):=bW Om;have w0:IntKind.u64.wrap ((v[m]:Nat):Int)=((v[m]:Nat):Int):=bW Om;have j1:IntKind.i64.wrap (((m+2:Nat):Int)-1)=((m+1:Nat):Int):=by rw[wrap_i64 Om Om];omega
 have j0:IntKind.i64.wrap (((m+2:Nat):Int)-2)=((m:Nat):Int):=by rw[wrap_i64 Om Om];omega
 have d1:((m+1:Nat):Int)<((m+2:Nat):Int):=Om;have d0:((m:Nat):Int)<((m+2:Nat):Int):=Om;have jq:IntKind.i64.wrap ((e:Int)-1)=(e:Int)-1:=wrap_i64 Om Om;simp only[go_sem];refine bA .nil cK a_ ?_;simp only[go_sem,mf,j1,j0,d1,d0,υ,g1,g0,w1,w0,mg,jq];have ι:A*2^s<4294967296^(nl A+1):=by
  have h0:2^s≤4294967296:=by have:(2:Nat)^s≤2^32:=Nat.pow_le_pow_right aV Om;simpa using this
  have u:A*2^s<4294967296^nl A*2^s:=Nat.mul_lt_mul_of_pos_right U E;have M:4294967296^nl A*2^s≤4294967296^nl A*4294967296:=biW _ h0;rw[biD];omega
 have LU:=tA (nl A+1) (A*2^s);have lU:=rS (nl A+1) (A*2^s);have vU:val (gE (nl A+1) (A*2^s))=A*2^s:=vL ι;have hI:vS (A*2^s) (val v) (m+2) (nl A+1) e e (gE (nl A+1) (A*2^s)) (bgA e 0):=by
  refine⟨lU,bjP,LU,EH _,by rw[vU,AF];omega,?_,λi x _ hx=>apH hx⟩
  ·rw[DD LU Om,vU,vv,bjK (bjC aV)];have u:A*2^s<4294967296^nl A*2^s:=Nat.mul_lt_mul_of_pos_right U E;have hx:nl A=m+1+e:=Om;have M:4294967296^nl A=4294967296^(m+1)*4294967296^e:=by rw[hx,Nat.pow_add]
   have h3:2^s≤2147483648:=by have:(2:Nat)^s≤2^31:=Nat.pow_le_pow_right aV hs;simpa using this
   have h4:4294967296^nl A*2^s≤(2147483648*4294967296^(m+1))*4294967296^e:=by rw[M,bhE (4294967296^(m+1)*4294967296^e),←bhB];exact bhF _ (bhF _ h3)
   have h5:(2147483648*4294967296^(m+1))*4294967296^e≤B*2^s*4294967296^e:=bhF _ V;omega
 have β:=aeU (C:=C) K.D (A*2^s) m (nl A+1) e o o2 J s v (gE (m+2+1) (B*2^s)) τ q1 q2 Lv lv σ Om htop a' Om _ hI;simp only[go_sem]at β;refine β _ _ _ ?_ (by simp only[go_sem,e',f']) (by simp only[go_sem,υ]) Sq ?_
 ·unfold dI;exact Lq
 clear β;intro U' w F' l N;have hu:val U'<val v:=by have:=l.r;rwa[bhP]at this
 have Z:=l.v;rw[vv]at hu Z;have Θ:0<B*2^s:=Om;have Γ:val w=A/B:=by
  have:A*2^s/(B*2^s)=val w:=by rw[←Z,Nat.add_mul_div_right _ _ Θ,bjI hu,bgL]
  rw[←this,Nat.mul_div_mul_right _ _ E]
 have Δ:val U'/2^s=A%B:=by
  have:A*2^s%(B*2^s)=val U':=by rw[←Z,Nat.add_mul_mod_self_right,bhS hu]
  rw[←this,Nat.mul_mod_mul_right,Nat.mul_div_cancel _ E]
 have g8:=N 8 _ (by unfold dI;simp only[go_sem];rfl);have g9:=N 9 _ (by unfold dI;simp only[go_sem];rfl);have ψ:=N 11 _ (by unfold dI;simp only[go_sem];rfl);have ω:=N 12 _ (by unfold dI;simp only[go_sem];rfl);have I:=aeV (C:=C) o (nl A+1) J e (m+2) s U' w F q1 l.limU l.lu' Om Om;simp only[go_sem]at I;simp only[go_sem];refine I _ _ g8 g9 ψ ω ?_;clear I;intro or F2 H2 r1 r2 ζ η Y;rw[Δ]at Y;have c':=ζ 12 _ (by unfold rFr;simp only[go_sem];rfl);have d':=ζ 19 _ (by unfold rFr;simp only[go_sem];rfl);have θ:A%B<4294967296^(m+2):=by have u:A%B<B:=bhZ _ W;have M:B<4294967296^nl B:=(nJ B _).1 (bgG _);rw[hm]at M;omega
 have LR:=tA (m+2) (A%B);have lR:=rS (m+2) (A%B);have vR:val (gE (m+2) (A%B))=A%B:=vL θ;have nQ:=kL l.limQ;have nR:=kL LR;have e1:=l.lq';generalize m':gE (m+2) (A%B)=R at *
 simp only[go_sem];refine bA .nil aSW a_ ?_;simp only[go_sem,mq,c'];have γ:=K.lengthO w J l.limQ Om;rw[e1]at γ;have δ:=K.lengthO R or LR Om;rw[lR]at δ;refine SA (o:=J) (x:=.rows 1 (aP w)) (v:=.int .i64 (nl (val w):Nat)) rfl η γ (Pf J w) (λr H' hr=>⟨hr.2 w l.limQ (by rw[cB]),hr.1⟩) rfl a_ ?_;have c4:((nl (val w):Nat):Int)≤(e:Nat):=Om;simp only[go_sem,c4,d',Nat.sub_zero];refine SA (o:=or) (x:=.rows 1 (aP R)) (v:=.int .i64 (nl (val R):Nat)) rfl Y δ (Pf or R) (λr H' hr=>⟨hr.2 R LR (by rw[cB]),hr.1⟩) rfl a_ ?_;have c5:((nl (val R):Nat):Int)≤((m+2:Nat):Int):=Om;simp only[go_sem,c5];refine aPP (o1:=J) (o2:=or) (s1:=1) (s2:=1) (k1:=nl (val w)) (k2:=nl (val R)) (rs1:=aP w) (rs2:=aP R) (.inr rfl) (λh=>r2 h.symm) rfl rfl η Y (by rw[dK];exact nQ) (by rw[dK];exact nR) (zU _ _ _ _) rfl ⟨?_,rfl⟩;have t1:(aP w).take (nl (val w))=aP (aM (A/B)):=by have:=nU l.limQ;rw[Γ]at this ⊢;exact this
 have t2:(aP R).take (nl (val R))=aP (aM (A%B)):=by have:=nU LR;rw[vR]at this ⊢;exact this
 rw[t1,t2];exact .refl _
def aTT(a b:Nat):PF:=((PF.nil.set 0 (aN (aM a))).set 1 (aN (aM b)))
theorem a2K{C:Ctx}(L:yM C)(e:∀A B:Nat,B≠0→nl A≤900→nl B≤900→aI C 136 [aN (aM A),aN (aM B)] .nil (aK (xX A B)))(a b:List Nat)(E:Lim a)(hb:Lim b)(I:Z' a≤35184372087808)(J:Z' b≤35184372087808) :
  cl.wp C (aW aVQ.res (cT (if gJ (val a) (val b)then .tup [aN [],.int .i64 2]else .tup [aN (aM (bgC (val a) (val b))),.int .i64 0]))) (PF.args [aN a,aN b]) .nil:=by
 simp only[go_sem,cl,ayQ,ayR,aVQ];refine aB (L.large a E I) rfl ?_;by_cases j:nl (val a)>512
 ·simp only[go_sem,j,Ic];rw[aL (by simp[gJ,j])];exact jB rfl
 simp only[go_sem,j];refine aB (L.large b hb J) rfl ?_;by_cases l:nl (val b)>512
 ·simp only[go_sem,l,Ic];rw[aL (by simp[gJ,l])];exact jB rfl
 rw[aE (by simp[gJ,j,l])];simp only[go_sem,l,ayS];refine aB (L.trim a E I) rfl ?_;simp only[go_sem];refine aB (L.trim b hb J) rfl ?_;simp only[go_sem];refine wp_loop (α:=Nat × Nat) (λt=>aTT t.1 t.2) (λ_=>.nil) (λt=>bgC t.1 t.2=bgC (val a) (val b)∧nl t.1≤512∧nl t.2≤512) (λt=>t.2) (val a,val b) ⟨rfl,by simp only;omega,by simp only;omega⟩ ?_ a_ ?_
 ·unfold aTT;exact Lq
 rintro⟨x,y⟩ ⟨w,K,F⟩;simp only at w K F;simp only[go_sem,ayP,ayT,aTT,bJ];by_cases u:y=0
 ·subst u;have:¬((nl 0:Nat):Int)>0:=by rw[IF];decide
  simp only[go_sem,this,ayW];refine bB (vs:=[aN (aM x),.int .i64 0]) (.inr rfl) .nil rfl a_ ⟨?_,rfl⟩;rw[←w,Nat.gcd_zero_right];exact .refl _
 ·have M:nl y≠0:=λh=>u (mV.1 h);have:((nl y:Nat):Int)>0:=Om;simp only[go_sem,this,ayU];refine aB (e x y u Om Om) rfl ?_;simp only[go_sem,xX,ayV];have hlt:x%y<y:=bhZ _ (biX u);refine aG (y,x%y) ⟨?_,F,?_⟩ hlt ?_ a_
  ·simp only;rw[←w,Nat.gcd_comm y,←Nat.gcd_rec y x,Nat.gcd_comm]
  ·have:=kW (Nat.le_of_lt hlt);simp only;omega
  ·exact Lq
def tJ(A B:Nat):PV:=if gJ A B then .tup [aN [],aN [],.int .i64 2]else if B=0 then .tup [aN [],aN [],.int .i64 3]else .tup [aN (aM (A/B)),aN (aM (A%B)),.int .i64 0]
def aIN:Spec:=λname vs=>match name,vs with
 |138,[x]=>some ([],λ_=>aK (.int .i64 (nl (val (nS x)):Nat)))
 |136,[x,y]=>some ([],λ_=>aK (xX (val (nS x)) (val (nS y))))
 |_,_=>none
theorem ch(xs:List Nat):aIN 138 [aN xs]=some ([],λ_=>aK (.int .i64 (nl (val xs):Nat))):=by
 show some _=_;rw[hJ]
theorem aeT(A B:Nat):aIN 136 [aN (aM A),aN (aM B)]=some ([],λ_=>aK (xX A B)):=by
 show some _=_;rw[hJ,hJ,aZ,aZ]
theorem zX{res:List fL}{F:PF}{H:PH}{e:Int}(h:fL.evs F H res=some [.aH,.aH,.int .i64 e]):aW res (cT (.tup [aN [],aN [],.int .i64 e])) .ret F H:=by
 refine bB (.inr rfl) .nil h a_ ⟨?_,rfl⟩;refine .tup rfl λj p q l hq=>?_
 match j with
 |0=>simp at l hq;subst l;subst hq;exact .nil 1
 |1=>simp at l hq;subst l;subst hq;exact .nil 1
 |2=>simp at l hq;subst l;subst hq;exact .refl _
 |j+3=>simp at l
theorem a2F{C:Ctx}(L:yM C)(l:∀A B:Nat,B≠0→nl A≤900→nl B≤900→aI C 136 [aN (aM A),aN (aM B)] .nil (aK (xX A B)))(a b:List Nat)(w:Lim a)(hb:Lim b)(F:Z' a≤35184372087808)(E:Z' b≤35184372087808) :
  ci.wp C (aW aVM.res (cT (tJ (val a) (val b)))) (PF.args [aN a,aN b]) .nil:=by
 simp only[go_sem,ci,ayC,ayD,aVM];refine aB (L.large a w F) rfl ?_;by_cases e:nl (val a)>512
 ·simp only[go_sem,e,Hw];rw[show tJ (val a) (val b)=.tup [aN [],aN [],.int .i64 2] by simp[tJ,gJ,e]];exact zX rfl
 simp only[go_sem,e];refine aB (L.large b hb E) rfl ?_;by_cases u:nl (val b)>512
 ·simp only[go_sem,u,Hw];rw[show tJ (val a) (val b)=.tup [aN [],aN [],.int .i64 2] by simp[tJ,gJ,u]];exact zX rfl
 simp only[go_sem,u,ayE];refine aB (L.length b hb E) rfl ?_;by_cases j:val b=0
 ·have:((nl (val b):Nat):Int)=0:=by rw[j,IF];rfl
  simp only[go_sem,bT this,ayF];rw[show tJ (val a) (val b)=.tup [aN [],aN [],.int .i64 3] by simp[tJ,gJ,e,j,IF]];exact zX rfl
 have I:nl (val b)≠0:=λh=>j (mV.1 h);rw[show tJ (val a) (val b)=.tup [aN (aM (val a/val b)),aN (aM (val a%val b)),.int .i64 0] by simp[tJ,gJ,e,u,j]];simp only[go_sem,bD (show((nl (val b):Nat):Int)≠0 by omega)];refine bA .nil aIN a_ ?_;simp only[go_sem,ayG];have J:=kL w;have K:=kL hb;have x:((nl (val a):Nat):Int)≤(Z' a:Nat):=Om;have y:((nl (val b):Nat):Int)≤(Z' b:Nat):=Om;refine cO (ch a) (L.length a w F) rfl a_ ?_;simp only[go_sem,x,or_true,bhP,nU w];refine cO (ch b) (L.length b hb E) rfl a_ ?_;simp only[go_sem,y,or_true,bhP,nU hb];refine cO (aeT (val a) (val b)) (l _ _ j Om Om) rfl a_ ?_;simp only[go_sem,xX,ayH];exact bB (.inr rfl) .nil rfl a_ ⟨.refl _,rfl⟩
def pL:=bO [] Proofs.Tryz.f123
def zg:=aA pL 0
def zh:=aA pL 1
def zi:=aA pL 2
def zj:=aA pL 3
def zk:=aA pL 4
def SJ:=aA pL 5
def FS:=aA pL 6
def SK:=aA pL 7
def IX:aC:=(sq zg (.seq (sq zh (sq zi (.cond (Tm 18) (sq zj (.region zk)) .skip))) (dA SJ 40 FS (sq SK .ret))))
def CH:aX:=⟨3,53,IX,[.cell 6 (some 3),.tmp 7]⟩
def NB:=bO [] Proofs.Tryz.f127
def Kg:=aA NB 0
def Kh:=aA NB 1
def Ki:=aA NB 2
def NA:aC:=(sq Kg (sq Kh (sq Ki .ret)))
def Xu:aX:=⟨2,14,NA,[.tmp 4]⟩
def z8:=bO [1] Proofs.Tryz.f128
def Ye:=aA z8 0
def Yf:=aA z8 1
def SR:aC:=(sq Ye (sq Yf .ret))
def aGU:aX:=⟨1,7,SR,[.tmp 2]⟩
def FT:=bO [] Proofs.Tryz.f92
def Wy:=aA FT 0
def Wz:=aA FT 1
def W0:=aA FT 2
def W1:=aA FT 3
def SL:aC:=(sq Wy (dA Wz 7 W0 (sq W1 .ret)))
def Us:aX:=⟨2,21,SL,[.cell 4 (some 3),.tmp 5]⟩
def KO:=bO [] Proofs.Tryz.f124
def arZ:=aA KO 0
def asA:=aA KO 1
def asB:=aA KO 2
def asC:=aA KO 3
def ZZ:aC:=(sq arZ (dA asA 4 asB (sq asC .ret)))
def aTE:aX:=⟨1,12,ZZ,[.tmp 2]⟩
def ND:=bO [1] Proofs.Tryz.f125
def Kj:=aA ND 0
def Kl:=aA ND 1
def KT:=aA ND 2
def NC:aC:=(sq Kj (sq Kl (sq KT .ret)))
def Xv:aX:=⟨1,19,NC,[.tmp 2]⟩
def AU:=bO [1] Proofs.Tryz.f119
def zu:=aA AU 0
def zw:=aA AU 1
def zx:=aA AU 2
def zy:=aA AU 3
def IY:aC:=(sq zu (dA zw 6 zx (sq zy .ret)))
def jg:aX:=⟨1,17,IY,[.cell 2 (some 3),.tmp 3]⟩
def oQ:=bO [2,3] Proofs.Tryz.f93
def asU:=aA oQ 0
def asV:=aA oQ 1
def G0:=aA oQ 2
def asW:=cA oQ 0
def asX:=cA oQ 1
def HU:=aA oQ 3
def G1:=aA oQ 4
def QR:=aA oQ 5
def G2:=aA oQ 6
def jf:=aA oQ 7
def qp:=aA oQ 8
def qq:=aA oQ 9
def ai:aC:=(sq asU (dA asV 16 G0 (dq asW (dq asX (.seq (.block 0 (sq HU (.cond (Tm 42) (sq G1 .ret) (sq QR (.cond (Tm 49) (sq G2 .ret) (sq jf (.cond (Tm 51) (sq qp .ret) .skip))))))) (sq qq .ret))))))
def aTG:aX:=⟨2,54,ai,[.tmp 4,.tmp 5]⟩
def oP:=bO [2,3] Proofs.Tryz.f122
def asD:=aA oP 0
def asE:=aA oP 1
def Gz:=aA oP 2
def asF:=cA oP 0
def asG:=aA oP 3
def asH:=aA oP 4
def asI:=aA oP 5
def asJ:=aA oP 6
def asK:=aA oP 7
def asL:=aA oP 8
def Wh:=aA oP 9
def Wi:=aA oP 10
def aa:aC:=(sq asD (dA asE 22 Gz (dq asF (jA asG 43 (sq asH (sq asI .ret)) (jA asJ 60 (sq asK (sq asL .ret)) (sq Wh (sq Wi .ret)))))))
def Gy:aX:=⟨2,87,aa,[.cell 4 (some 3),.tmp 5]⟩
def pM:=bO [] Proofs.Tryz.f91
def atQ:=aA pM 0
def atS:=aA pM 1
def atT:=aA pM 2
def atU:=aA pM 3
def atV:=aA pM 4
def atW:=aA pM 5
def G6:=aA pM 6
def atX:=aA pM 7
def atY:=aA pM 8
def atZ:=aA pM 9
def Xt:aC:=(fH atU 14 0 atZ (sq atV (sq atW (dA G6 24 atX (.region atY)))))
def rk:=aA pM 10
def au:aC:=(sq atQ (sq atS (.seq (cE atT 0 Xt) (sq rk .ret))))
def Xs:aX:=⟨1,30,au,[.cell 2 (some 3),.tmp 3]⟩
theorem CoL.nil:CoL [] []:=.refl _
theorem CoL.cons{p q:PV}{ps u:List PV}(h:Co p q)(l:CoL ps u):CoL (p::ps) (q::u):=
 ⟨by simp[l.len],λj a b e hb=>by
  cases j with
  |zero=>simp at e hb;subst e;subst hb;exact h
  |succ j=>exact l.at_ j a b (by simpa using e) (by simpa using hb)⟩
theorem CoL.agg{ps e:List PV}(h:CoL ps e):Co (.agg ps) (.agg e):=.agg h.len h.at_
theorem CoL.tup{ps e:List PV}(h:CoL ps e):Co (.tup ps) (.tup e):=.tup h.len h.at_
structure AM(C:Ctx):Prop extends yM C where
 bits:∀xs,Lim xs→Z' xs≤35184372087808→aI C 128 [aN xs] .nil (aK (.int .i64 (dZ (val xs):Nat)))
 add:∀xs ys,Lim xs→Lim ys→Z' xs≤35184372087808→Z' ys≤35184372087808→aI C 127 [aN xs,aN ys] .nil (aK (opV (gJ (val xs) (val ys)) (val xs+val ys)))
 sub:∀xs ys,Lim xs→Lim ys→Z' xs≤35184372087808→Z' ys≤35184372087808→aI C 134 [aN xs,aN ys] .nil (aK (zN (val xs) (val ys)))
 mul:∀xs ys,Lim xs→Lim ys→Z' xs≤35184372087808→Z' ys≤35184372087808→aI C 133 [aN xs,aN ys] .nil (aK (opV (gJ (val xs) (val ys)) (val xs*val ys)))
 gcd:∀xs ys,Lim xs→Lim ys→Z' xs≤35184372087808→Z' ys≤35184372087808→aI C 131 [aN xs,aN ys] .nil (aK (if gJ (val xs) (val ys)then .tup [aN [],.int .i64 2]else .tup [aN (aM (bgC (val xs) (val ys))),.int .i64 0]))
 div:∀xs ys,Lim xs→Lim ys→Z' xs≤35184372087808→Z' ys≤35184372087808→aI C 130 [aN xs,aN ys] .nil (aK (tJ (val xs) (val ys)))
theorem mT{a b:Nat}(e:nl a≤512)(hb:nl b≤512):gJ a b=false:=by
 simp[gJ];omega
theorem rY{a b m n:Nat}(e:nl a≤m)(hb:nl b≤n):nl (a*b)≤m+n:=by
 rw[nJ]at e hb ⊢;rw[Nat.pow_add];by_cases h:b=0
 ·subst h;exact Nat.mul_pos (bjC aV) (bjC aV)
 ·calc a*b<4294967296^m*b:=Nat.mul_lt_mul_of_pos_right e (biX h)
   _≤4294967296^m*4294967296^n:=biW _ (Nat.le_of_lt hb)
theorem JV{n:Nat}(h:nl n≤512):szV n=.tup [aN (aM n),.int .i64 0]:=by
 have:¬nl n>512:=Om;simp[szV,szL,szE,this]
theorem aMS{C:Ctx}(L:AM C)(a b:List Nat)(e:Lim a)(hb:Lim b)(j:Z' a≤35184372087808)(l:Z' b≤35184372087808)(u:nl (val a)≤256)(w:nl (val b)≤256) :
  NA.wp C (aW Xu.res (aK (aN (aM (val a*val b))))) (PF.args [aN a,aN b]) .nil:=by
 simp only[go_sem,NA,Kg,Kh,Xu];refine aB (L.mul a b e hb j l) rfl ?_;have:=rY u w;rw[mT Om Om,opV,JV Om];simp only[go_sem,Ki];refine aU (.inr rfl) rfl ?_;rfl
abbrev hZ(neg:Bool)(a b:List Nat):List PV:=[.bool neg,aN a,aN b]
theorem aTP{C:Ctx}(L:AM C)(neg:Bool)(a b:List Nat)(e:Lim a)(j:Z' a≤35184372087808) :
  SR.wp C (aW aGU.res (aK (.bool (decide (val a=0))))) (PF.args [.agg (hZ neg a b)]) .nil:=by
 simp only[go_sem,SR,Ye,Yf,aGU];refine aB (L.bits a e j) rfl ?_;simp only[go_sem];refine aU (.inr rfl) rfl ?_;have:=@pJ (val a);by_cases c:val a=0
 ·rw[bT Om,bX c];rfl
 ·rw[bD Om,bV c];rfl
def eJ(a b:Nat):Bool:=decide (0<dZ b)&&decide (dZ b≤4096)&&decide (dZ a≤4096)
theorem aMT{C:Ctx}(L:AM C)(neg:Bool)(a b:List Nat)(w:Lim a)(hb:Lim b)(x:Z' a≤35184372087808)(y:Z' b≤35184372087808) :
  NC.wp C (aW Xv.res (aK (.bool (eJ (val a) (val b))))) (PF.args [.agg (hZ neg a b)]) .nil:=by
 simp only[go_sem,NC,Kj,Kl,Xv];refine aB (L.bits b hb y) rfl ?_;by_cases l:0<dZ (val b)
 ·have e:((dZ (val b):Nat):Int)>0:=Om;by_cases u:dZ (val b)≤4096
  ·have j:((dZ (val b):Nat):Int)≤4096:=Om;simp only[go_sem,KT,e,j];refine aB (L.bits a w x) rfl ?_;simp only[go_sem];refine aU (.inr rfl) rfl ?_;show PV.bool (decide _)=_;rw[eJ,bX l,bX u,bgO,bgO];congr 1;rw[decide_eq_decide];omega
  ·have j:¬((dZ (val b):Nat):Int)≤4096:=Om;simp only[go_sem,KT,e,j];refine aU (.inr rfl) rfl ?_;show PV.bool _=_;simp[eJ,l,u]
 ·have e:¬((dZ (val b):Nat):Int)>0:=Om;simp only[go_sem,KT,e];refine aU (.inr rfl) rfl ?_;show PV.bool _=_;simp[eJ,l]
theorem a0M{C:Ctx}(L:AM C)(v:Int)(j:-9223372036854775808≤v)(l:v≤9223372036854775807) :
  ZZ.wp C (aW aTE.res (aK (aN (aM v.natAbs)))) (PF.args [.int .i64 v]) .nil:=by
 simp only[go_sem,ZZ,arZ,asA,aTE];by_cases c:v<0
 ·have e:IntKind.u64.wrap (0-IntKind.u64.wrap v)=(v.natAbs:Int):=by rw[kZ,kZ];omega
  simp only[go_sem,c,asB,e];refine aB (L.make v.natAbs Om) rfl ?_;simp only[go_sem];refine aU (.inr rfl) rfl ?_;rfl
 ·have e:IntKind.u64.wrap v=(v.natAbs:Int):=by rw[kZ];omega
  simp only[go_sem,c,asC,e];refine aB (L.make v.natAbs Om) rfl ?_;simp only[go_sem];refine aU (.inr rfl) rfl ?_;rfl
abbrev KR(e:Int):PV:=.tup [.agg (hZ false [] []),.int .i64 e]
abbrev aGT(neg:Bool)(a b:Nat):PV:=.tup [.agg (hZ neg (aM a) (aM b)),.int .i64 0]
def TT(neg:Bool)(a b:Nat):PV:=
 if dZ (a/bgC a b)>4096∨dZ (b/bgC a b)>4096 then KR 2 else aGT (neg&&decide (a/bgC a b≠0)) (a/bgC a b) (b/bgC a b)
theorem mU{res:List fL}{F:PF}{H:PH}{e:Int}(h:fL.evs F H res=some [.agg [.bool false,.aH,.aH],.int .i64 e]):aW res (cT (KR e)) .ret F H:=
 bB (.inr rfl) .nil h a_ ⟨CoL.tup (.cons (CoL.agg (.cons (.refl _) (.cons (.nil 1) (.cons (.nil 1) .nil)))) (.cons (.refl _) .nil)),rfl⟩
theorem Vy{n:Nat}:dZ n>1↔n>1:=by
 have:=sE n 1;omega
theorem Cb{a n:Nat}(g:Nat)(h:nl a≤n):nl (a/g)≤n:=biJ (kW (bjJ _ _)) h
theorem an{C:Ctx}(L:AM C)(neg:Bool)(a b:List Nat)(w:Lim a)(hb:Lim b)(x:Z' a≤35184372087808)(y:Z' b≤35184372087808)(o:Nat)(F:PF)(H:PH)
  (f0:F 0=some (.bool neg)) (f1:F 1=some (aN a)) (f2:F 2=some (aN b)) (f6:F 6=some (.ptr o 3 0 0)) (f7:F 7=some (.int .i64 0)) (j:H o=some (.rows 3 [[.bool false,.aH,.aH]])) :
  aC.wp C (.seq (.seq (.region SJ) (.cond (.tmp 40) (.seq (.region FS) .ret) .skip)) (.seq (.region SK) .ret)) (aW CH.res (cT (if dZ (val a)>4096∨dZ (val b)>4096 then KR 2 else aGT (neg&&decide (val a≠0)) (val a) (val b)))) F H:=by
 have fin:∀(r:List (List PV)) F H,F 6=some (.ptr o 3 0 0)→F 7=some (.int .i64 2)→H o=some (.rows 3 [[.bool false,.aH,.aH]])→aW CH.res (cT (KR 2)) .ret F H:=by intro r F H E h7 h;refine mU ?_;simp only[go_sem,CH,E,h7,h]
 simp only[go_sem,SJ,f1];refine aB (L.bits a w x) rfl ?_;by_cases A:dZ (val a)>4096
 ·have l:((dZ (val a):Nat):Int)>4096:=Om;rw[aL (.inl A)];simp only[go_sem,l,FS,f6,j];exact fin [] _ _ (by simp only[go_sem,f6]) rfl Sq
 ·have l:¬((dZ (val a):Nat):Int)>4096:=Om;simp only[go_sem,l,f2];refine aB (L.bits b hb y) rfl ?_;by_cases B:dZ (val b)>4096
  ·have u:((dZ (val b):Nat):Int)>4096:=Om;rw[aL (.inr B)];simp only[go_sem,u,FS,f6,j];exact fin [] _ _ (by simp only[go_sem,f6]) rfl Sq
  ·have u:¬((dZ (val b):Nat):Int)>4096:=Om;rw[aE Om];have last:∀F:PF,F 1=some (aN a)→F 2=some (aN b)→F 6=some (.ptr o 3 0 0)→∀(q:Bool),q=(neg&&decide (val a≠0))→F 47=some (.bool q) →
     True:=λ_ _ _ _ _ _ _=>trivial
   simp only[go_sem,u,SK,f0,f1,f2,f6,j];cases neg with
   |false =>simp only[go_sem,f0,f1,f2,f6,j];refine aB (L.trim a w x) rfl ?_;simp only[go_sem,f0,f1,f2,f6,j];refine aB (L.trim b hb y) rfl ?_;simp only[go_sem,f0,f1,f2,f6,j,bgK];refine bB (.inr rfl) .nil (vs:=[.agg (hZ false (aM (val a)) (aM (val b))),.int .i64 0]) ?_ a_ ⟨.refl _,rfl⟩;simp only[go_sem,CH,f6,j]
   |true=>
    simp only[go_sem,f0,f1,f2,f6,j];refine aB (L.bits a w x) rfl ?_;have e:decide (((dZ (val a):Nat):Int)>0)=decide (val a≠0):=by have:=@pJ (val a);rw[decide_eq_decide];omega
    simp only[go_sem,f0,f1,f2,f6,j,e];refine aB (L.trim a w x) rfl ?_;simp only[go_sem,f0,f1,f2,f6,j];refine aB (L.trim b hb y) rfl ?_;simp only[go_sem,f0,f1,f2,f6,j,bgO];refine bB (.inr rfl) .nil (vs:=[.agg (hZ (decide (val a≠0)) (aM (val a)) (aM (val b))),.int .i64 0]) ?_ a_ ⟨.refl _,rfl⟩;simp only[go_sem,CH,f6,j]
theorem aGP{C:Ctx}(L:AM C)(neg:Bool)(a b:List Nat)(x:Lim a)(hb:Lim b)(y:Z' a≤35184372087808)(A:Z' b≤35184372087808)(B:nl (val a)≤512)(u:nl (val b)≤512)(E:val b≠0) :
  IX.wp C (aW CH.res (cT (TT neg (val a) (val b)))) (PF.args [.bool neg,aN a,aN b]) .nil:=by
 simp only[go_sem,IX,zg,zh];refine aQ λo J=>?_;simp only[go_sem];refine aB (L.gcd a b x hb y A) rfl ?_;rw[mT B u];simp only[go_sem,zi];have j:bgC (val a) (val b)≠0:=by intro h;exact E (Nat.gcd_eq_zero_iff.1 h).2
 have l:nl (bgC (val a) (val b))≤512:=biJ (kW (Nat.gcd_le_right _ (biX E))) u;have e:(aM (bgC (val a) (val b))).length≤35184372087808:=by rw[bJ];omega
 refine aB (L.bits _ (bC _) e) rfl ?_;rw[aZ];by_cases c:bgC (val a) (val b)>1
 ·have w:((dZ (bgC (val a) (val b)):Nat):Int)>1:=by have:=Vy.2 c;omega
  simp only[go_sem,w,zj];refine aB (L.div a _ x (bC _) y e) rfl ?_;rw[aZ,tJ,mT B l,aE aV,aE j];simp only[go_sem,zk];refine aB (L.div b _ hb (bC _) A e) rfl ?_;rw[aZ,tJ,mT u l,aE aV,aE j];simp only[go_sem];have:=an L neg (aM (val a/bgC (val a) (val b))) (aM (val b/bgC (val a) (val b))) (bC _) (bC _) (by rw[bJ];have:=Cb (bgC (val a) (val b)) B;omega) (by rw[bJ];have:=Cb (bgC (val a) (val b)) u;omega) o;rw[aZ,aZ]at this;have:=λF H=>this F H;simp only[aC.wp,go_sem]at this;exact this _ _ rfl rfl rfl rfl rfl Sq
 ·have w:¬((dZ (bgC (val a) (val b)):Nat):Int)>1:=by have:=(@Vy (bgC (val a) (val b)));omega
  have I:bgC (val a) (val b)=1:=Om;simp only[go_sem,w];rw[TT,I,Nat.div_one,Nat.div_one];have:=an L neg a b x hb y A o;simp only[aC.wp,go_sem]at this;exact this _ _ rfl rfl rfl rfl rfl Sq
structure RR(C:Ctx):Prop extends AM C where
 times:∀a b,Lim a→Lim b→Z' a≤35184372087808→Z' b≤35184372087808→nl (val a)≤256→nl (val b)≤256→aI C 121 [aN a,aN b] .nil (aK (aN (aM (val a*val b))))
 zero:∀neg a b,Lim a→Z' a≤35184372087808→aI C 122 [.agg (hZ neg a b)] .nil (aK (.bool (decide (val a=0))))
 valid:∀neg a b,Lim a→Lim b→Z' a≤35184372087808→Z' b≤35184372087808→aI C 118 [.agg (hZ neg a b)] .nil (aK (.bool (eJ (val a) (val b))))
 abs:∀v:Int,-9223372036854775808≤v→v≤9223372036854775807→aI C 119 [.int .i64 v] .nil (aK (aN (aM v.natAbs)))
 lowest:∀neg a b,Lim a→Lim b→Z' a≤35184372087808→Z' b≤35184372087808→nl (val a)≤512→nl (val b)≤512→val b≠0→aI C 120 [.bool neg,aN a,aN b] .nil (aK (TT neg (val a) (val b)))
def Ao(n d:Int):PV:=if d=0 then KR 3 else TT (decide (n<0) != decide (d<0)) n.natAbs d.natAbs
theorem uQ{n k:Nat}(h:n<4294967296^k):nl n≤k:=(nJ _ _).2 h
theorem abJ(neg:Bool)(a b:Nat):∃j x y e,TT neg a b=.tup [.agg (hZ j x y),.int .i64 e]:=by
 unfold TT;split
 ·exact⟨_,_,_,_,rfl⟩
 ·exact⟨_,_,_,_,rfl⟩
theorem aTK{C:Ctx}(L:RR C)(n d:Int)(l:-9223372036854775808≤n)(u:n≤9223372036854775807)(w:-9223372036854775808≤d)(A:d≤9223372036854775807) :
  SL.wp C (aW Us.res (cT (Ao n d))) (PF.args [.int .i64 n,.int .i64 d]) .nil:=by
 simp only[go_sem,SL,Wy,Wz];refine aQ λo E=>?_;unfold Ao;by_cases c:d=0
 ·subst c;simp only[go_sem,W0];refine mU ?_;simp only[go_sem,Us]
 ·rw[aE c];simp only[go_sem,bD c,W1];refine aB (L.abs n l u) rfl ?_;simp only[go_sem];refine aB (L.abs d w A) rfl ?_;simp only[go_sem];have F:nl n.natAbs≤2:=uQ Om;have I:nl d.natAbs≤2:=uQ Om;have low:=L.lowest (decide (n<0) != decide (d<0)) (aM n.natAbs) (aM d.natAbs) (bC _) (bC _) (by rw[bJ];omega) (by rw[bJ];omega);rw[aZ,aZ]at low;have low:=low Om Om Om;refine aB low rfl ?_;obtain⟨j,x,y,e,B⟩:=abJ (decide (n<0) != decide (d<0)) n.natAbs d.natAbs;rw[B];simp only[go_sem];exact bB (.inr rfl) .nil (vs:=[.agg (hZ j x y),.int .i64 e]) (by simp only[go_sem,Us]) a_ ⟨.refl _,rfl⟩
theorem kR{a b:Nat}:eJ a b=true↔b≠0∧nl b≤128∧nl a≤128:=by
 have e:=sF b 128;have j:=sF a 128;have l:=@pJ b;simp only[eJ,bgU,decide_eq_true_eq];omega
def j8(neg:Bool)(a b:Nat):PV:=if eJ a b then TT neg a b else KR 1
theorem aGS{C:Ctx}(L:RR C)(neg:Bool)(a b:List Nat)(l:Lim a)(hb:Lim b)(u:Z' a≤35184372087808)(w:Z' b≤35184372087808) :
  IY.wp C (aW jg.res (cT (j8 neg (val a) (val b)))) (PF.args [.agg (hZ neg a b)]) .nil:=by
 simp only[go_sem,IY,zu,zw];refine aQ λo F=>?_;simp only[go_sem];refine aB (L.valid neg a b l hb u w) rfl ?_;unfold j8;cases B:eJ (val a) (val b)with
 |false =>simp only[go_sem,zx,bgS];refine mU ?_;simp only[go_sem,jg]
 |true =>obtain⟨E,I,J⟩:=kR.1 B;simp only[go_sem,zy,bgJ];refine aB (L.lowest neg a b l hb u w Om Om E) rfl ?_;obtain⟨j,x,y,e,A⟩:=abJ neg (val a) (val b);rw[A];simp only[go_sem];exact bB (.inr rfl) .nil (vs:=[.agg (hZ j x y),.int .i64 e]) (by simp only[go_sem,jg]) a_ ⟨.refl _,rfl⟩
def wJ(l:Bool)(a1 e:Nat)(u:Bool)(a2 j:Nat):Int:=
 match l&&decide (a1≠0),u&&decide (a2≠0)with
 |true,true=>- fJ (a1*j) (a2*e)
 |true,false=>-1
 |false,true=>1
 |false,false=>fJ (a1*j) (a2*e)
def KP(l:Bool)(a1 e:Nat)(u:Bool)(a2 j:Nat):PV:=
 if eJ a1 e&&eJ a2 j then .tup [.int .i64 (wJ l a1 e u a2 j),.int .i64 0]else .tup [.int .i64 0,.int .i64 1]
def fr1:PV→List Nat
 | .agg [_,a,_]=>nS a
 |_=>[]
def frS:Spec:=λname vs=>match name,vs with
 |121,[x,y]=>some ([],λ_=>aK (aN (aM (val (nS x)*val (nS y)))))
 |129,[x,y]=>some ([],λ_=>aK (.int .i64 (fJ (val (nS x)) (val (nS y)))))
 |122,[x]=>some ([],λ_=>aK (.bool (decide (val (fr1 x)=0))))
 |_,_=>none
theorem EF(a b:List Nat):frS 121 [aN a,aN b]=some ([],λ_=>aK (aN (aM (val a*val b)))):=by
 show some _=_;rw[hJ,hJ]
theorem a0U(a b:List Nat):frS 129 [aN a,aN b]=some ([],λ_=>aK (.int .i64 (fJ (val a) (val b)))):=by
 show some _=_;rw[hJ,hJ]
theorem rh(neg:Bool)(a b:List Nat):frS 122 [.agg (hZ neg a b)]=some ([],λ_=>aK (.bool (decide (val a=0)))):=by
 show some _=_;rw[fr1,hJ]
theorem aSN(a b:Nat):IntKind.i64.wrap (0-fJ a b)=- fJ a b:=by
 unfold fJ;split
 ·rfl
 ·split<;>rfl
theorem a0P{C:Ctx}(L:RR C)(E y:Bool)(a1 j a2 e:List Nat)(w:Lim a1)(I:Lim j)(l:Lim a2)(J:Lim e)
  (x:Z' a1≤35184372087808) (K:Z' j≤35184372087808) (u:Z' a2≤35184372087808) (M:Z' e≤35184372087808) :
  ai.wp C (aW aTG.res (cT (KP E (val a1) (val j) y (val a2) (val e)))) (PF.args [.agg (hZ E a1 j),.agg (hZ y a2 e)]) .nil:=by
 simp only[go_sem,ai,asU,asV];refine aB (L.valid E a1 j w I x K) rfl ?_;unfold KP;cases V:eJ (val a1) (val j)with
 |false =>simp only[go_sem,bgS,G0,bgK];exact bB (.inr rfl) .nil (vs:=[.int .i64 0,.int .i64 1]) rfl a_ ⟨.refl _,rfl⟩
 |true=>
  obtain⟨v1,X,Y⟩:=kR.1 V;simp only[go_sem,bgJ];refine aB (L.valid y a2 e l J u M) rfl ?_;cases W:eJ (val a2) (val e)with
  |false =>simp only[go_sem,bgS,G0,bhO];exact bB (.inr rfl) .nil (vs:=[.int .i64 0,.int .i64 1]) rfl a_ ⟨.refl _,rfl⟩
  |true=>
   obtain⟨w1,Z,w3⟩:=kR.1 W;simp only[go_sem,bgJ,biG];refine bA .nil frS a_ ?_;simp only[go_sem,asW];refine cO (EF a1 e) (L.times a1 e w J x M Om Om) rfl a_ ?_;simp only[go_sem];refine cO (EF a2 j) (L.times a2 j l I u K Om Om) rfl a_ ?_;simp only[go_sem];have m1:=rY Y Z;have m2:=rY w3 X;have O:=L.cmp (aM (val a1*val e)) (aM (val a2*val j)) (bC _) (bC _) (by rw[bJ];omega) (by rw[bJ];omega);have R:=a0U (aM (val a1*val e)) (aM (val a2*val j));rw[aZ,aZ]at O R;refine cO R O rfl a_ ?_;simp only[go_sem];refine bA .nil frS a_ ?_;have z1:(!decide (val a1=0))=decide (val a1≠0):=by by_cases h:val a1=0<;>simp[h]
   have S:(!decide (val a2=0))=decide (val a2≠0):=by by_cases h:val a2=0<;>simp[h]
   have fin:∀(F:PF)(A B:Bool),F 6=some (.int .i64 (fJ (val a1*val e) (val a2*val j)))→F 7=some (.bool A)→F 8=some (.bool B)→A=(E&&decide (val a1≠0))→B=(y&&decide (val a2≠0)) →
     aC.wp C (.seq (.block 0 (.seq (.region HU) (.cond (.tmp 42) (.seq (.region G1) .ret) (.seq (.region QR) (.cond (.tmp 49) (.seq (.region G2) .ret) (.seq (.region jf) (.cond (.tmp 51) (.seq (.region qp) .ret) .skip))))))) (.seq (.region qq) .ret)) (aW aTG.res (cT (.tup [.int .i64 (wJ E (val a1) (val j) y (val a2) (val e)),.int .i64 0]))) F .nil:=by
    intro F A B f6 f7 N U hB;rw[wJ,←U,←hB];cases A<;>cases B
    ·simp only[go_sem,HU,QR,jf,qq,f6,f7,N];exact bB (.inr rfl) .nil rfl a_ ⟨.refl _,rfl⟩
    ·simp only[go_sem,HU,QR,jf,qp,f6,f7,N];exact bB (.inr rfl) .nil rfl a_ ⟨.refl _,rfl⟩
    ·simp only[go_sem,HU,QR,G2,f6,f7,N];exact bB (.inr rfl) .nil rfl a_ ⟨.refl _,rfl⟩
    ·simp only[go_sem,HU,G1,f6,f7,N,aSN];exact bB (.inr rfl) .nil rfl a_ ⟨.refl _,rfl⟩
   simp only[aC.wp,go_sem]at fin;simp only[go_sem,asX];cases E with
   |false=>
    simp only[go_sem];cases y with
    |false =>simp only[go_sem];exact fin _ false false rfl rfl rfl rfl rfl
    |true =>simp only[go_sem];refine cO (rh true a2 e) (L.zero true a2 e l u) rfl a_ ?_;simp only[go_sem,S];exact fin _ false (decide (val a2≠0)) rfl rfl rfl rfl (by rw[bgO])
   |true=>
    simp only[go_sem];refine cO (rh true a1 j) (L.zero true a1 j w x) rfl a_ ?_;simp only[go_sem,z1];cases y with
    |false =>simp only[go_sem];exact fin _ (decide (val a1≠0)) false rfl rfl rfl (by rw[bgO]) rfl
    |true =>simp only[go_sem];refine cO (rh true a2 e) (L.zero true a2 e l u) rfl a_ ?_;simp only[go_sem,S];exact fin _ (decide (val a1≠0)) (decide (val a2≠0)) rfl rfl rfl (by rw[bgO]) (by rw[bgO])
abbrev FV:=Bool × Nat × Nat
abbrev FR:=Except Int FV
def nB(neg:Bool)(a b:Nat):FR:=
 if dZ (a/bgC a b)>4096∨dZ (b/bgC a b)>4096 then .error 2 else .ok (neg&&decide (a/bgC a b≠0),a/bgC a b,b/bgC a b)
def frV:FR→PV
 | .ok (n,a,b)=>aGT n a b
 | .error e=>KR e
theorem Hi(neg:Bool)(a b:Nat):TT neg a b=frV (nB neg a b):=by
 unfold TT nB;split<;>rfl
def mE:FV→FV→FR
 |(l,a1,e),(u,a2,j)=>if eJ a1 e&&eJ a2 j then
   (if l=u then nB l (a1*j+a2*e) (e*j)else if a2*e≤a1*j then nB l (a1*j-a2*e) (e*j)else nB u (a2*e-a1*j) (e*j))
  else .error 1
theorem aeY{a b m:Nat}(e:nl a≤m)(hb:nl b≤m):nl (a+b)≤m+1:=by
 rw[nJ]at e hb ⊢;rw[biD];omega
theorem i9(a b:Nat):(fJ a b≥0)↔b≤a:=by
 unfold fJ;split
 ·constructor
  ·intro h;exact absurd h aV
  ·intro h;omega
 ·split
  ·constructor
   ·intro h;omega
   ·intro h;decide
  ·constructor
   ·intro h;omega
   ·intro h;decide
theorem CI(r:FR):∃j x y e,frV r=.tup [.agg (hZ j x y),.int .i64 e]:=by
 rcases r with e|⟨n,a,b⟩
 ·exact⟨_,_,_,_,rfl⟩
 ·exact⟨_,_,_,_,rfl⟩
theorem a0N{C:Ctx}(L:RR C)(w I:Bool)(a1 l a2 u:List Nat)(S:Lim a1)(M:Lim l)(U:Lim a2)(N:Lim u)
  (V:Z' a1≤35184372087808) (O:Z' l≤35184372087808) (W:Z' a2≤35184372087808) (R:Z' u≤35184372087808) :
  aa.wp C (aW Gy.res (cT (frV (mE (w,val a1,val l) (I,val a2,val u))))) (PF.args [.agg (hZ w a1 l),.agg (hZ I a2 u)]) .nil:=by
 simp only[go_sem,aa,asD];refine aQ λo ho=>?_;simp only[go_sem,asE];refine aB (L.valid w a1 l S M V O) rfl ?_;simp only[mE];cases hv:eJ (val a1) (val l)with
 |false =>simp only[go_sem,bgS,Gz,bgK];refine mU ?_;simp only[go_sem,Gy]
 |true=>
  obtain⟨v1,v2,v3⟩:=kR.1 hv;simp only[go_sem,bgJ];refine aB (L.valid I a2 u U N W R) rfl ?_;cases hw:eJ (val a2) (val u)with
  |false =>simp only[go_sem,bgS,Gz,bhO];refine mU ?_;simp only[go_sem,Gy]
  |true=>
   obtain⟨w1,w2,w3⟩:=kR.1 hw;simp only[go_sem,bgJ,biG];refine bA .nil frS a_ ?_;simp only[go_sem,asF];refine cO (EF a1 u) (L.times a1 u S N V R Om Om) rfl a_ ?_;simp only[go_sem];refine cO (EF a2 l) (L.times a2 l U M W O Om Om) rfl a_ ?_;simp only[go_sem];refine cO (EF l u) (L.times l u M N O R Om Om) rfl a_ ?_;simp only[go_sem];have m1:=rY v3 w2;have m2:=rY w3 v2;have m3:=rY v2 w2;have d0:val l*val u≠0:=Nat.mul_ne_zero v1 w1;generalize hA:val a1*val u=A at *
   generalize hB:val a2*val l=B at *
   generalize hD:val l*val u=D at *
   have fin:∀(F:PF)(H:PH)(r:FR),(∃j x y e,frV r=.tup [.agg (hZ j x y),.int .i64 e]∧F 4=some (.ptr o 3 0 0)∧F 5=some (.int .i64 e)∧H o=some (.rows 3 [hZ j x y]))→aW Gy.res (cT (frV r)) .ret F H:=by rintro F H r ⟨j,x,y,e,he,f4,f5,hH⟩;rw[he];exact bB (.inr rfl) .nil (vs:=[.agg (hZ j x y),.int .i64 e]) (by simp only[go_sem,Gy,f4,f5,hH]) a_ ⟨.refl _,rfl⟩
   have eb:(w==I)=decide (w=I):=by cases w<;>cases I<;>rfl
   have low:∀neg x,nl x≤257→aI C 120 [.bool neg,aN (aM x),aN (aM D)] .nil (aK (frV (nB neg x D))):=by
    intro neg x hx;have h1:(aM x).length≤35184372087808:=by rw[bJ];omega
    have h2:(aM D).length≤35184372087808:=by rw[bJ];omega
    have:=L.lowest neg (aM x) (aM D) (bC _) (bC _) h1 h2;rw[aZ,aZ,Hi]at this;exact this Om Om d0
   have lA:(aM A).length≤35184372087808:=by rw[bJ];omega
   have lB:(aM B).length≤35184372087808:=by rw[bJ];omega
   simp only[go_sem,asG];by_cases c:w=I
   ·rw[aL c];have Z:(w==I)=true:=by rw[eb,bX c]
    simp only[go_sem,Z,asH];have J:=L.add (aM A) (aM B) (bC _) (bC _) lA lB;have α:=aeY m1 m2;rw[aZ,aZ,mT Om Om,opV,JV Om]at J;refine aB J rfl ?_;simp only[go_sem,asI];refine aB (low w _ Om) rfl ?_;obtain⟨j,x,y,e,E⟩:=CI (nB w (A+B) D);rw[E];simp only[go_sem];rw[←E];exact fin _ _ _ ⟨j,x,y,e,E,by simp only[go_sem],by simp only[go_sem],by simp only[go_sem]⟩
   ·rw[aE c];have Z:(w==I)=false:=by rw[eb,bV c]
    simp only[go_sem,Z,asJ];have hc:=L.cmp (aM A) (aM B) (bC _) (bC _) lA lB;rw[aZ,aZ]at hc;refine aB hc rfl ?_;have K:∀X Y:Nat,nl X≤256→nl Y≤256→Y≤X→aI C 134 [aN (aM X),aN (aM Y)] .nil (aK (.tup [aN (aM (X-Y)),.int .i64 0])):=by intro X Y h1 h2 h;have:=L.sub (aM X) (aM Y) (bC _) (bC _) (by rw[bJ];omega) (by rw[bJ];omega);have h3:=kW (Om:X-Y≤X);rw[aZ,aZ,zN,mT Om Om,aE aV,aE Om,JV Om]at this;exact this
    by_cases g:B≤A
    ·have g':fJ A B≥0:=(i9 A B).2 g;rw[aL g];simp only[go_sem,g',asK];refine aB (K A B Om Om g) rfl ?_;simp only[go_sem,asL];have h3:=kW (Om:A-B≤A);refine aB (low w (A-B) Om) rfl ?_;obtain⟨j,x,y,e,E⟩:=CI (nB w (A-B) D);rw[E];simp only[go_sem];rw[←E];exact fin _ _ _ ⟨j,x,y,e,E,by simp only[go_sem],by simp only[go_sem],by simp only[go_sem]⟩
    ·have g':¬fJ A B≥0:=λh=>g ((i9 A B).1 h);rw[aE g];simp only[go_sem,g',Wh];refine aB (K B A Om Om Om) rfl ?_;simp only[go_sem,Wi];have h3:=kW (Om:B-A≤B);refine aB (low I (B-A) Om) rfl ?_;obtain⟨j,x,y,e,E⟩:=CI (nB I (B-A) D);rw[E];simp only[go_sem];rw[←E];exact fin _ _ _ ⟨j,x,y,e,E,by simp only[go_sem],by simp only[go_sem],by simp only[go_sem]⟩
structure RF where
 neg:Bool
 num:List Nat
 den:List Nat
abbrev RF.cells(x:RF):List PV:=hZ x.neg x.num x.den
def RF.Ok(x:RF):Prop:=Lim x.num∧Lim x.den∧Z' x.num≤35184372087808∧Z' x.den≤35184372087808
def RF.v(x:RF):FV:=(x.neg,val x.num,val x.den)
abbrev frs(l:List RF):PV:=.sl 3 (l.map RF.cells)
def FV.rf:FV→RF
 |(n,a,b)=>⟨n,aM a,aM b⟩
def FV.Small:FV→Prop
 |(_,a,b)=>nl a≤900000∧nl b≤900000
theorem FV.a6C(x:FV):x.rf.v=x:=by
 obtain⟨n,a,b⟩:=x;show(n,val (aM a),val (aM b))=_;rw[aZ,aZ]
def tZ(l:List FV):FR:=l.foldlM mE (false,0,1)
theorem AY{neg:Bool}{a b:Nat}{r:FV}(h:nB neg a b=.ok r):r.Small∧r.rf.Ok:=by
 unfold nB at h;split at h
 ·cases h
 ·rename_i l;have e:=(sF (a/bgC a b) 128).1 Om;have j:=(sF (b/bgC a b) 128).1 Om;injection h with h
  subst h;refine⟨⟨by omega,by omega⟩,bC _,bC _,?_,?_⟩
  ·show(aM _).length≤_;rw[bJ];omega
  ·show(aM _).length≤_;rw[bJ];omega
theorem Gp{x y r:FV}(h:mE x y=.ok r):r.rf.Ok:=by
 obtain⟨l,a1,e⟩:=x;obtain⟨u,a2,j⟩:=y;simp only[mE]at h;split at h
 ·split at h
  ·exact(AY h).2
  ·split at h
   ·exact(AY h).2
   ·exact(AY h).2
 ·cases h
theorem lh{α β:Type}{f:β→α→Except Int β}(l:List α)(b:β){k:Nat}(h:k<Z' l):(l.take (k+1)).foldlM f b=((l.take k).foldlM f b).bind λx=>f x l[k]:=by
 rw[bhW h,List.foldlM_append];cases(l.take k).foldlM f b with
 |error e=>rfl
 |ok x =>show([l[k]]:List α).foldlM f x=f x l[k];rw[List.foldlM_cons];cases f x l[k]<;>rfl
theorem zl{α β:Type}{f:β→α→Except Int β}(l:List α)(b:β){k:Nat}{e:Int}(h:(l.take k).foldlM f b=.error e):l.foldlM f b=.error e:=by
 conv=>lhs;rw[←biZ k l,List.foldlM_append,h]
 rfl
def aXE(l:List RF)(o2 o4:Nat)(k:Nat):PF:=((((((PF.nil.set 2 (.ptr o2 3 0 0)).set 3 (.int .i64 0)).set 4 (.ptr o4 3 0 0)).set 11 (frs l)).set 12 (.int .i64 (Z' l:Nat))).set 13 (.int .i64 k))
def xj(o2 o4:Nat)(c:List PV):PH:=(PH.nil.set o2 (.rows 3 [[.bool false,.aH,.aH]])).set o4 (.rows 3 [c])
theorem a0W{C:Ctx}(L:RR C)(V:∀x y:RF,x.Ok→y.Ok→aI C 113 [.agg x.cells,.agg y.cells] .nil (aK (frV (mE x.v y.v))))(l:List RF)(hl:∀x∈l,x.Ok)(β:Z' l≤9223372036854775807) :
  au.wp C (aW Xs.res (cT (frV (tZ (l.map RF.v))))) (PF.args [frs l]) .nil:=by
 simp only[go_sem,au,atQ];refine aQ λo2 γ=>?_;simp only[go_sem,atS];refine aB (L.make 1 aV) rfl ?_;simp only[go_sem];refine aQ λo4 W=>?_;have w:o4≠o2:=by rintro rfl;simp only[aR,if_true]at W;cases W
 have j:o2≠o4:=Ne.symm w;simp only[go_sem,atT];refine wp_loop (α:=Nat × FV × PV) (λt=>aXE l o2 o4 t.1) (λt=>xj o2 o4 [.bool t.2.1.1,t.2.2,aN (aM t.2.1.2.2)]) (λt=>t.1≤Z' l∧((l.map RF.v).take t.1).foldlM mE (false,0,1)=.ok t.2.1∧(t.2.2=.aH∧t.2.1.2.1=0∨t.2.2=aN (aM t.2.1.2.1))∧(FV.rf t.2.1).Ok) (λt=>Z' l-t.1)
  (0,(false,0,1),.aH) ⟨bgE _,rfl,.inl ⟨rfl,rfl⟩,⟨bC _,bC _,?_,?_⟩⟩ ?_ ?_ ?_
 ·show(aM 0).length≤_;rw[kO];simp
 ·show(aM 1).length≤_;rw[vF aV aV];simp
 ·unfold aXE
  (repeat' (first|exact c_|refine d_ ?_ ?_))<;>first|(simp only[go_sem,bfY]<;>rfl)|rfl
 ·unfold xj;exact e_ (e_ a_ (by simp only[go_sem,j,w])) (by simp only[go_sem,j,w])
 rintro⟨k,⟨U,X,S⟩,cy⟩ ⟨hk,Y,R,M⟩;simp only at hk Y R M ⊢;have N:CoL [.bool U,cy,aN (aM S)] (FV.rf (U,X,S)).cells:=by
  refine .cons (.refl _) (.cons ?_ (.cons (.refl _) .nil));rcases R with⟨rfl,rfl⟩|rfl
  ·show Co .aH (aN (aM 0));rw[kO];exact .nil 1
  ·exact .refl _
 simp only[go_sem,Xt,atU,aXE];by_cases hlt:k<Z' l
 ·have E:(k:Int)<(Z' l:Nat):=Om;have hr:(l.map RF.cells)[k]?=some (l[k]).cells:=by simp[hlt]
  simp only[go_sem,E,atV,hr];refine aQ λo6 J=>?_;have F:o4≠o6:=by rintro rfl;simp only[xj,aR,if_true]at J;cases J
  have B:o2≠o6:=by rintro rfl;simp only[xj,aR,if_true,aE j]at J;cases J
  simp only[go_sem,atW,xj,F,B,w,j];refine aB ((V (FV.rf (U,X,S)) l[k] M (hl _ (bgD hlt))).args (.cons (CoL.agg N) (.cons (.refl _) .nil))) rfl ?_;rw[FV.a6C];have u:=lh (f:=mE) (l.map RF.v) (false,0,1) (k:=k) (by simpa using hlt);rw[Y]at u;simp only[Except.bind,bhY]at u;cases he:mE (U,X,S) (l[k]).v with
  |error e=>
   simp only[go_sem,frV];refine aQ λo7 A=>?_;have Z:e≠0:=by
    revert he;obtain⟨n2,a2,b2⟩:=(l[k]).v;simp only[mE,nB]
    repeat' split
    all_goals (intro h;first|(injection h with h;subst h;decide)|cases h)
   have I:o2≠o7:=by rintro rfl;simp only[aR,B,j,if_true,if_false]at A;cases A
   simp only[go_sem,G6,cP Z,atX,I,B,j];rw[he]at u;rw[tZ,zl _ _ u];refine mU ?_;simp only[go_sem,Xs]
  |ok r=>
   obtain⟨rn,ra,rb⟩:=r;simp only[go_sem,frV];refine aQ λo7 A=>?_;have K:o4≠o7:=by rintro rfl;simp only[aR,F,if_true,if_false]at A;cases A
   have I:o2≠o7:=by rintro rfl;simp only[aR,B,j,if_true,if_false]at A;cases A
   simp only[go_sem,G6,atY,K,I,F,B,w,j,Ne.symm K,atZ,wZz k];rw[he]at u;refine aG (k+1,(rn,ra,rb),aN (aM ra)) ⟨hlt,u,.inr rfl,Gp he⟩ (by simp only;omega) ?_ ?_
   ·exact Lq
   ·refine e_ (e_ a_ ?_) ?_
    ·simp only[go_sem,j,w,K,I,F,B]
    ·simp only[go_sem,j,w,K,I,F,B]
 ·have E:¬(k:Int)<(Z' l:Nat):=Om;have:k=Z' l:=Om;subst this;rw[bgR aY]at Y;rw[tZ,Y];have O:cT (frV (.ok (U,X,S))) (cF [.agg [.bool U,cy,aN (aM S)],.int .i64 0]) .nil:=⟨CoL.tup (.cons (CoL.agg N) (.cons (.refl _) .nil)),rfl⟩;rcases R with⟨rfl,rfl⟩|rfl
  ·simp only[go_sem,E,rk,xj,w,j];refine bB (.inr rfl) .nil ?_ a_ O;simp only[go_sem,Xs,w,j]
  ·simp only[go_sem,E,rk,xj,w,j];refine bB (.inr rfl) .nil ?_ a_ O;simp only[go_sem,Xs,w,j]
def bo:=bO [] Proofs.Tryz.f135
def xE:=aA bo 0
def xF:=aA bo 1
def rW:aC:=(sq xE (sq xF .ret))
def jn:aX:=⟨1,17,rW,[.tmp 2]⟩
def ln:=bO [] Proofs.Tryz.f153
def LC:=aA ln 0
def LD:=aA ln 1
def yG:aC:=(sq LC (sq LD .ret))
def Ak:aX:=⟨1,9,yG,[.tmp 2]⟩
def lz:=bO [] Proofs.Tryz.f136
def K8:=aA lz 0
def K9:=aA lz 1
def NH:aC:=(sq K8 (sq K9 .ret))
def Am:aX:=⟨1,17,NH,[.tmp 2]⟩
def qS:=bO [] Proofs.Tryz.f97
def TO:=aA qS 0
def TP:=aA qS 1
def TQ:=aA qS 2
def abA:=aA qS 3
def abB:=aA qS 4
def abC:=aA qS 5
def abD:=aA qS 6
def abE:=aA qS 7
def aaZ:aC:=(dD abB 20 0 abE (sq abC (.cond (Tm 27) (sq abD .ret) .skip)))
def abF:=aA qS 8
def AX:aC:=(sq TO (dA TP 16 TQ (.seq (cE abA 0 aaZ) (sq abF .ret))))
def Ut:aX:=⟨1,28,AX,[.tmp 2]⟩
def Zj:=bO [] Proofs.Tryz.f58
def Aa:=aA Zj 0
def Ab:=aA Zj 1
def IZ:aC:=(sq Aa (sq Ab .ret))
def gin:aX:=⟨3,15,IZ,[.tmp 6]⟩
def lj:=bO [1] Proofs.Tryz.f89
def Km:=aA lj 0
def Ko:=aA lj 1
def NE:aC:=(sq Km (sq Ko .ret))
def Yg:aX:=⟨1,7,NE,[.tmp 2]⟩
def bd:=bO [1] Proofs.Tryz.f88
def auX:=aA bd 0
def auY:=aA bd 1
def jj:=aA bd 2
def bc:aC:=(sq auX (sq auY (sq jj .ret)))
def aTW:aX:=⟨1,29,bc,[.tmp 2]⟩
def KZ:=bO [1] Proofs.Tryz.f134
def avC:=aA KZ 0
def avD:=aA KZ 1
def avE:=aA KZ 2
def Ha:=aA KZ 3
def bf:aC:=(sq avC (sq avD (sq avE (sq Ha .ret))))
def gone:aX:=⟨1,23,bf,[.tmp 2]⟩
def sQ:=bO [] Proofs.Tryz.f90
def Yr:=aA sQ 0
def Ys:=aA sQ 1
def Yt:=aA sQ 2
def Yu:=aA sQ 3
def Yv:=aA sQ 4
def Yw:=aA sQ 5
def Yx:=aA sQ 6
def Yq:aC:=(fH Yt 10 0 Yx (sq Yu (sq Yv (.cond (Tm 16) (sq Yw .ret) .skip))))
def Yy:=aA sQ 7
def SU:aC:=(sq Yr (.seq (cE Ys 0 Yq) (sq Yy .ret)))
def aGX:aX:=⟨2,18,SU,[.tmp 4]⟩
def sR:=bO [] Proofs.Tryz.f131
def Y0:=aA sR 0
def Y1:=aA sR 1
def Y2:=aA sR 2
def Y3:=aA sR 3
def Y4:=aA sR 4
def Y5:=aA sR 5
def Y6:=aA sR 6
def Yz:aC:=(fH Y2 10 0 Y6 (sq Y3 (sq Y4 (.cond (Tm 16) (sq Y5 .ret) .skip))))
def Y7:=aA sR 7
def SV:aC:=(sq Y0 (.seq (cE Y1 0 Yz) (sq Y7 .ret)))
def aGY:aX:=⟨2,18,SV,[.tmp 4]⟩
def sP:=bO [] Proofs.Tryz.f129
def Yi:=aA sP 0
def Yj:=aA sP 1
def Yk:=aA sP 2
def Yl:=aA sP 3
def Ym:=aA sP 4
def Yn:=aA sP 5
def Yo:=aA sP 6
def Yh:aC:=(fH Yk 10 0 Yo (sq Yl (sq Ym (.cond (Tm 16) (sq Yn .ret) .skip))))
def Yp:=aA sP 7
def SS:aC:=(sq Yi (.seq (cE Yj 0 Yh) (sq Yp .ret)))
def aGW:aX:=⟨2,18,SS,[.tmp 4]⟩
def lk:=bO [] Proofs.Tryz.f130
def Kp:=aA lk 0
def Kq:=aA lk 1
def NF:aC:=(sq Kp (sq Kq .ret))
def Zb:aX:=⟨1,4,NF,[.tmp 2]⟩
def kC:=bO [1] Proofs.Tryz.f94
def Zc:=aA kC 0
def Zd:=aA kC 1
def Ze:=aA kC 2
def Zf:=aA kC 3
def Zg:=aA kC 4
def ry:=aA kC 5
def Zh:=aA kC 6
def rz:=aA kC 7
def r8:=aA kC 8
def Zi:=aA kC 9
def Ks:=aA kC 10
def aw:=aA kC 11
def KX:=aA kC 12
def KV:aC:=(fH Zi 45 4 KX (sq Ks (.region aw)))
def ay:=aA kC 13
def KW:aC:=(fH ry 21 2 ay (sq Zh (sq rz (cE r8 4 KV))))
def Kt:=aA kC 14
def Kr:aC:=(dD Zf 15 0 Kt (cE Zg 2 KW))
def Ku:=aA kC 15
def SW:aC:=(sq Zc (sq Zd (.seq (cE Ze 0 Kr) (sq Ku .ret))))
def aHC:aX:=⟨1,70,SW,[.tmp 2]⟩
def mK:=bO [1] Proofs.Tryz.f60
def auP:=aA mK 0
def auQ:=aA mK 1
def auR:=aA mK 2
def HY:=aA mK 3
def auS:=aA mK 4
def auT:=aA mK 5
def auU:=aA mK 6
def auV:=aA mK 7
def ji:=aA mK 8
def auW:=aA mK 9
def Zk:aC:=(fH auT 48 0 auW (sq auU (sq auV (.cond (Tm 67) (sq ji .ret) .skip))))
def r9:=aA mK 10
def SX:=aA mK 11
def SY:=aA mK 12
def CM:=aA mK 13
def ba:aC:=(sq auP (sq auQ (dA auR 43 HY (.seq (cE auS 0 Zk) (sq r9 (sq SX (sq SY (sq CM .ret))))))))
def aTV:aX:=⟨1,95,ba,[.tmp 2]⟩
def pG:=bO [] Proofs.Tryz.f62
def Zy:=aA pG 0
def Zz:=aA pG 1
def Z1:=aA pG 2
def Z2:=aA pG 3
def Z3:=aA pG 4
def Z4:=aA pG 5
def sd:=aA pG 6
def Z5:=aA pG 7
def Z6:=aA pG 8
def Zx:aC:=(fH Z2 10 0 Z6 (sq Z3 (dA Z4 20 sd (.region Z5))))
def Kx:=aA pG 9
def TC:aC:=(sq Zy (sq Zz (.seq (cE Z1 0 Zx) (sq Kx .ret))))
def aHI:aX:=⟨1,24,TC,[.tmp 2]⟩
def nD:=bO [1] Proofs.Tryz.f59
def G8:=aA nD 0
def G9:=aA nD 1
def auJ:=aA nD 2
def auK:=aA nD 3
def HX:=aA nD 4
def CL:=aA nD 5
def auL:=aA nD 6
def auM:=aA nD 7
def auN:=aA nD 8
def auO:=cA nD 0
def CK:=aA nD 9
def Y9:=aA nD 10
def Y8:aC:=(fH auM 48 0 Y9 (sq auN (dq auO (.cond (Tm 87) (sq CK .ret) .skip))))
def Za:=aA nD 11
def KU:aC:=(sq G8 (dA G9 9 auJ (sq auK (dA HX 42 CL (.seq (cE auL 0 Y8) (sq Za .ret))))))
def aHA:aX:=⟨1,89,KU,[.tmp 2]⟩
def Ac:=bO [] Proofs.Tryz.f132
def Zl:=aA Ac 0
def Zm:=aA Ac 1
def SZ:aC:=(sq Zl (sq Zm .ret))
def aHE:aX:=⟨1,5,SZ,[.tmp 2]⟩
def KY:=bO [7] Proofs.Tryz.f95
def auZ:=aA KY 0
def avA:=aA KY 1
def HZ:=aA KY 2
def avB:=aA KY 3
def be:aC:=(sq auZ (dA avA 36 HZ (sq avB .ret)))
def aTX:aX:=⟨4,39,be,[.tmp 8]⟩
def ll:=bO [1] Proofs.Tryz.f133
def Kv:=aA ll 0
def Kw:=aA ll 1
def NG:aC:=(sq Kv (sq Kw .ret))
def Zq:aX:=⟨1,9,NG,[.tmp 2]⟩
def Ad:=bO [6,7] Proofs.Tryz.f96
def Zr:=aA Ad 0
def Zs:=aA Ad 1
def TA:aC:=(sq Zr (sq Zs .ret))
def aHF:aX:=⟨4,30,TA,[.tmp 8]⟩
def oR:=bO [2] Proofs.Tryz.f61
def avF:=aA oR 0
def avG:=aA oR 1
def jk:=aA oR 2
def avH:=aA oR 3
def avI:=aA oR 4
def avJ:=aA oR 5
def avK:=aA oR 6
def avL:=aA oR 7
def Hb:=aA oR 8
def avM:=aA oR 9
def Zo:=aA oR 10
def Zn:aC:=(fH avJ 42 0 Zo (sq avK (dA avL 55 Hb (.region avM))))
def Zp:=aA oR 11
def bg:aC:=(sq avF (dA avG 35 jk (sq avH (.seq (cE avI 0 Zn) (sq Zp .ret)))))
def aTZ:aX:=⟨2,60,bg,[.tmp 4]⟩
def dJ:=bO [1,76,94,128,141,183,204] Proofs.Tryz.f31
def avN:=aA dJ 0
def avO:=aA dJ 1
def xC:=aA dJ 2
def avP:=aA dJ 3
def avQ:=aA dJ 4
def Hc:=aA dJ 5
def avR:=aA dJ 6
def avS:=aA dJ 7
def avT:=aA dJ 8
def Hd:=aA dJ 9
def se:=aA dJ 10
def TD:aC:=(fH avR 70 0 se (sq avS (sq avT (.region Hd))))
def sf:=aA dJ 11
def Z7:=aA dJ 12
def Z8:=aA dJ 13
def Z9:=aA dJ 14
def sg:=aA dJ 15
def JC:=aA dJ 16
def TE:aC:=(fH Z7 88 2 JC (sq Z8 (sq Z9 (.region sg))))
def sk:=aA dJ 17
def aaA:=aA dJ 18
def aaB:=aA dJ 19
def aaC:=aA dJ 20
def aaD:=aA dJ 21
def TF:aC:=(fH aaA 122 4 aaD (sq aaB (.region aaC)))
def sm:=aA dJ 22
def aaE:=aA dJ 23
def aaF:=aA dJ 24
def aaG:=aA dJ 25
def sn:=aA dJ 26
def CN:=aA dJ 27
def TG:aC:=(fH aaE 135 6 CN (sq aaF (sq aaG (.region sn))))
def sr:=aA dJ 28
def aaH:=aA dJ 29
def aaI:=aA dJ 30
def aaJ:=aA dJ 31
def ss:=aA dJ 32
def su:=aA dJ 33
def TH:aC:=(fH aaH 177 8 su (sq aaI (sq aaJ (.region ss))))
def sv:=aA dJ 34
def aaK:=aA dJ 35
def aaL:=aA dJ 36
def aaM:=aA dJ 37
def sw:=aA dJ 38
def sx:=aA dJ 39
def TI:aC:=(fH aaK 198 10 sx (sq aaL (sq aaM (.region sw))))
def JD:=aA dJ 40
def uM:=aA dJ 41
def TJ:=aA dJ 42
def bi:aC:=(sq avN (dA avO 65 xC (sq avP (sq avQ (.seq (cE Hc 0 TD) (.seq (cE sf 2 TE) (.seq (cE sk 4 TF) (.seq (cE sm 6 TG) (.seq (cE sr 8 TH) (.seq (cE sv 10 TI) (dA JD 243 uM (sq TJ .ret))))))))))))
def aUD:aX:=⟨1,244,bi,[.tmp 2]⟩
@[go_sem] theorem a8C(a b:List UInt8):ZM .eql a b=some (.bool (a==b)):=(rfl)
@[go_sem] theorem a8D(a b:List UInt8):ZM .neq a b=some (.bool !(a==b)):=(rfl)
@[go_sem] theorem aFZ(a b:List UInt8):ZM .add a b=if((Z' a+Z' b:Nat):Int)>9223372036854775807 then none else some (.str (a++b)):=(rfl)
@[go_sem] theorem a4N:(([]:List UInt8)==[])=true:=(rfl)
@[go_sem] theorem aZY(c:UInt8)(t:List UInt8):((c::t)==[])=false:=(rfl)
theorem wZ{a b:List UInt8}(h:a=b):(a==b)=true:=by simp[h]
theorem yv{a b:List UInt8}(h:a≠b):(a==b)=false:=by simp[h]
section
variable {C:Ctx} {F:PF} {H:PH}
theorem vM{name o s:Nat}{rs:List (List PV)}{vs:List PV}{v:PV}{args:List aS}{d:Option Nat}{K:PF→PH→Prop}(h:aI C name vs .nil (aK v))(l:H o=some (.rows s rs))
  (j:aS.evs (F.frz o s rs) args=some vs) (e:K ((F.frz o s rs).put d v) (H.frz o s rs)):kF C name args [] d K F H:=by
 refine .inr ⟨_,_,.step o l (.refl _ _),vs,.nil,aK v,?_,a_,h,?_⟩
 ·rw[j];simp
 ·rintro r H' ⟨rfl,rfl⟩ -;rw[PH.nZ];exact e
theorem mP.trans{e j l:PF}{u H2 w:PH}(h:mP e u j H2)(k:mP j H2 l w):mP e u l w:=by
 induction h with
 |refl=>exact k
 |step o x h y=>exact .step o x (y k)
theorem xU{c:aC}{K:cQ}{s:Nat}{v:PV}{rows:List (List PV)}(N:bH H s v rows)
  (h:∀l,Seen s l rows→∀e w,(∀t,F t=some v→e t=some l)→(∀i u,F i=some u→Pure u→e i=some u)→aC.wp C (.loop c) K e w):aC.wp C (.loop c) K F H:=by
 obtain⟨l,O,M⟩:=N.frz;obtain⟨e,w,R,I,J⟩:=M F;obtain⟨α,A,Hs,B,m,E,y,H2,x,j⟩:=h l O e w I J;exact⟨α,A,Hs,B,m,E,y,H2,R.trans x,j⟩
theorem aI.aJQ{name s:Nat}{v:PV}{rows:List (List PV)}{H0:PH}{R:PV→PH→Prop}(h:aI C name [.sl s rows] H0 R)(l:Seen s v rows):aI C name [v] H0 R:=by
 rcases l with⟨rfl,rfl⟩|rfl
 ·refine h.args ⟨rfl,λj p q e hq=>?_⟩;cases j with
  |zero=>simp at e hq;subst e;subst hq;exact .nil s
  |succ j=>simp at e
 ·exact h
theorem bH.fresh{s:Nat}{v:PV}{rows:List (List PV)}{o:Nat}(h:bH H s v rows)(u:H o=none)(x:cI):bH (H.set o x) s v rows∧∀l,v≠.osl o s 0 l:=by
 refine⟨h.ext λq y hq=>?_,λl e=>?_⟩
 ·have:q≠o:=by rintro rfl;rw[u]at hq;cases hq
  simp only[aR,aE this,hq]
 ·rcases h with⟨_,j⟩|⟨q,rs,h1,j,_⟩
  ·rw[j]at e;cases e
  ·rw[h1]at e;injection e with w
   subst w;rw[u]at j;cases j
theorem tN{s b:Nat}{v:PV}{rows:List (List PV)}{r:List PV}{o:Nat}{x:cI}{K:PV→PH→Prop}(h:bH H s v rows)(w:H o=none)(A:roomFor rows.length 1 b)
  (u:∀v' H',bH H' s v' (rows++[r])→H' o=some x→K v' H'):pF (H.set o x) s b v (.sl s [r]) K:=by
 obtain⟨e,j⟩:=h.fresh w x;refine hY (src:=[r]) e (by simp[fA]) A λv' H' l y=>u v' H' l (y o x (by simp only[aR,if_true]) j)
theorem zV{o s k:Nat}{rs:List (List PV)}(e:k≤Z' rs):PV.frz o s rs (.osl o s 0 k)=.sl s (rs.take k):=by
 have:0+k≤Z' rs:=Om;simp only[PV.frz,PV.wE,PV.dM,if_true,true_and,aL this,bhP]
end
def jK(n:Nat):Bool:=decide (97≤n)&&decide (n≤122)||decide (65≤n)&&decide (n≤90)
def sM(n:Nat):Bool:=decide (48≤n)&&decide (n≤57)
def kK(n:Nat):Bool:=jK n||sM n||decide (n=45)||decide (n=46)
theorem aHX{C:Ctx}(n:Nat):rW.wp C (aW jn.res (aK (.bool (jK n)))) (PF.args [.int .u8 n]) .nil:=by
 have fin:∀(F:PF)(b:Bool),F 2=some (.bool b)→b=jK n→aW jn.res (aK (.bool (jK n))) .ret F .nil:=by intro F b h e;subst e;refine aU (.inr rfl) (vs:=[.bool (jK n)]) (by simp only[go_sem,jn,h]) rfl
 unfold jK at *
 by_cases a:97≤n
 ·have j:(n:Int)≥97:=Om;by_cases b:n≤122
  ·have u:(n:Int)≤122:=Om;simp only[go_sem,rW,xE,xF,j,u];exact fin _ _ rfl (by simp[a,b])
  ·have u:¬(n:Int)≤122:=Om;by_cases c:65≤n
   ·have l:(n:Int)≥65:=Om;have d:¬(n:Int)≤90:=Om;simp only[go_sem,rW,xE,xF,j,u,l,d];exact fin _ _ rfl (by simp[a,b,c];omega)
   ·omega
 ·have j:¬(n:Int)≥97:=Om;by_cases c:65≤n
  ·have l:(n:Int)≥65:=Om;by_cases d:n≤90
   ·have w:(n:Int)≤90:=Om;simp only[go_sem,rW,xE,xF,j,l,w];exact fin _ _ rfl (by simp[a,c,d])
   ·have w:¬(n:Int)≤90:=Om;simp only[go_sem,rW,xE,xF,j,l,w];exact fin _ _ rfl (by simp[a,c,d])
  ·have l:¬(n:Int)≥65:=Om;simp only[go_sem,rW,xE,xF,j,l];exact fin _ _ rfl (by simp[a,c])
theorem aND{C:Ctx}(n:Nat):yG.wp C (aW Ak.res (aK (.bool (sM n)))) (PF.args [.int .u8 n]) .nil:=by
 have fin:∀(F:PF)(b:Bool),F 2=some (.bool b)→b=sM n→aW Ak.res (aK (.bool (sM n))) .ret F .nil:=by intro F b h e;subst e;refine aU (.inr rfl) (vs:=[.bool (sM n)]) (by simp only[go_sem,Ak,h]) rfl
 unfold sM at *
 by_cases a:48≤n
 ·have j:(n:Int)≥48:=Om;by_cases b:n≤57
  ·have l:(n:Int)≤57:=Om;simp only[go_sem,yG,LC,LD,j,l];exact fin _ _ rfl (by simp[a,b])
  ·have l:¬(n:Int)≤57:=Om;simp only[go_sem,yG,LC,LD,j,l];exact fin _ _ rfl (by simp[a,b])
 ·have j:¬(n:Int)≥48:=Om;simp only[go_sem,yG,LC,LD,j];exact fin _ _ rfl (by simp[a])
theorem aNH{C:Ctx}(u:∀n:Nat,aI C 126 [.int .u8 n] .nil (aK (.bool (jK n))))(w:∀n:Nat,aI C 124 [.int .u8 n] .nil (aK (.bool (sM n))))(n:Nat) :
  NH.wp C (aW Am.res (aK (.bool (kK n)))) (PF.args [.int .u8 n]) .nil:=by
 have fin:∀(F:PF)(b:Bool),F 2=some (.bool b)→b=kK n→aW Am.res (aK (.bool (kK n))) .ret F .nil:=by intro F b h e;subst e;refine aU (.inr rfl) (vs:=[.bool (kK n)]) (by simp only[go_sem,Am,h]) rfl
 simp only[go_sem,NH,K8,K9];refine aB (u n) rfl ?_;cases l:jK n with
 |true =>simp only[go_sem];exact fin _ _ rfl (by simp[kK,l])
 |false=>
  simp only[go_sem];refine aB (w n) rfl ?_;cases j:sM n with
  |true =>simp only[go_sem];exact fin _ _ rfl (by simp[kK,j])
  |false=>
   by_cases c:n=45
   ·simp only[go_sem,bT (Om:(n:Int)=45)];exact fin _ _ rfl (by simp[kK,c])
   ·by_cases d:n=46
    ·simp only[go_sem,bD (Om:(n:Int)≠45),bT (Om:(n:Int)=46)];exact fin _ _ rfl (by simp[kK,d])
    ·simp only[go_sem,bD (Om:(n:Int)≠45),bD (Om:(n:Int)≠46)];exact fin _ _ rfl (by simp[kK,c,d,l,j])
def isName(s:List UInt8):Bool:=match s with
 |[]=>false
 |c::_=>decide (Z' s≤16)&&jK c.toNat&&s.all λc=>kK c.toNat
theorem vW{α:Type}{p:α→Bool}{l:List α}{k:Nat}(e:k<Z' l)(h:(l.take k).all p=true)(j:p l[k]=true):(l.take (k+1)).all p=true:=by
 rw[bhW e,List.all_append,h];simp[j]
theorem vX{α:Type}{p:α→Bool}{l:List α}{k:Nat}(e:k<Z' l)(j:p l[k]=false):l.all p=false:=by
 rw[List.all_eq_false];exact⟨l[k],bgD e,by simp[j]⟩
def aaY(s:List UInt8)(k:Nat):PF:=((PF.nil.set 0 (.str s)).set 3 (.int .i64 k))
theorem aUO{C:Ctx}(B:∀n:Nat,aI C 126 [.int .u8 n] .nil (aK (.bool (jK n))))(E:∀n:Nat,aI C 125 [.int .u8 n] .nil (aK (.bool (kK n))))(s:List UInt8) :
  AX.wp C (aW Ut.res (aK (.bool (isName s)))) (PF.args [.str s]) .nil:=by
 have fin:∀(F:PF)(b:Bool),F 2=some (.bool b)→b=isName s→aW Ut.res (aK (.bool (isName s))) .ret F .nil:=by intro F b h e;subst e;refine aU (.inr rfl) (vs:=[.bool (isName s)]) (by simp only[go_sem,Ut,h]) rfl
 cases s with
 |nil =>simp only[go_sem,AX,TO,TP,TQ];exact fin _ _ rfl rfl
 |cons c t=>
  have J:(c::t)[0]?=some c:=rfl;have w:(c::t==[])=false:=rfl;have u:isName (c::t)=(decide ((c::t).length≤16)&&jK c.toNat&&(c::t).all λc=>kK c.toNat):=rfl;generalize c::t=s at *
  by_cases A:Z' s≤16
  ·have l:¬(Z' s:Int)>16:=Om;rw[bX A,bgO]at u;simp only[go_sem,AX,TO,TP,w,l,J,bhD];refine aB (B c.toNat) rfl ?_;cases y:jK c.toNat with
   |false =>simp only[go_sem,bgS,TQ];exact fin _ _ rfl (by rw[u,y];rfl)
   |true=>
    rw[y,bgO]at u;simp only[go_sem,bgJ,abA];refine wp_loop (α:=Nat) (λk=>aaY s k) (λ_=>.nil) (λk=>k≤Z' s∧(s.take k).all (λc=>kK c.toNat)=true) (λk=>Z' s-k) 0 ⟨bgE _,rfl⟩ ?_ a_ ?_
    ·unfold aaY;exact Lq
    rintro k ⟨K,x⟩;simp only[go_sem,aaZ,abB,aaY];by_cases hlt:k<Z' s
    ·have j:(k:Int)<(Z' s:Nat):=Om;have I:s[k]?=some s[k]:=bgH hlt;simp only[go_sem,j,abC,I,bhD];refine aB (E (s[k]).toNat) rfl ?_;cases hi:kK (s[k]).toNat with
     |false =>simp only[go_sem,bgS,abD];refine fin _ false rfl ?_;rw[u,vX hlt hi]
     |true =>simp only[go_sem,bgJ,abE,wZz k];refine aG (k+1) ⟨hlt,bgY.1 (vW hlt x hi)⟩ Om ?_ a_;exact Lq
    ·have j:¬(k:Int)<(Z' s:Nat):=Om;simp only[go_sem,j,abF];have:k=Z' s:=Om;subst this;rw[bgR (bgG _)]at x;exact fin _ true rfl (by rw[u,x])
  ·have l:(Z' s:Int)>16:=Om;simp only[go_sem,AX,TO,TP,TQ,w,l];exact fin _ _ rfl (by rw[u,bV A];rfl)
abbrev eX(x:Int):Prop:=-9223372036854775808≤x∧x≤9223372036854775807
structure dN where
 name:List UInt8
 start:List RF
 beP:List (List RF)
 exit:List RF
structure eE where
 name:List UInt8
 bfB:Int
 port:Int
 law:Int
structure dQ where
 name:List UInt8
 level:Int
 parent:Int
 bfF:Int
 bfA:RF
structure fC where
 name:List UInt8
 model:Int
 machine:Int
structure dV where
 name:List UInt8
 k:Int
 m:Int
 bfJ:Int
 s0:Int
 s1:Int
 s2:Int
 s3:Int
 s4:Int
 beL:List Int
 repair:List RF
 target:RF
 beV:RF
structure iY where
 name:List UInt8
 beX:Int
structure aD where
 bfQ:Int
 beS:List dN
 beL:List eE
 beN:List dQ
 beK:List fC
 beO:List dV
 beM:List iY
abbrev aJP(l:List (List RF)):PV:=.sl 1 (l.map λr=>[frs r])
abbrev dN.cells(x:dN):List PV:=[.str x.name,frs x.start,aJP x.beP,frs x.exit]
abbrev eE.cells(x:eE):List PV:=[.str x.name,.int .i64 x.bfB,.int .i64 x.port,.int .i64 x.law]
abbrev dQ.cells(x:dQ):List PV:=[.str x.name,.int .i64 x.level,.int .i64 x.parent,.int .i64 x.bfF,.bool x.bfA.neg,aN x.bfA.num,aN x.bfA.den]
abbrev fC.cells(x:fC):List PV:=[.str x.name,.int .i64 x.model,.int .i64 x.machine]
abbrev dV.cells(x:dV):List PV:=[.str x.name,.int .i64 x.k,.int .i64 x.m,.int .i64 x.bfJ,.int .i64 x.s0,.int .i64 x.s1,.int .i64 x.s2,.int .i64 x.s3,.int .i64 x.s4,ints x.beL,frs x.repair,
 .bool x.target.neg,aN x.target.num,aN x.target.den,.bool x.beV.neg,aN x.beV.num,aN x.beV.den]
abbrev iY.cells(x:iY):List PV:=[.str x.name,.int .i64 x.beX]
abbrev aD.cells(f:aD):List PV:=[.int .i64 f.bfQ,.sl 4 (f.beS.map dN.cells),.sl 4 (f.beL.map eE.cells),.sl 7 (f.beN.map dQ.cells),.sl 3 (f.beK.map fC.cells),.sl 17 (f.beO.map dV.cells),.sl 2 (f.beM.map iY.cells)]
def dV.spread(p:dV)(level:Nat):Int:=match level with
 |0=>p.s0
 |1=>p.s1
 |2=>p.s2
 |3=>p.s3
 |_=>p.s4
abbrev Fits{α:Type}(l:List α):Prop:=Z' l≤9223372036854775807
structure pD(l:List RF):Prop where
 fits:Fits l
 all:∀x∈l,x.Ok
structure dN.Ok(x:dN):Prop where
 start:pD x.start
 exit:pD x.exit
 beP:Fits x.beP
 row:∀r∈x.beP,pD r
structure dV.Ok(x:dV):Prop where
 k:eX x.k
 m:eX x.m
 bfJ:eX x.bfJ
 beL:Fits x.beL
 each:∀m∈x.beL,eX m
 repair:pD x.repair
 target:x.target.Ok
 beV:x.beV.Ok
structure aD.Ok(f:aD):Prop where
 beS:Fits f.beS
 beL:Fits f.beL
 beN:Fits f.beN
 beK:Fits f.beK
 beO:Fits f.beO
 beM:Fits f.beM
 law:∀x∈f.beS,x.Ok
 dom:∀x∈f.beN,x.bfA.Ok∧eX x.level∧eX x.parent
 drive:∀x∈f.beK,eX x.model∧eX x.machine
 beX:∀x∈f.beO,x.Ok
 volume:∀x∈f.beM,eX x.beX
def vN(x:RF):FR:=if eJ (val x.num) (val x.den)then nB x.neg (val x.num) (val x.den)else .error 1
theorem aJH(x:RF):j8 x.neg (val x.num) (val x.den)=frV (vN x):=by
 unfold j8 vN;split
 ·exact Hi _ _ _
 ·rfl
def eG(x:RF):Bool:=match vN x with
 | .ok (n,a,b)=>!n&&(decide (dZ a≤32)&&decide (dZ b≤32))
 | .error _=>false
def cC(x:RF):Bool:=decide (val x.num≠0)
def FF(x:RF):Bool:=eJ (val x.num) (val x.den)&&decide (wJ x.neg (val x.num) (val x.den) false 1 1≤0)
def within(n lo hi:Int):Bool:=decide (lo≤n)&&decide (n≤hi)
def dX(R:List Bool)(i:Nat)(row:List RF):Nat→List Bool
 |0=>R
 |k+1=>let e:=dX R i row k
  e.set i (e.getD i false||(row.map cC).getD k false&&e.getD k false)
def qD(l:dN)(R:List Bool)(i:Nat):List Bool:=
 dX (R.set i (R.getD i false||(l.exit.map cC).getD i false)) i (l.beP.getD i []) (l.beP.getD i []).length
def eN(l:dN)(R:List Bool):Nat→List Bool
 |0=>R
 |i+1=>qD l (eN l R i) i
def eP(l:dN):Nat→List Bool
 |0=>bgA l.exit.length false
 |r+1=>eN l (eP l r) l.exit.length
def vO(l:dN):Bool:=(eP l (Z' l.exit+1)).all id
def pN(l:dN):Bool:=
 within l.start.length 1 4&&decide (Z' l.exit=Z' l.start)&&decide (Z' l.beP=Z' l.start)&&l.start.all eG&&l.exit.all eG
 && (bfZ l.beP.length).all (λi=>decide ((l.beP.getD i []).length=Z' l.start)&&(l.beP.getD i []).all eG&&!((l.beP.getD i []).map cC).getD i false)
 && (match tZ (l.start.map RF.v)with
  | .ok (n,a,b)=>decide (wJ n a b false 1 1=0)
  | .error _=>false)&&vO l
def distinct(l:List (List UInt8)):Bool:=(bfZ l.length).all λi=>isName (l.getD i [])&&!(l.take i).contains (l.getD i [])
def SC(f:aD)(i:Nat)(d:dQ):Bool:=
 within d.parent 0 i&&decide ((f.beN.map dQ.level).getD d.parent.toNat 0=IntKind.i64.wrap (d.level-1))&&within d.level 1 4&&within d.bfF 1 64&&eG d.bfA
def KN(f:aD)(r:dQ)(t:List dQ):Bool:=
 decide (r.name=[])&&decide (r.level=0)&&decide (r.parent=-1)&&decide (r.bfF=0)&&eG r.bfA&&!cC r.bfA
  && (bfZ t.length).all λi=>match t[i]? with
   |some d=>SC f i d
   |none=>false
def uJ(f:aD):Bool:=match f.beN with
 |[]=>false
 |r::t=>KN f r t
def VA(p:dV):Bool:=
 within p.k 1 6&&within p.m 0 4&&decide (p.k+p.m≤8)&&within p.bfJ p.k (p.k+p.m)&&decide (p.s0=0)&&([p.s0,p.s1,p.s2,p.s3,p.s4].all λn=>within n 0 8)
def LO(p:dV):Bool:=
 decide ((Z' p.repair:Int)=max p.m 1)&&(p.repair.all λx=>eG x&&cC x)&&eG p.target&&FF p.target&&eG p.beV
def oA(beL:Nat)(p:dV):Bool:=
 VA p&&decide (Z' p.beL≠0)&&LO p&&(bfZ p.beL.length).all λj=>within (p.beL.getD j 0) 0 ((beL:Int)-1)&&!(p.beL.take j).contains (p.beL.getD j 0)
def pQ(f:aD)(m:eE):Bool:=within m.bfB 1 16&&within m.port 1 64&&within m.law 0 ((Z' f.beS:Int)-1)
def nC(f:aD)(d:fC):Bool:=within d.model 0 ((Z' f.beL:Int)-1)&&within d.machine 0 ((Z' f.beN:Int)-1)&&decide ((f.beN.map dQ.level).getD d.machine.toNat 0=4)
def uU(f:aD)(v:iY):Bool:=within v.beX 0 ((Z' f.beO:Int)-1)
def tX(f:aD):Bool:=within f.bfQ 1 4&&decide (Z' f.beS≤4)&&decide (Z' f.beL≤4)&&decide (Z' f.beN≤40)&&decide (Z' f.beK≤24)&&decide (Z' f.beO≤4)&&decide (Z' f.beM≤12)
def dU(f:aD):Bool:=
 tX f&&uJ f&&(f.beS.all pN&&f.beL.all (pQ f)&&f.beK.all (nC f)&&f.beO.all (oA f.beL.length)&&f.beM.all (uU f))
 && (distinct (f.beS.map dN.name)&&distinct (f.beL.map eE.name)&&distinct ((f.beN.drop 1).map dQ.name++f.beK.map fC.name)&&distinct (f.beO.map dV.name)&&distinct (f.beM.map iY.name))
theorem bM{t:Nat}{b j:Bool}{F:PF}{H:PH}(h:F t=some (.bool b))(e:b=j):aW [.tmp t] (cT (.bool j)) .ret F H:=by
 subst e;exact bB (.inr rfl) .nil (vs:=[.bool b]) (by rw[qE,tV,h,vJ]) a_ ⟨.refl _,rfl⟩
theorem a5K{C:Ctx}(n lo hi:Int):IZ.wp C (aW gin.res (cT (.bool (within n lo hi)))) (PF.args [.int .i64 n,.int .i64 lo,.int .i64 hi]) .nil:=by
 by_cases a:lo≤n
 ·by_cases b:n≤hi
  ·simp only[go_sem,IZ,Aa,Ab,gin,show n≥lo from a,b];exact bM Ev (by simp[within,a,b])
  ·simp only[go_sem,IZ,Aa,Ab,gin,show n≥lo from a,b];exact bM Ev (by simp[within,a,b])
 ·have e:¬n≥lo:=a;simp only[go_sem,IZ,Aa,Ab,gin,e];exact bM Ev (by simp[within,a])
theorem aMW{C:Ctx}(L:AM C)(x:RF)(e:x.Ok):NE.wp C (aW Yg.res (cT (.bool (cC x)))) (PF.args [.agg x.cells]) .nil:=by
 simp only[go_sem,NE,Km,Ko,Yg];refine aB (L.bits x.num e.1 e.2.2.1) Ev ?_;simp only[go_sem];refine bM Ev ?_;have:=@pJ (val x.num);rw[cC,decide_eq_decide];omega
structure Un(C:Ctx):Prop extends RR C where
 frac:∀n d:Int,eX n→eX d→aI C 115 [.int .i64 n,.int .i64 d] .nil (aK (Ao n d))
 red:∀x:RF,x.Ok→aI C 116 [.agg x.cells] .nil (aK (frV (vN x)))
 ord:∀x y:RF,x.Ok→y.Ok→aI C 114 [.agg x.cells,.agg y.cells] .nil (aK (KP x.neg (val x.num) (val x.den) y.neg (val y.num) (val y.den)))
 plus:∀x y:RF,x.Ok→y.Ok→aI C 113 [.agg x.cells,.agg y.cells] .nil (aK (frV (mE x.v y.v)))
 tot:∀l:List RF,pD l→aI C 117 [frs l] .nil (aK (frV (tZ (l.map RF.v))))
theorem TR{neg:Bool}{a b:Nat}{e:Int}(h:nB neg a b=.error e):e=2:=by
 unfold nB at h;split at h
 ·injection h with h;exact h.symm
 ·cases h
theorem aiE{x:RF}{e:Int}(h:vN x=.error e):e≠0:=by
 unfold vN at h;split at h
 ·rw[TR h];decide
 ·injection h with h;subst h;decide
theorem a3C{x:RF}{r:FV}(h:vN x=.ok r):r.rf.Ok:=by
 unfold vN at h;split at h
 ·exact(AY h).2
 ·cases h
theorem a1A{C:Ctx}(L:Un C)(x:RF)(y:x.Ok):bc.wp C (aW aTW.res (cT (.bool (eG x)))) (PF.args [.agg x.cells]) .nil:=by
 simp only[go_sem,bc,auX,auY,aTW];refine aB (L.red x y) Ev ?_;unfold eG;cases u:vN x with
 |error e =>have:=bD (aiE u);simp only[go_sem,frV];refine aQ λo w=>?_;simp only[go_sem,jj,this];exact bM Ev rfl
 |ok r=>
  obtain⟨n,a,b⟩:=r;obtain⟨A,B,E,F⟩:=a3C u;simp only[go_sem,frV];refine aQ λo w=>?_;cases n with
  |true =>simp only[go_sem,jj];exact bM Ev rfl
  |false=>
   simp only[go_sem,jj];refine aB (L.bits _ A E) Ev ?_;rw[show val (FV.rf (false,a,b)).num=a from aZ a];by_cases l:dZ a≤32
   ·have j:((dZ a:Nat):Int)≤32:=Om;simp only[go_sem,j];refine aB (L.bits _ B F) Ev ?_;rw[show val (FV.rf (false,a,b)).den=b from aZ b];simp only[go_sem];refine bM Ev ?_;rw[bX l];simp;omega
   ·have j:¬((dZ a:Nat):Int)≤32:=Om;simp only[go_sem,j];refine bM Ev ?_;rw[bV l];rfl
theorem abI:nB false 1 1=.ok (false,1,1):=by
 have:dZ 1=1:=by rw[vY aV,oN]
 simp[nB,this]
theorem abM:Ao 1 1=frV (.ok (false,1,1)):=by
 rw[Ao,aE aV,Hi];show frV (nB false 1 1)=_;rw[abI]
theorem aON:(FV.rf (false,1,1)).Ok:=(AY abI).2
theorem Sr:eJ 1 1=true:=by
 have:dZ 1=1:=by rw[vY aV,oN]
 simp[eJ,this]
theorem a1C{C:Ctx}(L:Un C)(x:RF)(e:x.Ok):bf.wp C (aW gone.res (cT (.bool (FF x)))) (PF.args [.agg x.cells]) .nil:=by
 simp only[go_sem,bf,avC,avD,gone];refine aB (L.frac 1 1 aV aV) Ev ?_;rw[abM];simp only[go_sem,frV];refine aQ λo j=>?_;simp only[go_sem,avE];refine aB (L.ord x (FV.rf (false,1,1)) e aON) Ev ?_;rw[show val (FV.rf (false,1,1)).num=1 from aZ 1,show val (FV.rf (false,1,1)).den=1 from aZ 1,show(FV.rf (false,1,1)).neg=false from rfl];unfold KP FF;rw[Sr,biG];cases l:eJ (val x.num) (val x.den)with
 |false =>simp only[go_sem,Ha];exact bM Ev rfl
 |true =>simp only[go_sem,Ha];exact bM Ev rfl
theorem aTR{C:Ctx}(p:RF→Bool)(fn:Nat)(l:List RF)(y:Fits l)(h:∀x∈l,aI C fn [.agg x.cells] .nil (aK (.bool (p x)))) :
  SU.wp C (aW aGX.res (cT (.bool (l.all p)))) (PF.args [frs l,.fn fn []]) .nil:=by
 simp only[go_sem,SU,Yr,Ys,aGX];refine wp_loop (α:=Nat) (λk=>((((PF.nil.set 1 (.fn fn [])).set 7 (frs l)).set 8 (.int .i64 (Z' l:Nat))).set 9 (.int .i64 k))) (λ_=>.nil) (λk=>k≤Z' l∧(l.take k).all p=true) (λk=>Z' l-k) 0 ⟨bgE _,rfl⟩ ?_ a_ ?_
 ·(repeat' (first|exact c_|refine d_ ?_ ?_))<;>first|(simp only[go_sem,bfY]<;>rfl)|rfl
 rintro k ⟨A,j⟩;simp only[go_sem,Yq,Yt];by_cases hlt:k<Z' l
 ·have e:(k:Int)<(Z' l:Nat):=Om;have w:(l.map RF.cells)[k]?=some (l[k]).cells:=by simp[hlt]
  simp only[go_sem,e,Yu,w];refine aQ λo B=>?_;simp only[go_sem,Yv];refine aB (h _ (bgD hlt)) Ev ?_;cases u:p l[k]with
  |false =>simp only[go_sem,Yw];exact bM (b:=false) Ev (vX (p:=p) hlt u).symm
  |true =>simp only[go_sem,Yx,wZz k];refine aG (k+1) ⟨hlt,bgY.1 (vW hlt j u)⟩ Om ?_ a_;exact Lq
 ·have e:¬(k:Int)<(Z' l:Nat):=Om;simp only[go_sem,e,Yy];have:k=Z' l:=Om;subst this;rw[bgR (bgG _)]at j;exact bM Ev j.symm
theorem aTS{C:Ctx}(p:Int→Bool)(fn:Nat)(l:List Int)(y:Fits l)(h:∀x∈l,aI C fn [.int .i64 x] .nil (aK (.bool (p x)))) :
  SV.wp C (aW aGY.res (cT (.bool (l.all p)))) (PF.args [ints l,.fn fn []]) .nil:=by
 simp only[go_sem,SV,Y0,Y1,aGY];refine wp_loop (α:=Nat) (λk=>((((PF.nil.set 1 (.fn fn [])).set 7 (ints l)).set 8 (.int .i64 (Z' l:Nat))).set 9 (.int .i64 k))) (λ_=>.nil) (λk=>k≤Z' l∧(l.take k).all p=true) (λk=>Z' l-k) 0 ⟨bgE _,rfl⟩ ?_ a_ ?_
 ·(repeat' (first|exact c_|refine d_ ?_ ?_))<;>first|(simp only[go_sem,bfY]<;>rfl)|rfl
 rintro k ⟨A,j⟩;simp only[go_sem,Yz,Y2];by_cases hlt:k<Z' l
 ·have e:(k:Int)<(Z' l:Nat):=Om;have w:(l.map λn=>[PV.int .i64 n])[k]?=some [.int .i64 l[k]]:=by simp[hlt]
  simp only[go_sem,e,Y3,w,Y4];refine aB (h _ (bgD hlt)) Ev ?_;cases u:p l[k]with
  |false =>simp only[go_sem,Y5];exact bM (b:=false) Ev (vX (p:=p) hlt u).symm
  |true =>simp only[go_sem,Y6,wZz k];refine aG (k+1) ⟨hlt,bgY.1 (vW hlt j u)⟩ Om ?_ a_;exact Lq
 ·have e:¬(k:Int)<(Z' l:Nat):=Om;simp only[go_sem,e,Y7];have:k=Z' l:=Om;subst this;rw[bgR (bgG _)]at j;exact bM Ev j.symm
abbrev lL(l:List Bool):PV:=.sl 1 (l.map λb=>[PV.bool b])
theorem aTQ{C:Ctx}(p:Bool→Bool)(fn:Nat)(l:List Bool)(y:Fits l)(h:∀x∈l,aI C fn [.bool x] .nil (aK (.bool (p x)))) :
  SS.wp C (aW aGW.res (cT (.bool (l.all p)))) (PF.args [lL l,.fn fn []]) .nil:=by
 simp only[go_sem,SS,Yi,Yj,aGW];refine wp_loop (α:=Nat) (λk=>((((PF.nil.set 1 (.fn fn [])).set 7 (lL l)).set 8 (.int .i64 (Z' l:Nat))).set 9 (.int .i64 k))) (λ_=>.nil) (λk=>k≤Z' l∧(l.take k).all p=true) (λk=>Z' l-k) 0 ⟨bgE _,rfl⟩ ?_ a_ ?_
 ·(repeat' (first|exact c_|refine d_ ?_ ?_))<;>first|(simp only[go_sem,bfY]<;>rfl)|rfl
 rintro k ⟨A,j⟩;simp only[go_sem,Yh,Yk];by_cases hlt:k<Z' l
 ·have e:(k:Int)<(Z' l:Nat):=Om;have w:(l.map λb=>[PV.bool b])[k]?=some [.bool l[k]]:=by simp[hlt]
  simp only[go_sem,e,Yl,w,Ym];refine aB (h _ (bgD hlt)) Ev ?_;cases u:p l[k]with
  |false =>simp only[go_sem,Yn];exact bM (b:=false) Ev (vX (p:=p) hlt u).symm
  |true =>simp only[go_sem,Yo,wZz k];refine aG (k+1) ⟨hlt,bgY.1 (vW hlt j u)⟩ Om ?_ a_;exact Lq
 ·have e:¬(k:Int)<(Z' l:Nat):=Om;simp only[go_sem,e,Yp];have:k=Z' l:=Om;subst this;rw[bgR (bgG _)]at j;exact bM Ev j.symm
theorem aMX{C:Ctx}(b:Bool):NF.wp C (aW Zb.res (cT (.bool b))) (PF.args [.bool b]) .nil:=by
 simp only[go_sem,NF,Kp,Kq,Zb];exact bM Ev rfl
theorem aTY{C:Ctx}(e:∀n lo hi:Int,aI C 104 [.int .i64 n,.int .i64 lo,.int .i64 hi] .nil (aK (.bool (within n lo hi))))(n:Int):SZ.wp C (aW aHE.res (cT (.bool (within n 0 8)))) (PF.args [.int .i64 n]) .nil:=by
 simp only[go_sem,SZ,Zl,Zm,aHE];refine aB (e n 0 8) Ev ?_;simp only[go_sem];exact bM Ev rfl
theorem aMZ{C:Ctx}(j:∀x:RF,x.Ok→aI C 105 [.agg x.cells] .nil (aK (.bool (eG x))))(l:∀x:RF,x.Ok→aI C 97 [.agg x.cells] .nil (aK (.bool (cC x))))(x:RF)(e:x.Ok) :
  NG.wp C (aW Zq.res (cT (.bool (eG x&&cC x)))) (PF.args [.agg x.cells]) .nil:=by
 simp only[go_sem,NG,Kv,Kw,Zq];refine aB (j x e) Ev ?_;cases u:eG x with
 |false =>simp only[go_sem];exact bM Ev rfl
 |true =>simp only[go_sem];refine aB (l x e) Ev ?_;simp only[go_sem];exact bM Ev rfl
structure AJ(C:Ctx):Prop extends Un C where
 inn:∀n lo hi:Int,aI C 104 [.int .i64 n,.int .i64 lo,.int .i64 hi] .nil (aK (.bool (within n lo hi)))
 wY:∀x:RF,x.Ok→aI C 97 [.agg x.cells] .nil (aK (.bool (cC x)))
 lim:∀x:RF,x.Ok→aI C 105 [.agg x.cells] .nil (aK (.bool (eG x)))
 one:∀x:RF,x.Ok→aI C 101 [.agg x.cells] .nil (aK (.bool (FF x)))
 allf:∀(p:RF→Bool)(fn:Nat)(l:List RF),Fits l→(∀x∈l,aI C fn [.agg x.cells] .nil (aK (.bool (p x))))→aI C 99 [frs l,.fn fn []] .nil (aK (.bool (l.all p)))
 alli:∀(p:Int→Bool)(fn:Nat)(l:List Int),Fits l→(∀x∈l,aI C fn [.int .i64 x] .nil (aK (.bool (p x))))→aI C 100 [ints l,.fn fn []] .nil (aK (.bool (l.all p)))
 allb:∀(p:Bool→Bool)(fn:Nat)(l:List Bool),Fits l→(∀x∈l,aI C fn [.bool x] .nil (aK (.bool (p x))))→aI C 98 [lL l,.fn fn []] .nil (aK (.bool (l.all p)))
 ends1:∀b:Bool,aI C 103 [.bool b] .nil (aK (.bool b))
 num1:∀n:Int,aI C 107 [.int .i64 n] .nil (aK (.bool (within n 0 8)))
 rate1:∀x:RF,x.Ok→aI C 109 [.agg x.cells] .nil (aK (.bool (eG x&&cC x)))
 name:∀s:List UInt8,aI C 123 [.str s] .nil (aK (.bool (isName s)))
theorem AJ.aUN{C:Ctx}(L:AJ C)(l:List RF)(h:pD l):aI C 99 [frs l,.fn 105 []] .nil (aK (.bool (l.all eG))):=
 L.allf eG 105 l h.fits λx e=>L.lim x (h.all x e)
theorem within_iff{n lo hi:Int}:within n lo hi=true↔lo≤n∧n≤hi:=by simp[within]
theorem a1B{C:Ctx}(L:AJ C)(p:dV)(F:p.Ok) :
  be.wp C (aW aTX.res (cT (.bool (VA p)))) (PF.args [.int .i64 p.k,.int .i64 p.m,.int .i64 p.bfJ,.agg [.int .i64 p.s0,.int .i64 p.s1,.int .i64 p.s2,.int .i64 p.s3,.int .i64 p.s4]]) .nil:=by
 simp only[go_sem,be,auZ,avA,aTX];refine aB (L.inn p.k 1 6) rfl ?_;unfold VA;cases y:within p.k 1 6 with
 |false =>simp only[go_sem,bgS,HZ];exact bM rfl (by simp only[bgK])
 |true=>
  obtain⟨k1,k2⟩:=within_iff.1 y;simp only[go_sem,bgJ];refine aB (L.inn p.m 0 4) rfl ?_;cases A:within p.m 0 4 with
  |false =>simp only[go_sem,bgS,HZ];exact bM rfl (by simp only[bgK,bhO])
  |true=>
   obtain⟨I,J⟩:=within_iff.1 A;have w:IntKind.i64.wrap (p.k+p.m)=p.k+p.m:=wrap_i64 Om Om;by_cases u:p.k+p.m≤8
   ·have e:¬p.k+p.m>8:=Om;simp only[go_sem,bgJ,w,e];refine aB (L.inn p.bfJ p.k (p.k+p.m)) rfl ?_;cases E:within p.bfJ p.k (p.k+p.m)with
    |false =>simp only[go_sem,bgS,HZ];exact bM rfl (by simp only[bgK,bhO])
    |true=>
     have j:(0:Int)<((5:Nat):Int):=by decide
     by_cases h5:p.s0=0
     ·have l:chunks 1 5 [PV.int .i64 p.s0,.int .i64 p.s1,.int .i64 p.s2,.int .i64 p.s3,.int .i64 p.s4]=([p.s0,p.s1,p.s2,p.s3,p.s4].map λn=>[PV.int .i64 n]):=rfl;have B:5≤maxLen:=by decide
      simp only[go_sem,bgJ,j,bR h5,avB,l,B];refine aB (L.alli (λn=>within n 0 8) 107 [p.s0,p.s1,p.s2,p.s3,p.s4] (show 5≤9223372036854775807 by decide) λx _=>L.num1 x) rfl ?_;simp only[go_sem];exact bM rfl (by rw[bX u,bX h5];simp only[bgO])
     ·simp only[go_sem,bgJ,j,cP h5,HZ];exact bM rfl (by rw[bV h5];simp only[bgK,bhO])
   ·have e:p.k+p.m>8:=Om;simp only[go_sem,bgJ,w,e,HZ];exact bM rfl (by rw[bV u];simp only[bgK,bhO])
theorem max_eq(a b:Int):(if a<b then b else a)=max a b:=by
 rw[Int.max_def];by_cases h:a<b
 ·rw[aL h,aL Om]
 ·by_cases e:a≤b
  ·rw[aE h,aL e];omega
  ·rw[aE h,aE e]
theorem aUA{C:Ctx}(L:AJ C)(p:dV)(e:p.Ok) :
  TA.wp C (aW aHF.res (cT (.bool (LO p)))) (PF.args [.int .i64 p.m,frs p.repair,.agg p.target.cells,.agg p.beV.cells]) .nil:=by
 simp only[go_sem,TA,Zr,Zs,aHF,max_eq,bfY];unfold LO;by_cases j:(Z' p.repair:Int)=max p.m 1
 ·simp only[go_sem,bT j];refine aB (L.allf (λx=>eG x&&cC x) 109 p.repair e.repair.fits λx l=>L.rate1 x (e.repair.all x l)) rfl ?_;rw[bX j,bgO];cases u:p.repair.all λx=>eG x&&cC x with
  |false =>simp only[go_sem];exact bM rfl rfl
  |true=>
   simp only[go_sem];refine aB (L.lim _ e.target) rfl ?_;cases w:eG p.target with
   |false =>simp only[go_sem];exact bM rfl rfl
   |true=>
    simp only[go_sem];refine aB (L.one _ e.target) rfl ?_;cases y:FF p.target with
    |false =>simp only[go_sem];exact bM rfl rfl
    |true =>simp only[go_sem];refine aB (L.lim _ e.beV) rfl ?_;simp only[go_sem];exact bM rfl rfl
 ·simp only[go_sem,bD j];exact bM rfl (by rw[bV j];rfl)
def xQ(l:List (List UInt8))(k:List KS):Option PV:=match k with
 |[.str s]=>if l.contains s then some (.bool true)else none
 |_=>none
theorem aQA(l:List (List UInt8))(s:List UInt8):(λk=>if k=[KS.str s]then some (PV.bool true)else xQ l k)=xQ (l++[s]):=by
 funext k
 match k with
 |[]=>rfl
 |[.int a b]=>simp[xQ]
 |[.bool a]=>simp[xQ]
 |[.str t]=>
  by_cases h:t=s
  ·subst h;simp[xQ]
  ·simp[xQ,h]
 |a::b::c=>simp[xQ]
abbrev texts(l:List (List UInt8)):PV:=.sl 1 (l.map λs=>[PV.str s])
theorem aPZ:xQ []=(λ_=>none:oU):=by
 funext k
 match k with
 |[]=>rfl
 |[.int a b]=>rfl
 |[.bool a]=>rfl
 |[.str t]=>rfl
 |a::b::c=>cases a<;>rfl
theorem aQB(l:List (List UInt8))(s:List UInt8):oU.upd (xQ l) [KS.str s] (.bool true)=xQ (l++[s]):=aQA l s
theorem aiS(l:List (List UInt8))(s:List UInt8):(xQ l [KS.str s]).getD (.bool false)=.bool (l.contains s):=by
 show(if l.contains s then some (PV.bool true)else none).getD (.bool false)=_;cases l.contains s<;>rfl
theorem Iu{p:Nat→Bool}{k:Nat}(h:(bfZ k).all p=true)(e:p k=true):(bfZ (k+1)).all p=true:=by
 rw[biO,List.all_append,h];simp[e]
theorem jL{p:Nat→Bool}{n k:Nat}(e:k<n)(j:p k=false):(bfZ n).all p=false:=by
 rw[List.all_eq_false];exact⟨k,bgW.2 e,by simp[j]⟩
def yL(p:Nat→Bool)(k:Nat):Prop:=(bfZ k).all p=true
theorem yL.zero{p:Nat→Bool}:yL p 0:=rfl
theorem yL.step{p:Nat→Bool}{k:Nat}(h:yL p k)(e:p k=true):yL p (k+1):=Iu h e
def aKK(l:List (List UInt8))(o k:Nat):PF:=((((PF.nil.set 3 (.map o)).set 7 (texts l)).set 8 (.int .i64 (Z' l:Nat))).set 9 (.int .i64 k))
theorem aUC{C:Ctx}(L:AJ C)(l:List (List UInt8))(F:Fits l):TC.wp C (aW aHI.res (cT (.bool (distinct l)))) (PF.args [texts l]) .nil:=by
 simp only[go_sem,TC,Zy,Zz,aHI];refine aQ λo J=>?_;simp only[go_sem,Z1];have A:(PH.nil.set o (.map (false,[.str]) (λ_=>none)))=PH.nil.set o (.map (false,[.str]) (xQ (l.take 0))):=by rw[List.take_zero,aPZ]
 unfold distinct;generalize B:(λi=>isName (l.getD i [])&&!(l.take i).contains (l.getD i []))=p;have w:∀k (h:k<Z' l),p k=(isName l[k]&&!(l.take k).contains l[k]):=by intro k h;rw[←B];simp only[bgF,bgH h,biE]
 refine wp_loop (α:=Nat) (λk=>aKK l o k) (λk=>PH.nil.set o (.map (false,[.str]) (xQ (l.take k)))) (λk=>k≤Z' l∧yL p k) (λk=>Z' l-k) 0 ⟨bgE _,.zero⟩ ?_ ?_ ?_
 ·unfold aKK
  (repeat' (first|exact c_|refine d_ ?_ ?_))<;>first|(simp only[go_sem,bfY]<;>rfl)|rfl
 ·rw[A];exact b_
 rintro k ⟨I,y⟩;simp only[go_sem,Zx,Z2,aKK];by_cases hlt:k<Z' l
 ·have j:(k:Int)<(Z' l:Nat):=Om;have E:(l.map λs=>[PV.str s])[k]?=some [.str l[k]]:=by simp[hlt]
  simp only[go_sem,j,Z3,E,Z4];refine aB (L.name l[k]) rfl ?_;have e:=w k hlt;cases x:isName l[k]with
  |false =>rw[x,bgK]at e;simp only[go_sem,bgS,sd];exact bM (b:=false) rfl (jL hlt e).symm
  |true=>
   rw[x,bgO]at e;cases u:(l.take k).contains l[k]with
   |true =>rw[u]at e;simp only[go_sem,bgJ,aiS,u,sd];exact bM (b:=false) rfl (jL hlt e).symm
   |false=>
    rw[u]at e;simp only[go_sem,bgJ,aiS,u,Z5,aQB,Z6,wZz k];refine aG (k+1) ⟨hlt,y.step e⟩ Om ?_ ?_
    ·exact Lq
    ·rw[bhW hlt];exact e_ a_ Sq
 ·have j:¬(k:Int)<(Z' l:Nat):=Om;simp only[go_sem,j,Kx];have:k=Z' l:=Om;subst this;exact bM (b:=true) rfl (show yL p l.length from y).symm
def marks(n:Nat)(l:List Int):List Bool:=(bfZ n).map λ(i:Nat)=>l.contains (i:Int)
theorem Lf(n:Nat)(l:List Int):(marks n l).length=n:=by simp[marks]
theorem Lg(n:Nat):marks n []=bgA n false:=by
 refine bjN (by simp[marks]) λi e j=>by simp[marks]
theorem JH{n:Nat}{l:List Int}{m:Int}(e:0≤m)(j:m<n):(marks n l)[m.toNat]?=some (l.contains m):=by
 have:m.toNat<n:=Om;simp only[marks,bgT,biH this,bhD];rw[Int.toNat_of_nonneg e]
theorem bs{n:Nat}{l:List Int}{m:Int}(j:0≤m)(u:m<n):(marks n l).set m.toNat true=marks n (l++[m]):=by
 refine bjN (by simp[marks]) λi w x=>?_;simp only[marks,bhY,List.getElem_range,List.getElem_set,List.contains_append];by_cases h:m.toNat=i
 ·subst h;rw[aL rfl,Int.toNat_of_nonneg j];simp
 ·have e:((i:Nat):Int)≠m:=Om;rw[aE h];simp[e]
abbrev bK(l:List Bool):List (List PV):=l.map λb=>[PV.bool b]
theorem jM(l:List Bool)(i:Nat)(b:Bool):(bK l).set i [.bool b]=bK (l.set i b):=by unfold bK;rw[List.map_set]
structure Vc(C:Ctx):Prop extends AJ C where
 num:∀p:dV,p.Ok→aI C 106 [.int .i64 p.k,.int .i64 p.m,.int .i64 p.bfJ,.agg [.int .i64 p.s0,.int .i64 p.s1,.int .i64 p.s2,.int .i64 p.s3,.int .i64 p.s4]] .nil (aK (.bool (VA p)))
 rate:∀p:dV,p.Ok→aI C 108 [.int .i64 p.m,frs p.repair,.agg p.target.cells,.agg p.beV.cells] .nil (aK (.bool (LO p)))
 uniq:∀l:List (List UInt8),Fits l→aI C 110 [texts l] .nil (aK (.bool (distinct l)))
def aWF(p:dV)(beL:Nat)(o k:Nat):PF:=(((((PF.nil.set 1 (.int .i64 beL)).set 5 (.osl o 1 0 beL)).set 39 (ints p.beL)).set 40 (.int .i64 (Z' p.beL:Nat))).set 41 (.int .i64 k))
theorem a1D{C:Ctx}(L:Vc C)(p:dV)(I:p.Ok)(beL:Nat)(V:beL≤4):bg.wp C (aW aTZ.res (cT (.bool (oA beL p)))) (PF.args [.agg p.cells,.int .i64 beL]) .nil:=by
 simp only[go_sem,bg,avF,avG,aTZ];refine aB (L.num p I) rfl ?_;unfold oA;cases x:VA p with
 |false =>simp only[go_sem,bgS,jk];exact bM rfl (by simp only[bgK])
 |true=>
  by_cases w:Z' p.beL=0
  ·simp only[go_sem,bgJ,bfY,bT (Om:(Z' p.beL:Int)=0),jk];refine bM rfl ?_;have:decide (Z' p.beL≠0)=false:=by simp[w]
   rw[this];simp only[bgK,bhO]
  ·have B:decide (Z' p.beL≠0)=true:=by simp[w]
   simp only[go_sem,bgJ,bfY,bD (Om:(Z' p.beL:Int)≠0)];refine aB (L.rate p I) rfl ?_;rw[B];cases S:LO p with
   |false =>simp only[go_sem,bgS,jk];exact bM rfl (by simp only[bgK,bhO])
   |true=>
    have E:((beL:Nat):Int)*((1:Nat):Int)≤140737488355328:=Om;have F:((beL:Nat):Int)≤9223372036854775807:=Om;simp only[bgO];simp only[go_sem,bgJ,avH,E,F];refine aQ λo W=>?_;simp only[go_sem,avI];have N:bgA beL [PV.bool false]=bK (marks beL (p.beL.take 0)):=by rw[List.take_zero,Lg];simp[bK]
    rw[N];generalize hq:(λj=>within (p.beL.getD j 0) 0 ((beL:Int)-1)&&!(p.beL.take j).contains (p.beL.getD j 0))=q;have J:∀k (h:k<Z' p.beL),q k=(within p.beL[k] 0 ((beL:Int)-1)&&!(p.beL.take k).contains p.beL[k]):=by intro k h;rw[←hq];simp only[bgF,bgH h,biE]
    refine wp_loop (α:=Nat) (λk=>aWF p beL o k) (λk=>PH.nil.set o (.rows 1 (bK (marks beL (p.beL.take k))))) (λk=>k≤Z' p.beL∧yL q k) (λk=>Z' p.beL-k) 0 ⟨bgE _,.zero⟩ ?_ (b_) ?_
    ·unfold aWF
     (repeat' (first|exact c_|refine d_ ?_ ?_))<;>first|(simp only[go_sem,bfY]<;>rfl)|rfl
    rintro k ⟨U,K⟩;simp only[go_sem,Zn,avJ,aWF];have M:=I.beL;by_cases hlt:k<Z' p.beL
    ·have l:(k:Int)<(Z' p.beL:Nat):=Om;have O:(p.beL.map λn=>[PV.int .i64 n])[k]?=some [.int .i64 p.beL[k]]:=by simp[hlt]
     have R:IntKind.i64.wrap ((beL:Int)-1)=(beL:Int)-1:=wrap_i64 Om Om;simp only[go_sem,l,avK,O,avL,R];refine aB (L.inn p.beL[k] 0 ((beL:Int)-1)) rfl ?_;have e:=J k hlt;cases x:within p.beL[k] 0 ((beL:Int)-1)with
     |false =>rw[x,bgK]at e;simp only[go_sem,bgS,Hb];exact bM (b:=false) rfl (jL hlt e).symm
     |true=>
      rw[x,bgO]at e;obtain⟨y,X⟩:=within_iff.1 x;have A:p.beL[k]<(beL:Nat):=Om;have u:(bK (marks beL (p.beL.take k)))[p.beL[k].toNat]?=some [.bool ((p.beL.take k).contains p.beL[k])]:=by unfold bK;rw[bgT,JH y A];rfl
      cases w:(p.beL.take k).contains p.beL[k]with
      |true =>rw[w]at e u;simp only[go_sem,bgJ,y,A,bgL,u,Hb];exact bM (b:=false) rfl (jL hlt e).symm
      |false=>
       rw[w]at e u;simp only[go_sem,bgJ,y,A,bgL,u,avM,jM,bs y A,Zo,wZz k];refine aG (k+1) ⟨hlt,K.step e⟩ Om ?_ ?_
       ·exact Lq
       ·rw[bhW hlt];exact e_ a_ Sq
    ·have l:¬(k:Int)<(Z' p.beL:Nat):=Om;simp only[go_sem,l,Zp];have:k=Z' p.beL:=Om;subst this;exact bM (b:=true) rfl (show yL q p.beL.length from K).symm
def aSV:PV→RF
 | .agg [.bool n,a,b]=>⟨n,nS a,nS b⟩
 |_=>⟨false,[],[]⟩
theorem aGH(x:RF):aSV (.agg x.cells)=x:=by
 show(⟨x.neg,nS (aN x.num),nS (aN x.den)⟩:RF)=x;rw[hJ,hJ]
def flS:Spec:=λname vs=>match name,vs with
 |104,[.int _ n,.int _ lo,.int _ hi]=>some ([],λ_=>aK (.bool (within n lo hi)))
 |105,[x]=>some ([],λ_=>aK (.bool (eG (aSV x))))
 |97,[x]=>some ([],λ_=>aK (.bool (cC (aSV x))))
 |_,_=>none
theorem Wt(n lo hi:Int):flS 104 [.int .i64 n,.int .i64 lo,.int .i64 hi]=some ([],λ_=>aK (.bool (within n lo hi))):=rfl
theorem a0S(x:RF):flS 105 [.agg x.cells]=some ([],λ_=>aK (.bool (eG x))):=by
 show some _=_;rw[aGH]
def aHB(f:aD)(t:List dQ)(k:Nat):PF:=((((PF.nil.set 1 (.bE f.cells)).set 45 (.sl 7 (t.map dQ.cells))).set 46 (.int .i64 (Z' t:Nat))).set 47 (.int .i64 k))
theorem a0Y{C:Ctx}(L:AJ C)(f:aD)(hf:f.Ok):KU.wp C (aW aHA.res (cT (.bool (uJ f)))) (PF.args [.agg f.cells]) .nil:=by
 obtain⟨bfQ,beS,beL,beN,beK,beO,beM⟩:=f;cases beN with
 |nil =>rw[show uJ ⟨bfQ,beS,beL,[],beK,beO,beM⟩=false from rfl];simp only[go_sem,KU,G8,G9,aHA,biS,biM];have:(((0:Nat):Int)==0)=true:=rfl;simp only[go_sem,this,auJ];exact bM rfl rfl
 |cons r t=>
  generalize hF:(⟨bfQ,beS,beL,r::t,beK,beO,beM⟩:aD)=f at *
  have B:f.beN=r::t:=by rw[←hF]
  have hP:uJ f=KN f r t:=by unfold uJ;rw[B]
  rw[hP];unfold KN;have j:Z' f.beN=Z' t+1:=by rw[B];rfl
  have β:=hf.beN;have J:(f.beN.map dQ.cells)[0]?=some r.cells:=by rw[B];rfl
  have γ:(f.beN.map dQ.cells)[Int.toNat 0]?=some r.cells:=J;have F:=hf.dom;have w:=F r (by rw[B];exact List.mem_cons_self ..);simp only[go_sem,KU,G8,G9,aHA,bfY,j,bD (Om:((Z' t+1:Nat):Int)≠0),auK,J];refine aQ λo ho=>?_;by_cases x:r.name=[]
  ·rw[bX x];by_cases A:r.level=0
   ·rw[bX A];by_cases E:r.parent=-1
    ·rw[bX E];by_cases K:r.bfF=0
     ·rw[bX K];simp only[go_sem,HX,wZ x,bgJ,bR A,bR E,bR K];refine aB (L.lim r.bfA w.1) rfl ?_;cases c5:eG r.bfA with
      |false =>simp only[go_sem,bgS,CL];exact bM rfl (by simp only[bhO,bgK])
      |true=>
       simp only[go_sem,bgJ];refine aB (L.wY r.bfA w.1) rfl ?_;cases c6:cC r.bfA with
       |true =>simp only[go_sem,CL];exact bM rfl (by simp only[bgJ,bhO,bgK])
       |false=>
        have V:(0:Int)≤1∧(1:Int)≤((Z' t+1:Nat):Int):=Om;have y:((f.beN.map dQ.cells).take (Z' t+1)).drop (Int.toNat 1)=t.map dQ.cells:=by rw[bgR (by simp[j]),B];rfl
        have u:((f.beN.map dQ.cells).take (Z' t+1)).drop 1=t.map dQ.cells:=y;simp only[go_sem,auL,bfY,j,V,u,biR];generalize hq:(λi=>match t[i]? with|some d=>SC f i d|none=>false)=q;have S:∀k (h:k<Z' t),q k=SC f k t[k]:=by intro k h;rw[←hq];simp only[bgH h]
        refine wp_loop (α:=Nat) (λk=>aHB f t k) (λk=>.nil) (λk=>k≤Z' t∧yL q k) (λk=>Z' t-k) 0 ⟨bgE _,.zero⟩ ?_ a_ ?_
        ·unfold aHB
         (repeat' (first|exact c_|refine d_ ?_ ?_))<;>first|(simp only[go_sem,bfY]<;>rfl)|rfl
        rintro k ⟨hk,Z⟩;simp only[go_sem,Y8,auM,aHB];by_cases hlt:k<Z' t
        ·have l:(k:Int)<(Z' t:Nat):=Om;have U:(t.map dQ.cells)[k]?=some (t[k]).cells:=by simp[hlt]
         have O:=F t[k] (by rw[B];exact bjG _ (bgD hlt));have e:=S k hlt;unfold SC at e;simp only[go_sem,l,auN,U];refine aQ λo2 δ=>?_;simp only[go_sem];refine bA .nil flS a_ ?_;simp only[go_sem,auO];refine cO (Wt _ 0 k) (L.inn (t[k]).parent 0 k) rfl a_ ?_;cases N:within (t[k]).parent 0 k with
         |false =>simp only[N,bgK]at e;simp only[go_sem,bgS,CK];exact bM (b:=false) rfl (jL hlt e).symm
         |true=>
          obtain⟨i1,i2⟩:=within_iff.1 N;have i3:(t[k]).parent.toNat<Z' f.beN:=Om;have I:(f.beN.map dQ.cells)[(t[k]).parent.toNat]?=some (f.beN[(t[k]).parent.toNat]).cells:=by simp[i3]
          have R:(f.beN.map dQ.level).getD (t[k]).parent.toNat 0=(f.beN[(t[k]).parent.toNat]).level:=by simp[i3]
          rw[R,N,bgO]at e;by_cases M:(f.beN[(t[k]).parent.toNat]).level=IntKind.i64.wrap ((t[k]).level-1)
          ·rw[bX M,bgO]at e;simp only[go_sem,bgJ,i1,I,bR M];refine cO (Wt _ 1 4) (L.inn (t[k]).level 1 4) rfl a_ ?_;cases W:within (t[k]).level 1 4 with
           |false =>simp only[W,bgK]at e;simp only[go_sem,bgS,CK];exact bM (b:=false) rfl (jL hlt e).symm
           |true=>
            rw[W,bgO]at e;simp only[go_sem,bgJ];refine cO (Wt _ 1 64) (L.inn (t[k]).bfF 1 64) rfl a_ ?_;cases X:within (t[k]).bfF 1 64 with
            |false =>simp only[X,bgK]at e;simp only[go_sem,bgS,CK];exact bM (b:=false) rfl (jL hlt e).symm
            |true=>
             rw[X,bgO]at e;simp only[go_sem,bgJ];refine cO (a0S (t[k]).bfA) (L.lim _ O.1) rfl a_ ?_;cases Y:eG (t[k]).bfA with
             |false =>rw[Y]at e;simp only[go_sem,bgS,CK];exact bM (b:=false) rfl (jL hlt e).symm
             |true =>rw[Y]at e;simp only[go_sem,bgJ,Y9,wZz k];refine aG (k+1) ⟨hlt,Z.step e⟩ Om ?_ a_;exact Lq
          ·simp only[bV M,bgK]at e;simp only[go_sem,bgJ,i1,I,cP M,CK];exact bM (b:=false) rfl (jL hlt e).symm
        ·have l:¬(k:Int)<(Z' t:Nat):=Om;simp only[go_sem,l,Za];have:k=Z' t:=Om;subst this;exact bM (b:=true) rfl (show yL q t.length from Z).symm
     ·simp only[go_sem,HX,wZ x,bgJ,bR A,bR E,cP K,CL];exact bM rfl (by rw[bV K];simp only[bhO,bgK])
    ·simp only[go_sem,HX,wZ x,bgJ,bR A,cP E,CL];exact bM rfl (by rw[bV E];simp only[bhO,bgK])
   ·simp only[go_sem,HX,wZ x,bgJ,cP A,CL];exact bM rfl (by rw[bV A];simp only[bhO,bgK])
  ·simp only[go_sem,HX,yv x,bgS,CL];exact bM rfl (by rw[bV x];simp only[bhO,bgK])
theorem BN(R:List Bool)(i:Nat)(row:List RF):∀k,(dX R i row k).length=Z' R
 |0=>rfl
 |k+1=>by simp only[dX,bhU,BN R i row k]
theorem aiD(l:dN)(R:List Bool)(i:Nat):(qD l R i).length=Z' R:=by
 unfold qD;rw[BN,bhU]
theorem xO(l:dN)(R:List Bool):∀i,(eN l R i).length=Z' R
 |0=>rfl
 |i+1=>by simp only[eN,aiD,xO l R i]
theorem xN(l:dN):∀r,(eP l r).length=Z' l.exit
 |0=>by simp[eP]
 |r+1=>by simp only[eP,xO,xN l r]
theorem fI{R:List Bool}{i:Nat}(h:i<Z' R):(bK R)[i]?=some [.bool (R.getD i false)]:=by
 unfold bK;rw[bgT,bgH h,bgF,bgH h];rfl
theorem jZ(R:List Bool):(bK R).length=Z' R:=by simp[bK]
def jd(l:dN)(o r:Nat):PF:=(((PF.nil.set 1 (.bE l.cells)).set 3 (.osl o 1 0 l.exit.length)).set 4 (.int .i64 r))
def SD(l:dN)(o r i:Nat):PF:=(((((PF.nil.set 1 (.bE l.cells)).set 3 (.osl o 1 0 l.exit.length)).set 4 (.int .i64 r)).set 19 (.int .i64 (Z' l.exit:Nat))).set 20 (.int .i64 i))
def AS(l:dN)(o r i:Nat)(row:List RF)(k:Nat):PF:=(((((((((PF.nil.set 1 (.bE l.cells)).set 3 (.osl o 1 0 l.exit.length)).set 4 (.int .i64 r)).set 19 (.int .i64 (Z' l.exit:Nat))).set 20 (.int .i64 i)).set 5 (.int .i64 i)).set 42 (frs row)).set 43 (.int .i64 (Z' row:Nat))).set 44 (.int .i64 k))
def mQ(o:Nat)(R:List Bool):PH:=PH.nil.set o (.rows 1 (bK R))
theorem aqH{C:Ctx}(L:AJ C)(l:dN)(o r i:Nat)(row:List RF)(I:pD row)(W:Z' row=Z' l.exit)(hi:i<Z' l.exit)(hn:Z' l.exit≤4)(e:List Bool)(X:Z' e=Z' l.exit)(K:cQ)(F:PF)(H:PH)
  (N:(AS l o r i row 0).le F) (J:(mQ o e).le H)
  (U:∀F H,(AS l o r i row row.length).le F→(mQ o (dX e i row row.length)).le H→K .normal F H) :
  aC.wp C (.block 4 (.loop KV)) K F H:=by
 simp only[go_sem];refine wp_loop (α:=Nat) (λk=>AS l o r i row k) (λk=>mQ o (dX e i row k)) (λk=>k≤Z' row) (λk=>Z' row-k) 0 (bgE _) N J ?_;intro k Z;simp only[go_sem,KV,Zi,AS,mQ];have O:=BN e i row k;by_cases hlt:k<Z' row
 ·have j:(k:Int)<(Z' row:Nat):=Om;have V:(row.map RF.cells)[k]?=some (row[k]).cells:=by simp[hlt]
  simp only[go_sem,j,Ks,V];refine aQ λo7 E=>?_;have M:o≠o7:=by rintro rfl;simp only[aR,if_true]at E;cases E
  have w:(i:Int)<(Z' l.exit:Nat):=Om;have B:(k:Int)<(Z' l.exit:Nat):=Om;have u:=fI (R:=dX e i row k) (i:=i) Om;have x:=fI (R:=dX e i row k) (i:=k) Om;have y:dX e i row (k+1)=(dX e i row k).set i ((dX e i row k).getD i false||cC row[k]&&(dX e i row k).getD k false):=by simp only[dX,bgF,bgT,bgH hlt,bhD,biE]
  have fin:∀(b:Bool)(F:PF)(H:PH),b=((dX e i row k).getD i false||cC row[k]&&(dX e i row k).getD k false)→(AS l o r i row (k+1)).le F→H o=some (.rows 1 ((bK (dX e i row k)).set i [.bool b])) →
    fZ (λk=>AS l o r i row k) (λk=>mQ o (dX e i row k)) (λk=>k≤Z' row) (λk=>Z' row-k) (Z' row-k) (fN 4 K) .normal F H:=by
   intro b F H hb N J;refine aG (k+1) hlt Om N ?_;rw[jM,hb,←y]at J;exact e_ a_ J
  unfold AS mQ at fin;generalize hb:(dX e i row k).getD i false=b at *
  generalize Y:(dX e i row k).getD k false=c at *
  generalize S:cC row[k]=A at *
  cases b with
  |true =>simp only[go_sem,aw,M,w,bgL,u,KX,wZz k];exact fin true _ _ aY Lq Sq
  |false=>
   simp only[go_sem,aw,M,w,bgL,u];refine aB (L.wY _ (I.all _ (bgD hlt))) rfl ?_;rw[S];cases A with
   |false =>simp only[go_sem,w,B,M,bgL,u,x,KX,wZz k];exact fin false _ _ aY Lq Sq
   |true =>simp only[go_sem,w,B,M,bgL,u,x,KX,wZz k];exact fin c _ _ aY Lq Sq
 ·have j:¬(k:Int)<(Z' row:Nat):=Om;simp only[go_sem,j];have:k=Z' row:=Om;subst this;exact U _ _ (by unfold AS;exact Lq) (b_)
structure KK(l:dN):Prop where
 n:Z' l.exit≤4
 beP:Z' l.beP=Z' l.exit
 row:∀r∈l.beP,Z' r=Z' l.exit
theorem aqI{C:Ctx}(L:AJ C)(l:dN)(U:l.Ok)(he:KK l)(o r:Nat)(R:List Bool)(hR:Z' R=Z' l.exit)(K:cQ)(F:PF)(H:PH)
  (x:(SD l o r 0).le F) (N:(mQ o R).le H)
  (hK:∀F H,(jd l o r).le F→(mQ o (eN l R l.exit.length)).le H→K .normal F H) :
  aC.wp C (.block 2 (.loop KW)) K F H:=by
 simp only[go_sem];refine wp_loop (α:=Nat) (λi=>SD l o r i) (λi=>mQ o (eN l R i)) (λi=>i≤Z' l.exit) (λi=>Z' l.exit-i) 0 (bgE _) x N ?_;intro i hi;have V:=xO l R i;have hn:=he.n;by_cases hlt:i<Z' l.exit
 ·have e:(i:Int)<(Z' l.exit:Nat):=Om;have w:i<Z' l.beP:=by rw[he.beP];exact hlt
  have y:=fI (R:=eN l R i) (i:=i) Om;have hx:(l.exit.map RF.cells)[i]?=some (l.exit[i]).cells:=by simp[hlt]
  have I:(l.beP.map λr=>[frs r])[i]?=some [frs l.beP[i]]:=by simp[w]
  have S:(l.beP[i]).length=Z' l.exit:=he.row _ (bgD w);generalize u:(eN l R i).set i ((eN l R i).getD i false||cC l.exit[i])=J;have E:Z' J=Z' l.exit:=by rw[←u,bhU];omega
  have A:eN l R (i+1)=dX J i l.beP[i] (l.beP[i]).length:=by
   simp only[eN,qD];have X:(l.exit.map cC).getD i false=cC l.exit[i]:=by simp[bgF,hlt]
   have Y:l.beP.getD i []=l.beP[i]:=by simp[bgF,w]
   rw[X,Y,u]
  have j:∀(F:PF)(H:PH),(((((((PF.nil.set 1 (.bE l.cells)).set 3 (.osl o 1 0 l.exit.length)).set 4 (.int .i64 r)).set 19 (.int .i64 (Z' l.exit:Nat))).set 20 (.int .i64 i)).set 5 (.int .i64 i)):PF).le F→H o=some (.rows 1 (bK J)) →
    aC.wp C (.seq (.region r8) (.block 4 (.loop KV))) (fN 3 (kJ C (aC.wp C (.region ay)) (fZ (λi=>SD l o r i) (λi=>mQ o (eN l R i)) (λi=>i≤Z' l.exit) (λi=>Z' l.exit-i) (Z' l.exit-i) (fN 2 K)))) F H:=by
   intro F H x N;have f1:F 1=some (.bE l.cells):=x 1 _ rfl;have f3:F 3=some (.osl o 1 0 l.exit.length):=x 3 _ rfl;have f4:F 4=some (.int .i64 r):=x 4 _ rfl;have Z:F 19=some (.int .i64 (Z' l.exit:Nat)):=x 19 _ rfl;have β:F 20=some (.int .i64 i):=x 20 _ rfl;have f5:F 5=some (.int .i64 i):=x 5 _ rfl;rw[Jm];simp only[go_sem,r8,f1,f5,I,bfY];have inner:=aqH L l o r i l.beP[i] (U.row _ (bgD w)) S hlt hn J E;simp only[aC.wp,go_sem]at inner;refine inner _ _ _ ?_ (e_ a_ N) ?_
   ·unfold AS;exact Lq
   ·intro W H' B O;have M:W 20=some (.int .i64 i):=B 20 _ (by unfold AS;simp only[go_sem]);simp only[go_sem,ay,M,wZz i];refine aG (i+1) hlt Om ?_ (by rw[A];exact O);have g:=λ(q:Nat) v h=>B q v h;unfold SD;unfold AS at g;refine d_ (d_ (d_ (d_ (d_ c_ ?_) ?_) ?_) ?_) ?_
    ·simp only[go_sem];exact g 1 _ rfl
    ·simp only[go_sem];exact g 3 _ rfl
    ·simp only[go_sem];exact g 4 _ rfl
    ·simp only[go_sem];exact g 19 _ rfl
    ·simp only[go_sem]
  simp only[aC.wp,go_sem]at j;simp only[go_sem,KW,ry,SD,mQ,e,Zh];generalize hb:(eN l R i).getD i false=b at *
  cases b with
  |true =>simp only[go_sem,rz,e,bgL,y];refine j _ _ Lq ?_;rw[←u];simp only[go_sem,jM,Bool.true_or]
  |false =>simp only[go_sem,rz,e,bgL,y,hx];refine aB (L.wY _ (U.exit.all _ (bgD hlt))) rfl ?_;simp only[go_sem,e,bgL,y];refine j _ _ Lq ?_;rw[←u];simp only[go_sem,jM,Bool.false_or]
 ·have e:¬(i:Int)<(Z' l.exit:Nat):=Om;simp only[go_sem,KW,ry,SD,mQ,e];have:i=Z' l.exit:=Om;subst this;exact hK _ _ (by unfold jd;exact Lq) b_
theorem aTU{C:Ctx}(L:AJ C)(l:dN)(I:l.Ok)(he:KK l):SW.wp C (aW aHC.res (cT (.bool (vO l)))) (PF.args [.agg l.cells]) .nil:=by
 have J:=he.n;have A:(Z' l.exit:Int)*((1:Nat):Int)≤140737488355328:=Om;have B:(Z' l.exit:Int)≤9223372036854775807:=Om;simp only[go_sem,SW,Zc,Zd,aHC,bfY,A,B];refine aQ λo K=>?_;simp only[go_sem,Ze];refine wp_loop (α:=Nat) (λr=>jd l o r) (λr=>mQ o (eP l r)) (λr=>r≤Z' l.exit+1) (λr=>Z' l.exit+1-r) 0 (bgE _) ?_ ?_ ?_
 ·unfold jd;exact Lq
 ·refine e_ a_ ?_;simp only[go_sem,eP];simp[bK]
 intro r M;have j:=xN l r;simp only[go_sem,Kr,Zf,jd,mQ];by_cases hlt:r≤Z' l.exit
 ·have e:(r:Int)≤(Z' l.exit:Nat):=Om;simp only[go_sem,e,Zg];have inner:=aqI L l I he o r (eP l r) j;simp only[aC.wp,go_sem]at inner;refine inner _ _ _ ?_ b_ ?_
  ·unfold SD;exact Lq
  ·intro E H' w y;have g:=λ(q:Nat) v h=>w q v h;unfold jd at g;have g4:E 4=some (.int .i64 r):=g 4 _ rfl;simp only[go_sem,Kt,g4,wZz r];refine aG (r+1) Om Om ?_ y;refine d_ (d_ (d_ c_ ?_) ?_) ?_
   ·simp only[go_sem];exact g 1 _ rfl
   ·simp only[go_sem];exact g 3 _ rfl
   ·simp only[go_sem]
 ·have e:¬(r:Int)≤(Z' l.exit:Nat):=Om;have:r=Z' l.exit+1:=Om;subst this;simp only[go_sem,e,Ku];have u:=L.allb id 103 (eP l (Z' l.exit+1)) (Om:(eP l (Z' l.exit+1)).length≤_) λx _=>L.ends1 x;have F:(bK (eP l (Z' l.exit+1))).length=Z' l.exit:=by rw[jZ,j]
  refine vM u (rs:=bK (eP l (Z' l.exit+1))) (o:=o) (s:=1) Sq ?_ ?_
  ·simp only[go_sem,zV (show l.exit.length≤(bK (eP l (Z' l.exit+1))).length by omega),bgR (show(bK (eP l (Z' l.exit+1))).length≤l.exit.length by omega)]
  ·simp only[go_sem];exact bM rfl rfl
end Go.PM
