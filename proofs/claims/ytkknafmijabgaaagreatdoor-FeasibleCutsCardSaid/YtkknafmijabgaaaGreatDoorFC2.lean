/-
  Texts of ours, joined. No condition.
-/
import Derived.Test.YtkknafmijabgaaaGreatDoorFC1
import Derived.Shelf.Strconv.Itoa3
import Derived.Test.YtkknafmijabgaaaGreatDoorProg
import Derived.ProofKit
import Derived.OpenShut
set_option linter.unusedSimpArgs false
set_option linter.unusedVariables false
open Nat renaming reduceEqDiff→γ,reduceAdd→δ,reduceSub→ε,reduceMul→ζ,reduceLT→η,reduceLeDiff→θ,reduceBEq→τ
open Int renaming reduceLT→ι,reduceLE→κ,reduceEq→μ,reduceToNat→ν,reduceAdd→ξ,reduceNeg→ο,reduceBEq→ρ,reduceBNe→σ
open List renaming reduceReplicate→υ
open List renaming range→a3U,length_map→a3V,replicate→a3W,getElem_mem→a3Y,length_append→a3Z,getElem?_eq_getElem→a4C,getD_eq_getElem?_getD→a4D,length_singleton→a4E,mem_cons→a4J,length_take→a4M,take_of_length_le→a4N,getElem?_map→a4Q,mem_range→a4S,all_eq_true→a4T,mem_map→a4W,mem_singleton→a4X,getElem?_eq_some_iff→a5A,append_assoc→a5C,map_cons→a5D,mem_append→a5E,take_length→a5F,drop_zero→a5J,getElem?_eq_none→a5K,length_drop→a5M,append_nil→a5O,length_cons→a5P,length_set→a5Q,getElem_of_mem→a5R,mem_of_getElem?→a5S,getElem?_append_left→a5U,getElem?_append_right→a5V,take_succ_eq_append_getElem→a5W,getElem_map→a6E,length_nil→a6F,drop_eq_getElem_cons→a6J,getElem?_range→a6K,map_nil→a6L,range_succ→a6N,take_append_drop→a6W,map_map→a7A,mem_cons_of_mem→a7B,nil_append→a7C,getElem?_drop→a7I,length_replicate→a7J,cons_append→a7L,set_append_right→a7O,drop_of_length_le→a7U,getElem?_replicate→a7V
open Nat renaming gcd→a3X,zero_le→a4A,le_refl→a4B,zero_add→a4I,mul_add→a4L,lt_or_ge→a4R,mul_assoc→a4V,mul_comm→a4Y,mul_le_mul_right→a4Z,add_mul→a5G,add_zero→a5H,mod_eq_of_lt→a5N,mod_lt→a5T,pow_succ→a5X,eq_zero_or_pos→a6C,succ_mul→a6D,min_eq_left→a6G,add_assoc→a6O,mul_le_mul_left→a6P,pos_of_ne_zero→a6Q,le_trans→a6T,pow_pos→a6X,div_eq_of_lt→a7D,div_le_self→a7E,div_lt_iff_lt_mul→a7F,mul_le_mul→a7G,div_add_mod→a7P
open Bool renaming false_and→a4F,not_true→a4H,true_and→a4K,not_false→a4O,and_eq_true→a4P,and_false→a5I,and_true→a5Z
open Option renaming map_eq_some_iff→a4G,map_some→a5B,some→a6H,getD_some→a6R,bind_eq_some_iff→a7Q,bind_some→a7R
open Array renaming length_toList→a6Y
open Int renaming toNat_natCast→a6U
open List renaming length→Z'
set_option maxRecDepth 100000
set_option maxHeartbeats 800000
noncomputable section
namespace Go.Proofs
open Go.Shelf
def Tryz.agH:Go.Shelf.Ren:=⟨λ|171=>79|243=>112|246=>142|283=>159|284=>160|285=>161|286=>162|129=>174|317=>173|318=>175|319=>176|320=>177|337=>182|338=>183|n=>n,λ|3=>3|9=>9|2=>2|4=>4|171=>188|0=>0|53=>140|37=>22|5=>5|173=>191|212=>196|51=>165|20=>20|213=>197|46=>170|232=>205|233=>206|n=>n,λ|17=>0|18=>1|19=>2|n=>n⟩
theorem Tryz.aPP:Go.Proofs.Lays.n171 Tryz.prog Tryz.agH:={
 mixed:=by kernel_rfl
 f129:=Tryz.func174.trans (congrArg some (by kernel_rfl))
 f171:=Tryz.func79.trans (congrArg some (by kernel_rfl))
 f243:=Tryz.func112.trans (congrArg some (by kernel_rfl))
 f246:=Tryz.func142.trans (congrArg some (by kernel_rfl))
 f283:=Tryz.func159.trans (congrArg some (by kernel_rfl))
 f284:=Tryz.func160.trans (congrArg some (by kernel_rfl))
 f285:=Tryz.func161.trans (congrArg some (by kernel_rfl))
 f286:=Tryz.func162.trans (congrArg some (by kernel_rfl))
 f317:=Tryz.func173.trans (congrArg some (by kernel_rfl))
 f318:=Tryz.func175.trans (congrArg some (by kernel_rfl))
 f319:=Tryz.func176.trans (congrArg some (by kernel_rfl))
 f320:=Tryz.func177.trans (congrArg some (by kernel_rfl))
 f337:=Tryz.func182.trans (congrArg some (by kernel_rfl))
 f338:=Tryz.func183.trans (congrArg some (by kernel_rfl))
 t0:=Tryz.underlying0
 a0:=Tryz.isAgg0
 z0:=Tryz.sizeOf0
 v0:=Tryz.zeroValue0
 t2:=Tryz.underlying2
 a2:=Tryz.isAgg2
 z2:=Tryz.sizeOf2
 v2:=Tryz.zeroValue2
 t3:=Tryz.underlying3
 a3:=Tryz.isAgg3
 z3:=Tryz.sizeOf3
 v3:=Tryz.zeroValue3
 t4:=Tryz.underlying4
 a4:=Tryz.isAgg4
 z4:=Tryz.sizeOf4
 v4:=Tryz.zeroValue4
 t5:=Tryz.underlying5
 a5:=Tryz.isAgg5
 z5:=Tryz.sizeOf5
 v5:=Tryz.zeroValue5
 t9:=Tryz.underlying9
 a9:=Tryz.isAgg9
 z9:=Tryz.sizeOf9
 v9:=Tryz.zeroValue9
 t20:=Tryz.underlying20
 a20:=Tryz.isAgg20
 z20:=Tryz.sizeOf20
 v20:=Tryz.zeroValue20
 t37:=Tryz.underlying22
 a37:=Tryz.isAgg22
 z37:=Tryz.sizeOf22
 v37:=Tryz.zeroValue22
 t46:=Tryz.underlying170
 a46:=Tryz.isAgg170
 z46:=Tryz.sizeOf170
 v46:=Tryz.zeroValue170
 t51:=Tryz.underlying165
 a51:=Tryz.isAgg165
 z51:=Tryz.sizeOf165
 v51:=Tryz.zeroValue165
 t53:=Tryz.underlying140
 a53:=Tryz.isAgg140
 z53:=Tryz.sizeOf140
 v53:=Tryz.zeroValue140
 t171:=Tryz.underlying188
 a171:=Tryz.isAgg188
 z171:=Tryz.sizeOf188
 v171:=Tryz.zeroValue188
 t173:=Tryz.underlying191
 a173:=Tryz.isAgg191
 z173:=Tryz.sizeOf191
 v173:=Tryz.zeroValue191
 t212:=Tryz.underlying196
 a212:=Tryz.isAgg196
 z212:=Tryz.sizeOf196
 v212:=Tryz.zeroValue196
 t213:=Tryz.underlying197
 a213:=Tryz.isAgg197
 z213:=Tryz.sizeOf197
 t232:=Tryz.underlying205
 a232:=Tryz.isAgg205
 z232:=Tryz.sizeOf205
 v232:=Tryz.zeroValue205
 t233:=Tryz.underlying206
 a233:=Tryz.isAgg206
 z233:=Tryz.sizeOf206
 v233:=Tryz.zeroValue206
 g17:=by kernel_rfl
 g18:=by kernel_rfl
 g19:=by kernel_rfl }
end Go.Proofs
namespace Go.PM
open Go
inductive Co:PV→PV→Prop
 |refl (v:PV):Co v v
 |junk (v:PV):Co v .junk
 |nil (s:Nat):Co .aE (.sl s [])
 |osl0 (o s off s':Nat):Co (.osl o s off 0) (.sl s' [])
 |agg {cs ds:List PV} (hl:Z' ds=Z' cs) (h:∀(j:Nat) p q,cs[j]?=some p→ds[j]?=some q→Co p q):Co (.agg cs) (.agg ds)
 |tup {cs ds:List PV} (hl:Z' ds=Z' cs) (h:∀(j:Nat) p q,cs[j]?=some p→ds[j]?=some q→Co p q):Co (.tup cs) (.tup ds)
 |bU {cs ds:List PV} (hl:Z' ds=Z' cs) (h:∀(j:Nat) p q,cs[j]?=some p→ds[j]?=some q→Co p q):Co (.bU cs) (.bU ds)
 |sl {s:Nat} {rs ts:List (List PV)} (hl:Z' ts=Z' rs) (hr:∀(i:Nat) r t,rs[i]?=some r→ts[i]?=some t→Z' t=Z' r)
   (h:∀(i j:Nat) p q,at2 rs i j=some p→at2 ts i j=some q→Co p q):Co (.sl s rs) (.sl s ts)
structure CoL(ps qs:List PV):Prop where
 len:Z' qs=Z' ps
 at_:∀(j:Nat) p q,ps[j]?=some p→qs[j]?=some q→Co p q
theorem CoL.refl(ps:List PV):CoL ps ps:=⟨rfl,λj p q h k=>by rw[h]at k;cases k;exact .refl p⟩
theorem Co.sound{E:Env}{p q:PV}(h:Co p q):∀{v:Value},bF E p v→bF E q v:=by
 induction h with
 |refl=>intro v r;exact r
 |junk=>intro v _;exact .junk v
 |nil s =>intro v r;cases r;exact .sl (λ_ _=>.bool false) aW aX aW aW (λ_ _=>rfl) (by simp[at2])
 |osl0 o s α s'=>
  intro v r;cases r with
  |osl hb K X W y hn S=>exact .sl (λ_ _=>.bool false) aW y aW aW (λ_ _=>rfl) (by simp[at2])
 |agg x h F=>
  intro v r;cases r with
  |agg vs B I A=>
  refine .agg vs (B.trans x.symm) I λj q u hq U=>?_;have w:=(a5A.1 hq).1;have l:=a4C (show j<_ by rw[x]at w;exact w);exact F j _ q l hq (A j _ u l U)
 |tup x h F=>
  intro v r;cases r with
  |tup vs B A=>
  refine .tup vs (B.trans x.symm) λj q u hq U=>?_;have w:=(a5A.1 hq).1;have l:=a4C (show j<_ by rw[x]at w;exact w);exact F j _ q l hq (A j _ u l U)
 |bU x h F=>
  intro v r;cases r with
  |bU u K O I A=>
  refine .bU u K (λj q hq=>?_) I λj q hq=>?_
  ·have w:=(a5A.1 hq).1;exact O j _ (a4C (show j<_ by rw[x]at w;exact w))
  ·have w:=(a5A.1 hq).1;have l:=a4C (show j<_ by rw[x]at w;exact w);exact F j _ q l hq (A j _ l)
 |@sl s rs ts x J h F=>
  intro v r;have M:∀(i j:Nat) q,at2 ts i j=some q→∃p,at2 rs i j=some p:=by intro i j q hq;unfold at2 at hq ⊢;rw[a7Q]at hq;obtain⟨t,N,hq⟩:=hq;have hi:=(a5A.1 N).1;have A:=a4C (Om:i<Z' rs);have:=J i _ t A N;have w:=(a5A.1 hq).1;rw[A];exact⟨(rs[i])[j]'Om,by simp⟩
  cases r with
  |sl u V y hs Z I A=>
  rw[←x];refine .sl u Om y (λt N=>?_) (λR=>?_) I λi j q hq=>?_
  ·obtain⟨i,hi,rfl⟩:=a5R N;have:=J i rs[i] ts[i] aW aW;rw[this];exact hs _ aW
  ·obtain⟨Y,e,sp,O⟩:=Z (by rintro rfl;exact R (List.eq_nil_of_length_eq_zero (by simpa using x)));refine⟨Y,e,sp,λi j q hq=>?_⟩;obtain⟨p,l⟩:=M i j q hq;exact O i j p l
  ·obtain⟨p,l⟩:=M i j q hq;exact F i j p q l hq (A i j p l)
theorem CoL.sound{E:Env}:∀{ps e:List PV}{vs:List Value},CoL ps e→gS E ps vs→gS E e vs
 |[],e,vs,h,r=>by cases r;have:e=[]:=List.eq_nil_of_length_eq_zero h.len;subst this;exact .nil
 |p::ps,e,vs,h,r=>by
  cases r with
  |cons r1 r2=>
  cases e with
  |nil=>have:=h.len;simp at this
  |cons q e =>refine .cons ((h.at_ 0 p q rfl rfl).sound r1) (CoL.sound ⟨by simpa using h.len,λj x y a b=>h.at_ (j+1) x y (by simpa using a) (by simpa using b)⟩ r2)
theorem aJ.args{C:Ctx}{name:Nat}{args e:List PV}{H:PH}{R:PV→PH→Prop}(h:aJ C name e H R)(u:CoL args e):aJ C name args H R:=
 ⟨h.1,λE w vs l hW j=>h.2 E w vs l hW (u.sound j)⟩
theorem aJ.post{C:Ctx}{name:Nat}{args:List PV}{H:PH}{R A:PV→PH→Prop}(h:aJ C name args H R)(K:∀r H',R r H'→∃B,Co r B∧A B H'):aJ C name args H A:=
 ⟨h.1,λE w vs J hW x=>(h.2 E w vs J hW x).mono λe O he=>by obtain⟨v,pv,F,H',rfl,j,N,I,M⟩:=he;obtain⟨y,l,u⟩:=K pv H' M;exact⟨v,y,F,H',rfl,j,l.sound N,I,u⟩⟩
attribute [go_sem] List.getElem?_cons_succ List.getElem?_cons_zero and_self and_true true_and or_true true_or or_false false_or a4H a4O a5B a7R if_true if_false a5P a6F List.drop_succ_cons a5J List.take_succ_cons List.take_zero a5D a6L a6H.injEq PV.bool.injEq PV.int.injEq aS PV.bin
@[go_sem] theorem aVN(k:IntKind)(a b:Int):qB .add k a b=some (.int k (k.wrap (a+b))):=(rfl)
@[go_sem] theorem aVX(k:IntKind)(a b:Int):qB .sub k a b=some (.int k (k.wrap (a-b))):=(rfl)
@[go_sem] theorem aVT(k:IntKind)(a b:Int):qB .mul k a b=some (.int k (k.wrap (a*b))):=(rfl)
@[go_sem] theorem aVV(k:IntKind)(a b:Int):qB .quo k a b=if b=0 then none else some (.int k (k.wrap (a.tdiv b))):=(rfl)
@[go_sem] theorem aVW(k:IntKind)(a b:Int):qB .rem k a b=if b=0 then none else some (.int k (a.tmod b)):=(rfl)
@[go_sem] theorem aVO(k:IntKind)(a b:Int):qB .eql k a b=some (.bool (a==b)):=(rfl)
@[go_sem] theorem aVU(k:IntKind)(a b:Int):qB .neq k a b=some (.bool (a != b)):=(rfl)
@[go_sem] theorem aVS(k:IntKind)(a b:Int):qB .lss k a b=some (.bool (decide (a<b))):=(rfl)
@[go_sem] theorem aVR(k:IntKind)(a b:Int):qB .leq k a b=some (.bool (decide (a≤b))):=(rfl)
@[go_sem] theorem aVQ(k:IntKind)(a b:Int):qB .gtr k a b=some (.bool (decide (a>b))):=(rfl)
@[go_sem] theorem aVP(k:IntKind)(a b:Int):qB .geq k a b=some (.bool (decide (a≥b))):=(rfl)
section
variable {C:Ctx} {K:cP} {F:PF} {H:PH}
@[go_sem] theorem a0I:aC.wp C .skip K F H=K .normal F H:=(rfl)
@[go_sem] theorem aXK(ops:List bK):aC.wp C (.region ops) K F H=wpOps C ops (K .normal) F H:=(rfl)
@[go_sem] theorem Ec(a b:aC):aC.wp C (.seq a b) K F H=a.wp C (kT C (b.wp C) K) F H:=(rfl)
@[go_sem] theorem aYT(id:Nat)(c:aC):aC.wp C (.block id c) K F H=c.wp C (gP id K) F H:=(rfl)
@[go_sem] theorem a0H(id:Nat):aC.wp C (.exit id) K F H=K (.exit id) F H:=(rfl)
@[go_sem] theorem a0U:aC.wp C .ret K F H=K .ret F H:=(rfl)
def ce(C:Ctx)(v:Option PV)(a b:aC)(K:cP)(F:PF)(H:PH):Prop:=
 match v with
 |some (.bool t)=>if t then a.wp C K F H else b.wp C K F H
 |_=>False
@[go_sem] theorem aMN(c:aR)(a b:aC):aC.wp C (.cond c a b) K F H=ce C (c.ev F) a b K F H:=(rfl)
@[go_sem] theorem aWC(a b:aC):ce C (some (.bool true)) a b K F H=a.wp C K F H:=(rfl)
@[go_sem] theorem aUO(a b:aC):ce C (some (.bool false)) a b K F H=b.wp C K F H:=(rfl)
theorem aGW{t:Bool}{a b:aC}(e:t=true→a.wp C K F H)(j:t=false→b.wp C K F H):ce C (some (.bool t)) a b K F H:=by
 cases t
 ·exact j rfl
 ·exact e rfl
@[go_sem] theorem aUW(w:cP→PF→PH→Prop):kT C w K .normal F H=w K F H:=(rfl)
@[go_sem] theorem aUC(w:cP→PF→PH→Prop):kT C w K .normal=w K:=(rfl)
@[go_sem] theorem aYG(w:cP→PF→PH→Prop)(id:Nat):kT C w K (.exit id)=K (.exit id):=(rfl)
@[go_sem] theorem aZY(w:cP→PF→PH→Prop):kT C w K .ret=K .ret:=(rfl)
@[go_sem] theorem aSH(id:Nat):gP id K .normal=K .normal:=(rfl)
@[go_sem] theorem aWA(id:Nat):gP id K .ret=K .ret:=(rfl)
@[go_sem] theorem JQ(id e:Nat):gP id K (.exit e) F H=if e=id then K .normal F H else K (.exit e) F H:=(rfl)
@[go_sem] theorem aXI(K:PF→PH→Prop):wpOps C [] K F H=K F H:=(rfl)
@[go_sem] theorem aXJ(d:Option Nat)(op:POp)(e:List bK)(K:PF→PH→Prop):wpOps C (⟨d,op,none⟩::e) K F H=wpOp C op d (wpOps C e K) F H:=(rfl)
def CH(C:Ctx)(v:Option PV)(j:Bool)(op:POp)(d:Option Nat)(e:List bK)(K:PF→PH→Prop)(F:PF)(H:PH):Prop:=
 match v with
 |some (.bool b)=>if b=j then wpOp C op d (wpOps C e K) F H else wpOps C e K (F.put d (.tup [])) H
 |some (.tup [])=>wpOps C e K (F.put d (.tup [])) H
 |_=>False
@[go_sem] theorem agX(d:Option Nat)(op:POp)(t:Nat)(j:Bool)(e:List bK)(K:PF→PH→Prop) :
  wpOps C (⟨d,op,some (t,j)⟩::e) K F H=CH C (F t) j op d e K F H:=(rfl)
@[go_sem] theorem aYC(op:POp)(d:Option Nat)(e:List bK)(K:PF→PH→Prop):CH C (some (.bool true)) true op d e K F H=wpOp C op d (wpOps C e K) F H:=(rfl)
@[go_sem] theorem aXZ(op:POp)(d:Option Nat)(e:List bK)(K:PF→PH→Prop):CH C (some (.bool false)) false op d e K F H=wpOp C op d (wpOps C e K) F H:=(rfl)
@[go_sem] theorem aYB(op:POp)(d:Option Nat)(e:List bK)(K:PF→PH→Prop):CH C (some (.bool true)) false op d e K F H=wpOps C e K (F.put d (.tup [])) H:=(rfl)
@[go_sem] theorem aYA(op:POp)(d:Option Nat)(e:List bK)(K:PF→PH→Prop):CH C (some (.bool false)) true op d e K F H=wpOps C e K (F.put d (.tup [])) H:=(rfl)
@[go_sem] theorem aUT(j:Bool)(op:POp)(d:Option Nat)(e:List bK)(K:PF→PH→Prop):CH C (some (.tup [])) j op d e K F H=wpOps C e K (F.put d (.tup [])) H:=(rfl)
@[go_sem] theorem aZV(d:Nat)(v:PV):F.put (some d) v=F.set d v:=(rfl)
@[go_sem] theorem aZU(v:PV):F.put none v=F:=(rfl)
@[go_sem] theorem pF(i j:Nat)(v:PV):(F.set i v) j=if j=i then some v else F j:=(rfl)
@[go_sem] theorem args_at(vs:List PV)(i:Nat):PF.args vs i=vs[i]?:=(rfl)
@[go_sem] theorem a0Z(i:Nat):PF.nil i=none:=(rfl)
@[go_sem] theorem s9(t:Nat):(aR.tmp t).ev F=F t:=(rfl)
@[go_sem] theorem aZK(v:PV):(aR.const v).ev F=some v:=(rfl)
@[go_sem] theorem aU(i j:Nat)(x:cD):(H.set i x) j=if j=i then some x else H j:=(rfl)
@[go_sem] theorem Cf(i:Nat):PH.nil i=none:=(rfl)
@[go_sem] theorem ci:aR.evs F []=some []:=(rfl)
@[go_sem] theorem GO(x:aR)(xs:List aR):aR.evs F (x::xs)=(match x.ev F,aR.evs F xs with|some v,some vs=>some (v::vs)|_,_=>none):=(rfl)
theorem mK{i j:Nat}{x:cD}:(H.set i x) j=none↔j≠i∧H j=none:=by
 rw[aU];split<;>simp_all
@[go_sem] theorem aUX(v:PV)(d:Option Nat)(K:PF→PH→Prop):cR (some v) d K F H=K (F.put d v) H:=by
 simp[cR]
theorem aQ{e:Nat→PV}{x:cD}{d:Option Nat}{K:PF→PH→Prop}(h:∀o,H o=none→K (F.put d (e o)) (H.set o x)):rO (some (e,x)) d K F H:=⟨e,x,rfl,h⟩
@[go_sem] theorem a0S(x:aR)(d:Option Nat)(K:PF→PH→Prop):wpOp C (.mv x) d K F H=cR (aS (.mv x) F H) d K F H:=(rfl)
@[go_sem] theorem aYS(x:aR)(d:Option Nat)(K:PF→PH→Prop):wpOp C (.same x) d K F H=cR (aS (.same x) F H) d K F H:=(rfl)
@[go_sem] theorem aYR(c a b:aR)(d:Option Nat)(K:PF→PH→Prop):wpOp C (.pick c a b) d K F H=cR (aS (.pick c a b) F H) d K F H:=(rfl)
@[go_sem] theorem a0C(o:BinOp)(x y:aR)(d:Option Nat)(K:PF→PH→Prop):wpOp C (.bin o x y) d K F H=cR (aS (.bin o x y) F H) d K F H:=(rfl)
@[go_sem] theorem a0E(n:Bool)(x y:aR)(d:Option Nat)(K:PF→PH→Prop):wpOp C (.eqb n x y) d K F H=cR (aS (.eqb n x y) F H) d K F H:=(rfl)
@[go_sem] theorem a0F(n:Bool)(e:List Sc)(x y:aR)(d:Option Nat)(K:PF→PH→Prop):wpOp C (.eqs n e x y) d K F H=cR (aS (.eqs n e x y) F H) d K F H:=(rfl)
@[go_sem] theorem a0T(o:UnOp)(x:aR)(d:Option Nat)(K:PF→PH→Prop):wpOp C (.un o x) d K F H=cR (aS (.un o x) F H) d K F H:=(rfl)
@[go_sem] theorem aYK(k:IntKind)(x:aR)(d:Option Nat)(K:PF→PH→Prop):wpOp C (.conv k x) d K F H=cR (aS (.conv k x) F H) d K F H:=(rfl)
@[go_sem] theorem aXB(z:List PV)(ps:List (Nat × Nat × aR))(d:Option Nat)(K:PF→PH→Prop):wpOp C (.build z ps) d K F H=cR (aS (.build z ps) F H) d K F H:=(rfl)
@[go_sem] theorem aYP(n:Option Nat)(p:aR)(d:Option Nat)(K:PF→PH→Prop):wpOp C (.load n p) d K F H=cR (aS (.load n p) F H) d K F H:=(rfl)
@[go_sem] theorem aVI(x:aR)(d:Option Nat)(K:PF→PH→Prop):wpOp C (.a2U x) d K F H=cR (aS (.a2U x) F H) d K F H:=(rfl)
@[go_sem] theorem aVB(e:Nat)(x:aR)(d:Option Nat)(K:PF→PH→Prop):wpOp C (.a3L e x) d K F H=cR (aS (.a3L e x) F H) d K F H:=(rfl)
@[go_sem] theorem aXD(e:Nat)(n:Option Nat)(x:aR)(d:Option Nat)(K:PF→PH→Prop):wpOp C (.field e n x) d K F H=cR (aS (.field e n x) F H) d K F H:=(rfl)
@[go_sem] theorem aYM(s:Nat)(x i:aR)(d:Option Nat)(K:PF→PH→Prop):wpOp C (.a2Y s x i) d K F H=cR (aS (.a2Y s x i) F H) d K F H:=(rfl)
@[go_sem] theorem aYL(n s:Nat)(x i:aR)(d:Option Nat)(K:PF→PH→Prop):wpOp C (.idxA n s x i) d K F H=cR (aS (.idxA n s x i) F H) d K F H:=(rfl)
@[go_sem] theorem aYN(n s:Nat)(g:Bool)(x i:aR)(d:Option Nat)(K:PF→PH→Prop):wpOp C (.idxV n s g x i) d K F H=cR (aS (.idxV n s g x i) F H) d K F H:=(rfl)
@[go_sem] theorem aVC(x i:aR)(d:Option Nat)(K:PF→PH→Prop):wpOp C (.a3J x i) d K F H=cR (aS (.a3J x i) F H) d K F H:=(rfl)
@[go_sem] theorem aXG(s:Nat)(x:aR)(lo hi mx:Option aR)(d:Option Nat)(K:PF→PH→Prop):wpOp C (.slice s x lo hi mx) d K F H=cR (aS (.slice s x lo hi mx) F H) d K F H:=(rfl)
@[go_sem] theorem aVJ(n s:Nat)(x:aR)(lo hi mx:Option aR)(d:Option Nat)(K:PF→PH→Prop):wpOp C (.sliceA n s x lo hi mx) d K F H=cR (aS (.sliceA n s x lo hi mx) F H) d K F H:=(rfl)
@[go_sem] theorem aSK(x:aR)(lo hi:Option aR)(d:Option Nat)(K:PF→PH→Prop):wpOp C (.a3E x lo hi) d K F H=cR (aS (.a3E x lo hi) F H) d K F H:=(rfl)
@[go_sem] theorem aYD:PV.zA .aE=some (.int .i64 0):=(rfl)
@[go_sem] theorem a0R(s:Nat)(rows:List (List PV)):PV.zA (.sl s rows)=some (.int .i64 rows.length):=(rfl)
@[go_sem] theorem aZQ(o s e n:Nat):PV.zA (.osl o s e n)=some (.int .i64 n):=(rfl)
@[go_sem] theorem a0G(x:aR)(d:Option Nat)(K:PF→PH→Prop):wpOp C (.len x) d K F H=cR (aS (.len x) F H) d K F H:=(rfl)
@[go_sem] theorem aVE(x:aR)(d:Option Nat)(K:PF→PH→Prop):wpOp C (.a3I x) d K F H=cR (aS (.a3I x) F H) d K F H:=(rfl)
@[go_sem] theorem aYO(x:aR)(d:Option Nat)(K:PF→PH→Prop):wpOp C (.lenM x) d K F H=cR (aS (.lenM x) F H) d K F H:=(rfl)
@[go_sem] theorem aXE(n:Bool)(x:aR)(d:Option Nat)(K:PF→PH→Prop):wpOp C (.isNil n x) d K F H=cR (aS (.isNil n x) F H) d K F H:=(rfl)
@[go_sem] theorem aUV:PV.NL .aE=some true:=(rfl)
@[go_sem] theorem aWR(o s e len:Nat):PV.NL (.osl o s e len)=some false:=(rfl)
@[go_sem] theorem aUU(s:Nat)(r:List PV)(rs:List (List PV)):PV.NL (.sl s (r::rs))=some false:=(rfl)
@[go_sem] theorem aVA(x:aR)(d:Option Nat)(K:PF→PH→Prop):wpOp C (.a3T x) d K F H=cR (aS (.a3T x) F H) d K F H:=(rfl)
@[go_sem] theorem aUK(x:aR)(i:Nat)(d:Option Nat)(K:PF→PH→Prop):wpOp C (.extract x i) d K F H=cR (aS (.extract x i) F H) d K F H:=(rfl)
@[go_sem] theorem aVH(m:Bool)(x y:aR)(d:Option Nat)(K:PF→PH→Prop):wpOp C (.a3C m x y) d K F H=cR (aS (.a3C m x y) F H) d K F H:=(rfl)
@[go_sem] theorem aYQ(n:Nat)(cs:List aR)(d:Option Nat)(K:PF→PH→Prop):wpOp C (.mkfn n cs) d K F H=cR (aS (.mkfn n cs) F H) d K F H:=(rfl)
@[go_sem] theorem aVF(sh:MSh)(z:PV)(x k:aR)(ok:Bool)(d:Option Nat)(K:PF→PH→Prop):wpOp C (.lookup sh z x k ok) d K F H=cR (aS (.lookup sh z x k ok) F H) d K F H:=(rfl)
@[go_sem] theorem aRY(x:aR)(d:Option Nat)(K:PF→PH→Prop):wpOp C (.a2V x) d K F H=cR (aS (.a2V x) F H) d K F H:=(rfl)
@[go_sem] theorem aYI(x:aR)(d:Option Nat)(K:PF→PH→Prop):wpOp C (.box true x) d K F H=cR (aS (.box true x) F H) d K F H:=(rfl)
@[go_sem] theorem aUJ(s l:Nat)(z:List PV)(ps:List (Nat × aR))(d:Option Nat)(K:PF→PH→Prop):wpOp C (.a2M true s l z ps) d K F H=cR (aS (.a2M true s l z ps) F H) d K F H:=(rfl)
@[go_sem] theorem aXA(cs:List PV)(d:Option Nat)(K:PF→PH→Prop):wpOp C (.alloc cs) d K F H=rO (eN (.alloc cs) F) d K F H:=(rfl)
@[go_sem] theorem aUL(s b:Nat)(z:List PV)(l c:aR)(d:Option Nat)(K:PF→PH→Prop):wpOp C (.a2P s b z l c) d K F H=rO (eN (.a2P s b z l c) F) d K F H:=(rfl)
@[go_sem] theorem aXF(sh:MSh)(d:Option Nat)(K:PF→PH→Prop):wpOp C (.a3P sh) d K F H=rO (eN (.a3P sh) F) d K F H:=(rfl)
@[go_sem] theorem a0D(x:aR)(d:Option Nat)(K:PF→PH→Prop):wpOp C (.box false x) d K F H=rO (eN (.box false x) F) d K F H:=(rfl)
@[go_sem] theorem aUZ(s l:Nat)(z:List PV)(ps:List (Nat × aR))(d:Option Nat)(K:PF→PH→Prop):wpOp C (.a2M false s l z ps) d K F H=rO (eN (.a2M false s l z ps) F) d K F H:=(rfl)
@[go_sem] theorem aXH(n:Nat)(p x:aR)(d:Option Nat)(K:PF→PH→Prop):wpOp C (.store n p x) d K F H=dH (.store n p x) F H (λr H'=>K (F.put d r) H'):=(rfl)
@[go_sem] theorem aUY(s b:Nat)(x y:aR)(d:Option Nat)(K:PF→PH→Prop):wpOp C (.append s b x y) d K F H=dH (.append s b x y) F H (λr H'=>K (F.put d r) H'):=(rfl)
@[go_sem] theorem aVG(sh:MSh)(x k v:aR)(d:Option Nat)(K:PF→PH→Prop):wpOp C (.a2Z sh x k v) d K F H=dH (.a2Z sh x k v) F H (λr H'=>K (F.put d r) H'):=(rfl)
@[go_sem] theorem aVD(sh:MSh)(x k v:aR)(d:Option Nat)(K:PF→PH→Prop):wpOp C (.insert sh x k v) d K F H=dH (.insert sh x k v) F H (λr H'=>K (F.put d r) H'):=(rfl)
@[go_sem] theorem aYJ(n:Nat)(e:List aR)(d:Option Nat)(K:PF→PH→Prop):wpOp C (.call n e) d K F H=jX C n e [] d K F H:=(rfl)
@[go_sem] theorem aXC(x:aR)(e:List aR)(d:Option Nat)(K:PF→PH→Prop):wpOp C (.a3K x e) d K F H=BJ C (x.ev F) e d K F H:=(rfl)
@[go_sem] theorem aWZ(n:Nat)(cs:List PV)(e:List aR)(d:Option Nat)(K:PF→PH→Prop):BJ C (some (.fn n cs)) e d K F H=jX C n e cs d K F H:=(rfl)
theorem PF.nil_le:PF.nil.le F:=λ_ _ h=>(by cases h)
abbrev c_:=@PF.nil_le
theorem PF.aF{i:Nat}{v:PV}{G:PF}(w:F.le G)(x:G i=some v):(F.set i v).le G:=by
 intro j u l;rw[pF]at l;split at l
 ·rename_i e;subst e;cases l;exact x
 ·exact w _ _ l
abbrev d_:=@PF.aF
theorem PF.le_refl:F.le F:=λ_ _ h=>h
theorem PH.nil_le:PH.nil.le H:=λ_ _ h=>(by cases h)
abbrev a_:=@PH.nil_le
theorem PH.aF{i:Nat}{x:cD}{G:PH}(w:H.le G)(y:G i=some x):(H.set i x).le G:=by
 intro j u l;rw[aU]at l;split at l
 ·rename_i e;subst e;cases l;exact y
 ·exact w _ _ l
abbrev e_:=@PH.aF
theorem PH.le_refl:H.le H:=λ_ _ h=>h
abbrev b_:=@PH.le_refl
theorem wp_loop{c:aC}{α:Type}(e:α→PF)(Hs:α→PH)(j:α→Prop)(m:α→Nat)(l:α)(u:j l)(w:(e l).le F)(x:(Hs l).le H)
  (hb:∀a,j a→c.wp C (iR e Hs j m (m a) K) (e a) (Hs a)):aC.wp C (.loop c) K F H:=
 ⟨α,e,Hs,j,m,l,F,H,.refl F H,u,w,x,hb⟩
theorem aH{α:Type}{e:α→PF}{Hs:α→PH}{j:α→Prop}{m:α→Nat}{n:Nat}(a:α)(l:j a)(x:m a<n)(u:(e a).le F)(w:(Hs a).le H):iR e Hs j m n K .normal F H:=
 ⟨a,F,H,.refl F H,l,x,u,w⟩
@[go_sem] theorem aWT{α:Type}{e:α→PF}{Hs:α→PH}{j:α→Prop}{m:α→Nat}{n:Nat}(id:Nat):iR e Hs j m n K (.exit id)=K (.exit id):=(rfl)
@[go_sem] theorem aYE{α:Type}{e:α→PF}{Hs:α→PH}{j:α→Prop}{m:α→Nat}{n:Nat}:iR e Hs j m n K .ret=K .ret:=(rfl)
def aK(v:PV)(r:PV)(H:PH):Prop:=r=v∧H=PH.nil
theorem PH.qK:H.over .nil .nil=H:=PH.ext λo=>rfl
theorem agW{name:Nat}{vs cs:List PV}{v:PV}{args:List aR}{d:Option Nat}{K:PF→PH→Prop}(h:aJ C name (vs++cs) .nil (aK v))(e:aR.evs F args=some vs)
  (j:K (F.put d v) H):jX C name args cs d K F H:=by
 refine .inl ⟨vs++cs,.nil,_,by rw[e];rfl,a_,h,?_⟩;rintro r H' ⟨rfl,rfl⟩ _;rw[PH.qK];exact j
theorem aB{name:Nat}{vs:List PV}{v:PV}{args:List aR}{d:Option Nat}{K:PF→PH→Prop}(h:aJ C name vs .nil (aK v))(e:aR.evs F args=some vs)
  (j:K (F.put d v) H):jX C name args [] d K F H:=agW (cs:=[]) (by rw[a5O];exact h) e j
theorem aT{res:List fC}{vs:List PV}{v:PV}{e:nN}(he:e=.normal∨e=.ret)(h:fC.evs F H res=some vs)(x:cE vs=v):aV res (aK v) e F H:=by
 have j:∃vs,fC.evs F H res=some vs∧∃l w H2,lN (PF.nil.set 0 (cE vs)) H l w∧H2.le w∧∃u,l 0=some u∧aK v u H2:=
  ⟨vs,h,_,H,.nil,.refl _ _,a_,v,by rw[pF,aL rfl,x],rfl,rfl⟩
 rcases he with rfl|rfl<;>exact j
@[go_sem] theorem tU:fC.evs F H []=some []:=(rfl)
@[go_sem] theorem oY(x:fC)(xs:List fC):fC.evs F H (x::xs)=(match x.ev F H,fC.evs F H xs with|some v,some vs=>some (v::vs)|_,_=>none):=(rfl)
@[go_sem] theorem sJ(t:Nat):fC.ev F H (.tmp t)=F t:=(rfl)
@[go_sem] theorem aZW(t:Nat):fC.ev F H (.cell t none)=(match F t with|some p=>(match loadCells H p 1 with|some [v]=>some v|_=>none)|none=>none):=(rfl)
@[go_sem] theorem aYF(t k:Nat):fC.ev F H (.cell t (some k))=(match F t with|some p=>(loadCells H p k).map .agg|none=>none):=(rfl)
end
section
variable {C:Ctx} {K:cP} {F:PF} {H Hs:PH} {S:Spec}
theorem aZ{ops:List (bK × Bool)}(Hs:PH)(S:Spec)(e:Hs.le H)(h:wpD C Hs S ops (K .normal) F H):aC.wp C (.draw ops) K F H:=⟨Hs,S,e,h⟩
def cI:Spec:=λ_ _=>none
def dOp(C:Ctx)(Hs:PH)(S:Spec)(st:Bool)(op:POp)(d:Option Nat)(K:PF→PH→Prop)(F:PF)(H:PH):Prop:=(op.kind F).run C Hs S st (λv H'=>K (F.put d v) H') H
@[go_sem] theorem a0A(K:PF→PH→Prop):wpD C Hs S [] K F H=K F H:=(rfl)
@[go_sem] theorem a0B(d:Option Nat)(op:POp)(st:Bool)(e:List (bK × Bool))(K:PF→PH→Prop):wpD C Hs S ((⟨d,op,none⟩,st)::e) K F H=dOp C Hs S st op d (wpD C Hs S e K) F H:=(rfl)
def GU(C:Ctx)(Hs:PH)(S:Spec)(v:Option PV)(j st:Bool)(op:POp)(d:Option Nat)(e:List (bK × Bool))(K:PF→PH→Prop)(F:PF)(H:PH):Prop:=
 match v with
 |some (.bool b)=>if b=j then dOp C Hs S st op d (wpD C Hs S e K) F H else wpD C Hs S e K (F.put d (.tup [])) H
 |some (.tup [])=>wpD C Hs S e K (F.put d (.tup [])) H
 |_=>False
@[go_sem] theorem aYH(d:Option Nat)(op:POp)(t:Nat)(e st:Bool)(j:List (bK × Bool))(K:PF→PH→Prop) :
  wpD C Hs S ((⟨d,op,some (t,e)⟩,st)::j) K F H=GU C Hs S (F t) e st op d j K F H:=by
 have l:wpD C Hs S ((⟨d,op,some (t,e)⟩,st)::j) K F H=((⟨d,op,some (t,e)⟩:bK).kind F).run C Hs S st (λv H'=>wpD C Hs S j K (F.put d v) H') H:=(rfl);rw[l];unfold bK.kind GU;simp only;cases F t with
 |none=>rfl
 |some v=>
  cases v
  case bool b=>
   simp only;by_cases hb:b=e
   ·rw[aL hb,aL hb];rfl
   ·rw[aG hb,aG hb];simp[Kind.run]
  case tup vs=>cases vs<;>simp[Kind.run]
  all_goals rfl
@[go_sem] theorem aXY(op:POp)(st:Bool)(d:Option Nat)(e:List (bK × Bool))(K:PF→PH→Prop):GU C Hs S (some (.bool true)) true st op d e K F H=dOp C Hs S st op d (wpD C Hs S e K) F H:=(rfl)
@[go_sem] theorem aXV(op:POp)(st:Bool)(d:Option Nat)(e:List (bK × Bool))(K:PF→PH→Prop):GU C Hs S (some (.bool false)) false st op d e K F H=dOp C Hs S st op d (wpD C Hs S e K) F H:=(rfl)
@[go_sem] theorem aXX(op:POp)(st:Bool)(d:Option Nat)(e:List (bK × Bool))(K:PF→PH→Prop):GU C Hs S (some (.bool true)) false st op d e K F H=wpD C Hs S e K (F.put d (.tup [])) H:=(rfl)
@[go_sem] theorem aXW(op:POp)(st:Bool)(d:Option Nat)(e:List (bK × Bool))(K:PF→PH→Prop):GU C Hs S (some (.bool false)) true st op d e K F H=wpD C Hs S e K (F.put d (.tup [])) H:=(rfl)
@[go_sem] theorem aUS(j:Bool)(op:POp)(st:Bool)(d:Option Nat)(e:List (bK × Bool))(K:PF→PH→Prop):GU C Hs S (some (.tup [])) j st op d e K F H=wpD C Hs S e K (F.put d (.tup [])) H:=(rfl)
@[go_sem] theorem a0V(x:aR)(st:Bool)(d:Option Nat)(K:PF→PH→Prop):dOp C Hs S st (.mv x) d K F H=cR (aS (.mv x) F (if st then Hs else H)) d K F H:=(rfl)
@[go_sem] theorem aZI(x:aR)(st:Bool)(d:Option Nat)(K:PF→PH→Prop):dOp C Hs S st (.same x) d K F H=cR (aS (.same x) F (if st then Hs else H)) d K F H:=(rfl)
@[go_sem] theorem aZH(c a b:aR)(st:Bool)(d:Option Nat)(K:PF→PH→Prop):dOp C Hs S st (.pick c a b) d K F H=cR (aS (.pick c a b) F (if st then Hs else H)) d K F H:=(rfl)
@[go_sem] theorem a0K(o:BinOp)(x y:aR)(st:Bool)(d:Option Nat)(K:PF→PH→Prop):dOp C Hs S st (.bin o x y) d K F H=cR (aS (.bin o x y) F (if st then Hs else H)) d K F H:=(rfl)
@[go_sem] theorem a0M(n:Bool)(x y:aR)(st:Bool)(d:Option Nat)(K:PF→PH→Prop):dOp C Hs S st (.eqb n x y) d K F H=cR (aS (.eqb n x y) F (if st then Hs else H)) d K F H:=(rfl)
@[go_sem] theorem a0N(n:Bool)(e:List Sc)(x y:aR)(st:Bool)(d:Option Nat)(K:PF→PH→Prop):dOp C Hs S st (.eqs n e x y) d K F H=cR (aS (.eqs n e x y) F (if st then Hs else H)) d K F H:=(rfl)
@[go_sem] theorem a0W(o:UnOp)(x:aR)(st:Bool)(d:Option Nat)(K:PF→PH→Prop):dOp C Hs S st (.un o x) d K F H=cR (aS (.un o x) F (if st then Hs else H)) d K F H:=(rfl)
@[go_sem] theorem aZA(k:IntKind)(x:aR)(st:Bool)(d:Option Nat)(K:PF→PH→Prop):dOp C Hs S st (.conv k x) d K F H=cR (aS (.conv k x) F (if st then Hs else H)) d K F H:=(rfl)
@[go_sem] theorem aXM(z:List PV)(ps:List (Nat × Nat × aR))(st:Bool)(d:Option Nat)(K:PF→PH→Prop):dOp C Hs S st (.build z ps) d K F H=cR (aS (.build z ps) F (if st then Hs else H)) d K F H:=(rfl)
@[go_sem] theorem aZF(n:Option Nat)(p:aR)(st:Bool)(d:Option Nat)(K:PF→PH→Prop):dOp C Hs S st (.load n p) d K F H=cR (aS (.load n p) F (if st then Hs else H)) d K F H:=(rfl)
@[go_sem] theorem aWN(x:aR)(st:Bool)(d:Option Nat)(K:PF→PH→Prop):dOp C Hs S st (.a2U x) d K F H=cR (aS (.a2U x) F (if st then Hs else H)) d K F H:=(rfl)
@[go_sem] theorem aWH(e:Nat)(x:aR)(st:Bool)(d:Option Nat)(K:PF→PH→Prop):dOp C Hs S st (.a3L e x) d K F H=cR (aS (.a3L e x) F (if st then Hs else H)) d K F H:=(rfl)
@[go_sem] theorem aXN(e:Nat)(n:Option Nat)(x:aR)(st:Bool)(d:Option Nat)(K:PF→PH→Prop):dOp C Hs S st (.field e n x) d K F H=cR (aS (.field e n x) F (if st then Hs else H)) d K F H:=(rfl)
@[go_sem] theorem aZC(s:Nat)(x i:aR)(st:Bool)(d:Option Nat)(K:PF→PH→Prop):dOp C Hs S st (.a2Y s x i) d K F H=cR (aS (.a2Y s x i) F (if st then Hs else H)) d K F H:=(rfl)
@[go_sem] theorem aZB(n s:Nat)(x i:aR)(st:Bool)(d:Option Nat)(K:PF→PH→Prop):dOp C Hs S st (.idxA n s x i) d K F H=cR (aS (.idxA n s x i) F (if st then Hs else H)) d K F H:=(rfl)
@[go_sem] theorem aZD(n s:Nat)(g:Bool)(x i:aR)(st:Bool)(d:Option Nat)(K:PF→PH→Prop):dOp C Hs S st (.idxV n s g x i) d K F H=cR (aS (.idxV n s g x i) F (if st then Hs else H)) d K F H:=(rfl)
@[go_sem] theorem aWI(x i:aR)(st:Bool)(d:Option Nat)(K:PF→PH→Prop):dOp C Hs S st (.a3J x i) d K F H=cR (aS (.a3J x i) F (if st then Hs else H)) d K F H:=(rfl)
@[go_sem] theorem aXQ(s:Nat)(x:aR)(lo hi mx:Option aR)(st:Bool)(d:Option Nat)(K:PF→PH→Prop):dOp C Hs S st (.slice s x lo hi mx) d K F H=cR (aS (.slice s x lo hi mx) F (if st then Hs else H)) d K F H:=(rfl)
@[go_sem] theorem aTG(x:aR)(lo hi:Option aR)(st:Bool)(d:Option Nat)(K:PF→PH→Prop):dOp C Hs S st (.a3E x lo hi) d K F H=cR (aS (.a3E x lo hi) F (if st then Hs else H)) d K F H:=(rfl)
@[go_sem] theorem a0O(x:aR)(st:Bool)(d:Option Nat)(K:PF→PH→Prop):dOp C Hs S st (.len x) d K F H=cR (aS (.len x) F (if st then Hs else H)) d K F H:=(rfl)
@[go_sem] theorem aWJ(x:aR)(st:Bool)(d:Option Nat)(K:PF→PH→Prop):dOp C Hs S st (.a3I x) d K F H=cR (aS (.a3I x) F (if st then Hs else H)) d K F H:=(rfl)
@[go_sem] theorem aZE(x:aR)(st:Bool)(d:Option Nat)(K:PF→PH→Prop):dOp C Hs S st (.lenM x) d K F H=cR (aS (.lenM x) F (if st then Hs else H)) d K F H:=(rfl)
@[go_sem] theorem aXO(n:Bool)(x:aR)(st:Bool)(d:Option Nat)(K:PF→PH→Prop):dOp C Hs S st (.isNil n x) d K F H=cR (aS (.isNil n x) F (if st then Hs else H)) d K F H:=(rfl)
@[go_sem] theorem aWG(x:aR)(st:Bool)(d:Option Nat)(K:PF→PH→Prop):dOp C Hs S st (.a3T x) d K F H=cR (aS (.a3T x) F (if st then Hs else H)) d K F H:=(rfl)
@[go_sem] theorem aUQ(x:aR)(i:Nat)(st:Bool)(d:Option Nat)(K:PF→PH→Prop):dOp C Hs S st (.extract x i) d K F H=cR (aS (.extract x i) F (if st then Hs else H)) d K F H:=(rfl)
@[go_sem] theorem aWM(m:Bool)(x y:aR)(st:Bool)(d:Option Nat)(K:PF→PH→Prop):dOp C Hs S st (.a3C m x y) d K F H=cR (aS (.a3C m x y) F (if st then Hs else H)) d K F H:=(rfl)
@[go_sem] theorem aZG(n:Nat)(cs:List aR)(st:Bool)(d:Option Nat)(K:PF→PH→Prop):dOp C Hs S st (.mkfn n cs) d K F H=cR (aS (.mkfn n cs) F (if st then Hs else H)) d K F H:=(rfl)
@[go_sem] theorem aWK(sh:MSh)(z:PV)(x k:aR)(ok:Bool)(st:Bool)(d:Option Nat)(K:PF→PH→Prop):dOp C Hs S st (.lookup sh z x k ok) d K F H=cR (aS (.lookup sh z x k ok) F (if st then Hs else H)) d K F H:=(rfl)
@[go_sem] theorem aSJ(x:aR)(st:Bool)(d:Option Nat)(K:PF→PH→Prop):dOp C Hs S st (.a2V x) d K F H=cR (aS (.a2V x) F (if st then Hs else H)) d K F H:=(rfl)
@[go_sem] theorem aYZ(x:aR)(st:Bool)(d:Option Nat)(K:PF→PH→Prop):dOp C Hs S st (.box true x) d K F H=cR (aS (.box true x) F (if st then Hs else H)) d K F H:=(rfl)
@[go_sem] theorem aUP(s l:Nat)(z:List PV)(ps:List (Nat × aR))(st:Bool)(d:Option Nat)(K:PF→PH→Prop):dOp C Hs S st (.a2M true s l z ps) d K F H=cR (aS (.a2M true s l z ps) F (if st then Hs else H)) d K F H:=(rfl)
@[go_sem] theorem aXL(cs:List PV)(st:Bool)(d:Option Nat)(K:PF→PH→Prop):dOp C Hs S st (.alloc cs) d K F H=rO (eN (.alloc cs) F) d K F H:=(rfl)
@[go_sem] theorem aUR(s b:Nat)(z:List PV)(l c:aR)(st:Bool)(d:Option Nat)(K:PF→PH→Prop):dOp C Hs S st (.a2P s b z l c) d K F H=rO (eN (.a2P s b z l c) F) d K F H:=(rfl)
@[go_sem] theorem aXP(sh:MSh)(st:Bool)(d:Option Nat)(K:PF→PH→Prop):dOp C Hs S st (.a3P sh) d K F H=rO (eN (.a3P sh) F) d K F H:=(rfl)
@[go_sem] theorem a0L(x:aR)(st:Bool)(d:Option Nat)(K:PF→PH→Prop):dOp C Hs S st (.box false x) d K F H=rO (eN (.box false x) F) d K F H:=(rfl)
@[go_sem] theorem aWF(s l:Nat)(z:List PV)(ps:List (Nat × aR))(st:Bool)(d:Option Nat)(K:PF→PH→Prop):dOp C Hs S st (.a2M false s l z ps) d K F H=rO (eN (.a2M false s l z ps) F) d K F H:=(rfl)
@[go_sem] theorem aXR(n:Nat)(p x:aR)(st:Bool)(d:Option Nat)(K:PF→PH→Prop):dOp C Hs S st (.store n p x) d K F H=dH (.store n p x) F H (λr H'=>Hs.le H'∧K (F.put d r) H'):=(rfl)
@[go_sem] theorem aWE(s b:Nat)(x y:aR)(st:Bool)(d:Option Nat)(K:PF→PH→Prop):dOp C Hs S st (.append s b x y) d K F H=dH (.append s b x y) F H (λr H'=>Hs.le H'∧K (F.put d r) H'):=(rfl)
@[go_sem] theorem aWL(sh:MSh)(x k v:aR)(st:Bool)(d:Option Nat)(K:PF→PH→Prop):dOp C Hs S st (.a2Z sh x k v) d K F H=dH (.a2Z sh x k v) F H (λr H'=>Hs.le H'∧K (F.put d r) H'):=(rfl)
theorem RT:H.only []=PH.nil:=PH.ext λo=>by simp[PH.only,PH.nil]
theorem cS{name:Nat}{vs:List PV}{v:PV}{args:List aR}{st:Bool}{d:Option Nat}{K:PF→PH→Prop}(j:S name vs=some ([],λ_=>aK v))(h:aJ C name vs .nil (aK v))(l:aR.evs F args=some vs)
  (e:Hs.le H) (u:K (F.put d v) H):dOp C Hs S st (.call name args) d K F H:=by
 refine⟨vs,[],λ_=>aK v,l,j,λo w=>by simp at w,by rw[RT];exact h,λG=>⟨v,.nil,⟨rfl,rfl⟩,λo x y=>by simp[PH.nil]at y⟩,?_⟩;rintro r H' ⟨rfl,rfl⟩ -;rw[RT,PH.qK];exact⟨e,u⟩
end
theorem wrap_i64{n:Int}(j:-9223372036854775808≤n)(l:n≤9223372036854775807):IntKind.i64.wrap n=n:=by
 have e:IntKind.i64.wrap n=if decide (n%18446744073709551616≥9223372036854775808)=true then n%18446744073709551616-18446744073709551616 else n%18446744073709551616:=by simp[IntKind.wrap,IntKind.bits,IntKind.signed]
 rw[e];split
 ·rename_i h;simp only[decide_eq_true_eq]at h;omega
 ·rename_i h;simp only[decide_eq_true_eq]at h;omega
theorem qw{k:Nat}(h:k≤9223372036854775807):IntKind.i64.wrap (k:Int)=k:=wrap_i64 Om Om
theorem eI{k:Nat}(h:k<9223372036854775807):IntKind.i64.wrap ((k:Int)+1)=((k+1:Nat):Int):=by
 rw[wrap_i64 Om Om];omega
theorem wZz(k:Nat)(h:k<9223372036854775807:=by omega):IntKind.i64.wrap ((k:Int)+1)=((k+1:Nat):Int):=eI h
theorem wrap_u64{n:Int}(j:0≤n)(l:n<18446744073709551616):IntKind.u64.wrap n=n:=by
 have e:IntKind.u64.wrap n=n%18446744073709551616:=by simp[IntKind.wrap,IntKind.bits,IntKind.signed]
 rw[e];omega
abbrev ints(xs:List Int):PV:=.sl 1 (xs.map λn=>[.int .i64 n])
open Go Go.RowKit
inductive CT where
 |int (k:IntKind)
 |bool
 |str
 |sl (es:List CT)
 deriving Inhabited
def wO(P:Program)(rec:TypeId→Option (List CT)):Nat→List Field→Option (List CT)
 |_,[]=>some []
 |k,f::e=>match rec f.type with
  |some cts=>if f.offset=k∧P.cellsOf f.type=cts.length then(wO P rec (k+Z' cts) e).map (cts++·)else none
  |none=>none
def kV(P:Program):Nat→TypeId→Option (List CT)
 |0,_=>none
 |n+1,t=>match P.underlying t with
  |some .bool=>some [.bool]
  |some (.int k)=>some [.int k]
  |some .string=>some [.str]
  |some (.slice e)=>match kV P n e with
   |some cts=>if P.cellsOf e=Z' cts∧0<cts.length then some [.sl cts]else none
   |none=>none
  |some (.struct j)=>match wO P (kV P n) 0 j.toList with
   |some cts=>if P.cellsOf t=cts.length then some cts else none
   |none=>none
  |some (.array k e)=>match kV P n e with
   |some cts=>if P.cellsOf e=Z' cts∧P.cellsOf t=k*cts.length then some (a3W k cts).flatten else none
   |none=>none
  |_=>none
inductive PV.Ty:CT→PV→Prop
 |int {k:IntKind} {n:Int} (h:(Lit.int k n).wf=true):PV.Ty (.int k) (.int k n)
 |bool (b:Bool):PV.Ty .bool (.bool b)
 |str {s:List UInt8} (h:Z' s≤maxLen):PV.Ty .str (.str s)
 |sl {es:List CT} {rows:List (List PV)} (hr:∀r∈rows,Z' r=Z' es) (hl:Z' rows≤maxLen) (h:∀(i j:Nat) pv ct,at2 rows i j=some pv→es[j]?=some ct→PV.Ty ct pv):PV.Ty (.sl es) (.sl es.length rows)
def Env.of(W:World)(num:Nat→FuncId):Env:=⟨λb=>match W.heap[b]? with|some (.cells cs _ _)=>some cs|_=>none,λ_=>none,num⟩
theorem cK.start(W:World)(num:Nat→FuncId):cK (Env.of W num) PH.nil W:=by
 refine⟨λb cs hb=>⟨λx e=>(by cases e),?_⟩,λo x e=>(by cases e),λo n h=>(by cases h)⟩;simp only[Env.of]at hb;split at hb
 ·rename_i c ty j h;cases hb;exact⟨ty,j,h⟩
 ·cases hb
structure Reads(E:Env)(cts:List CT)(pvs:List PV)(cs:List Value):Prop where
 lp:Z' pvs=Z' cts
 lc:Z' cs=Z' cts
 rep:∀(j:Nat) pv c,pvs[j]?=some pv→cs[j]?=some c→bF E pv c∧c.oneCell'=true
 ty:∀(j:Nat) pv ct,pvs[j]?=some pv→cts[j]?=some ct→PV.Ty ct pv
theorem Reads.one{E:Env}{ct:CT}{pv:PV}{c:Value}(h:bF E pv c)(e:c.oneCell'=true)(l:PV.Ty ct pv):Reads E [ct] [pv] [c]:=by
 refine⟨rfl,rfl,λj p u a b=>?_,λj p u a b=>?_⟩
 ·cases j with
  |zero=>simp at a b;subst a;subst b;exact⟨h,e⟩
  |succ j=>simp at a
 ·cases j with
  |zero=>simp at a b;subst a;subst b;exact l
  |succ j=>simp at a
theorem Reads.append{E:Env}{e w:List CT}{l A:List PV}{x y:List Value}(h:Reads E e l x)(k:Reads E w A y):Reads E (e++w) (l++A) (x++y):=by
 refine⟨by simp[h.lp,k.lp],by simp[h.lc,k.lc],λj p u a b=>?_,λj p u a b=>?_⟩
 ·rcases a4R j l.length with hj|hj
  ·rw[a5U hj]at a;rw[a5U (by rw[h.lc,←h.lp];exact hj)]at b;exact h.rep j p u a b
  ·rw[a5V hj]at a;rw[a5V (by rw[h.lc,←h.lp];exact hj)]at b;rw[show j-Z' x=j-l.length by rw[h.lc,h.lp]]at b;exact k.rep _ p u a b
 ·rcases a4R j l.length with hj|hj
  ·rw[a5U hj]at a;rw[a5U (by rw[←h.lp];exact hj)]at b;exact h.ty j p u a b
  ·rw[a5V hj]at a;rw[a5V (by rw[←h.lp];exact hj)]at b;rw[show j-Z' e=j-l.length by rw[h.lp]]at b;exact k.ty _ p u a b
theorem su{W:World}{num:Nat→FuncId}{a:Addr}{v:Value}(h:W.cell? a=some v):a.spot=none∧(Env.of W num).cell a.block a.off=some v:=by
 unfold World.cell? at h;split at h
 ·rename_i c ty j hb;split at h
  ·cases h
  ·rename_i e;refine⟨by simpa using e,?_⟩;simp only[Env.cell,Env.of,hb];exact h
 ·cases h
inductive PV.Len (N:Nat):PV→Prop
 |flat {pv:PV} (h1:∀n rows,pv≠.sl n rows) (h2:∀vs,pv≠.agg vs):PV.Len N pv
 |sl {n:Nat} {rows:List (List PV)} (h:Z' rows≤N) (hr:∀r∈rows,∀v∈r,PV.Len N v):PV.Len N (.sl n rows)
 |agg {vs:List PV} (h:∀v∈vs,PV.Len N v):PV.Len N (.agg vs)
theorem PV.Len.int{N:Nat}(k:IntKind)(n:Int):PV.Len N (.int k n):=.flat (λ_ _ h=>by cases h) λ_ h=>by cases h
theorem PV.Len.bool{N:Nat}(b:Bool):PV.Len N (.bool b):=.flat (λ_ _ h=>by cases h) λ_ h=>by cases h
theorem PV.Len.str{N:Nat}(s:List UInt8):PV.Len N (.str s):=.flat (λ_ _ h=>by cases h) λ_ h=>by cases h
theorem PV.Len.rows{N n:Nat}{rows:List (List PV)}(h:PV.Len N (.sl n rows)):Z' rows≤N∧∀r∈rows,∀v∈r,PV.Len N v:=by
 cases h with
 |flat e _=>exact absurd rfl (e n rows)
 |sl e j=>exact⟨e,j⟩
theorem PV.Len.parts{N:Nat}{vs:List PV}(h:PV.Len N (.agg vs)):∀v∈vs,PV.Len N v:=by
 cases h with
 |flat _ e=>exact absurd rfl (e vs)
 |agg h=>exact h
structure jo{H:Type}(P:Program)(N:Nat)(S:TypeId→DataW H→Prop):Prop where
 sl:∀t e elems spare,P.underlying t=some (.slice e)→S t (.slice elems spare)→Z' elems≤N∧∀d∈elems,S e d
 st:∀t fs parts,P.underlying t=some (.struct fs)→S t (.agg parts)→∀(i:Nat) g d,fs[i]?=some g→parts[i]?=some d→S g.type d
 ar:∀t n e parts,P.underlying t=some (.array n e)→S t (.agg parts)→∀d∈parts,S e d
theorem b9{H:Type}{P:Program}{A:(TypeId→DataW H→Prop)→Prop}{pv:PV}(h:∀{N},PV.Len N pv):∀N S,jo P N S→A S→∀v∈[pv],PV.Len N v:=λN S _ _ v e=>by
 obtain rfl:=a4X.1 e;exact h
theorem ta{P:Program}{E:Env}{rec:TypeId→Option (List CT)}{H:Type}{f:TypeId→List Value→Option (DataW H × List MemPlace)}
  (J:∀t cs x cts,f t cs=some x→rec t=some cts→∃e,Reads E cts e cs∧∀N S,jo P N S→S t x.1→∀v∈e,PV.Len N v) (cs:List Value) :
  ∀(u:List Field)(k:Nat)(cts:List CT),(∀g∈u,∃x,f g.type ((cs.drop g.offset).take (P.cellsOf g.type))=some x)→wO P rec k u=some cts →
   ∃e,Reads E cts e ((cs.drop k).take cts.length)∧∀N S,jo P N S→(∀g∈u,∀x,f g.type ((cs.drop g.offset).take (P.cellsOf g.type))=some x→S g.type x.1)→∀v∈e,PV.Len N v
 |[],k,cts,_,h=>by simp[wO]at h;subst h;exact⟨[],⟨rfl,by simp,λj p c a=>by simp at a,λj p c a=>by simp at a⟩,λ_ _ _ _ v hv=>by cases hv⟩
 |g::u,k,cts,F,h=>by
  simp only[wO]at h;split at h
  ·rename_i K O;split at h
   ·rename_i B;simp only[a4G]at h;obtain⟨M,R,rfl⟩:=h;obtain⟨x,I⟩:=F g aW;obtain⟨W,r1,U⟩:=J _ _ _ _ I O;rw[B.1,B.2]at r1;obtain⟨X,r2,V⟩:=ta J cs u (k+Z' K) M (λw l=>F w (by simp[l])) R;refine⟨W++X,?_,λN S y A v hv=>?_⟩
    ·have:=r1.append r2;rw[a3Z,List.take_add,List.drop_drop];exact this
    ·rcases a5E.1 hv with hv|hv
     ·exact U N S y (A g aW x I) v hv
     ·exact V N S y (λw l=>A w (by simp[l])) v hv
   ·cases h
  ·cases h
theorem Eo{E:Env}{cts:List CT}{R:List PV→Prop}(l:R [])(u:∀a b,R a→R b→R (a++b))(cs:List Value) :
  ∀n:Nat,(∀i,i<n→∃e,Reads E cts e ((cs.drop (i*Z' cts)).take cts.length)∧R e)→∃e,Reads E (a3W n cts).flatten e (cs.take (n*Z' cts))∧R e
 |0,_=>⟨[],⟨rfl,by simp,λj p c a=>by simp at a,λj p c a=>by simp at a⟩,l⟩
 |n+1,h=>by obtain⟨w,r1,y⟩:=Eo l u cs n λi hi=>h i Om;obtain⟨x,r2,A⟩:=h n Om;refine⟨w++x,?_,u _ _ y A⟩;rw[List.replicate_succ',List.flatten_append,List.flatten_singleton,a6D,List.take_add];exact r1.append r2
theorem aLI{H:Type}{enc:TypeId × Value→H}{P:Program}{W:World}{base:Nat}{sp:Nat→Bool}{β:Bool}(num:Nat→FuncId) :
  ∀(fuel m:Nat)(t:TypeId)(cs:List Value)(x:DataW H × List MemPlace)(cts:List CT),DataW.trod enc P W base sp β fuel t cs=some x→kV P m t=some cts→∃l,Reads (Env.of W num) cts l cs∧∀N S,jo P N S→S t x.1→∀v∈l,PV.Len N v:=by
 intro fuel
 induction fuel with
 |zero=>intro m t cs x cts h;simp[DataW.trod]at h
 |succ fuel ih=>
  intro m t cs x cts h A;cases m with
  |zero=>simp[kV]at A
  |succ m=>
   simp only[kV]at A;split at A
   ·rename_i O;cases A;obtain⟨b,rfl,-⟩:=DataW.trod_bool O h;exact⟨[.bool b],.one (.bool b) rfl (.bool b),b9 (.bool b)⟩
   ·rename_i k O;cases A;obtain⟨n,rfl,-,hw⟩:=DataW.trod_int O h;exact⟨[.int k n],.one (.int k n) rfl (.int hw),b9 (.int k n)⟩
   ·rename_i O;cases A;obtain⟨s,rfl,-,hs⟩:=DataW.trod_string O h;exact⟨[.str s.data.toList],.one (.str s) rfl (.str (by rw[a6Y];exact hs)),b9 (.str _)⟩
   ·rename_i e O;split at A
    ·rename_i u he;split at A
     ·rename_i B;cases A;rcases DataW.trod_slice O h with⟨rfl,-⟩|⟨a,len,cap,elems,rest,n,hn,rfl,Y,-,γ,hcap,hel,helem,-⟩
      ·refine⟨[.sl u.length []],.one ?_ rfl (.sl aW aW (by simp[at2])),b9 (.sl (a4A _) (λr V=>by cases V))⟩;exact .sl (λ_ _=>.bool false) aW aX aW aW (λ_ _=>rfl) (by simp[at2])
      ·cases hn;have each:∀i,i<len→∃l Z,(Reads (Env.of W num) u l Z∧∀N S,jo P N S→(∀d∈elems.map (·.1),S e d)→∀v∈l,PV.Len N v)∧W.cells? base (a.add (i*Z' u)) u.length=some Z:=by intro i hi;have h1:=helem i hi;rw[a4C Om,a7Q]at h1;obtain⟨Z,h2,h3⟩:=h1;obtain⟨l,r,rl⟩:=ih m e Z _ u h3 he;rw[B.1]at h2;exact⟨l,Z,⟨r,λN S J K=>rl N S J (K _ (a4W.2 ⟨_,a3Y _,rfl⟩))⟩,h2⟩
       have δ:∀i,∃l,∃Z,i<len→(Reads (Env.of W num) u l Z∧∀N S,jo P N S→(∀d∈elems.map (·.1),S e d)→∀v∈l,PV.Len N v)∧W.cells? base (a.add (i*Z' u)) u.length=some Z:=by
        intro i;by_cases hi:i<len
        ·obtain⟨l,Z,h1⟩:=each i hi;exact⟨l,Z,λ_=>h1⟩
        ·exact⟨[],[],λh=>(hi h).elim⟩
       obtain⟨pf,ξ⟩:=Classical.axiomOfChoice δ;obtain⟨uf,M⟩:=Classical.axiomOfChoice ξ;have ε:∀i j pv,at2 ((a3U len).map pf) i j=some pv→i<len∧(pf i)[j]?=some pv:=by
        intro i j pv F;unfold at2 at F;rw[a4Q,a7Q]at F;obtain⟨r,V,F⟩:=F;rw[a4G]at V;obtain⟨i',U,rfl⟩:=V;have hi:i<len:=by simpa using(a5A.1 U).1
        have:i'=i:=by simp[hi]at U;exact U.symm
        subst this;exact⟨hi,F⟩
       have hu2:∀i j pv,at2 ((a3U len).map pf) i j=some pv→∃v,(uf i)[j]?=some v∧j<Z' u∧bF (Env.of W num) pv v∧v.oneCell'=true:=by
        intro i j pv F;obtain⟨hi,X⟩:=ε i j pv F;obtain⟨⟨r,-⟩,-⟩:=M i hi;have hj:j<Z' u:=by rw[←r.lp];exact(a5A.1 X).1
        have I:(uf i)[j]?=some ((uf i)[j]'(by rw[r.lc];exact hj)):=a4C _;exact⟨_,I,hj,(r.rep j pv _ X I).1,(r.rep j pv _ X I).2⟩
       have α:((a3U len).map pf).length=len:=by simp
       refine⟨[.sl u.length ((a3U len).map pf)],.one ?_ rfl (.sl (λr V=>?_) (by rw[α];omega) λi j pv ct F κ=>?_),λN S J K v I=>?_⟩
       ·have η:=bF.sl (E:=Env.of W num) (size:=Z' u) (rows:=(a3U len).map pf) (a:=some a) (cap:=cap)
         (λi j=>match at2 ((a3U len).map pf) i j with|some _=>((uf i)[j]?).getD (.bool false)|none=>.bool false) (by rw[α];exact γ) hcap
         (λr V=>by simp only[a4W,a4S]at V;obtain⟨i,hi,rfl⟩:=V;exact(M i hi).1.1.lp)
         (λν=>by
          have μ:0<len:=by
           rcases a6C len with h|h
           ·subst h;exact(ν rfl).elim
           ·exact h
          have ζ:a.spot=none:=by obtain⟨⟨r,-⟩,A⟩:=M 0 μ;have h3:=(World.cells?_some A).2.2 0 B.2;rw[Nat.zero_mul,Addr.add_zero',Addr.add_zero',a4C (by rw[r.lc];exact B.2)]at h3;exact(su (num:=num) h3).1
          refine⟨a,rfl,ζ,λi j pv F=>?_⟩;obtain⟨hi,-⟩:=ε i j pv F;obtain⟨v,I,hj,-⟩:=hu2 i j pv F;have h3:=(World.cells?_some (M i hi).2).2.2 j hj;rw[sW ζ,add_plain,add_plain,I]at h3;have h4:=(su (num:=num) h3).2;simp only[F,I,a6R];exact h4)
         (λi j=>by
          split
          ·rename_i pv F;obtain⟨v,I,-,-,h1⟩:=hu2 i j pv F;simp[I,h1]
          ·rfl)
         (λi j pv F=>by obtain⟨v,I,-,h1,-⟩:=hu2 i j pv F;simp only[F,I,a6R];exact h1)
        rw[α]at η;exact η
       ·simp only[a4W,a4S]at V;obtain⟨i,hi,rfl⟩:=V;exact(M i hi).1.1.lp
       ·obtain⟨hi,X⟩:=ε i j pv F;exact(M i hi).1.1.ty j pv ct X κ
       ·rw[Y]at K;obtain⟨m1,m2⟩:=J.sl t e _ _ O K;obtain rfl:=a4X.1 I;refine .sl (by rw[α];simpa[hel]using m1) λr V w hw=>?_;simp only[a4W,a4S]at V;obtain⟨i,hi,rfl⟩:=V;exact(M i hi).1.2 N S J m2 w hw
     ·cases A
    ·cases A
   ·rename_i fs O;split at A
    ·rename_i ρ θ;split at A
     ·rename_i γ;cases A;obtain⟨xs,n,hn,Y,ι,ο,hx⟩:=DataW.trod_struct O h;cases hn;have:=ta (f:=DataW.trod enc P W base sp β fuel) (λt cs x cts a b=>ih m t cs x cts a b) cs fs.toList 0 cts (λg hg=>by obtain⟨i,hi,rfl⟩:=a5R hg;have:=hx i fs.toList[i] (by simp at hi;simp[hi]);rw[this];exact⟨_,a4C (by simp at hi;omega)⟩) θ
      rw[a5J,a4N Om]at this;obtain⟨l,r,rl⟩:=this;refine⟨l,r,λN S J K=>rl N S J λg hg y hy=>?_⟩;rw[Y]at K;obtain⟨i,hi,rfl⟩:=a5R hg;have U:i<fs.size:=by simpa using hi
      have:=hx i fs.toList[i] (by simp[U]);rw[hy,a4C Om]at this;refine J.st t fs _ O K i fs.toList[i] y.1 (by simp[U]) ?_;rw[a4Q,a4C Om,←this];rfl
     ·cases A
    ·cases A
   ·rename_i k e O;split at A
    ·rename_i u he;split at A
     ·rename_i B;cases A;obtain⟨xs,n,hn,Y,ι,ο,hx⟩:=DataW.trod_array O h;cases hn;obtain⟨l,r,hq⟩:=Eo (E:=Env.of W num) (cts:=u) (R:=λl=>∀N S,jo P N S→(∀d:DataW H,d∈xs.map (λy:DataW H × List MemPlace=>y.1)→S e d)→∀v∈l,PV.Len N v) (λ_ _ _ _ v I=>by cases I)
       (λa b ha hb N S J K v I=>(a5E.1 I).elim (ha N S J K v) (hb N S J K v)) cs k λi hi=>by have h2:=hx i hi;rw[a4C Om,B.1]at h2;obtain⟨l,r,rl⟩:=ih m e _ _ u h2 he;exact⟨l,r,λN S J K=>rl N S J (K _ (a4W.2 ⟨_,a3Y _,rfl⟩))⟩
      rw[a4N Om]at r;exact⟨l,r,λN S J K=>hq N S J (J.ar t k e _ O (by rw[Y]at K;exact K))⟩
     ·cases A
    ·cases A
   ·cases A
theorem yn{H:Type}{enc:TypeId × Value→H}{P:Program}{W:World}{base:Nat}{u:Nat→Bool}{e:Bool}(num:Nat→FuncId)
  (fuel m:Nat) (t:TypeId) (cs:List Value) (x:DataW H × List MemPlace) (cts:List CT) (h:DataW.trod enc P W base u e fuel t cs=some x) (l:kV P m t=some cts):∃j,Reads (Env.of W num) cts j cs:=
 (aLI num fuel m t cs x cts h l).imp λ_ r=>r.1
open Go Go.RowKit Go.ChangeShapes Go.WideShapes
theorem Ext.below{E j:Env}{H':PH}{w e:World}(h:Ext E PH.nil w j H' e):Below w.heap.size w e:=
 ⟨h.os,h.tape,h.output,h.size,λk l=>h.block k l rfl⟩
theorem Below.trodAll{H:Type}{enc:TypeId × Value→H}{P:Program}(w:laidOutB P=true){W j:World}(hb:Below W.heap.size W j) :
  ∀{ts:List TypeId}{vs:List Value}{ds:List (DataW H)}{ps:List MemPlace},(∀t∈ts,P.readableRec t=true∧t<P.types.size)→DataW.TrodAll enc P W 0 (λ_=>true) true ts vs ds ps →
   DataW.TrodAll enc P j 0 (λb=>decide (b<W.heap.size)) true ts vs ds ps
 |[],[],[],ps,_,h=>h
 |[],_::_,_,_,_,h=>h.elim
 |[],[],_::_,_,_,h=>h.elim
 |_::_,[],_,_,_,h=>h.elim
 |_::_,_::_,[],_,_,h=>h.elim
 |t::ts,v::vs,d::ds,ps,e,h=>by obtain⟨p,q,l,y,rfl⟩:=h;have hlt:∀x∈p,x.block<W.heap.size:=λx B=>DataW.TrodAll.lt (ts:=[t]) (vs:=[v]) (ds:=[d]) ⟨p,[],l,rfl,(a5O p).symm⟩ x B;exact⟨p,q,Below.trod w (e t aW).1 (e t aW).2 l hb hlt,Below.trodAll w hb (λu A=>e u (by simp[A])) y,rfl⟩
theorem aDZ{H:Type}{enc:TypeId × Value→H}{P:Program}{f:Func}{s:ChangeSpec}{e apart fresh:Bool}{W B:World}{args:Array Value}{ds l:List (DataW H)}{j:List MemPlace}{bt:TypeId}
  (I:laidOutB P=true) (hW:DataW.Whole enc P f.params.toList s.vars apart W args.toList ds l j) (hb:Below W.heap.size W B) (x:∀t∈f.params.toList,P.readableRec t=true∧t<P.types.size)
  (w:f.resultTypes=#[bt]) (u:P.underlying bt=some .bool) (y:s.vars=[]) (K:(s.fn H (ds++l)).results=[.lit (.bool true)]) (F:(s.fn H (ds++l)).args=ds) (A:(s.fn H (ds++l)).vars=[]) :
  s.post enc P f apart fresh e false W args (.bool true) B:=by
 obtain⟨p,q,E,hV,rfl,M,J⟩:=hW;rw[y]at hV;obtain⟨rfl,rfl⟩:=trodVars_none hV;refine⟨ds,[],p++[],[],p,[],⟨p,[],E,by rw[y];exact hV,rfl,M,J⟩,?_,?_,?_,hb.frame _,λh=>by cases h⟩
 ·rw[K,w];refine⟨[],[],⟨1,?_⟩,rfl,rfl⟩;simp[DataW.trod,u,Value.cells,Value.resultList]
 ·rw[F];exact Below.trodAll I hb x E
 ·rw[y,A];exact rfl
theorem aBZ{C:Ctx}{name:Nat}{W:World}{args:Array Value}{l:List PV}(h:aJ C name l PH.nil (aK (.bool true)))(x:gS (Env.of W C.num) l args.toList) :
  Calls C.P (C.num name) args W λe u=>e=.returned (.bool true)∧Below W.heap.size W u:=
 (h.2 (Env.of W C.num) W args rfl (cK.start W C.num) x).mono λe u he=>by obtain⟨v,pv,y,H',rfl,-,j,w,rfl,-⟩:=he;cases j;exact⟨rfl,w.below⟩
theorem auY{H:Type}{enc:TypeId × Value→H}{P:Program}{W:World}{r:Reach}{base:Nat}{J:Nat→Bool}{w:Bool}(num:Nat→FuncId){t:TypeId}{v:Value}{d:DataW H}{ps:List MemPlace}{B:Array Field}{n:Nat}{cts:List CT}
  (y:P.underlying t=some (.struct B)) (x:Value.okWide P W r base t v) (F:DataW.Trod enc P W 0 J w t v d ps) (E:kV P n t=some cts) :
  ∃e,bF (Env.of W num) (.agg e) v∧Z' e=Z' cts∧∀(j:Nat) pv ct,e[j]?=some pv→cts[j]?=some ct→PV.Ty ct pv:=by
 obtain⟨cs,rfl,-⟩:=okWide_struct y x;obtain⟨fuel,h⟩:=F;obtain⟨e,l⟩:=yn num fuel n t _ _ cts h E;have I:cs.size=Z' e:=by have:=l.lc;rw[l.lp,←this];simp[Value.cells]
 refine⟨e,.agg cs I (λu y=>?_) (λj pv u a b=>(l.rep j pv u a (by simpa[Value.cells]using b)).1),l.lp,l.ty⟩;obtain⟨j,A,rfl⟩:=a5R y;simp only[a6Y]at A;exact(l.rep j _ _ (a4C Om) (by simp[Value.cells,A])).2
theorem AK{H:Type}{enc:TypeId × Value→H}{P:Program}{W:World}{B:Nat→Bool}{e:Bool}(num:Nat→FuncId){t:TypeId}{v:Value}{d:DataW H}{ps:List MemPlace}{n:Nat}{ct:CT}
  (A:v.cells=#[v]) (x:DataW.Trod enc P W 0 B e t v d ps) (w:kV P n t=some [ct]):∃pv,bF (Env.of W num) pv v∧PV.Ty ct pv:=by
 obtain⟨fuel,h⟩:=x;obtain⟨l,j⟩:=yn num fuel n t _ _ [ct] h w;rw[A]at j;have y:=j.lp;cases l with
 |nil=>simp at y
 |cons pv u=>exact⟨pv,(j.rep 0 pv v rfl rfl).1,j.ty 0 pv ct rfl rfl⟩
def InK(k:IntKind)(n:Int):Prop:=k.min≤n∧n≤k.max
def awY(k:IntKind)(xs:List Int):PV:=.sl 1 (xs.map λn=>[.int k n])
theorem Ty.alM{k:IntKind}{pv:PV}(h:PV.Ty (.int k) pv):∃n,pv=.int k n∧InK k n:=by
 cases h with
 |int h=>simp only[Lit.wf,a4P,decide_eq_true_eq]at h;exact⟨_,rfl,h⟩
theorem Ty.aRI{ct:CT}{pv:PV}(h:PV.Ty (.sl [ct]) pv):∃vs:List PV,pv=.sl 1 (vs.map λv=>[v])∧Z' vs≤maxLen∧∀v∈vs,PV.Ty ct v:=by
 cases h with
 |@sl B rows A y h=>
 have j:∀r∈rows,r=[r.headD .junk]:=λr l=>by
  have:=A r l
  match r,this with
  |[x],_=>rfl
 have e:rows=(rows.map λr=>r.headD .junk).map λv=>[v]:=by rw[a7A];apply List.ext_getElem aW;intro n w E;simp only[a6E,Function.comp];exact j _ (a3Y w)
 refine⟨rows.map λr=>r.headD .junk,by rw[←e];rfl,by simpa using y,λv u=>?_⟩;rw[a4W]at u;obtain⟨r,l,rfl⟩:=u;obtain⟨i,hi,rfl⟩:=a5R l;refine h i 0 _ ct ?_ rfl;have:=j rows[i] l;unfold at2;rw[a4C hi,a7R,this];rfl
theorem Ty.aIO{k:IntKind}{pv:PV}(h:PV.Ty (.sl [.int k]) pv):∃xs:List Int,pv=awY k xs∧Z' xs≤maxLen∧∀x∈xs,InK k x:=by
 obtain⟨vs,rfl,A,l⟩:=Ty.aRI h;have e:vs=(vs.map λv=>match v with | .int _ n=>n|_=>0).map λn=>PV.int k n:=by rw[a7A];apply List.ext_getElem aW;intro n w B;simp only[a6E,Function.comp];obtain⟨m,j,-⟩:=Ty.alM (l _ (a3Y w));rw[j]
 refine⟨vs.map λv=>match v with | .int _ n=>n|_=>0,?_,by simpa using A,λx u=>?_⟩
 ·unfold awY
  conv=>lhs;rw[e]
  rw[a7A];rfl
 ·rw[a4W]at u;obtain⟨v,j,rfl⟩:=u;obtain⟨m,rfl,y⟩:=Ty.alM (l v j);exact y
end Go.PM
namespace Go.Proofs.YtkknafmijabgaaaGreatDoor
open Go Go.PM
def aTS:List Nat:=[22,78,48,30,26,52,23,51,0,0,0,0,0,0,0,0,0,0,0,0,0,0,0,0,0,0,0,10,21,49,155,163,141,114,113,81,158,157,103,144,167,143,166,171,165,164,139,50,172,108,53,104,105,102,68,101,67,156,80,82,140,106,98,154,138,137,107,36,66,71,65,99,70,64,69,100,63,39,0,0,118,0,57,29,87,40,0,56,145,117,86,0,0,0,0,60,31,89,129,90,131,134,94,130,58,88,95,132,96,133,62,59,61,122,93,92,119,91,125,124,123,127,128,97,153,136,135,147,120,126,150,149,121,152,148,151,170,168,146,181,178,169,180,179,0,0,0,0,0,0,28,0,25,0,55,0,115,85,84,116,83,54,142,112,175,161,162,176,173,160,159,0,0,0,0,0,0,0,0,0,0,0,0,0,0,0,0,0,0,0,0,0,0,0,0,79,0,0,0,0,0,0,0,0,0,0,0,0,0,0,0,0,0,0,0,0,0,0,0,0,0,0,0,0,0,0,0,0,0,0,0,0,0,0,0,0,0,0,0,0,0,0,0,0,0,0,0,0,0,0,0,0,0,0,0,0,0,0,0,0,0,0,0,0,0,0,0,0,0,0,0,0,0,0,0,0,0,0,0,0,0,0,34,35,32,33,12,42,15,17,19,109,72,46,110,111,73,74,41,75,77,47,76,43,38,37,44,13,45,16,18,20,11,14,24,27,3,4,5,6,7,8,9]
def aQA:List (Option Nat):=[none,none,none,some 316,some 317,some 318,some 319,some 320,some 321,some 322,some 27,some 312,some 286,some 307,some 313,some 288,some 309,some 289,some 310,some 290,some 311,some 28,some 0,some 6,some 314,some 152,some 4,some 315,some 150,some 83,some 3,some 96,some 284,some 285,some 282,some 283,some 67,some 305,some 304,some 77,some 85,some 298,some 287,some 303,some 306,some 308,some 293,some 301,some 2,some 29,some 47,some 7,some 5,some 50,some 161,some 154,some 87,some 82,some 104,some 111,some 95,some 112,some 110,some 76,some 73,some 70,some 68,some 56,some 54,some 74,some 72,some 69,some 292,some 296,some 297,some 299,some 302,some 300,some 1,some 195,some 58,some 35,some 59,some 160,some 158,some 157,some 90,some 84,some 105,some 97,some 99,some 117,some 115,some 114,some 102,some 106,some 108,some 123,some 62,some 71,some 75,some 55,some 53,some 38,some 51,some 52,some 61,some 66,some 49,some 291,some 294,some 295,some 163,some 34,some 33,some 156,some 159,some 89,some 80,some 116,some 128,some 132,some 113,some 120,some 119,some 118,some 129,some 121,some 122,some 98,some 103,some 100,some 107,some 109,some 101,some 126,some 125,some 65,some 64,some 46,some 60,some 32,some 162,some 41,some 39,some 88,some 138,some 127,some 134,some 131,some 130,some 135,some 133,some 124,some 63,some 30,some 57,some 37,some 36,some 170,some 169,some 165,some 166,some 31,some 45,some 44,some 42,some 40,some 137,some 141,some 136,some 43,some 48,some 168,none,some 164,some 167,none,some 140,some 143,some 142,some 139]
def num(n:Nat):FuncId:=aTS.getD n 0
def nameOf(f:FuncId):Option Nat:=aQA.getD f none
noncomputable def T(ro:List Nat):Tbl:={ P:=Tryz.prog,num:=num,name:=nameOf,ro:=ro }
end Go.Proofs.YtkknafmijabgaaaGreatDoor
namespace Go.PM
open Go
abbrev Rg:=List bK
abbrev Rd:=List (bK×Bool)
def aC.rs : aC→List Rg
 | .region r=>[r] | .seq a b=>a.rs++b.rs | .cond _ a b=>a.rs++b.rs | .block _ a=>a.rs | .loop a=>a.rs | _=>[]
def aC.ds : aC→List Rd
 | .draw r=>[r] | .seq a b=>a.ds++b.ds | .cond _ a b=>a.ds++b.ds | .block _ a=>a.ds | .loop a=>a.ds | _=>[]
theorem arE (n:Nat) (h:n<2^8):UInt8.ofBitVec (BitVec.ofFin ⟨n,h⟩)=UInt8.ofNat n:=by
 apply UInt8.toNat_inj.1;have e:n<256:=h;simp [UInt8.toNat_ofNat'];omega
def bP(ro:List Nat)(f:Func)(x:{p:bA//(Go.Proofs.YtkknafmijabgaaaGreatDoor.T ro).func f=some p}:=by refine⟨?p,?h⟩;case h=>conv=>lhs;reduce):bA:=x.1
def aA(q:bA)(k:Nat)(x:{l:Rg//(q.body.rs).getD k []=l}:=by refine⟨?p,?h⟩;case h=>conv=>lhs;reduce;try simp only[arE,UInt8.reduceOfNat,Int.reduceOfNat,Int.reduceNegSucc]):Rg:=x.1
def bY(q:bA)(k:Nat)(x:{l:Rd//(q.body.ds).getD k []=l}:=by refine⟨?p,?h⟩;case h=>conv=>lhs;reduce;try simp only[arE,UInt8.reduceOfNat,Int.reduceOfNat,Int.reduceNegSucc]):Rd:=x.1
@[go_sem ↓] theorem aZX(q:bA)(k:Nat)(l:Rg)(h:(q.body.rs).getD k []=l):aA q k ⟨l,h⟩=l:=(rfl)
@[go_sem ↓] theorem aZJ(q:bA)(k:Nat)(l:Rd)(h:(q.body.ds).getD k []=l):bY q k ⟨l,h⟩=l:=(rfl)
def iM(d s:Nat):bK:=⟨some d,.mv (.tmp s),none⟩
def iI(d:Nat)(n:Int):bK:=⟨some d,.mv (.const (.int .i64 n)),none⟩
def iB(d:Nat)(o:BinOp)(x y:Nat):bK:=⟨some d,.bin o (.tmp x) (.tmp y),none⟩
def iC(d:Nat)(o:BinOp)(x:Nat)(n:Int):bK:=⟨some d,.bin o (.tmp x) (.const (.int .i64 n)),none⟩
def iL(d s:Nat):bK:=⟨some d,.load none (.tmp s),none⟩
def iX(d n x y:Nat):bK:=⟨some d,.a2Y n (.tmp x) (.tmp y),none⟩
def iN(d x:Nat):bK:=⟨some d,.len (.tmp x),none⟩
def iF(d n x:Nat):bK:=⟨some d,.a3L n (.tmp x),none⟩
def iS(n p x:Nat):bK:=⟨none,.store n (.tmp p) (.tmp x),none⟩
def iA(d:Nat)(o:POp):bK:=⟨some d,o,none⟩
def iG(d:Nat)(o:POp)(g:Nat)(b:Bool):bK:=⟨some d,o,some (g,b)⟩
def iP(d a b:Nat):bK:=⟨some d,.pick (.tmp a) (.tmp b) (.const (.bool false)),none⟩
def iQ(d a b:Nat):bK:=⟨some d,.pick (.tmp a) (.const (.bool true)) (.tmp b),none⟩
def iO(d s a:Nat):bK:=⟨some d,.load (some s) (.tmp a),none⟩
def iE(d a n:Nat):bK:=⟨some d,.extract (.tmp a) n,none⟩
def iK(d f a:Nat):bK:=⟨some d,.call f [.tmp a],none⟩
def iK2(d f a b:Nat):bK:=⟨some d,.call f [.tmp a,.tmp b],none⟩
def iT(d:Nat)(b:Bool):bK:=⟨some d,.mv (.const (.bool b)),none⟩
def iZ(d:Nat):bK:=⟨some d,.mv (.const .aE),none⟩
def gM(d s g:Nat)(b:Bool):bK:=⟨some d,.mv (.tmp s),some (g,b)⟩
def gL(d s g:Nat)(b:Bool):bK:=⟨some d,.load none (.tmp s),some (g,b)⟩
def gF(d n s g:Nat)(b:Bool):bK:=⟨some d,.a3L n (.tmp s),some (g,b)⟩
def gN(d s g:Nat)(b:Bool):bK:=⟨some d,.len (.tmp s),some (g,b)⟩
def gO(d n s g:Nat)(b:Bool):bK:=⟨some d,.load (some n) (.tmp s),some (g,b)⟩
def gK(d f a g:Nat)(b:Bool):bK:=⟨some d,.call f [.tmp a],some (g,b)⟩
def gK2(d f a c g:Nat)(b:Bool):bK:=⟨some d,.call f [.tmp a,.tmp c],some (g,b)⟩
def gC(d:Nat)(o:BinOp)(x:Nat)(n:Int)(g:Nat)(b:Bool):bK:=⟨some d,.bin o (.tmp x) (.const (.int .i64 n)),some (g,b)⟩
def gB(d:Nat)(o:BinOp)(x y g:Nat)(b:Bool):bK:=⟨some d,.bin o (.tmp x) (.tmp y),some (g,b)⟩
def zI:PV:=.int .i64 0
def zB:PV:=.bool false
def sq(r:Rg)(c:aC):aC:=.seq (.region r) c
def dq(r:Rd)(c:aC):aC:=.seq (.draw r) c
def Tm(n:Nat):aR:=.tmp n
def Ci(n:Int):aR:=.const (.int .i64 n)
@[go_sem] theorem a1U(d s:Nat):iM d s=⟨some d,.mv (.tmp s),none⟩:=(rfl)
@[go_sem] theorem a1R(d:Nat)(n:Int):iI d n=⟨some d,.mv (.const (.int .i64 n)),none⟩:=(rfl)
@[go_sem] theorem a1M(d:Nat)(o:BinOp)(x y:Nat):iB d o x y=⟨some d,.bin o (.tmp x) (.tmp y),none⟩:=(rfl)
@[go_sem] theorem a1N(d:Nat)(o:BinOp)(x:Nat)(n:Int):iC d o x n=⟨some d,.bin o (.tmp x) (.const (.int .i64 n)),none⟩:=(rfl)
@[go_sem] theorem a1T(d s:Nat):iL d s=⟨some d,.load none (.tmp s),none⟩:=(rfl)
@[go_sem] theorem a2B(d n x y:Nat):iX d n x y=⟨some d,.a2Y n (.tmp x) (.tmp y),none⟩:=(rfl)
@[go_sem] theorem a1V(d x:Nat):iN d x=⟨some d,.len (.tmp x),none⟩:=(rfl)
@[go_sem] theorem a1P(d n x:Nat):iF d n x=⟨some d,.a3L n (.tmp x),none⟩:=(rfl)
@[go_sem] theorem a1Z(n p x:Nat):iS n p x=⟨none,.store n (.tmp p) (.tmp x),none⟩:=(rfl)
@[go_sem] theorem a1L(d:Nat)(o:POp):iA d o=⟨some d,o,none⟩:=(rfl)
@[go_sem] theorem a1Q(d:Nat)(o:POp)(g:Nat)(b:Bool):iG d o g b=⟨some d,o,some (g,b)⟩:=(rfl)
@[go_sem] theorem a1X(d a b:Nat):iP d a b=⟨some d,.pick (.tmp a) (.tmp b) (.const (.bool false)),none⟩:=(rfl)
@[go_sem] theorem a1Y(d a b:Nat):iQ d a b=⟨some d,.pick (.tmp a) (.const (.bool true)) (.tmp b),none⟩:=(rfl)
@[go_sem] theorem a1W(d s a:Nat):iO d s a=⟨some d,.load (some s) (.tmp a),none⟩:=(rfl)
@[go_sem] theorem a1O(d a n:Nat):iE d a n=⟨some d,.extract (.tmp a) n,none⟩:=(rfl)
@[go_sem] theorem a1S(d f a:Nat):iK d f a=⟨some d,.call f [.tmp a],none⟩:=(rfl)
@[go_sem] theorem a0Y(d f a b:Nat):iK2 d f a b=⟨some d,.call f [.tmp a,.tmp b],none⟩:=(rfl)
@[go_sem] theorem a2A(d:Nat)(b:Bool):iT d b=⟨some d,.mv (.const (.bool b)),none⟩:=(rfl)
@[go_sem] theorem a2C(d:Nat):iZ d=⟨some d,.mv (.const .aE),none⟩:=(rfl)
@[go_sem] theorem a1I(d s g:Nat)(b:Bool):gM d s g b=⟨some d,.mv (.tmp s),some (g,b)⟩:=(rfl)
@[go_sem] theorem a1H(d s g:Nat)(b:Bool):gL d s g b=⟨some d,.load none (.tmp s),some (g,b)⟩:=(rfl)
@[go_sem] theorem a1F(d n s g:Nat)(b:Bool):gF d n s g b=⟨some d,.a3L n (.tmp s),some (g,b)⟩:=(rfl)
@[go_sem] theorem a1J(d s g:Nat)(b:Bool):gN d s g b=⟨some d,.len (.tmp s),some (g,b)⟩:=(rfl)
@[go_sem] theorem a1K(d n s g:Nat)(b:Bool):gO d n s g b=⟨some d,.load (some n) (.tmp s),some (g,b)⟩:=(rfl)
@[go_sem] theorem a1G(d f a g:Nat)(b:Bool):gK d f a g b=⟨some d,.call f [.tmp a],some (g,b)⟩:=(rfl)
@[go_sem] theorem a0X(d f a c g:Nat)(b:Bool):gK2 d f a c g b=⟨some d,.call f [.tmp a,.tmp c],some (g,b)⟩:=(rfl)
@[go_sem] theorem a1E(d:Nat)(o:BinOp)(x:Nat)(n:Int)(g:Nat)(b:Bool):gC d o x n g b=⟨some d,.bin o (.tmp x) (.const (.int .i64 n)),some (g,b)⟩:=(rfl)
@[go_sem] theorem a1D(d:Nat)(o:BinOp)(x y g:Nat)(b:Bool):gB d o x y g b=⟨some d,.bin o (.tmp x) (.tmp y),some (g,b)⟩:=(rfl)
@[go_sem] theorem a2F:zI=.int .i64 0:=(rfl)
@[go_sem] theorem a2E:zB=.bool false:=(rfl)
@[go_sem] theorem a2D(r:Rg)(c:aC):sq r c=.seq (.region r) c:=(rfl)
@[go_sem] theorem a1C(r:Rd)(c:aC):dq r c=.seq (.draw r) c:=(rfl)
@[go_sem] theorem a1B(n:Nat):Tm n=.tmp n:=(rfl)
@[go_sem] theorem a1A(n:Int):Ci n=.const (.int .i64 n):=(rfl)
def gJ(r:Rg)(t k:Nat)(s:Rg)(b:aC):aC:=sq r (.seq (.cond (Tm t) .skip (.exit k)) (.seq (.block (k+1) b) (.region s)))
@[go_sem] theorem aZR(r:Rg)(t k:Nat)(s:Rg)(b:aC):gJ r t k s b=sq r (.seq (.cond (Tm t) .skip (.exit k)) (.seq (.block (k+1) b) (.region s))):=(rfl)
def dS(r:Rg)(t k:Nat)(s:Rg)(b:aC):aC:=.seq (sq r (.cond (Tm t) .skip (.exit k))) (.seq (.block (k+1) b) (.region s))
@[go_sem] theorem aZS(r:Rg)(t k:Nat)(s:Rg)(b:aC):dS r t k s b=.seq (sq r (.cond (Tm t) .skip (.exit k))) (.seq (.block (k+1) b) (.region s)):=(rfl)
def dN(r:Rg)(n:Nat)(y:Rg)(b:aC):aC:=.seq (sq r (.cond (Tm n) (sq y .ret) .skip)) b
@[go_sem] theorem aYY(r:Rg)(n:Nat)(y:Rg)(b:aC):dN r n y b=.seq (sq r (.cond (Tm n) (sq y .ret) .skip)) b:=(rfl)
def jA(r:Rg)(n:Nat)(a b:aC):aC:=.seq (sq r (.cond (Tm n) a .skip)) b
@[go_sem] theorem aYX(r:Rg)(n:Nat)(a b:aC):jA r n a b=.seq (sq r (.cond (Tm n) a .skip)) b:=(rfl)
def cL(r:Rg)(k:Nat)(l:aC):aC:=sq r (.block k (.loop l))
@[go_sem] theorem a0J(r:Rg)(k:Nat)(l:aC):cL r k l=sq r (.block k (.loop l)):=(rfl)
end Go.PM
namespace Go.PM
open Go
open Go
def uS:=bP [] Proofs.Tryz.f146
def RJ:=aA uS 0
def RK:=aA uS 1
def RL:=aA uS 2
def RM:=aA uS 3
def RI:aC:=(.seq (sq RL (.cond (Tm 15) .skip (.exit 0))) (.block 1 (.region RM)))
def zJ:=aA uS 4
def uR:aC:=(sq RJ (sq RK (.seq (.block 0 (.loop RI)) (sq zJ .ret))))
def NR:bA:=⟨1,19,uR,[.tmp 2]⟩
def gl:=bP [] Proofs.Tryz.f168
def Hw:=aA gl 0
def Hx:=aA gl 1
def KZ:aC:=(sq Hw (sq Hx .ret))
def Xg:bA:=⟨1,6,KZ,[.tmp 2]⟩
def wR:=bP [] Proofs.Tryz.f169
def Ik:=aA wR 0
def Il:=aA wR 1
def Im:=aA wR 2
def In:=aA wR 3
def Io:=aA wR 4
def LD:aC:=(sq Ik (sq Il (dN Im 8 In (sq Io .ret))))
def Xu:bA:=⟨1,13,LD,[.tmp 2,.tmp 3]⟩
def RO:=bP [9] Proofs.Tryz.f121
def Xh:=aA RO 0
def Xi:=aA RO 1
def Xj:=aA RO 2
def RN:aC:=(sq Xh (sq Xi (sq Xj .ret)))
def ayB:bA:=⟨1,14,RN,[.tmp 2]⟩
def xc:=bP [] Proofs.Tryz.f151
def X1:=aA xc 0
def X2:=aA xc 1
def RP:aC:=(sq X1 (sq X2 .ret))
def ayD:bA:=⟨1,8,RP,[.tmp 2]⟩
def lK:=bP [] Proofs.Tryz.f126
def anK:=aA lK 0
def anL:=aA lK 1
def anM:=aA lK 2
def anN:=aA lK 3
def anO:=aA lK 4
def anP:=aA lK 5
def anQ:=aA lK 6
def anR:=aA lK 7
def anS:=bY lK 0
def anT:=aA lK 8
def W6:=bY lK 1
def W7:=aA lK 9
def W8:=aA lK 10
def W5:aC:=(dS anR 23 1 W8 (.block 3 (dq anS (.cond (Tm 26) (sq anT .ret) (dq W6 (.cond (Tm 36) (sq W7 .ret) .skip))))))
def W9:=aA lK 11
def XR:aC:=(sq anK (sq anL (.seq (.block 0 (sq anM (.cond (Tm 12) (sq anN .ret) (sq anO (.cond (Tm 16) (sq anP .ret) .skip))))) (.seq (cL anQ 1 W5) (sq W9 .ret)))))
def aJQ:bA:=⟨2,46,XR,[.tmp 4]⟩
def jE:=bP [] Proofs.Tryz.f147
def anD:=aA jE 0
def anE:=aA jE 1
def Cs:=aA jE 2
def anF:=bY jE 0
def anG:=aA jE 3
def anH:=aA jE 4
def Ct:=aA jE 5
def Cu:=aA jE 6
def Cv:=aA jE 7
def anI:=aA jE 8
def Wo:=aA jE 9
def Wp:=aA jE 10
def Wq:=aA jE 11
def Ws:=aA jE 12
def m9:=aA jE 13
def na:=aA jE 14
def nb:=aA jE 15
def m8:aC:=(gJ anI 37 0 nb (sq Wo (sq Wp (jA Wq 49 (.region Ws) (sq m9 (.region na))))))
def nc:=aA jE 16
def ni:=aA jE 17
def XP:aC:=(sq anD (dN anE 14 Cs (dq anF (jA anG 27 (.region anH) (sq Ct (sq Cu (.seq (cL Cv 0 m8) (sq nc (sq ni .ret)))))))))
def aJN:bA:=⟨2,75,XP,[.tmp 4,.tmp 5]⟩
def jO:=bP [] Proofs.Tryz.f148
def aoT:=aA jO 0
def aoU:=aA jO 1
def Db:=aA jO 2
def aoV:=aA jO 3
def aoW:=aA jO 4
def aoX:=bY jO 0
def Dc:=aA jO 5
def Dd:=aA jO 6
def De:=aA jO 7
def aoY:=aA jO 8
def Xv:=aA jO 9
def Xw:=aA jO 10
def Xx:=aA jO 11
def Xy:=aA jO 12
def n0:=aA jO 13
def n6:=aA jO 14
def n8:=aA jO 15
def nz:aC:=(gJ aoY 36 1 n8 (sq Xv (sq Xw (jA Xx 48 (.region Xy) (sq n0 (.region n6))))))
def n9:=aA jO 16
def YB:aC:=(sq aoT (.seq (.block 0 (sq aoU (.cond (Tm 10) (sq Db .ret) (sq aoV (.cond (Tm 17) (sq aoW .ret) .skip))))) (dq aoX (sq Dc (sq Dd (.seq (cL De 1 nz) (sq n9 .ret)))))))
def aKA:bA:=⟨2,68,YB,[.tmp 4,.tmp 5]⟩
def jF:=bP [] Proofs.Tryz.f152
def aoP:=aA jF 0
def aoQ:=aA jF 1
def C4:=aA jF 2
def aoR:=bY jF 0
def C5:=aA jF 3
def C6:=aA jF 4
def aoS:=aA jF 5
def C7:=aA jF 6
def C8:=aA jF 7
def C9:=aA jF 8
def Xk:=aA jF 9
def Xl:=aA jF 10
def Xm:=aA jF 11
def Xn:=aA jF 12
def Xo:=aA jF 13
def Xp:=aA jF 14
def nr:aC:=(gJ Xk 42 2 Xp (sq Xl (sq Xm (sq Xn (.region Xo)))))
def nu:=aA jF 15
def Xq:=aA jF 16
def nt:aC:=(gJ aoS 35 0 Xq (sq C7 (sq C8 (.seq (cL C9 2 nr) (.region nu)))))
def nv:=aA jF 17
def XY:aC:=(sq aoP (dN aoQ 17 C4 (dq aoR (sq C5 (.seq (cL C6 0 nt) (sq nv .ret))))))
def aJY:bA:=⟨2,84,XY,[.tmp 4,.tmp 5]⟩
def oE:=bP [] Proofs.Tryz.f120
def Ww:=aA oE 0
def Wx:=aA oE 1
def Wy:=aA oE 2
def Wz:=aA oE 3
def W0:=aA oE 4
def W1:=aA oE 5
def W2:=aA oE 6
def W3:=aA oE 7
def W4:=aA oE 8
def Wv:aC:=(dS W2 19 0 W4 (.region W3))
def Hq:=aA oE 9
def RD:aC:=(sq Ww (sq Wx (dN Wy 9 Wz (sq W0 (.seq (cL W1 0 Wv) (sq Hq .ret))))))
def axP:bA:=⟨1,25,RD,[.tmp 2]⟩
def sR:=bP [] Proofs.Tryz.f149
def aoI:=aA sR 0
def aoJ:=aA sR 1
def C3:=aA sR 2
def aoK:=aA sR 3
def aoL:=aA sR 4
def aoM:=aA sR 5
def aoN:=aA sR 6
def aoH:aC:=(.seq (sq aoL (.cond (Tm 20) .skip (.exit 0))) (.block 1 (sq aoM (.region aoN))))
def aoO:=aA sR 7
def XW:aC:=(sq aoI (dN aoJ 13 C3 (sq aoK (.seq (.block 0 (.loop aoH)) (sq aoO .ret)))))
def aJV:bA:=⟨2,30,XW,[.tmp 4,.tmp 5]⟩
def uQ:=bP [] Proofs.Tryz.f150
def anU:=aA uQ 0
def anV:=aA uQ 1
def Cx:=aA uQ 2
def anW:=aA uQ 3
def anX:=aA uQ 4
def anY:=bY uQ 0
def anZ:=aA uQ 5
def XT:aC:=(sq anU (.seq (.block 0 (sq anV (.cond (Tm 9) (sq Cx .ret) (sq anW (.cond (Tm 16) (sq anX .ret) .skip))))) (dq anY (sq anZ .ret))))
def aJR:bA:=⟨2,34,XT,[.tmp 4,.tmp 5,.tmp 6]⟩
def mQ:=bP [] Proofs.Tryz.f178
def Ia:=aA mQ 0
def Ib:=aA mQ 1
def Ic:=aA mQ 2
def Ie:=aA mQ 3
def If:=aA mQ 4
def Ig:=aA mQ 5
def Ih:=aA mQ 6
def Ii:=aA mQ 7
def Ij:=aA mQ 8
def Hz:aC:=(dS If 16 0 Ij (sq Ig (sq Ih (.region Ii))))
def xa:=aA mQ 9
def LC:aC:=(sq Ia (sq Ib (sq Ic (.seq (cL Ie 0 Hz) (sq xa .ret)))))
def Xt:bA:=⟨2,45,LC,[.tmp 4,.tmp 5]⟩
def oU:=bP [] Proofs.Tryz.f179
def aCY:=aA oU 0
def aCZ:=aA oU 1
def aDA:=aA oU 2
def aDB:=aA oU 3
def aDC:=aA oU 4
def aDD:=aA oU 5
def aDE:=aA oU 6
def aDF:=aA oU 7
def aDG:=aA oU 8
def aDH:=aA oU 9
def aoZ:aC:=(gJ aDC 16 0 aDH (sq aDD (sq aDE (sq aDF (.region aDG)))))
def apA:=aA oU 10
def apB:=aA oU 11
def oa:aC:=(sq aCY (sq aCZ (sq aDA (.seq (cL aDB 0 aoZ) (sq apA (sq apB .ret))))))
def nup:bA:=⟨2,41,oa,[.tmp 4]⟩
def dA:=bP [] Proofs.Tryz.f170
def wm:=aA dA 0
def wn:=aA dA 1
def wq:=aA dA 2
def wr:=aA dA 3
def wt:=aA dA 4
def wu:=aA dA 5
def ww:=aA dA 6
def wx:=aA dA 7
def wy:=aA dA 8
def wk:aC:=(.seq (sq wx (.cond (Tm 50) .skip (.exit 0))) (.block 1 (.region wy)))
def fx:=bY dA 0
def fy:=aA dA 9
def fz:=aA dA 10
def ga:=bY dA 1
def gb:=aA dA 11
def gd:=aA dA 12
def KO:=bY dA 2
def KP:=bY dA 3
def ge:=aA dA 13
def KQ:=aA dA 14
def KR:=aA dA 15
def KT:=aA dA 16
def BP:aC:=(.seq (sq ge (.cond (Tm 129) .skip (.exit 4))) (.block 5 (sq KQ (sq KR (sq KT (.cond (Tm 136) (.exit 4) .skip))))))
def KU:=aA dA 17
def KV:=aA dA 18
def KW:=aA dA 19
def BQ:=aA dA 20
def gf:=aA dA 21
def KM:aC:=(dS gd 85 2 gf (dq KO (dq KP (.seq (.block 4 (.loop BP)) (jA KU 146 (sq KV (.region KW)) (.region BQ))))))
def KX:=aA dA 22
def KY:=aA dA 23
def gg:=aA dA 24
def gh:=aA dA 25
def gi:=bY dA 4
def gj:=aA dA 26
def KN:aC:=(gJ gg 168 6 gj (sq gh (.draw gi)))
def gk:=bY dA 5
def HA:aC:=(sq wm (dN wn 24 wq (jA wr 29 (sq wt (sq wu .ret)) (sq ww (.seq (.block 0 (.loop wk)) (dq fx (sq fy (sq fz (dq ga (.seq (cL gb 2 KM) (sq KX (.seq (cL KY 6 KN) (dq gk .ret)))))))))))))
def Cy:bA:=⟨2,198,HA,[.tmp 4,.tmp 5]⟩
def fZ:=bP [] Proofs.Tryz.f180
def YD:=aA fZ 0
def YE:=aA fZ 1
def YF:=aA fZ 2
def YG:=aA fZ 3
def YH:=aA fZ 4
def YI:=aA fZ 5
def YJ:=aA fZ 6
def YK:=aA fZ 7
def YL:=aA fZ 8
def YM:=aA fZ 9
def VJ:=aA fZ 10
def VI:aC:=(gJ YG 16 0 VJ (sq YH (sq YI (sq YJ (sq YK (sq YL (.region YM)))))))
def VK:=aA fZ 11
def VL:=aA fZ 12
def VM:=aA fZ 13
def AW:aC:=(sq YD (sq YE (.seq (cL YF 0 VI) (sq VK (sq VL (sq VM .ret))))))
def YC:bA:=⟨3,65,AW,[.tmp 6]⟩
def mB:=bP [] Proofs.Tryz.f181
def gn:=aA mB 0
def gp:=aA mB 1
def gq:=aA mB 2
def gr:=aA mB 3
def gs:=aA mB 4
def gt:=aA mB 5
def gv:=aA mB 6
def gw:=aA mB 7
def gm:aC:=(gJ gq 10 0 gw (sq gr (sq gs (sq gt (.region gv)))))
def gx:=aA mB 8
def DA:aC:=(sq gn (.seq (cL gp 0 gm) (.region gx)))
def ny:bA:=⟨2,41,DA,[]⟩
open Go Go.RowKit Go.ChangeShapes Go.WideShapes
inductive AT where
 |one (ct:CT)
 |struct (cts:List CT)
 deriving Inhabited
def auX(P:Program)(n:Nat)(t:TypeId):Option AT:=
 match P.underlying t with
 |some .bool=>some (.one .bool)
 |some (.int k)=>some (.one (.int k))
 |some .string=>some (.one .str)
 |some (.slice _)=>match kV P n t with
  |some [ct]=>some (.one ct)
  |_=>none
 |some (.struct _)=>(kV P n t).map .struct
 |_=>none
def ND(P:Program)(n:Nat):List TypeId→Option (List AT)
 |[]=>some []
 |t::ts=>match auX P n t,ND P n ts with
  |some a,some e=>some (a::e)
  |_,_=>none
inductive AT.Ty:AT→PV→Prop
 |one {ct:CT} {pv:PV} (h:PV.Ty ct pv):AT.Ty (.one ct) pv
 |struct {cts:List CT} {pvs:List PV} (hl:Z' pvs=Z' cts) (h:∀(j:Nat) pv ct,pvs[j]?=some pv→cts[j]?=some ct→PV.Ty ct pv):AT.Ty (.struct cts) (.agg pvs)
def AT.TyL:List AT→List PV→Prop
 |[],[]=>True
 |a::e,p::ps=>AT.Ty a p∧AT.TyL e ps
 |_,_=>False
section
variable {H:Type} {enc:TypeId × Value→H} {P:Program} {W:World} {sp:Nat→Bool} {held:Bool}
theorem aSY{r:Reach}{base:Nat}(num:Nat→FuncId){t:TypeId}{v:Value}{d:DataW H}{ps:List MemPlace}{n:Nat}{a:AT}
  (j:Value.okWide P W r base t v) (A:DataW.Trod enc P W 0 sp held t v d ps) (u:auX P n t=some a):∃pv,bF (Env.of W num) pv v∧AT.Ty a pv:=by
 unfold auX at u;cases n with
 |zero=>
  split at u
  ·rename_i l;cases u;obtain⟨b,rfl⟩:=okWide_bool l j;obtain⟨pv,w,y⟩:=AK (n:=1) (ct:=.bool) num (by simp[Value.cells]) A (by simp[kV,l]);exact⟨pv,w,.one y⟩
  ·rename_i k l;cases u;obtain⟨b,rfl⟩:=okWide_int l j;obtain⟨pv,w,y⟩:=AK (n:=1) (ct:=.int k) num (by simp[Value.cells]) A (by simp[kV,l]);exact⟨pv,w,.one y⟩
  ·rename_i l;cases u;obtain⟨b,rfl⟩:=okWide_string l j;obtain⟨pv,w,y⟩:=AK (n:=1) (ct:=.str) num (by simp[Value.cells]) A (by simp[kV,l]);exact⟨pv,w,.one y⟩
  ·simp[kV]at u
  ·simp[kV]at u
  ·cases u
 |succ n=>
  split at u
  ·rename_i l;cases u;obtain⟨b,rfl⟩:=okWide_bool l j;obtain⟨pv,w,y⟩:=AK (n:=n+1) (ct:=.bool) num (by simp[Value.cells]) A (by simp[kV,l]);exact⟨pv,w,.one y⟩
  ·rename_i k l;cases u;obtain⟨b,rfl⟩:=okWide_int l j;obtain⟨pv,w,y⟩:=AK (n:=n+1) (ct:=.int k) num (by simp[Value.cells]) A (by simp[kV,l]);exact⟨pv,w,.one y⟩
  ·rename_i l;cases u;obtain⟨b,rfl⟩:=okWide_string l j;obtain⟨pv,w,y⟩:=AK (n:=n+1) (ct:=.str) num (by simp[Value.cells]) A (by simp[kV,l]);exact⟨pv,w,.one y⟩
  ·rename_i e l;split at u
   ·rename_i ct B;cases u;obtain⟨x,len,cap,rfl⟩:=okWide_slice l j;obtain⟨pv,w,y⟩:=AK num (by simp[Value.cells]) A B;exact⟨pv,w,.one y⟩
   ·cases u
  ·rename_i I l;rw[a4G]at u;obtain⟨cts,B,rfl⟩:=u;obtain⟨F,w,y,E⟩:=auY num l j A B;exact⟨_,w,.struct y E⟩
  ·cases u
theorem ahG{r:Reach}{base:Nat}(num:Nat→FuncId){n:Nat}:∀{ts:List TypeId}{vs:List Value}{ds:List (DataW H)}{ps:List MemPlace}{l:List AT},DataW.TrodAll enc P W 0 sp held ts vs ds ps →
  (∀(j:Nat) t v,ts[j]?=some t→vs[j]?=some v→Value.okWide P W r base t v)→ND P n ts=some l→∃e,gS (Env.of W num) e vs∧AT.TyL l e
 |[],[],_,_,l,_,_,h=>by simp[ND]at h;subst h;exact⟨[],.nil,trivial⟩
 |[],_::_,_,_,_,h,_,_=>h.elim
 |_::_,[],[],_,_,h,_,_=>h.elim
 |_::_,[],_::_,_,_,h,_,_=>h.elim
 |_::_,_::_,[],_,_,h,_,_=>h.elim
 |t::ts,v::vs,d::ds,ps,l,h,w,u=>by
  obtain⟨p,q,B,E,rfl⟩:=h;simp only[ND]at u;split at u
  ·rename_i a x y A;cases u;obtain⟨pv,r1,F⟩:=aSY num (w 0 t v rfl rfl) B y;obtain⟨e,r2,I⟩:=ahG num E (λj t v a b=>w (j+1) t v (by simpa using a) (by simpa using b)) A;exact⟨pv::e,.cons r1 r2,F,I⟩
  ·cases u
theorem TrodAll.length:∀{ts:List TypeId}{vs:List Value}{ds:List (DataW H)}{ps:List MemPlace},DataW.TrodAll enc P W 0 sp held ts vs ds ps→Z' ds=Z' ts
 |[],[],[],_,_=>rfl
 |[],[],_::_,_,h=>h.elim
 |[],_::_,_,_,h=>h.elim
 |_::_,[],[],_,h=>h.elim
 |_::_,[],_::_,_,h=>h.elim
 |_::_,_::_,[],_,h=>h.elim
 |t::ts,v::vs,d::ds,ps,h=>by obtain⟨p,q,j,e,rfl⟩:=h;simp[TrodAll.length e]
end
theorem O4{H:Type}{enc:TypeId × Value→H}{P:Program}{f:FuncId}{fn:Func}{s:ChangeSpec}{apart fresh l:Bool}{bt:TypeId}{num:Nat→FuncId}{name n:Nat}{ats:List AT}
  (U:laidOutB P=true) (K:fn.params.toList.all (λt=>P.readableRec t&&decide (t<P.types.size))=true) (I:fn.resultTypes=#[bt]) (F:P.underlying bt=some .bool) (O:s.vars=[])
  (X:∀ds:List (DataW H),Z' ds=Z' fn.params.toList→(s.fn H ds).results=[.lit (.bool true)]∧(s.fn H ds).args=ds∧(s.fn H ds).vars=[])
  (y:num name=f) (S:ND P n fn.params.toList=some ats) (h:∀w,AT.TyL ats w→aJ ⟨P,num⟩ name w PH.nil (aK (.bool true)))
  {W:World} {base:Nat} {args:Array Value} {ds R:List (DataW H)} {u:List MemPlace}
  (B:∀(j:Nat) t v,fn.params[j]?=some t→args[j]?=some v→Value.okWide P W .any base t v) (hW:DataW.Whole enc P fn.params.toList s.vars apart W args.toList ds R u) :
  Calls P f args W λe M=>∃v,e=.returned v∧s.post enc P fn apart fresh l false W args v M:=by
 have A:∀t∈fn.params.toList,P.readableRec t=true∧t<P.types.size:=λt J=>by have:=a4T.1 K t J;simpa using this
 have E:=hW;obtain⟨p,q,N,hV,rfl,hz,Z⟩:=hW;rw[O]at hV;obtain⟨rfl,rfl⟩:=trodVars_none hV;obtain⟨w,V,J⟩:=ahG num N (λj t v a b=>B j t v (by simpa using a) (by simpa using b)) S;have x:=TrodAll.length N;subst y;obtain⟨r1,r2,Y⟩:=X (ds++[]) (by simpa using x);refine(aBZ (C:=⟨P,num⟩) (h w J) V).mono λe M he=>?_;obtain⟨rfl,hb⟩:=he;exact⟨_,rfl,aDZ U E hb A I F O r1 (by rw[r2];simp) Y⟩
attribute [go_sem] vJ lF setCells PV.cells PV.one dH storeAt eN loadCells fY bnd PV.slice PV.intOf PV.eqs PV.eq1 PV.un keyOf KS.of KS.ofs KS.sh List.all_cons List.all_nil List.set_cons_zero List.set_cons_succ a4K a5Z a4F a5I a4T Bool.and_self
attribute [go_sem] Bool.bne_false Bool.bne_true Int.le_refl Int.lt_irrefl decide_true decide_false exists_eq_left exists_eq_left' a3V a7J a6U Int.natCast_nonneg Option.isSome_some Option.isSome_none a6R Option.getD_none decide_eq_true_eq decide_eq_false_iff_not a4I a5H a4B Nat.sub_zero
def cC(xs:List Int):List (List PV):=xs.map λn=>[.int .i64 n]
theorem bJ{a b:Int}(h:a≠b):(a==b)=false:=by simp[h]
theorem cA{a b:Int}(h:a=b):(a==b)=true:=by simp[h]
theorem cU{a b:Int}(h:a≠b):(a != b)=true:=by simp[h]
theorem bW{a b:Int}(h:a=b):(a != b)=false:=by simp[h]
section
variable {H:PH}
@[go_sem] theorem PH.set_set(o:Nat)(x y:cD):(H.set o x).set o y=H.set o y:=PH.ext λq=>by
 simp only[aU];split<;>rfl
@[go_sem] theorem bT(o:Nat)(x:cD):(H.set o x) o=some x:=by simp only[aU,if_true]
end
section
variable {C:Ctx} {K:cP} {F:PF} {H:PH}
theorem PH.qL(o:Nat)(x:cD):H.over .nil (PH.nil.set o x)=H.set o x:=PH.ext λq=>by
 rw[tQ];simp only[aU,Cf];split<;>simp_all
theorem PH.sI(o:Nat)(x y:cD):H.over (PH.nil.set o x) (PH.nil.set o y)=H.set o y:=PH.ext λq=>by
 rw[tQ];simp only[aU,Cf];split<;>simp_all
theorem eY{name:Nat}{vs:List PV}{H0:PH}{R:PV→PH→Prop}{args:List aR}{d:Option Nat}{K:PF→PH→Prop}(h:aJ C name vs H0 R)(j:aR.evs F args=some vs)(e:H0.le H)
  (l:∀r H',R r H'→oP H H0 H'→K (F.put d r) (H.over H0 H')):jX C name args [] d K F H:=
 .inl ⟨vs,H0,R,by rw[j];simp,e,h,l⟩
theorem bD{res:List fC}{R:PV→PH→Prop}{vs:List PV}{e:nN}(he:e=.normal∨e=.ret)(H0:PH)(h:fC.evs F H res=some vs)(j:H0.le H)(y:R (cE vs) H0):aV res R e F H:=by
 have l:∃vs,fC.evs F H res=some vs∧∃w x H2,lN (PF.nil.set 0 (cE vs)) H w x∧H2.le x∧∃u,w 0=some u∧R u H2:=
  ⟨vs,h,_,H,H0,.refl _ _,j,cE vs,by rw[pF,aL rfl],y⟩
 rcases he with rfl|rfl<;>exact l
theorem aKU{t o s k:Nat}{rs:List (List PV)}{R:PV→PH→Prop}{e:nN}(he:e=.normal∨e=.ret)(h:F t=some (.osl o s 0 k))(y:H o=some (.rows s rs))(A:k≤Z' rs)(x:R (.sl s (rs.take k)) .nil) :
  aV [.tmp t] R e F H:=by
 have j:∃vs,fC.evs F H [.tmp t]=some vs∧∃l w H2,lN (PF.nil.set 0 (cE vs)) H l w∧H2.le w∧∃u,l 0=some u∧R u H2:=by refine⟨[.osl o s 0 k],by rw[oY,sJ,h,tU],_,_,.nil,.step o y (.refl _ _),a_,.sl s (rs.take k),?_,x⟩;have:0+k≤Z' rs:=Om;simp only[PF.frz,pF,if_true,cE,a5B,PV.frz,PV.uO,PV.cT,true_and,aL this,a5J]
 rcases he with rfl|rfl<;>exact j
def cY(v:PV)(r:PV)(H:PH):Prop:=Co r v∧H=PH.nil
theorem aJ.ayT{name:Nat}{args:List PV}{H:PH}{v:PV}(h:aJ C name args H (cY v)):aJ C name args H (aK v):=
 h.post λr H' ⟨e,j⟩=>⟨v,e,rfl,j⟩
theorem aK.ayT{v r:PV}{H:PH}(h:aK v r H):cY v r H:=by
 obtain⟨rfl,rfl⟩:=h;exact⟨.refl _,rfl⟩
theorem HV{s b:Nat}{y:PV}{src:List (List PV)}{K:PV→PH→Prop}(u:fY H s y=some src)(l:roomFor 0 src.length b)(e:src=[]→K .aE H)
  (j:src≠[]→∀o,H o=none→K (.osl o s 0 src.length) (H.set o (.rows s src))):pC H s b .aE y K:=⟨src,u,l,e,j⟩
theorem aeD{o s b len:Nat}{rs:List (List PV)}{y:PV}{src:List (List PV)}{K:PV→PH→Prop}(A:fY H s y=some src)(x:roomFor len src.length b)(w:H o=some (.rows s rs))(u:len≤Z' rs)
  (j:K (.osl o s 0 (len+Z' src)) (H.set o (.rows s (rs.take len++src))))
  (l:∀e,H e=none→K (.osl e s 0 (len+Z' src)) (H.set e (.rows s (rs.take len++src)))):pC H s b (.osl o s 0 len) y K:=
 ⟨src,A,rfl,rfl,x,rs,w,u,j,l⟩
end
def cZ(H:PH)(s:Nat)(v:PV)(rows:List (List PV)):Prop:=
 (rows=[]∧v=.aE)∨∃q rs,v=.osl q s 0 rows.length∧H q=some (.rows s rs)∧Z' rows≤Z' rs∧rs.take rows.length=rows
def Seen(s:Nat)(v:PV)(rows:List (List PV)):Prop:=(rows=[]∧v=.aE)∨v=.sl s rows
section
variable {C:Ctx} {K:cP} {F:PF} {H:PH} {s b:Nat} {v y:PV} {rows src:List (List PV)}
theorem cZ.nil:cZ H s .aE []:=.inl ⟨rfl,rfl⟩
theorem cZ.ext{H':PH}(h:cZ H s v rows)(e:∀o x,H o=some x→H' o=some x):cZ H' s v rows:=by
 rcases h with h|⟨q,rs,h0,h1,h2,h3⟩
 ·exact .inl h
 ·exact .inr ⟨q,rs,h0,e q _ h1,h2,h3⟩
theorem lO{K:PV→PH→Prop}(h:cZ H s v rows)(J:fY H s y=some src)(I:roomFor rows.length src.length b)
  (E:∀v' H',cZ H' s v' (rows++src)→(∀o x,H o=some x→(∀l,v≠.osl o s 0 l)→H' o=some x)→K v' H'):pC H s b v y K:=by
 rcases h with⟨rfl,rfl⟩|⟨q,rs,rfl,h1,h2,h3⟩
 ·refine⟨src,J,I,λe=>?_,λe o A=>?_⟩
  ·subst e;exact E _ _ (.inl ⟨rfl,rfl⟩) λo x A _=>A
  ·refine E _ _ (.inr ⟨o,src,rfl,by simp only[aU,if_true],a4B _,by simp⟩) λB x j _=>?_;have:B≠o:=by rintro rfl;rw[A]at j;cases j
   simp only[aU,aG this,j]
 ·have u:(rows++src).length=Z' rows+Z' src:=a3Z;refine⟨src,J,rfl,rfl,I,rs,h1,h2,?_,λo A=>?_⟩
  ·rw[h3];refine E _ _ (.inr ⟨q,rows++src,by rw[u],by simp only[aU,if_true],a4B _,a5F⟩) λB x j w=>?_;have:B≠q:=by rintro rfl;exact w _ rfl
   simp only[aU,aG this,j]
  ·rw[h3];refine E _ _ (.inr ⟨o,rows++src,by rw[u],by simp only[aU,if_true],a4B _,a5F⟩) λB x j w=>?_;have M:B≠o:=by rintro rfl;rw[A]at j;cases j
   simp only[aU,aG M,j]
def Pure(u:PV):Prop:=∀q s rs,PV.frz q s rs u=u
theorem cZ.frz(h:cZ H s v rows):∃j,Seen s j rows∧∀F:PF,∃e l,lN F H e l∧(∀t,F t=some v→e t=some j)∧∀i u,F i=some u→Pure u→e i=some u:=by
 rcases h with⟨rfl,rfl⟩|⟨q,rs,rfl,h1,h2,h3⟩
 ·exact⟨.aE,.inl ⟨rfl,rfl⟩,λF=>⟨F,H,.refl _ _,λt h=>h,λi u h _=>h⟩⟩
 ·refine⟨.sl s rows,.inr rfl,λF=>⟨_,_,.step q h1 (.refl _ _),λt x=>?_,λi u hi w=>?_⟩⟩
  ·have:0+Z' rows≤Z' rs:=Om;simp only[PF.frz,x,a5B,PV.frz,PV.uO,PV.cT,if_true,true_and,aL this,a5J,h3]
  ·simp only[PF.frz,hi,a5B];rw[w]
theorem SI{t:Nat}{e:nN}(he:e=.normal∨e=.ret)(h:cZ H s v rows)(j:F t=some v):aV [.tmp t] (cY (.sl s rows)) e F H:=by
 rcases h with⟨rfl,rfl⟩|⟨q,rs,rfl,h1,h2,h3⟩
 ·exact bD (vs:=[.aE]) he .nil (by rw[oY,sJ,j,tU]) a_ ⟨.nil s,rfl⟩
 ·exact aKU he j h1 h2 ⟨by rw[h3];exact .refl _,rfl⟩
end
end Go.PM
namespace Go.PM
open Go
section
variable {C:Ctx} {F:PF} {H:PH}
@[go_sem] theorem sG(o s:Nat)(rs:List (List PV))(i:Nat):(F.frz o s rs) i=(F i).map (PV.frz o s rs):=(rfl)
theorem wF{name t o s k:Nat}{rs:List (List PV)}{v:PV}{d:Option Nat}{K:PF→PH→Prop}(h:aJ C name [.sl s (rs.take k)] .nil (aK v))(l:F t=some (.osl o s 0 k))(j:H o=some (.rows s rs))(u:k≤Z' rs)
  (e:K ((F.frz o s rs).put d v) (H.frz o s rs)):jX C name [.tmp t] [] d K F H:=by
 refine .inr ⟨_,_,.step o j (.refl _ _),[.sl s (rs.take k)],.nil,aK v,?_,a_,h,?_⟩
 ·have:0+k≤Z' rs:=Om;simp only[GO,ci,s9,sG,l,a5B,PV.frz,PV.uO,PV.cT,if_true,true_and,aL this,a5J,a5O]
 ·rintro r H' ⟨rfl,rfl⟩ -;rw[PH.qK];exact e
end
end Go.PM
namespace Go.Na
def val:List Nat→Nat
 |[]=>0
 |x::xs=>x+4294967296*val xs
def Lim(xs:List Nat):Prop:=∀x∈xs,x<4294967296
def aM(n:Nat):List Nat:=if h:n=0 then[]else(n%4294967296)::aM (n/4294967296)
termination_by n
decreasing_by exact Nat.div_lt_self (a6Q h) aX
def nl(n:Nat):Nat:=(aM n).length
theorem jY:aM 0=[]:=by rw[aM];simp
theorem yB{n:Nat}(h:n≠0):aM n=(n%4294967296)::aM (n/4294967296):=by rw[aM];simp[h]
theorem tO{n:Nat}(h:n≠0)(hb:n<4294967296):aM n=[n]:=by
 rw[yB h,a5N hb,a7D hb,jY]
theorem aY(n:Nat):val (aM n)=n:=by
 induction n using Nat.strongRecOn with
 |_ n e=>
  by_cases h:n=0
  ·subst h;rw[jY];rfl
  ·rw[yB h,val,e _ (Nat.div_lt_self (a6Q h) aX)];exact Nat.mod_add_div n 4294967296
theorem bB(n:Nat):Lim (aM n):=by
 induction n using Nat.strongRecOn with
 |_ n e=>
  by_cases h:n=0
  ·subst h;rw[jY];intro x hx;cases hx
  ·rw[yB h];intro x hx;rw[a4J]at hx;rcases hx with rfl|hx
   ·exact a5T _ aX
   ·exact e _ (Nat.div_lt_self (a6Q h) aX) x hx
theorem FY:nl 0=0:=by rw[nl,jY];rfl
theorem aCS{n:Nat}(h:n≠0):nl n=nl (n/4294967296)+1:=by rw[nl,yB h];rfl
theorem mO(n k:Nat):nl n≤k↔n<4294967296^k:=by
 induction k generalizing n with
 |zero=>
  by_cases h:n=0
  ·subst h;simp[FY]
  ·rw[aCS h];simp;omega
 |succ k e=>
  by_cases h:n=0
  ·subst h;simp[FY,a6X]
  ·rw[aCS h,Nat.succ_le_succ_iff,e,a5X,a7F aX]
theorem mA{n:Nat}:nl n=0↔n=0:=by
 have:=mO n 0;simp at this;exact this
theorem kP(xs e:List Nat):val (xs++e)=val xs+4294967296^xs.length*val e:=by
 induction xs with
 |nil=>simp[val]
 |cons x xs j =>simp only[a7L,val,a5P,j,a5X];rw[a4L,a6O,←a4V,a4Y 4294967296 (4294967296^xs.length)]
theorem jH{xs:List Nat}(h:Lim xs):val xs<4294967296^xs.length:=by
 induction xs with
 |nil=>simp[val]
 |cons x xs l =>have u:=h x aW;have e:=l λy j=>h y (by simp[j]);simp only[val,a5P,a5X];have:4294967296*(val xs+1)≤4294967296*4294967296^xs.length:=a6P _ e;rw[a4L,Nat.mul_one]at this;rw[a4Y (4294967296^xs.length)];omega
theorem Lim.app{xs j:List Nat}(h:Lim xs)(k:Lim j):Lim (xs++j):=λx e=>by
 rw[a5E]at e;exact e.elim (h x) (k x)
theorem Lim.take{xs:List Nat}(h:Lim xs)(n:Nat):Lim (xs.take n):=λx e=>h x (List.mem_of_mem_take e)
theorem Lim.drop{xs:List Nat}(h:Lim xs)(n:Nat):Lim (xs.drop n):=λx e=>h x (List.mem_of_mem_drop e)
theorem Lim.set{xs:List Nat}(h:Lim xs)(i:Nat){v:Nat}(e:v<4294967296):Lim (xs.set i v):=λx j=>by
 rcases List.mem_or_eq_of_mem_set j with h1|h1
 ·exact h x h1
 ·subst h1;exact e
theorem CJ(n:Nat):Lim (a3W n 0):=λx e=>by
 rw[List.mem_replicate]at e;rw[e.2];decide
theorem yJ(n:Nat):val (a3W n 0)=0:=by
 induction n with
 |zero=>rfl
 |succ n e=>simp[List.replicate_succ,val,e]
theorem aCD{xs:List Nat}(h:Lim xs)(B:∀x,xs.getLast?=some x→x≠0):aM (val xs)=xs:=by
 induction xs with
 |nil=>simp[val,jY]
 |cons x xs M=>
  have w:=h x aW;have A:Lim xs:=λy J=>h y (by simp[J]);cases xs with
  |nil =>have:=B x aW;simp only[val,Nat.mul_zero,a5H];exact tO this w
  |cons y l=>
   have j:=M A λz K=>B z (by rw[List.getLast?_cons_cons];exact K);have I:val (y::l)≠0:=λe=>by rw[e,jY]at j;cases j
   have u:x+4294967296*val (y::l)≠0:=by have:0<4294967296*val (y::l):=Nat.mul_pos aX (a6Q I);omega
   show aM (x+4294967296*val (y::l))=_;rw[yB u];have E:(x+4294967296*val (y::l))%4294967296=x:=by rw[Nat.add_mul_mod_self_left,a5N w]
   have F:(x+4294967296*val (y::l))/4294967296=val (y::l):=by rw[Nat.add_mul_div_left _ _ aX,a7D w,a4I]
   rw[E,F,j]
theorem adB{xs:List Nat}{n:Nat}(h:∀j x,n≤j→xs[j]?=some x→x=0):val (xs.take n)=val xs:=by
 have e:xs.drop n=a3W (xs.drop n).length 0:=by apply List.ext_getElem aW;intro i l u;rw[List.getElem_replicate,List.getElem_drop];exact h (n+i) _ Om (a4C _)
 conv=>rhs;rw[←a6W n xs,kP,e,yJ]
 simp
theorem SZ{xs:List Nat}(y:Lim xs){n:Nat}(w:n≤Z' xs)(h:∀j x,n≤j→xs[j]?=some x→x=0)(u:∀x,0<n→xs[n-1]?=some x→x≠0):xs.take n=aM (val xs):=by
 rw[←adB h,aCD (y.take n)];intro x l;rw[List.getLast?_eq_getElem?,a4M,a6G w]at l;rcases a6C n with e|e
 ·subst e;simp at l
 ·rw[List.getElem?_take_of_lt Om]at l;exact u x e l
theorem arD{xs:List Nat}(u:Lim xs){n:Nat}(l:n≤Z' xs)(h:∀j x,n≤j→xs[j]?=some x→x=0)(e:∀x,0<n→xs[n-1]?=some x→x≠0):nl (val xs)=n:=by
 rw[nl,←SZ u l h e,a4M];omega
theorem jV{xs:List Nat}(h:Lim xs):nl (val xs)≤Z' xs:=(mO _ _).2 (jH h)
theorem pA {xs : List Nat} (h : Lim xs) : xs.take (nl (val xs)) = aM (val xs) := by
  have hl := jV h;have e : val (xs.take (nl (val xs)) ++ xs.drop (nl (val xs))) = val xs := by rw [a6W]
  rw [kP, a4M, a6G hl] at e;have h1 := jH (h.take (nl (val xs)));rw [a4M, a6G hl] at h1;have h2 := (mO (val xs) (nl (val xs))).1 (a4B _);have hd : val (xs.drop (nl (val xs))) = 0 := by
    rcases a6C (val (xs.drop (nl (val xs)))) with h | h
    · exact h
    · have := a6P (4294967296 ^ nl (val xs)) h
      omega
  have hz : ∀ j x, nl (val xs) ≤ j → xs[j]? = some x → x = 0 := by
    have zero : ∀ ys : List Nat, val ys = 0 → ∀ y ∈ ys, y = 0 := by
      intro ys
      induction ys with
      | nil => intro _ y hy; cases hy
      | cons z zs ih =>
        intro hv y hy;simp only [val] at hv;rw [a4J] at hy;rcases hy with rfl | hy
        · omega
        · exact ih (by have : 4294967296 * val zs = 0 := Om
                       rcases Nat.mul_eq_zero.1 this with h | h
                       · cases h
                       · exact h) y hy
    intro j x hj hx;refine zero _ hd x ?_;rw [List.mem_iff_getElem?];exact ⟨j - nl (val xs), by rw [a7I, Nat.add_sub_cancel' hj]; exact hx⟩
  refine SZ h hl hz fun x hpos hx e => ?_;subst e;have hz2 : ∀ j x, nl (val xs) - 1 ≤ j → xs[j]? = some x → x = 0 := fun j y hj hy => by
    rcases a4R j (nl (val xs)) with h3 | h3
    · have : j = nl (val xs) - 1 := Om
      subst this; rw [hx] at hy; cases hy; rfl
    · exact hz j y h3 hy
  have h3 := adB hz2;have h4 := jH (h.take (nl (val xs) - 1));rw [h3, a4M, a6G Om] at h4;have := (mO (val xs) (nl (val xs) - 1)).2 h4;omega
theorem aaX{xs:List Nat}(h:Lim xs){n:Nat}(w:nl (val xs)=n+1):∃x,xs[n]?=some x∧x≠0:=by
 have y:=jV h;refine⟨xs[n]'Om,a4C _,λe=>?_⟩;have u:=pA h;have j:=aY (val xs);rw[←u,w,a5W Om,e,kP]at j;simp only[val,Nat.mul_zero,a5H]at j;have l:=jH (h.take n);rw[j,a4M,a6G Om]at l;have:=(mO (val xs) n).2 l;omega
theorem yG(xs:List Nat){k:Nat}(h:k<Z' xs):val xs=val (xs.take k)+4294967296^k*(xs[k]+4294967296*val (xs.drop (k+1))):=by
 conv=>lhs;rw[←a6W k xs,kP,a4M,a6G Om,a6J h]
 rfl
theorem sx{xs e:List Nat}(y:Lim xs){k:Nat}(j:k<Z' xs)(l:k<Z' e)(x:xs.drop (k+1)=e.drop (k+1))(h:xs[k]<e[k]):val xs<val e:=by
 rw[yG xs j,yG e l,x];have u:=jH (y.take k);rw[a4M,a6G Om]at u;have w:4294967296^k*(xs[k]+4294967296*val (e.drop (k+1))+1)≤4294967296^k*(e[k]+4294967296*val (e.drop (k+1))):=a6P _ Om;rw[a4L _ _ 1,Nat.mul_one]at w;omega
def fB(a b:Nat):Int:=if a<b then -1 else if b<a then 1 else 0
theorem En{xs e:List Nat}{k:Nat}(j:k<Z' xs)(l:k<Z' e)(u:xs.drop (k+1)=e.drop (k+1))(h:xs[k]=e[k]):xs.drop k=e.drop k:=by
 rw[a6J j,a6J l,u,h]
theorem kF{a b:Nat}(h:a≤b):nl a≤nl b:=(mO a _).2 (Nat.lt_of_le_of_lt h ((mO b _).1 (a4B _)))
theorem Oz{xs:List Nat}(h:Lim xs){j:Nat}(l:j<nl (val xs)):∃(u:j<Z' xs)(w:j<(aM (val xs)).length),xs[j]=(aM (val xs))[j]:=by
 have x:=jV h;refine⟨by omega,l,?_⟩;have e:=pA h;have:(xs.take (nl (val xs)))[j]?=(aM (val xs))[j]?:=by rw[e]
 rw[List.getElem?_take_of_lt l,a4C Om,a4C l]at this;exact a6H.inj this
def dV(n:Nat):Nat:=if h:n=0 then 0 else dV (n/2)+1
termination_by n
decreasing_by exact Nat.div_lt_self (a6Q h) aX
theorem nH:dV 0=0:=by rw[dV];simp
theorem uH{n:Nat}(h:n≠0):dV n=dV (n/2)+1:=by rw[dV];simp[h]
theorem qV(n k:Nat):dV n≤k↔n<2^k:=by
 induction k generalizing n with
 |zero=>
  by_cases h:n=0
  ·subst h;simp[nH]
  ·rw[uH h];simp;omega
 |succ k e=>
  by_cases h:n=0
  ·subst h;simp[nH,a6X]
  ·rw[uH h,Nat.succ_le_succ_iff,e,a5X,a7F aX]
theorem oG{n:Nat}:dV n=0↔n=0:=by
 have:=qV n 0;simp at this;exact this
theorem O0{hi lo k:Nat}(u:lo<2^k)(j:hi≠0):dV (lo+2^k*hi)=k+dV hi:=by
 apply Nat.le_antisymm
 ·rw[qV,Nat.pow_add];have e:=(qV hi _).1 (a4B _);have:2^k*(hi+1)≤2^k*2^dV hi:=a6P _ e;rw[a4L,Nat.mul_one]at this;omega
 ·obtain⟨b,hb⟩:∃b,dV hi=b+1:=⟨dV hi-1,by have:=mt oG.1 j;omega⟩;rw[hb];rcases a4R (dV (lo+2^k*hi)) (k+(b+1))with h|h
  ·have e:=(qV (lo+2^k*hi) (k+b)).1 Om;rw[Nat.pow_add]at e;have l:¬hi<2^b:=λh=>by have:=(qV hi b).2 h;omega
   have:2^k*2^b≤2^k*hi:=a6P _ Om;omega
  ·exact h
theorem qW(n k:Nat):dV n≤32*k↔nl n≤k:=by
 rw[qV,mO,Nat.pow_mul]
end Go.Na
namespace Go.PM
theorem Lq{F e:PF}(h:F.le e:=by(repeat' (first|exact c_|refine d_ ?_ ?_))<;>first|(simp only[go_sem]<;>rfl)|rfl|assumption):F.le e:=h
end Go.PM
namespace Go.PM
open Go Go.Na
abbrev aP(xs:List Nat):List (List PV):=xs.map λ(n:Nat)=>[PV.int .u32 (n:Int)]
abbrev aO(xs:List Nat):PV:=.sl 1 (xs.map λ(n:Nat)=>[PV.int .u32 (n:Int)])
theorem dE(xs:List Nat):(aP xs).length=Z' xs:=by simp
theorem cM(xs:List Nat){i:Nat}(h:i<Z' xs):(aP xs)[i]?=some [.int .u32 (xs[i]:Nat)]:=by simp[h]
theorem Hp(xs:List Nat)(k:Nat):aO (xs.take k)=.sl 1 ((xs.map λ(n:Nat)=>[PV.int .u32 (n:Int)]).take k):=by rw[aO,List.map_take]
theorem dU(n:Nat):IntKind.u32.wrap (n:Int)=((n%4294967296:Nat):Int):=by
 have e:IntKind.u32.wrap (n:Int)=(n:Int)%4294967296:=by simp[IntKind.wrap,IntKind.bits,IntKind.signed]
 rw[e];rfl
theorem CW{k:Nat}(h:k≤9223372036854775807)(e:0<k):IntKind.i64.wrap ((k:Int)-1)=((k-1:Nat):Int):=by
 rw[wrap_i64 Om Om];omega
def axY(xs:List Nat)(n:Nat):PF:=((PF.nil.set 0 (aO xs)).set 3 (.int .i64 n))
theorem ayA{C:Ctx}(xs:List Nat)(B:Lim xs)(F:Z' xs≤35184372087808):uR.wp C (aV NR.res (aK (.int .i64 (nl (val xs):Nat)))) (PF.args [aO xs]) .nil:=by
 simp only[go_sem,uR,RJ,RK,NR];refine wp_loop (α:=Nat) (axY xs) (λ_=>.nil) (λn=>n≤Z' xs∧∀j x,n≤j→xs[j]?=some x→x=0) (λn=>n) xs.length ⟨a4B _,λj x h e=>by rw[a5K h]at e;cases e⟩ ?_ a_ ?_
 ·unfold axY;exact Lq
 rintro n ⟨A,y⟩;have out:(∀x,0<n→xs[n-1]?=some x→x≠0)→nl (val xs)=n:=λh=>arD B A y h;simp only[go_sem,RI,RL,axY];by_cases u:(n:Int)>0
 ·have w:0<n:=Om;have hi:=cM xs (Om:n-1<Z' xs);simp only[go_sem,u,CW (Om:n≤9223372036854775807) w,hi];by_cases l:xs[n-1]=0
  ·simp only[go_sem,cA (Om:((xs[n-1]:Nat):Int)=0),RM,CW (Om:n≤9223372036854775807) w];refine aH (n-1) ⟨by omega,λj x E he=>?_⟩ Om ?_ a_
   ·rcases a4R j n with h|h
    ·have:j=n-1:=Om;subst this;rw[a4C Om]at he;cases he;exact l
    ·exact y j x h he
   ·exact Lq
  ·simp only[go_sem,bJ (Om:((xs[n-1]:Nat):Int)≠0),zJ];refine aT (.inr rfl) rfl ?_;rw[out λx _ he=>by rw[a4C Om]at he;cases he;exact l];rfl
 ·simp only[go_sem,u,zJ];refine aT (.inr rfl) rfl ?_;rw[out λx h=>by omega];rfl
theorem aCT{C:Ctx}(xs:List Nat)(e:aJ C 138 [aO xs] .nil (aK (.int .i64 (nl (val xs):Nat)))):KZ.wp C (aV Xg.res (aK (.bool (decide (nl (val xs)>512))))) (PF.args [aO xs]) .nil:=by
 simp only[go_sem,KZ,Hw,Hx,Xg];refine aB e rfl ?_;simp only[go_sem];refine aT (.inr rfl) rfl ?_;simp only[cE,PV.bool.injEq,decide_eq_decide];omega
def szL(n:Nat):List Nat:=if nl n>512 then[]else aM n
def szE(n:Nat):Int:=if nl n>512 then 2 else 0
def szV(n:Nat):PV:=.tup [aO (szL n),.int .i64 (szE n)]
theorem aCW{C:Ctx}(xs:List Nat)(w:Lim xs)(e:aJ C 138 [aO xs] .nil (aK (.int .i64 (nl (val xs):Nat)))):LD.wp C (aV Xu.res (cY (szV (val xs)))) (PF.args [aO xs]) .nil:=by
 simp only[go_sem,LD,Ik,Il,Xu];refine aB e rfl ?_;simp only[go_sem,Im];by_cases h:nl (val xs)>512
 ·have u:((nl (val xs):Nat):Int)>512:=Om;simp only[go_sem,u,In];refine bD (vs:=[.aE,.int .i64 2]) (.inr rfl) .nil rfl a_ ⟨?_,rfl⟩;rw[szV,szL,szE,aL h,aL h];refine .tup rfl λj p q l hq=>?_
  match j with
  |0=>simp at l hq;subst l;subst hq;exact .nil 1
  |1=>simp at l hq;subst l;subst hq;exact .refl _
  |j+2=>simp at l
 ·have u:¬((nl (val xs):Nat):Int)>512:=Om;have y:=jV w;have x:((nl (val xs):Nat):Int)≤(Z' xs:Nat):=Om;simp only[go_sem,u,Io,x,or_true,a5J];refine bD (.inr rfl) .nil rfl a_ ⟨?_,rfl⟩;rw[szV,szL,szE,aG h,aG h,←pA w,Hp];exact .refl _
theorem aJX{C:Ctx}(v:Nat)(K:v<18446744073709551616)(j:∀xs,Lim xs→Z' xs≤35184372087808→aJ C 138 [aO xs] .nil (aK (.int .i64 (nl (val xs):Nat)))) :
  RN.wp C (aV ayB.res (aK (aO (aM v)))) (PF.args [.int .u64 v]) .nil:=by
 have B:IntKind.u32.wrap ((v:Nat):Int)=((v%4294967296:Nat):Int):=dU v;have E:Int.fdiv ((v:Nat):Int) 4294967296=((v/4294967296:Nat):Int):=by rw[Int.fdiv_eq_ediv_of_nonneg _ aX];rfl
 have w:v/4294967296<4294967296:=Om;have F:IntKind.u32.wrap ((v/4294967296:Nat):Int)=((v/4294967296:Nat):Int):=by rw[dU,a5N w]
 have l:Lim [v%4294967296,v/4294967296]:=by
  intro x A;simp only[a4J,List.mem_nil_iff,or_false]at A;rcases A with rfl|rfl
  ·exact a5T _ aX
  ·exact w
 have e:val [v%4294967296,v/4294967296]=v:=by simp only[val,Nat.mul_zero,a5H];exact Nat.mod_add_div v 4294967296
 have J:∀a b:Int,PV.bin .shr (.int .u64 a) (.int .u64 b)=shift .shr .u64 a b:=λ_ _=>rfl;have u:shift .shr .u64 (v:Int) 32=some (.int .u64 ((v/4294967296:Nat):Int)):=by
  unfold shift;rw[aG aX];simp only;have:min (Int.toNat 32) IntKind.u64.bits=32:=by decide
  rw[this];rw[show(2:Int)^32=4294967296 by decide,E]
 simp only[go_sem,RN,Xh,Xi,ayB,B,u,F];have hb:(2:Nat)*1≤16777216:=by decide
 simp only[go_sem,Xj];refine aB (j [v%4294967296,v/4294967296] l aW) rfl ?_;have y:=jV l;rw[e]at y ⊢;have I:((nl v:Nat):Int)≤((2:Nat):Int):=by simp at y;omega
 simp only[go_sem,I,or_true,a5J];refine aT (.inr rfl) rfl ?_;have:=pA l;rw[e]at this;rw[←this,Hp];rfl
theorem aKB{C:Ctx}(xs:List Nat)(j:Lim xs)(w:Z' xs≤35184372087808)(e:aJ C 138 [aO xs] .nil (aK (.int .i64 (nl (val xs):Nat)))) :
  RP.wp C (aV ayD.res (cY (aO (aM (val xs))))) (PF.args [aO xs]) .nil:=by
 simp only[go_sem,RP,X1,X2,ayD];refine aB e rfl ?_;have x:=jV j;have l:((nl (val xs):Nat):Int)≤(Z' xs:Nat):=Om;simp only[go_sem,l,or_true,a5J];refine lO (rows:=[]) (src:=aP (aM (val xs))) .nil ?_ ?_ λv H' u _=>?_
 ·simp only[go_sem];rw[←pA j,←List.map_take]
 ·unfold roomFor;rw[dE];have:(aM (val xs)).length=nl (val xs):=rfl;simp only[a6F,maxLen];omega
 ·exact SI (.inr rfl) (by simpa using u) rfl
end Go.PM
theorem Sq{p:Prop}(h:p:=by simp only[go_sem]):p:=h
theorem Ev{p:Prop}(h:p:=by simp only[go_sem]<;>rfl):p:=h
namespace Go.PM
open Go Go.Na
def axQ(xs e:List Nat)(i:Int):PF:=(((PF.nil.set 0 (aO xs)).set 1 (aO e)).set 7 (.int .i64 i))
theorem aQC{C:Ctx}(xs e:List Nat)(M:Lim xs)(N:Lim e)(lx:Z' xs≤35184372087808)(ly:Z' e≤35184372087808)(A:aJ C 138 [aO xs] .nil (aK (.int .i64 (nl (val xs):Nat))))(B:aJ C 138 [aO e] .nil (aK (.int .i64 (nl (val e):Nat)))) :
  XR.wp C (aV aJQ.res (aK (.int .i64 (fB (val xs) (val e))))) (PF.args [aO xs,aO e]) .nil:=by
 simp only[go_sem,XR,anK,anL,aJQ];refine aB A Ev ?_;simp only[go_sem];refine aB B Ev ?_;simp only[go_sem,anM];have Z:=jV M;have V:=jV N;by_cases c1:nl (val xs)<nl (val e)
 ·have j:((nl (val xs):Nat):Int)<(nl (val e):Nat):=Om;simp only[go_sem,j,anN];refine aT (.inr rfl) Ev ?_;have:val xs<val e:=by
   rcases a4R (val xs) (val e)with h|h
   ·exact h
   ·have:=kF h;omega
  simp[cE,fB,this]
 have j:¬((nl (val xs):Nat):Int)<(nl (val e):Nat):=Om;simp only[go_sem,j,anO];by_cases c2:nl (val xs)>nl (val e)
 ·have l:((nl (val xs):Nat):Int)>(nl (val e):Nat):=Om;simp only[go_sem,l,anP];refine aT (.inr rfl) Ev ?_;have:val e<val xs:=by
   rcases a4R (val e) (val xs)with h|h
   ·exact h
   ·have:=kF h;omega
  have x:¬val xs<val e:=Om;simp[cE,fB,this,x]
 have l:¬((nl (val xs):Nat):Int)>(nl (val e):Nat):=Om;have Y:nl (val xs)=nl (val e):=Om;simp only[go_sem,l,anQ];have ex:=aY (val xs);have w:=aY (val e);have S:=bB (val xs);have U:=bB (val e);refine wp_loop (α:=Nat) (λk=>axQ xs e ((k:Int)-1)) (λ_=>.nil) (λk=>k≤nl (val xs)∧(aM (val xs)).drop k=(aM (val e)).drop k) (λk=>k) (nl (val xs)) ⟨a4B _,?_⟩ ?_ a_ ?_
 ·rw[a7U (by rw[nl];exact a4B _),a7U (by rw[Y,nl];exact a4B _)]
 ·unfold axQ
  (repeat' (first|exact c_|refine d_ ?_ ?_))<;>first|(simp only[go_sem,wrap_i64 (show -9223372036854775808≤((nl (val xs):Nat):Int)-1 by omega) (show((nl (val xs):Nat):Int)-1≤9223372036854775807 by omega)]<;>rfl)|rfl
 rintro k ⟨hk,u⟩;simp only[go_sem,W5,anR,axQ];by_cases h0:0<k
 ·obtain⟨m,rfl⟩:∃m,k=m+1:=⟨k-1,by omega⟩;have E:((m+1:Nat):Int)-1=(m:Int):=Om;have y:(m:Int)≥0:=Om;obtain⟨O,F,I⟩:=Oz M (Om:m<nl (val xs));obtain⟨R,J,K⟩:=Oz N (Om:m<nl (val e));simp only[go_sem,E,y];refine aZ .nil cI a_ ?_;simp only[go_sem,anS,cM xs O,cM e R];by_cases W:xs[m]<e[m]
  ·simp only[go_sem,show((xs[m]:Nat):Int)<(e[m]:Nat) by omega,anT];refine aT (.inr rfl) Ev ?_;have:=sx S F J u (by rw[←I,←K];exact W);rw[ex,w]at this;simp[cE,fB,this]
  ·simp only[go_sem,show ¬((xs[m]:Nat):Int)<(e[m]:Nat) by omega];refine aZ .nil cI a_ ?_;simp only[go_sem,W6,cM xs O,cM e R];by_cases X:xs[m]>e[m]
   ·simp only[go_sem,show((xs[m]:Nat):Int)>(e[m]:Nat) by omega,W7];refine aT (.inr rfl) Ev ?_;have:=sx U J F u.symm (by rw[←I,←K];exact X);rw[ex,w]at this;have x:¬val xs<val e:=Om;simp[cE,fB,this,x]
   ·simp only[go_sem,show ¬((xs[m]:Nat):Int)>(e[m]:Nat) by omega,W8];refine aH m ⟨by omega,En F J u (by rw[←I,←K];omega)⟩ Om ?_ a_
    (repeat' (first|exact c_|refine d_ ?_ ?_))<;>first|(simp only[go_sem,wrap_i64 (Om:-9223372036854775808≤(m:Int)-1) (Om:(m:Int)-1≤9223372036854775807)]<;>rfl)|rfl
 ·have:k=0:=Om;subst this;have E:¬((0:Nat):Int)-1≥0:=by decide
  simp only[go_sem,E,W9];refine aT (.inr rfl) Ev ?_;rw[a5J,a5J]at u;have:val xs=val e:=by rw[←ex,←w,u]
  simp[cE,fB,this]
def Wu(k:Nat)(v:Nat):PF:=((PF.nil.set 4 (.int .i64 k)).set 5 (.int .u32 v))
theorem aJP{C:Ctx}(xs:List Nat)(A:Lim xs)(X:Z' xs≤35184372087808)(B:aJ C 138 [aO xs] .nil (aK (.int .i64 (nl (val xs):Nat)))) :
  RD.wp C (aV axP.res (aK (.int .i64 (dV (val xs):Nat)))) (PF.args [aO xs]) .nil:=by
 simp only[go_sem,RD,Ww,Wx,axP];refine aB B Ev ?_;simp only[go_sem,Wy];have W:=jV A;by_cases O:nl (val xs)=0
 ·simp only[go_sem,cA (show((nl (val xs):Nat):Int)=0 by omega),Wz];refine aT (.inr rfl) Ev ?_;have:val xs=0:=mA.1 O;simp[cE,this,nH]
 obtain⟨n,N⟩:∃n,nl (val xs)=n+1:=⟨nl (val xs)-1,by omega⟩;obtain⟨t,x,E⟩:=aaX A N;have y:t<4294967296:=A t (a5S x);have j:n<Z' xs:=Om;have V:val xs=val (xs.take n)+4294967296^n*t:=by
  have e:=pA A;have:=aY (val xs);have U:xs[n]=t:=by rw[a4C j]at x;exact a6H.inj x
  rw[←e,N,a5W j,U,kP,a4M,a6G Om]at this;simp only[val,Nat.mul_zero,a5H]at this;exact this.symm
 have hb:dV (val xs)=32*n+dV t:=by
  have J:=jH (A.take n);rw[a4M,a6G Om]at J;rw[V,show(4294967296:Nat)^n=2^(32*n) by rw[Nat.pow_mul]]at *
  exact O0 J E
 have l:(aP xs)[n]?=some [.int .u32 (t:Nat)]:=by rw[cM xs j];rw[a4C j]at x;rw[a6H.inj x]
 have R:IntKind.i64.wrap (((nl (val xs):Nat):Int)-1)=(n:Int):=by rw[wrap_i64 Om Om];omega
 have S:IntKind.i64.wrap ((n:Int)*32)=((32*n:Nat):Int):=by rw[wrap_i64 Om Om];omega
 simp only[go_sem,bJ (show((nl (val xs):Nat):Int)≠0 by omega),W0,W1,R,S,l];refine wp_loop (α:=Nat × Nat) (λa=>Wu a.1 a.2) (λ_=>.nil) (λa=>a.1+dV a.2=32*n+dV t∧a.2<4294967296) (λa=>a.2) (32*n,t) ⟨rfl,y⟩ ?_ a_ ?_
 ·unfold Wu;exact Lq
 rintro⟨k,v⟩ ⟨K,hlt⟩;simp only at K hlt;have M:dV t≤32:=(qV t 32).2 y;simp only[go_sem,Wv,W2,Wu];by_cases I:(v:Int)>0
 ·have F:v≠0:=Om;have u:PV.bin .shr (.int .u32 (v:Int)) (.int .u64 1)=some (.int .u32 ((v/2:Nat):Int)):=by
   show shift .shr .u32 (v:Int) 1=_;unfold shift;rw[aG aX];simp only;have:min (Int.toNat 1) IntKind.u32.bits=1:=by decide
   rw[this,show(2:Int)^1=2 by decide,Int.fdiv_eq_ediv_of_nonneg _ aX];rfl
  have w:shift .shr .u32 (v:Int) 1=some (.int .u32 ((v/2:Nat):Int)):=u;simp only[go_sem,I,W3,W4,u,w,wZz k];refine aH (k+1,v/2) ⟨?_,?_⟩ (Nat.div_lt_self Om aX) ?_ a_
  ·have:=uH F;simp only;omega
  ·simp only;omega
  ·exact Lq
 ·have:v=0:=Om;subst this;simp only[go_sem,I,Hq];refine aT (.inr rfl) Ev ?_;rw[nH]at K;simp only[cE,PV.int.injEq,true_and];omega
structure wV(C:Ctx):Prop where
 length:∀xs,Lim xs→Z' xs≤35184372087808→aJ C 138 [aO xs] .nil (aK (.int .i64 (nl (val xs):Nat)))
 large:∀xs,Lim xs→Z' xs≤35184372087808→aJ C 137 [aO xs] .nil (aK (.bool (decide (nl (val xs)>512))))
 sized:∀xs,Lim xs→Z' xs≤35184372087808→aJ C 141 [aO xs] .nil (aK (szV (val xs)))
 trim:∀xs,Lim xs→Z' xs≤35184372087808→aJ C 135 [aO xs] .nil (aK (aO (aM (val xs))))
 make:∀v:Nat,v<18446744073709551616→aJ C 132 [.int .u64 v] .nil (aK (aO (aM v)))
 cmp:∀xs ys,Lim xs→Lim ys→Z' xs≤35184372087808→Z' ys≤35184372087808→aJ C 129 [aO xs,aO ys] .nil (aK (.int .i64 (fB (val xs) (val ys))))
def mU:PV→List Nat
 | .sl _ rows=>rows.map λr=>match r with|[.int _ n]=>n.toNat|_=>0
 |_=>[]
theorem gI(xs:List Nat):mU (aO xs)=xs:=by
 simp[mU,a7A,Function.comp_def]
def axO:Spec:=λname vs=>match name,vs with
 |138,[x]=>some ([],λ_=>aK (.int .i64 (nl (val (mU x)):Nat)))
 |_,_=>none
theorem tP(xs:List Nat):axO 138 [aO xs]=some ([],λ_=>aK (.int .i64 (nl (val xs):Nat))):=by
 show some _=_;rw[gI]
theorem GB(P:List Nat)(k v:Nat):(P++a3W (k+1) 0).set P.length v=(P++[v])++a3W k 0:=by
 rw[a7O _ _ (a4B _),Nat.sub_self,List.replicate_succ,List.set_cons_zero,a5C];rfl
theorem jW(L:List Nat)(i v:Nat):(aP L).set i [.int .u32 (v:Int)]=aP (L.set i v):=by
 unfold aP;rw[List.map_set]
theorem nB(P:List Nat)(v:Nat):val (P++[v])=val P+4294967296^P.length*v:=by
 rw[kP];simp[val]
theorem dL(xs:List Nat){i:Nat}(h:i<Z' xs):val (xs.take (i+1))=val (xs.take i)+4294967296^i*xs[i]:=by
 rw[a5W h,nB,a4M,a6G Om]
theorem EN{v:Nat}:shift .shr .u64 (v:Int) 32=some (.int .u64 ((v/4294967296:Nat):Int)):=by
 unfold shift;rw[aG aX];simp only;have:min (Int.toNat 32) IntKind.u64.bits=32:=by decide
 rw[this,show(2:Int)^32=4294967296 by decide,Int.fdiv_eq_ediv_of_nonneg _ aX];rfl
theorem jI{a b:Nat}(h:a+b<18446744073709551616):IntKind.u64.wrap ((a:Int)+(b:Int))=((a+b:Nat):Int):=by
 rw[wrap_u64 Om Om];omega
theorem bO{a:Nat}(h:a<18446744073709551616):IntKind.u64.wrap (a:Int)=(a:Int):=wrap_u64 Om Om
def wj(a b:List Nat)(o i c:Nat):PF:=(((((((PF.nil.set 0 (aO a)).set 1 (aO b)).set 6 (.osl o 1 0 (Z' a+1))).set 7 (.int .u64 c)).set 35 (.int .i64 (Z' a:Nat))).set 34 (aO a)).set 36 (.int .i64 i))
theorem Ho{C:Ctx}(L:wV C)(a b:List Nat)(ha:Lim a)(hb:Lim b)(hl:Z' b≤Z' a)(h1:Z' a≤1000)(F:PF)(f0:F 0=some (aO a))(f1:F 1=some (aO b)) :
  aC.wp C (.seq (.region Ct) (.seq (.region Cu) (.seq (.seq (.region Cv) (.block 0 (.loop m8))) (.seq (.region nc) (.seq (.region ni) .ret))))) (aV [.tmp 4,.tmp 5] (cY (szV (val a+val b)))) F .nil:=by
 have S:IntKind.i64.wrap ((Z' a:Int)+1)=((Z' a+1:Nat):Int):=eI Om;have η:((Z' a+1:Nat):Int)*((4:Nat):Int)≤140737488355328:=Om;have θ:((Z' a+1:Nat):Int)≤9223372036854775807:=Om;have hz:a3W (Z' a+1) [PV.int .u32 0]=aP ([]++a3W (Z' a+1) 0):=by simp[aP]
 simp only[go_sem,Ct,f0,S,η,θ,hz];refine aQ λo ho=>?_;simp only[go_sem,Cu,Cv,f0];refine wp_loop (α:=List Nat × Nat × Nat) (λs=>wj a b s.2.2 s.1.length s.2.1) (λs=>PH.nil.set s.2.2 (.rows 1 (aP (s.1++a3W (Z' a+1-s.1.length) 0))))
  (λs=>s.1.length≤Z' a∧Lim s.1∧s.2.1≤1∧val s.1+4294967296^s.1.length*s.2.1=val (a.take s.1.length)+val (b.take s.1.length)) (λs=>Z' a-s.1.length) ([],0,o) ⟨by simp,by simp[Lim],by simp,by simp[val]⟩ ?_ ?_ ?_
 ·unfold wj;exact Lq
 ·exact e_ a_ (by simp only[go_sem,a6F])
 rintro⟨P,c,q⟩ ⟨hP,j,hc,A⟩;simp only at hP j hc A;simp only[go_sem,m8,anI,wj];by_cases Y:Z' P<Z' a
 ·have E:(Z' P:Int)<(Z' a:Nat):=Om;have ι:=ha _ (a3Y Y);obtain⟨k,W⟩:∃k,Z' a+1-Z' P=k+1:=⟨Z' a-Z' P,by omega⟩;have M:(aP (P++a3W (k+1) 0))[Z' P]?=some [.int .u32 ((0:Nat):Int)]:=by rw[cM _ aW];simp
  have l:Z' a+1-(Z' P+1)=k:=Om;have I:(Z' P:Int)<((Z' a+1:Nat):Int):=Om;have fin:∀(t:Nat)(w:PF)(H':PH),t<2*4294967296→val P+4294967296^P.length*t=val (a.take (Z' P+1))+val (b.take (Z' P+1)) →
    w 0=some (aO a)→w 1=some (aO b)→w 6=some (.osl q 1 0 (Z' a+1))→w 7=some (.int .u64 (t:Nat))→w 8=some (.int .i64 P.length)→w 34=some (aO a)→w 35=some (.int .i64 (Z' a:Nat))→w 36=some (.int .i64 P.length) →
    H' q=some (.rows 1 (aP (P++a3W (k+1) 0)))→∀K:cP,(∀y B V H2,Z' y=Z' P+1→Lim y→B≤1→val y+4294967296^y.length*B=val (a.take (Z' P+1))+val (b.take (Z' P+1))→(wj a b q y.length B).le V→H2 q=some (.rows 1 (aP (y++a3W k 0)))→K .normal V H2) →
    aC.wp C (.seq (.region m9) (.region na)) (gP 1 (kT C (aC.wp C (.region nb)) K)) w H':=by
   intro t w H' ht hv g0 g1 g6 g7 g8 γ δ ε gH K hK;have u:(aP (P++a3W (k+1) 0)).set P.length [.int .u32 ((t%4294967296:Nat):Int)]=aP ((P++[t%4294967296])++a3W k 0):=by rw[jW,GB]
   simp only[go_sem,m9,g6,g8,g7,dU,I,gH,M,u,na,EN,nb,ε,eI (Om:Z' P<9223372036854775807)];refine hK (P++[t%4294967296]) (t/4294967296) _ _ aW (j.app λx X=>by simp at X;subst X;exact a5T _ aX) Om ?_ ?_ Sq
   ·rw[nB,a3Z,a4E,a5X,a4V,a6O,←a4L,Nat.mod_add_div];exact hv
   ·unfold wj;rw[a3Z,a4E];refine d_ (d_ (d_ (d_ (d_ (d_ (d_ c_ ?_) ?_) ?_) ?_) ?_) ?_) ?_<;>simp only[go_sem,g0,g1,g6,γ,δ]
  have U:=dL a Y;have ea:IntKind.u64.wrap ((a[Z' P]:Nat):Int)=((a[Z' P]:Nat):Int):=bO Om;have es:IntKind.u64.wrap ((c:Nat)+((a[Z' P]:Nat):Int))=((c+a[Z' P]:Nat):Int):=jI Om;simp only[go_sem,E,Wo,Wp,cM a Y,ea,es,Wq];by_cases Z:Z' P<Z' b
  ·have J:(Z' P:Int)<(Z' b:Nat):=Om;have κ:=hb _ (a3Y Z);have N:=dL b Z;have eb:IntKind.u64.wrap ((b[Z' P]:Nat):Int)=((b[Z' P]:Nat):Int):=bO Om;have β:IntKind.u64.wrap (((c+a[Z' P]:Nat):Int)+((b[Z' P]:Nat):Int))=((c+a[Z' P]+b[Z' P]:Nat):Int):=jI Om;simp only[go_sem,J,Ws,cM b Z,eb,β];refine fin (c+a[Z' P]+b[Z' P]) _ _ Om ?_ ?_ ?_ ?_ ?_ ?_ ?_ ?_ ?_ ?_ _ ?_
   ·rw[U,N,a4L,a4L];omega
   any_goals simp only[go_sem,W]
   intro y B V H2 O e2 e3 R e5 e6;rw[←O]at R;refine aH (y,B,q) ⟨by simp only;omega,e2,e3,R⟩ (by simp only;omega) e5 (e_ a_ ?_);simp only;rw[O,l];exact e6
  ·have J:¬(Z' P:Int)<(Z' b:Nat):=Om;have N:val (b.take (Z' P+1))=val (b.take P.length):=by rw[a4N Om,a4N Om]
   simp only[go_sem,J];refine fin (c+a[Z' P]) _ _ Om ?_ ?_ ?_ ?_ ?_ ?_ ?_ ?_ ?_ ?_ _ ?_
   ·rw[U,N,a4L];omega
   any_goals simp only[go_sem,W]
   intro y B V H2 O e2 e3 R e5 e6;rw[←O]at R;refine aH (y,B,q) ⟨by simp only;omega,e2,e3,R⟩ (by simp only;omega) e5 (e_ a_ ?_);simp only;rw[O,l];exact e6
 ·have e:Z' P=Z' a:=Om;have E:¬(Z' P:Int)<(Z' a:Nat):=Om;have W:a3W (Z' a+1-Z' P) 0=[0]:=by rw[show a.length+1-Z' P=1 by omega];rfl
  have M:(aP (P++[0]))[Z' a]?=some [.int .u32 ((0:Nat):Int)]:=by rw[cM _ (by simp;omega)];simp[e]
  have u:(aP (P++[0])).set a.length [.int .u32 ((c%4294967296:Nat):Int)]=aP (P++[c]):=by have:=GB P 0 (c%4294967296);simp only[List.replicate_zero,a5O,a4I,List.replicate_one]at this;rw[←e,jW,this,a5N Om]
  have I:(Z' a:Int)<((Z' a+1:Nat):Int):=Om;have hV:val (P++[c])=val a+val b:=by rw[nB,A,e,a5F,a4N hl]
  have ζ:Lim (P++[c]):=j.app λx X=>by simp at X;omega
  simp only[go_sem,E,nc,dU,W,M,I,u,ni];have hs:=L.sized _ ζ (by simp;omega);rw[hV]at hs;refine wF (o:=q) (s:=1) (k:=Z' a+1) (rs:=aP (P++[c])) (v:=szV (val a+val b)) ?_ rfl Sq (by rw[dE];simp;omega) ?_
  ·rw[a4N (by rw[dE];simp;omega)];exact hs
  ·simp only[go_sem,szV];exact bD (.inr rfl) .nil rfl a_ ⟨.refl _,rfl⟩
def opV(big:Bool)(n:Nat):PV:=if big then .tup [aO [],.int .i64 2]else szV n
def fP(a b:Nat):Bool:=decide (nl a>512)||decide (nl b>512)
theorem hY{res:List fC}{F:PF}{H:PH}{e:Int}(h:fC.evs F H res=some [.aE,.int .i64 e]):aV res (cY (.tup [aO [],.int .i64 e])) .ret F H:=by
 refine bD (.inr rfl) .nil h a_ ⟨?_,rfl⟩;refine .tup rfl λj p q l hq=>?_
 match j with
 |0=>simp at l hq;subst l;subst hq;exact .nil 1
 |1=>simp at l hq;subst l;subst hq;exact .refl _
 |j+2=>simp at l
theorem bH(n:Nat):(aM n).length=nl n:=rfl
theorem mW{xs:List Nat}(h:Lim xs):(xs.map λ(n:Nat)=>[PV.int .u32 (n:Int)]).take (nl (val xs))=(aM (val xs)).map λ(n:Nat)=>[PV.int .u32 (n:Int)]:=by
 rw[←List.map_take,pA h]
theorem aPZ{C:Ctx}(L:wV C)(a b:List Nat)(w:Lim a)(hb:Lim b)(A:Z' a≤35184372087808)(B:Z' b≤35184372087808) :
  XP.wp C (aV aJN.res (cY (opV (fP (val a) (val b)) (val a+val b)))) (PF.args [aO a,aO b]) .nil:=by
 simp only[go_sem,XP,anD,anE,aJN];refine aB (L.large a w A) rfl ?_;by_cases l:nl (val a)>512
 ·simp only[go_sem,l,Cs];rw[show opV (fP (val a) (val b)) (val a+val b)=.tup [aO [],.int .i64 2] by simp[opV,fP,l]];exact hY rfl
 simp only[go_sem,l];refine aB (L.large b hb B) rfl ?_;by_cases u:nl (val b)>512
 ·simp only[go_sem,u,Cs];rw[show opV (fP (val a) (val b)) (val a+val b)=.tup [aO [],.int .i64 2] by simp[opV,fP,u]];exact hY rfl
 have e:opV (fP (val a) (val b)) (val a+val b)=szV (val a+val b):=by simp[opV,fP,l,u]
 rw[e];simp only[go_sem,u];refine aZ .nil axO a_ ?_;simp only[go_sem,anF];have J:=jV w;have K:=jV hb;have x:((nl (val a):Nat):Int)≤(Z' a:Nat):=Om;have y:((nl (val b):Nat):Int)≤(Z' b:Nat):=Om;refine cS (tP a) (L.length a w A) rfl a_ ?_;simp only[go_sem,x,or_true,a5J,mW w];refine cS (tP b) (L.length b hb B) rfl a_ ?_;simp only[go_sem,y,or_true,a5J,mW hb,anG,bH];have E:=aY (val a);have F:=aY (val b);by_cases I:nl (val a)<nl (val b)
 ·have j:((nl (val a):Nat):Int)<(nl (val b):Nat):=Om;simp only[go_sem,j,anH];have:=Ho L (aM (val b)) (aM (val a)) (bB _) (bB _) (by rw[bH,bH];omega) (by rw[bH];omega);rw[E,F,Nat.add_comm]at this;exact this _ rfl rfl
 ·have j:¬((nl (val a):Nat):Int)<(nl (val b):Nat):=Om;simp only[go_sem,j];have:=Ho L (aM (val a)) (aM (val b)) (bB _) (bB _) (by rw[bH,bH];omega) (by rw[bH];omega);rw[E,F]at this;exact this _ rfl rfl
theorem kG(n:Int):IntKind.u64.wrap n=n%18446744073709551616:=by simp[IntKind.wrap,IntKind.bits,IntKind.signed]
theorem jd(n:Int):IntKind.u32.wrap n=n%4294967296:=by simp[IntKind.wrap,IntKind.bits,IntKind.signed]
theorem ayV{v:Int}:shift .shr .u64 v 63=some (.int .u64 (v/9223372036854775808)):=by
 unfold shift;rw[aG aX];simp only;have:min (Int.toNat 63) IntKind.u64.bits=63:=by decide
 rw[this,show(2:Int)^63=9223372036854775808 by decide,Int.fdiv_eq_ediv_of_nonneg _ aX]
def ZN(a bor b:Nat):Nat:=(a+4294967296-bor-b)%4294967296
def qi(a bor b:Nat):Nat:=if a<bor+b then 1 else 0
theorem aaP{a bor b:Nat}(e:a<4294967296)(hb:b<4294967296)(j:bor≤1)(v:Int)(l:v=((a:Int)-bor-b)%18446744073709551616) :
  IntKind.u32.wrap v=((ZN a bor b:Nat):Int)∧v/9223372036854775808=((qi a bor b:Nat):Int)∧a+4294967296*qi a bor b=ZN a bor b+b+bor∧ZN a bor b<4294967296:=by
 rw[jd];unfold ZN qi;split<;>omega
def xb(a b:List Nat)(o i c:Nat):PF:=(((((((PF.nil.set 0 (aO a)).set 1 (aO b)).set 6 (.osl o 1 0 a.length)).set 7 (.int .u64 c)).set 33 (aO a)).set 34 (.int .i64 (Z' a:Nat))).set 35 (.int .i64 i))
theorem aCX{C:Ctx}(L:wV C)(a b:List Nat)(ha:Lim a)(hb:Lim b)(κ:val b≤val a)(hl:Z' b≤Z' a)(h1:Z' a≤1000)(F:PF)(f0:F 0=some (aO a))(f1:F 1=some (aO b)) :
  aC.wp C (.seq (.region Dc) (.seq (.region Dd) (.seq (.seq (.region De) (.block 1 (.loop nz))) (.seq (.region n9) .ret)))) (aV [.tmp 4,.tmp 5] (cY (szV (val a-val b)))) F .nil:=by
 have η:(Z' a:Int)*((4:Nat):Int)≤140737488355328:=Om;have θ:(Z' a:Int)≤9223372036854775807:=Om;have hz:a3W a.length [PV.int .u32 0]=aP ([]++a3W a.length 0):=by simp[aP]
 simp only[go_sem,Dc,f0,η,θ,hz];refine aQ λo ho=>?_;simp only[go_sem,Dd,De,f0];refine wp_loop (α:=List Nat × Nat × Nat) (λs=>xb a b s.2.2 s.1.length s.2.1) (λs=>PH.nil.set s.2.2 (.rows 1 (aP (s.1++a3W (Z' a-s.1.length) 0))))
  (λs=>s.1.length≤Z' a∧Lim s.1∧s.2.1≤1∧val (a.take s.1.length)+4294967296^s.1.length*s.2.1=val s.1+val (b.take s.1.length)) (λs=>Z' a-s.1.length) ([],0,o) ⟨by simp,by simp[Lim],by simp,by simp[val]⟩ ?_ ?_ ?_
 ·unfold xb;exact Lq
 ·exact e_ a_ (by simp only[go_sem,a6F])
 rintro⟨P,c,q⟩ ⟨hP,j,hc,B⟩;simp only at hP j hc B;simp only[go_sem,nz,aoY,xb];by_cases V:Z' P<Z' a
 ·have A:(Z' P:Int)<(Z' a:Nat):=Om;have δ:=ha _ (a3Y V);obtain⟨k,U⟩:∃k,Z' a-Z' P=k+1:=⟨Z' a-Z' P-1,by omega⟩;have ζ:(aP (P++a3W (k+1) 0))[Z' P]?=some [.int .u32 ((0:Nat):Int)]:=by rw[cM _ aW];simp
  have l:Z' a-(Z' P+1)=k:=Om;have ι:=dL a V;have fin:∀(t:Nat)(v:Int)(w:PF)(H':PH),t<4294967296→v=((a[Z' P]:Int)-c-t)%18446744073709551616→val (b.take (Z' P+1))=val (b.take P.length)+4294967296^P.length*t →
    w 0=some (aO a)→w 1=some (aO b)→w 6=some (.osl q 1 0 a.length)→w 9=some (.int .u64 v)→w 8=some (.int .i64 P.length)→w 33=some (aO a)→w 34=some (.int .i64 (Z' a:Nat))→w 35=some (.int .i64 P.length) →
    H' q=some (.rows 1 (aP (P++a3W (k+1) 0)))→∀K:cP,(∀y E S H2,Z' y=Z' P+1→Lim y→E≤1→val (a.take (Z' P+1))+4294967296^y.length*E=val y+val (b.take (Z' P+1))→(xb a b q y.length E).le S→H2 q=some (.rows 1 (aP (y++a3W k 0)))→K .normal S H2) →
    aC.wp C (.seq (.region n0) (.region n6)) (gP 2 (kT C (aC.wp C (.region n8)) K)) w H':=by
   intro t v w H' ht hv u g0 g1 g6 g9 g8 Z β γ gH K hK;obtain⟨J,N,O,M⟩:=aaP δ ht hc v hv;have R:(aP (P++a3W (k+1) 0)).set P.length [.int .u32 ((ZN a[Z' P] c t:Nat):Int)]=aP ((P++[ZN a[Z' P] c t])++a3W k 0):=by rw[jW,GB]
   simp only[go_sem,n0,g6,g8,g9,J,A,gH,ζ,R,n6,ayV,N,n8,γ,eI (Om:Z' P<9223372036854775807)];refine hK (P++[ZN a[Z' P] c t]) (qi a[Z' P] c t) _ _ aW (j.app λx hx=>by simp at hx;subst hx;exact M) (by unfold qi;split<;>omega) ?_ ?_ Sq
   ·rw[nB,a3Z,a4E,a5X,a4V,ι,u,a6O,←a4L,O,a4L,a4L];omega
   ·unfold xb;rw[a3Z,a4E];refine d_ (d_ (d_ (d_ (d_ (d_ (d_ c_ ?_) ?_) ?_) ?_) ?_) ?_) ?_<;>simp only[go_sem,g0,g1,g6,Z,β]
  have ea:IntKind.u64.wrap ((a[Z' P]:Nat):Int)=((a[Z' P]:Nat):Int):=bO Om;simp only[go_sem,A,Xv,Xw,cM a V,ea,Xx];by_cases W:Z' P<Z' b
  ·have I:(Z' P:Int)<(Z' b:Nat):=Om;have ε:=hb _ (a3Y W);have u:=dL b W;have eb:IntKind.u64.wrap ((b[Z' P]:Nat):Int)=((b[Z' P]:Nat):Int):=bO Om;simp only[go_sem,I,Xy,cM b W,eb];refine fin b[Z' P] (IntKind.u64.wrap (IntKind.u64.wrap ((a[Z' P]:Int)-(c:Int))-(b[Z' P]:Int))) _ _ ε (by rw[kG,kG];omega) u ?_ ?_ ?_ ?_ ?_ ?_ ?_ ?_ ?_ _ ?_
   any_goals simp only[go_sem,U]
   intro y E S H2 J N O M X Y;rw[←J]at M;refine aH (y,E,q) ⟨by simp only;omega,N,O,M⟩ (by simp only;omega) X (e_ a_ ?_);simp only;rw[J,l];exact Y
  ·have I:¬(Z' P:Int)<(Z' b:Nat):=Om;have u:val (b.take (Z' P+1))=val (b.take P.length)+4294967296^P.length*0:=by rw[a4N Om,a4N Om];simp
   simp only[go_sem,I];refine fin 0 (IntKind.u64.wrap ((a[Z' P]:Int)-(c:Int))) _ _ aX (by rw[kG];omega) u ?_ ?_ ?_ ?_ ?_ ?_ ?_ ?_ ?_ _ ?_
   any_goals simp only[go_sem,U]
   intro y E S H2 J N O M X Y;rw[←J]at M;refine aH (y,E,q) ⟨by simp only;omega,N,O,M⟩ (by simp only;omega) X (e_ a_ ?_);simp only;rw[J,l];exact Y
 ·have e:Z' P=Z' a:=Om;have A:¬(Z' P:Int)<(Z' a:Nat):=Om;have U:a3W (Z' a-Z' P) 0=[]:=by rw[show a.length-Z' P=0 by omega];rfl
  have hV:val P=val a-val b:=by
   rw[e,a5F,a4N hl]at B;have hlt:=jH j;rw[e]at hlt;rcases a6C c with h|h
   ·subst h;omega
   ·have:c=1:=Om;subst this;omega
  simp only[go_sem,A,U,a5O,n9];have hs:=L.sized _ j Om;rw[hV]at hs;refine wF (o:=q) (s:=1) (k:=Z' a) (rs:=aP P) (v:=szV (val a-val b)) ?_ rfl Sq (by rw[dE];omega) ?_
  ·rw[a4N (by rw[dE];omega)];exact hs
  ·simp only[go_sem,szV];exact bD (.inr rfl) .nil rfl a_ ⟨.refl _,rfl⟩
def xT(a b:Nat):PV:=if fP a b then .tup [aO [],.int .i64 2]else if a<b then .tup [aO [],.int .i64 4]else szV (a-b)
theorem aQK{C:Ctx}(L:wV C)(a b:List Nat)(l:Lim a)(hb:Lim b)(A:Z' a≤35184372087808)(B:Z' b≤35184372087808) :
  YB.wp C (aV aKA.res (cY (xT (val a) (val b)))) (PF.args [aO a,aO b]) .nil:=by
 simp only[go_sem,YB,aoT,aoU,aKA];refine aB (L.large a l A) rfl ?_;by_cases e:nl (val a)>512
 ·simp only[go_sem,e,Db];rw[show xT (val a) (val b)=.tup [aO [],.int .i64 2] by simp[xT,fP,e]];exact hY rfl
 simp only[go_sem,e];refine aB (L.large b hb B) rfl ?_;by_cases j:nl (val b)>512
 ·simp only[go_sem,j,Db];rw[show xT (val a) (val b)=.tup [aO [],.int .i64 2] by simp[xT,fP,j]];exact hY rfl
 simp only[go_sem,j,aoV];refine aB (L.cmp a b l hb A B) rfl ?_;by_cases u:val a<val b
 ·have y:fB (val a) (val b)<0:=by simp[fB,u]
  simp only[go_sem,y,aoW];rw[show xT (val a) (val b)=.tup [aO [],.int .i64 4] by simp[xT,fP,e,j,u]];exact hY rfl
 have y:¬fB (val a) (val b)<0:=by unfold fB;rw[aG u];split<;>decide
 rw[show xT (val a) (val b)=szV (val a-val b) by simp[xT,fP,e,j,u]];simp only[go_sem,y];refine aZ .nil axO a_ ?_;simp only[go_sem,aoX];have I:=jV l;have J:=jV hb;have w:((nl (val a):Nat):Int)≤(Z' a:Nat):=Om;have x:((nl (val b):Nat):Int)≤(Z' b:Nat):=Om;refine cS (tP a) (L.length a l A) rfl a_ ?_;simp only[go_sem,w,or_true,a5J,mW l];refine cS (tP b) (L.length b hb B) rfl a_ ?_;simp only[go_sem,x,or_true,a5J,mW hb];have E:=aY (val a);have F:=aY (val b);have K:=kF (Om:val b≤val a);have:=aCX L (aM (val a)) (aM (val b)) (bB _) (bB _) Om (by rw[bH,bH];omega) (by rw[bH];omega);rw[E,F]at this;exact this _ rfl rfl
end Go.PM
namespace Go.Na
def fN:Nat→Nat→List Nat
 |0,_=>[]
 |k+1,n=>(n%4294967296)::fN k (n/4294967296)
theorem qE:∀k n,(fN k n).length=k
 |0,_=>rfl
 |k+1,n=>by simp[fN,qE k]
theorem OM{xs:List Nat}(h:Lim xs):fN xs.length (val xs)=xs:=by
 induction xs with
 |nil=>rfl
 |cons x xs u =>have w:=h x aW;have e:(x+4294967296*val xs)%4294967296=x:=Om;have j:(x+4294967296*val xs)/4294967296=val xs:=Om;simp only[a5P,fN,val];rw[e,j,u λy l=>h y (by simp[l])]
theorem rQ:∀k n,Lim (fN k n)
 |0,_=>λx hx=>by cases hx
 |k+1,n=>λx hx=>by
  simp only[fN,a4J]at hx;rcases hx with rfl|hx
  ·exact a5T _ aX
  ·exact rQ k _ x hx
theorem HO:∀k n,val (fN k n)=n%4294967296^k
 |0,n=>by simp[fN,val,Nat.mod_one]
 |k+1,n=>by simp only[fN,val,HO k];rw[a5X,a4Y (4294967296^k) 4294967296,Nat.mod_mul]
theorem tW{k n:Nat}(h:n<4294967296^k):val (fN k n)=n:=by rw[HO,a5N h]
end Go.Na
namespace Go.PM
open Go Go.Na
theorem aWB{a b:Nat}(e:a<18446744073709551616)(hb:b<18446744073709551616):(BitVec.ofInt 64 (a:Int) ||| BitVec.ofInt 64 (b:Int)).toNat=a ||| b:=by
 rw[BitVec.ofInt_natCast,BitVec.ofInt_natCast,BitVec.toNat_or,BitVec.toNat_ofNat,BitVec.toNat_ofNat,a5N (by simpa using e),a5N (by simpa using hb)]
theorem X7{c x s:Nat}(e:c<2^s)(h:c+2^s*x<18446744073709551616):c ||| (2^s*x)=c+2^s*x:=by
 rw[Nat.or_comm,←Nat.two_pow_add_eq_or_of_lt e,Nat.add_comm]
theorem orI{a b n:Nat}(e:a<18446744073709551616)(hb:b<18446744073709551616)(h:a ||| b=n)(j:n<18446744073709551616):qB .or .u64 (a:Int) (b:Int)=some (.int .u64 (n:Int)):=by
 show some (PV.int .u64 (IntKind.u64.wrap (((BitVec.ofInt 64 (a:Int) ||| BitVec.ofInt 64 (b:Int)).toNat:Nat):Int)))=_;rw[aWB e hb,h,bO j]
theorem SS{x s:Nat}(e:s≤64)(h:x*2^s<18446744073709551616):shift .shl .u64 (x:Int) (s:Int)=some (.int .u64 ((2^s*x:Nat):Int)):=by
 unfold shift;rw[aG Om];simp only;have:min (Int.toNat (s:Int)) IntKind.u64.bits=s:=by rw[show IntKind.u64.bits=64 from rfl];omega
 rw[this,show(x:Int)*2^s=((x*2^s:Nat):Int) by simp,bO h,a4Y]
def aKC(a:List Nat)(s o i c:Nat):PF:=(((((((PF.nil.set 0 (aO a)).set 1 (.int .u64 s)).set 5 (.osl o 1 0 (Z' a+1))).set 6 (.int .u64 c)).set 13 (aO a)).set 14 (.int .i64 (Z' a:Nat))).set 15 (.int .i64 i))
def upR(a:List Nat)(s:Nat)(r:PV)(H:PH):Prop:=∃o,r=.osl o 1 0 (Z' a+1)∧H=PH.nil.set o (.rows 1 (aP (fN (Z' a+1) (val a*2^s))))
theorem aTT{C:Ctx}(a:List Nat)(s:Nat)(ha:Lim a)(hs:s<32)(h1:Z' a≤1000):oa.wp C (aV nup.res (upR a s)) (PF.args [aO a,.int .u64 s]) .nil:=by
 have J:IntKind.i64.wrap ((Z' a:Int)+1)=((Z' a+1:Nat):Int):=eI Om;have W:((Z' a+1:Nat):Int)*((4:Nat):Int)≤140737488355328:=Om;have X:((Z' a+1:Nat):Int)≤9223372036854775807:=Om;have hz:a3W (Z' a+1) [PV.int .u32 0]=aP ([]++a3W (Z' a+1) 0):=by simp[aP]
 have R:2^s≤2147483648:=Nat.pow_le_pow_right (show 0<2 by decide) (Om:s≤31);have F:0<2^s:=a6X aX;simp only[go_sem,oa,aCY,aCZ,nup,J,W,X,hz];refine aQ λo ho=>?_;simp only[go_sem,aDA,aDB];refine wp_loop (α:=List Nat × Nat × Nat) (λt=>aKC a s t.2.2 t.1.length t.2.1) (λt=>PH.nil.set t.2.2 (.rows 1 (aP (t.1++a3W (Z' a+1-t.1.length) 0))))
  (λt=>t.1.length≤Z' a∧Lim t.1∧t.2.1<2^s∧val t.1+4294967296^t.1.length*t.2.1=val (a.take t.1.length)*2^s) (λt=>Z' a-t.1.length) ([],0,o) ⟨by simp,by simp[Lim],F,by simp[val]⟩ ?_ ?_ ?_
 ·unfold aKC;exact Lq
 ·exact e_ a_ (by simp only[go_sem,a6F])
 rintro⟨P,c,q⟩ ⟨hP,j,hc,u⟩;simp only at hP j hc u;simp only[go_sem,aoZ,aDC,aKC];by_cases M:Z' P<Z' a
 ·have w:(Z' P:Int)<(Z' a:Nat):=Om;have β:=ha _ (a3Y M);obtain⟨k,V⟩:∃k,Z' a+1-Z' P=k+1:=⟨Z' a-Z' P,by omega⟩;have B:(aP (P++a3W (k+1) 0))[Z' P]?=some [.int .u32 ((0:Nat):Int)]:=by rw[cM _ aW];simp
  have E:Z' a+1-(Z' P+1)=k:=Om;have A:(Z' P:Int)<((Z' a+1:Nat):Int):=Om;have Y:=dL a M;generalize Z:a[Z' P]=x at *
  have γ:x*2^s≤4294967295*2147483648:=a7G Om R;have ex:IntKind.u64.wrap ((x:Nat):Int)=((x:Nat):Int):=bO Om;have K:2^s*x=x*2^s:=a4Y _ _;have O:shift .shl .u64 (x:Int) (s:Int)=some (.int .u64 ((2^s*x:Nat):Int)):=SS Om Om;have N:=orI (a:=c) (b:=2^s*x) (n:=c+2^s*x) Om Om (X7 hc Om) Om;have I:(c+2^s*x)/4294967296<2^s:=by rw[a7F aX];have:2^s*(x+1)≤2^s*4294967296:=a6P _ Om;rw[a4L,Nat.mul_one]at this;omega
  have l:(aP (P++a3W (k+1) 0)).set P.length [.int .u32 (((c+2^s*x)%4294967296:Nat):Int)]=aP ((P++[(c+2^s*x)%4294967296])++a3W k 0):=by rw[jW,GB]
  have U:(aP a)[Z' P]?=some [.int .u32 ((x:Nat):Int)]:=by rw[cM a M,Z]
  simp only[go_sem,w,aDD,aDE,U,ex,O,N,aDF,dU,V,A,B,l,aDG,EN,aDH,eI (Om:Z' P<9223372036854775807)];refine aH (P++[(c+2^s*x)%4294967296],(c+2^s*x)/4294967296,q) ⟨by simp;omega,j.app λy hy=>by simp at hy;subst hy;exact a5T _ aX,I,?_⟩ (by simp;omega) ?_ (e_ a_ ?_)
  ·simp only;rw[nB,a3Z,a4E,a5X,a4V,a6O,←a4L,Nat.mod_add_div,Y,a4L,a5G,←a6O,u,K,a4V]
  ·simp only;rw[a3Z,a4E];exact Lq
  ·simp only;rw[a3Z,a4E,E];simp only[go_sem]
 ·have e:Z' P=Z' a:=Om;have w:¬(Z' P:Int)<(Z' a:Nat):=Om;have V:a3W (Z' a+1-Z' P) 0=[0]:=by rw[show a.length+1-Z' P=1 by omega];rfl
  have B:(aP (P++[0]))[Z' a]?=some [.int .u32 ((0:Nat):Int)]:=by rw[cM _ (by simp;omega)];simp[e]
  have l:(aP (P++[0])).set a.length [.int .u32 ((c%4294967296:Nat):Int)]=aP (P++[c]):=by have:=GB P 0 (c%4294967296);simp only[List.replicate_zero,a5O,a4I,List.replicate_one]at this;rw[←e,jW,this,a5N Om]
  have A:(Z' a:Int)<((Z' a+1:Nat):Int):=Om;have hV:val (P++[c])=val a*2^s:=by rw[nB,u,e,a5F]
  have S:Lim (P++[c]):=j.app λx Z=>by simp at Z;omega
  have hD:fN (Z' a+1) (val a*2^s)=P++[c]:=by have:=OM S;rw[hV,a3Z,a4E,e]at this;exact this
  simp only[go_sem,w,apA,dU,V,B,A,l,apB];exact bD (vs:=[.osl q 1 0 (Z' a+1)]) (.inr rfl) (PH.nil.set q (.rows 1 (aP (P++[c])))) Ev (e_ a_ Sq) ⟨q,rfl,by rw[hD]⟩
def Da(a:List Nat)(d o k r:Nat):PF:=(((((PF.nil.set 0 (aO a)).set 1 (.int .u32 d)).set 6 (.osl o 1 0 a.length)).set 7 (.int .u64 r)).set 8 (.int .i64 ((k:Int)-1)))
theorem aCV{C:Ctx}(L:wV C)(a:List Nat)(d:Nat)(ha:Lim a)(l:0<d)(hd:d<4294967296)(h1:Z' a≤1000) :
  LC.wp C (aV Xt.res (aK (.tup [aO (aM (val a/d)),.int .u32 ((val a%d:Nat):Int)]))) (PF.args [aO a,.int .u32 d]) .nil:=by
 have Y:(Z' a:Int)*((4:Nat):Int)≤140737488355328:=Om;have Z:(Z' a:Int)≤9223372036854775807:=Om;have hz:a3W a.length [PV.int .u32 0]=aP (a3W a.length 0++[]):=by simp[aP]
 simp only[go_sem,LC,Ia,Ib,Xt,Y,Z,hz];refine aQ λo ho=>?_;simp only[go_sem,Ic,Ie];refine wp_loop (α:=Nat × List Nat × Nat × Nat) (λt=>Da a d t.2.2.2 t.1 t.2.2.1) (λt=>PH.nil.set t.2.2.2 (.rows 1 (aP (a3W t.1 0++t.2.1))))
  (λt=>t.1+t.2.1.length=Z' a∧Lim t.2.1∧t.2.2.1<d∧val t.2.1*d+t.2.2.1=val (a.drop t.1)) (λt=>t.1) (Z' a,[],0,o) ⟨by simp,by simp[Lim],l,by simp[val]⟩ ?_ ?_ ?_
 ·unfold Da
  (repeat' (first|exact c_|refine d_ ?_ ?_))<;>first|(simp only[go_sem,wrap_i64 (Om:-9223372036854775808≤(Z' a:Int)-1) (Om:(Z' a:Int)-1≤9223372036854775807)]<;>rfl)|rfl
 ·exact e_ a_ Sq
 rintro⟨k,S,r,q⟩ ⟨hk,e,M,j⟩;simp only at hk e M j;simp only[go_sem,Hz,If,Da];by_cases h0:0<k
 ·obtain⟨m,rfl⟩:∃m,k=m+1:=⟨k-1,by omega⟩;have A:((m+1:Nat):Int)-1=(m:Int):=Om;have W:(m:Int)≥0:=Om;have w:m<Z' a:=Om;have hlt:(m:Int)<(Z' a:Nat):=Om;have γ:=ha _ (a3Y w);have u:val (a.drop m)=a[m]+4294967296*val (a.drop (m+1)):=by rw[a6J w];rfl
  generalize hx:a[m]=x at *
  have O:(aP a)[m]?=some [.int .u32 ((x:Nat):Int)]:=by rw[cM a w,hx]
  have ex:IntKind.u64.wrap ((x:Nat):Int)=((x:Nat):Int):=bO Om;have ed:IntKind.u64.wrap ((d:Nat):Int)=((d:Nat):Int):=bO Om;have I:shift .shl .u64 (r:Int) 32=some (.int .u64 ((2^32*r:Nat):Int)):=SS (s:=32) Om Om;have N:(2:Nat)^32=4294967296:=by decide
  have B:=orI (a:=2^32*r) (b:=x) (n:=2^32*r+x) Om Om (Nat.two_pow_add_eq_or_of_lt Om r).symm Om;rw[N]at I B;have hq:(4294967296*r+x)/d<4294967296:=by rw[a7F l];have:4294967296*(r+1)≤4294967296*d:=a6P _ M;omega
  have R:¬((d:Nat):Int)=0:=Om;have E:IntKind.u64.wrap (Int.tdiv ((4294967296*r+x:Nat):Int) ((d:Nat):Int))=(((4294967296*r+x)/d:Nat):Int):=by rw[show Int.tdiv ((4294967296*r+x:Nat):Int) ((d:Nat):Int)=(((4294967296*r+x)/d:Nat):Int)from rfl];exact bO Om
  have F:Int.tmod ((4294967296*r+x:Nat):Int) ((d:Nat):Int)=(((4294967296*r+x)%d:Nat):Int):=rfl;have ec:IntKind.u32.wrap (((4294967296*r+x)/d:Nat):Int)=(((4294967296*r+x)/d:Nat):Int):=by rw[dU,a5N hq]
  have J:a3W (m+1) 0++S=a3W m 0++(0::S):=by rw[List.replicate_succ',a5C];rfl
  have X:(aP (a3W m 0++(0::S)))[m]?=some [.int .u32 ((0:Nat):Int)]:=by rw[cM _ aW];simp
  have K:(aP (a3W m 0++(0::S))).set m [.int .u32 (((4294967296*r+x)/d:Nat):Int)]=aP (a3W m 0++(((4294967296*r+x)/d)::S)):=by rw[jW,a7O _ _ aW];simp
  simp only[go_sem,A,W,Ig,I,O,ex,B,Ih,ed,R,E,ec,hlt,J,X,K,Ii,F,Ij];refine aH (m,((4294967296*r+x)/d)::S,(4294967296*r+x)%d,q) ⟨by simp only[a5P];omega,λy hy=>?_,a5T _ l,?_⟩ (by simp only;omega) ?_ (e_ a_ Sq)
  ·rw[a4J]at hy;rcases hy with rfl|hy
   ·exact hq
   ·exact e y hy
  ·simp only[val];rw[u,←j,a5G,a4L,a4V];have:=a7P (4294967296*r+x) d;rw[a4Y d]at this;omega
  ·(repeat' (first|exact c_|refine d_ ?_ ?_))<;>first|(simp only[go_sem,wrap_i64 (Om:-9223372036854775808≤(m:Int)-1) (Om:(m:Int)-1≤9223372036854775807)]<;>rfl)|rfl
 ·have:k=0:=Om;subst this;have A:¬((0:Nat):Int)-1≥0:=by decide
  rw[a5J]at j;have hS:Z' S=Z' a:=Om;have hq:val S=val a/d:=by rw[←j,a4Y,Nat.mul_add_div l,a7D M,a5H]
  have β:r=val a%d:=by rw[←j,a4Y,Nat.mul_add_mod,a5N M]
  have δ:a3W 0 0++S=S:=by simp
  simp only[go_sem,A,xa,a7C];have hl:=L.length S e Om;have ε:=jV e;have hc:((nl (val S):Nat):Int)≤(Z' S:Nat):=Om;refine wF (o:=q) (s:=1) (k:=Z' a) (rs:=aP S) (v:=.int .i64 (nl (val S):Nat)) ?_ Sq Sq (by rw[dE];omega) ?_
  ·rw[a4N (by rw[dE];omega)];exact hl
  ·have V:PV.frz q 1 (aP S) (.osl q 1 0 a.length)=aO S:=by
    have:0+Z' a≤(aP S).length:=by rw[dE];omega
    simp only[PV.frz,PV.uO,PV.cT,if_true,true_and,aL this,a5J];rw[a4N (by rw[dE];omega)]
   have U:∀n:Int,∀k,PV.frz q 1 (aP S) (.int k n)=.int k n:=λ_ _=>rfl;have er:IntKind.u32.wrap ((r:Nat):Int)=((r:Nat):Int):=by rw[dU,a5N Om]
   simp only[go_sem,V,U,hc,or_true,a5J,mW e,er];refine bD (vs:=[aO (aM (val S)),.int .u32 ((r:Nat):Int)]) (.inr rfl) .nil Ev a_ ⟨?_,rfl⟩;simp only[cE,←hq,←β]
end Go.PM
namespace Go.Na
theorem OA{L:List Nat}{i:Nat}(h:i<Z' L)(v:Nat):val (L.set i v)+4294967296^i*L[i]=val L+4294967296^i*v:=by
 have e:i<(L.set i v).length:=by rw[a5Q];exact h
 rw[yG L h,yG (L.set i v) e,List.getElem_set_self,List.take_set_of_le (a4B _),List.drop_set_of_lt Om,a4L,a4L];omega
theorem Ai{L:List Nat}{i:Nat}(h:∀(j x:Nat),i≤j→L[j]?=some x→x=0)(k v:Nat)(u:k<i):∀(j x:Nat),i≤j→(L.set k v)[j]?=some x→x=0:=λj x l e=>by
 rw[List.getElem?_set_ne Om]at e;exact h j x l e
end Go.Na
namespace Go.PM
open Go Go.Na
def pL(a b:List Nat)(o i:Nat):PF:=((((((PF.nil.set 0 (aO a)).set 1 (aO b)).set 6 (.osl o 1 0 (Z' a+Z' b))).set 32 (aO a)).set 33 (.int .i64 (Z' a:Nat))).set 34 (.int .i64 i))
def ayC(a b:List Nat)(o i x c j:Nat):PF:=((((((((((((PF.nil.set 0 (aO a)).set 1 (aO b)).set 6 (.osl o 1 0 (Z' a+Z' b))).set 32 (aO a)).set 33 (.int .i64 (Z' a:Nat))).set 34 (.int .i64 i)).set 7 (.int .i64 i)).set 8 (.int .u32 x)).set 9 (.int .u64 c)).set 39 (aO b)).set 40 (.int .i64 (Z' b:Nat))).set 41 (.int .i64 j))
structure NB(a b L:List Nat)(i:Nat):Prop where
 len:Z' L=Z' a+Z' b
 lim:Lim L
 v:val L=val (a.take i)*val b
 z:∀j x,i+Z' b≤j→L[j]?=some x→x=0
theorem anB{x y:Nat}(e:x<4294967296)(j:y<4294967296):IntKind.u64.wrap ((x:Int)*(y:Int))=((x*y:Nat):Int):=by
 have:x*y≤4294967295*4294967295:=a7G Om Om;rw[show(x:Int)*(y:Int)=((x*y:Nat):Int) by simp];exact bO Om
theorem kU{a b:Nat}(h:a+b≤9223372036854775807):IntKind.i64.wrap ((a:Int)+(b:Int))=((a+b:Nat):Int):=by
 rw[wrap_i64 Om Om];omega
theorem aJZ{C:Ctx}(a b:List Nat)(ha:Lim a)(hb:Lim b)(h1:Z' a≤1000)(h2:Z' b≤1000)(L:List Nat)(i:Nat)(hi:i<Z' a)(O:NB a b L i)(q:Nat)(K:cP)(F:PF)(H:PH)(N:(pL a b q i).le F)(hH:H q=some (.rows 1 (aP L)))
  (hK:∀L' F' H',NB a b L' (i+1)→(pL a b q i).le F'→H' q=some (.rows 1 (aP L'))→K .normal F' H') :
  aC.wp C (.block 1 (.seq (.region C7) (.seq (.region C8) (.seq (.seq (.region C9) (.block 2 (.loop nr))) (.region nu))))) K F H:=by
 have f0:=N 0 _ (by unfold pL;simp only[go_sem];rfl);have f1:=N 1 _ (by unfold pL;simp only[go_sem];rfl);have f6:=N 6 _ (by unfold pL;simp only[go_sem];rfl);have V:=N 32 _ (by unfold pL;simp only[go_sem];rfl);have θ:=N 33 _ (by unfold pL;simp only[go_sem];rfl);have W:=N 34 _ (by unfold pL;simp only[go_sem];rfl);have hx:=ha _ (a3Y hi);have γ:=dL a hi;generalize ε:a[i]=x at *
 have Z:(aP a)[i]?=some [.int .u32 ((x:Nat):Int)]:=by rw[cM a hi,ε]
 simp only[go_sem,C7,C8,C9,V,W,f1,Z];refine wp_loop (α:=List Nat × Nat × Nat) (λt=>ayC a b q i x t.2.1 t.2.2) (λt=>PH.nil.set q (.rows 1 (aP t.1)))
  (λt=>t.2.2≤Z' b∧t.1.length=Z' a+Z' b∧Lim t.1∧t.2.1<4294967296∧val t.1+4294967296^(i+t.2.2)*t.2.1=val (a.take i)*val b+4294967296^i*(x*val (b.take t.2.2))∧∀j y,i+Z' b≤j→t.1[j]?=some y→y=0) (λt=>Z' b-t.2.2) (L,0,0)
  ⟨by simp,O.len,O.lim,by simp,by simp[val,O.v],O.z⟩ ?_ (e_ a_ hH) ?_
 ·unfold ayC;exact Lq
 rintro⟨M,c,j⟩ ⟨hj,Y,l,hc,A,S⟩;simp only at hj Y l hc A S;simp only[go_sem,nr,Xk,ayC];by_cases U:j<Z' b
 ·have B:(j:Int)<(Z' b:Nat):=Om;have R:=hb _ (a3Y U);have δ:=dL b U;generalize ζ:b[j]=y at *
  have β:(aP b)[j]?=some [.int .u32 ((y:Nat):Int)]:=by rw[cM b U,ζ]
  have e:i+j<Z' M:=Om;have J:=l _ (a3Y e);have w:=OA e;generalize η:M[i+j]=z at *
  have I:(aP M)[i+j]?=some [.int .u32 ((z:Nat):Int)]:=by rw[cM M e,η]
  have ex:IntKind.u64.wrap ((x:Nat):Int)=((x:Nat):Int):=bO Om;have ey:IntKind.u64.wrap ((y:Nat):Int)=((y:Nat):Int):=bO Om;have ez:IntKind.u64.wrap ((z:Nat):Int)=((z:Nat):Int):=bO Om;have em:=anB hx R;have κ:x*y≤4294967295*4294967295:=a7G Om Om;have e1:IntKind.u64.wrap (((x*y:Nat):Int)+(z:Int))=((x*y+z:Nat):Int):=jI Om;have e2:IntKind.u64.wrap ((c:Int)+((x*y+z:Nat):Int))=((c+(x*y+z):Nat):Int):=jI Om;have E:IntKind.i64.wrap ((i:Int)+(j:Int))=((i+j:Nat):Int):=kU Om;have hlt:((i+j:Nat):Int)<((Z' a+Z' b:Nat):Int):=Om;generalize ht:c+(x*y+z)=t at *
  have ι:t<4294967296*4294967296:=Om;have u:(aP M).set (i+j) [.int .u32 ((t%4294967296:Nat):Int)]=aP (M.set (i+j) (t%4294967296)):=jW M (i+j) _;simp only[go_sem,B,Xl,β,Xm,ex,ey,em,E,hlt,I,ez,e1,e2,Xn,dU,u,Xo,EN,Xp,wZz j];refine aH (M.set (i+j) (t%4294967296),t/4294967296,j+1) ⟨by simp only;omega,by simp only[a5Q];exact Y,l.set _ (a5T _ aX),by simp only;omega,?_,Ai S _ _ Om⟩ (by simp only;omega) ?_ (e_ a_ Sq)
  ·simp only;have X:=w (t%4294967296);have h4:4294967296^(i+(j+1))*(t/4294967296)+4294967296^(i+j)*(t%4294967296)=4294967296^(i+j)*t:=by rw[←a6O,a5X,a4V,←a4L,a7P]
   have h5:4294967296^(i+j)*t=4294967296^(i+j)*c+(4294967296^(i+j)*(x*y)+4294967296^(i+j)*z):=by rw[←ht,a4L,a4L]
   have h6:4294967296^i*(x*val (b.take (j+1)))=4294967296^i*(x*val (b.take j))+4294967296^(i+j)*(x*y):=by rw[δ,a4L,a4L,Nat.pow_add];congr 1;rw[Nat.mul_left_comm x,a4V]
   omega
  ·exact Lq
 ·have he:j=Z' b:=Om;have B:¬(j:Int)<(Z' b:Nat):=Om;subst he;have e:i+Z' b<Z' M:=Om;have J:M[i+Z' b]=0:=S _ _ (a4B _) (a4C e);have w:=OA e;have I:(aP M)[i+Z' b]?=some [.int .u32 ((0:Nat):Int)]:=by rw[cM M e,J]
  have E:IntKind.i64.wrap ((i:Int)+(Z' b:Int))=((i+Z' b:Nat):Int):=kU Om;have hlt:((i+Z' b:Nat):Int)<((Z' a+Z' b:Nat):Int):=Om;have u:(aP M).set (i+Z' b) [.int .u32 ((c%4294967296:Nat):Int)]=aP (M.set (i+Z' b) c):=by rw[a5N hc];exact jW M _ _
  simp only[go_sem,B,nu,E,dU,hlt,I,u];refine hK (M.set (i+Z' b) c) _ _ ⟨by rw[a5Q];exact Y,l.set _ hc,?_,λj y hj R=>?_⟩ (by unfold pL;exact Lq) Sq
  ·have X:=w c;rw[J,Nat.mul_zero,a5H]at X;rw[X,A,a5F,γ,a5G,a4V]
  ·rw[List.getElem?_set_ne Om]at R;exact S j y Om R
theorem aCU{C:Ctx}(L:wV C)(a b:List Nat)(W:Lim a)(hb:Lim b)(U:Z' a≤1000)(V:Z' b≤1000)(F:PF)(f0:F 0=some (aO a))(f1:F 1=some (aO b)) :
  aC.wp C (.seq (.region C5) (.seq (.seq (.region C6) (.block 0 (.loop nt))) (.seq (.region nv) .ret))) (aV [.tmp 4,.tmp 5] (cY (szV (val a*val b)))) F .nil:=by
 have w:IntKind.i64.wrap ((Z' a:Int)+(Z' b:Int))=((Z' a+Z' b:Nat):Int):=kU Om;have I:((Z' a+Z' b:Nat):Int)*((4:Nat):Int)≤140737488355328:=Om;have J:((Z' a+Z' b:Nat):Int)≤9223372036854775807:=Om;have X:a3W (Z' a+Z' b) [PV.int .u32 0]=aP (a3W (Z' a+Z' b) 0):=by simp[aP]
 simp only[go_sem,C5,f0,f1,w,I,J,X];refine aQ λo ho=>?_;simp only[go_sem,C6,f0];refine wp_loop (α:=List Nat × Nat) (λt=>pL a b o t.2) (λt=>PH.nil.set o (.rows 1 (aP t.1))) (λt=>t.2≤Z' a∧NB a b t.1 t.2) (λt=>Z' a-t.2) (a3W (Z' a+Z' b) 0,0)
  ⟨by simp,by simp,CJ _,by simp[val,yJ],λj x _ N=>by rw[a7V]at N;split at N<;>simp_all⟩ ?_ (e_ a_ Sq) ?_
 ·unfold pL;exact Lq
 rintro⟨M,i⟩ ⟨hi,l⟩;simp only at hi l;simp only[go_sem,nt,aoS,pL];by_cases O:i<Z' a
 ·have u:(i:Int)<(Z' a:Nat):=Om;have y:=aJZ (C:=C) a b W hb U V M i O l o;simp only[go_sem]at y;simp only[go_sem,u];refine y _ _ _ (by unfold pL;exact Lq) Sq ?_;intro L' Y H' E e B;have A:=e 34 _ (by unfold pL;simp only[go_sem];rfl);have g0:=e 0 _ (by unfold pL;simp only[go_sem];rfl);have g1:=e 1 _ (by unfold pL;simp only[go_sem];rfl);have Z:=e 6 _ (by unfold pL;simp only[go_sem];rfl);have R:=e 32 _ (by unfold pL;simp only[go_sem];rfl);have S:=e 33 _ (by unfold pL;simp only[go_sem];rfl);simp only[go_sem,Xq,A,wZz i];refine aH (L',i+1) ⟨by simp only;omega,E⟩ (by simp only;omega) ?_ (e_ a_ B);exact Lq
 ·have he:i=Z' a:=Om;subst he;have u:¬(Z' a:Int)<(Z' a:Nat):=Om;have hV:val M=val a*val b:=by rw[l.v,a5F]
  simp only[go_sem,nv];have K:=L.sized _ l.lim (by rw[l.len];omega);rw[hV]at K;refine wF (o:=o) (s:=1) (k:=Z' a+Z' b) (rs:=aP M) (v:=szV (val a*val b)) ?_ rfl Sq (by rw[dE,l.len];exact a4B _) ?_
  ·rw[a4N (by rw[dE,l.len];exact a4B _)];exact K
  ·simp only[go_sem,szV];exact bD (.inr rfl) .nil rfl a_ ⟨.refl _,rfl⟩
theorem aQJ{C:Ctx}(L:wV C)(a b:List Nat)(u:Lim a)(hb:Lim b)(y:Z' a≤35184372087808)(A:Z' b≤35184372087808) :
  XY.wp C (aV aJY.res (cY (opV (fP (val a) (val b)) (val a*val b)))) (PF.args [aO a,aO b]) .nil:=by
 simp only[go_sem,XY,aoP,aoQ,aJY];refine aB (L.large a u y) rfl ?_;by_cases j:nl (val a)>512
 ·simp only[go_sem,j,C4];rw[show opV (fP (val a) (val b)) (val a*val b)=.tup [aO [],.int .i64 2] by simp[opV,fP,j]];exact hY rfl
 simp only[go_sem,j];refine aB (L.large b hb A) rfl ?_;by_cases l:nl (val b)>512
 ·simp only[go_sem,l,C4];rw[show opV (fP (val a) (val b)) (val a*val b)=.tup [aO [],.int .i64 2] by simp[opV,fP,l]];exact hY rfl
 have e:opV (fP (val a) (val b)) (val a*val b)=szV (val a*val b):=by simp[opV,fP,j,l]
 rw[e];simp only[go_sem,l];refine aZ .nil axO a_ ?_;simp only[go_sem,aoR];have I:=jV u;have J:=jV hb;have w:((nl (val a):Nat):Int)≤(Z' a:Nat):=Om;have x:((nl (val b):Nat):Int)≤(Z' b:Nat):=Om;refine cS (tP a) (L.length a u y) rfl a_ ?_;simp only[go_sem,w,or_true,a5J,mW u];refine cS (tP b) (L.length b hb A) rfl a_ ?_;simp only[go_sem,x,or_true,a5J,mW hb];have B:=aY (val a);have E:=aY (val b);have:=aCU L (aM (val a)) (aM (val b)) (bB _) (bB _) (by rw[bH];omega) (by rw[bH];omega);rw[B,E]at this;have:=λF f0 f1=>this F f0 f1;simp only[go_sem]at this;exact this _ rfl rfl
open Go Go.Na
theorem yf{A P W Z:List Nat}{i:Nat}(j:Z' P=i)(hi:i<Z' W):(aP (A++(P++W.drop i)++Z))[Z' A+i]?=some [.int .u32 ((W[i]:Nat):Int)]:=by
 have e:Z' A+i<(A++(P++W.drop i)++Z).length:=by simp;omega
 rw[cM _ e];congr 4;rw[List.getElem_append_left (by simp;omega),List.getElem_append_right Om,List.getElem_append_right Om,List.getElem_drop];congr 1;omega
theorem NY{A P W Z:List Nat}{i:Nat}(e:Z' P=i)(hi:i<Z' W)(v:Nat):(aP (A++(P++W.drop i)++Z)).set (Z' A+i) [.int .u32 (v:Int)]=aP (A++((P++[v])++W.drop (i+1))++Z):=by
 rw[jW];congr 1;rw[List.set_append_left _ _ (by simp;omega),a7O _ _ Om,a7O _ _ Om,a6J hi];rw[show A.length+i-Z' A-Z' P=0 by omega,List.set_cons_zero];simp
theorem aGO{t:Nat}(h:t<18446744073709551616):qB .and .u64 (t:Int) 4294967295=some (.int .u64 ((t%4294967296:Nat):Int)):=by
 show some (PV.int .u64 (IntKind.u64.wrap (((BitVec.ofInt 64 (t:Int) &&& BitVec.ofInt 64 (4294967295:Int)).toNat:Nat):Int)))=_;have e:BitVec.ofInt 64 (4294967295:Int)=BitVec.ofNat 64 4294967295:=by rfl
 rw[e,BitVec.ofInt_natCast,BitVec.toNat_and,BitVec.toNat_ofNat,BitVec.toNat_ofNat,a5N (by simpa using h)];have j:(4294967295:Nat)%2^64=2^32-1:=by decide
 rw[j,Nat.and_two_pow_sub_one_eq_mod];rw[bO (Nat.lt_of_lt_of_le (a5T _ aX) aX)]
theorem aGQ{c f x:Nat}(j:c<4294967296)(e:f≤4294967296)(l:x<4294967296):c+f*x<18446744073709551616∧(c+f*x)/4294967296<4294967296∧f*x≤4294967296*4294967295:=by
 have:f*x≤4294967296*4294967295:=a7G e Om;refine⟨by omega,?_,this⟩;omega
def Xz(v:List Nat)(j o i c b:Nat)(f:Nat):PF:=((((((((PF.nil.set 0 (.osl o 1 j (Z' v+1))).set 1 (aO v)).set 2 (.int .u64 f)).set 7 (.int .u64 c)).set 8 (.int .u64 b)).set 13 (aO v)).set 14 (.int .i64 (Z' v:Nat))).set 15 (.int .i64 i))
def SW(n w m:Nat):Nat:=if w<m then w+4294967296^n-m else w-m
theorem X0{C:Ctx}(A W Z v:List Nat)(f:Nat)(hW:Lim W)(hv:Lim v)(hl:Z' W=Z' v+1)(h1:Z' A+Z' v≤100000)(hf:f≤4294967296)(ν:val v*f≤val W+4294967296^(Z' v+1))(o:Nat) :
  AW.wp C (aV YC.res (λr H'=>r=.bool (decide (val W<val v*f))∧H'=PH.nil.set o (.rows 1 (aP (A++fN (Z' v+1) (SW (Z' v+1) (val W) (val v*f))++Z)))))
   (PF.args [.osl o 1 A.length (Z' v+1),aO v,.int .u64 f]) (PH.nil.set o (.rows 1 (aP (A++W++Z)))):=by
 simp only[go_sem,AW,YD,YE,YF,YC];refine wp_loop (α:=List Nat × Nat × Nat) (λt=>Xz v A.length o t.1.length t.2.1 t.2.2 f) (λt=>PH.nil.set o (.rows 1 (aP (A++(t.1++W.drop t.1.length)++Z))))
  (λt=>t.1.length≤Z' v∧Lim t.1∧t.2.1<4294967296∧t.2.2≤1∧val (W.take t.1.length)+4294967296^t.1.length*t.2.2+4294967296^t.1.length*t.2.1=val t.1+val (v.take t.1.length)*f) (λt=>Z' v-t.1.length) ([],0,0)
  ⟨by simp,by simp[Lim],by simp,by simp,by simp[val]⟩ ?_ (e_ a_ (by simp only[go_sem,a6F,a5J,a7C])) ?_
 ·unfold Xz;exact Lq
 rintro⟨P,c,b⟩ ⟨hP,j,hc,hb,w⟩;simp only at hP j hc hb w;simp only[go_sem,VI,YG,Xz];by_cases c1:Z' P<Z' v
 ·have I:(Z' P:Int)<(Z' v:Nat):=Om;have E:Z' P<Z' W:=Om;have J:(Z' P:Int)<((Z' v+1:Nat):Int):=Om;have hx:=hv _ (a3Y c1);have hw:=hW _ (a3Y E);have η:=dL v c1;have F:=dL W E;have M:=yf (A:=A) (Z:=Z) (P:=P) rfl E;have u:=NY (A:=A) (Z:=Z) (P:=P) rfl E;generalize μ:v[Z' P]=x at *
  generalize κ:W[Z' P]=y at *
  have ι:(aP v)[Z' P]?=some [.int .u32 ((x:Nat):Int)]:=by rw[cM v c1,μ]
  obtain⟨k1,k2,k3⟩:=aGQ hc hf hx;have ex:IntKind.u64.wrap ((x:Nat):Int)=((x:Nat):Int):=bO Om;have ey:IntKind.u64.wrap ((y:Nat):Int)=((y:Nat):Int):=bO Om;have em:IntKind.u64.wrap ((f:Int)*(x:Int))=((f*x:Nat):Int):=by rw[show(f:Int)*(x:Int)=((f*x:Nat):Int) by simp];exact bO Om
  have l:c+f*x<18446744073709551616:=k1;have ea:IntKind.u64.wrap ((c:Int)+((f*x:Nat):Int))=((c+f*x:Nat):Int):=jI l;have S:=aGO l;have θ:val (v.take (Z' P+1))*f=val (v.take P.length)*f+4294967296^P.length*(f*x):=by rw[η,a5G,a4V,a4Y x f]
  generalize f*x=B at *
  have V:(c+B)%4294967296<4294967296:=a5T _ aX;obtain⟨s1,s2,s3,s4⟩:=aaP (a:=y) (bor:=b) (b:=(c+B)%4294967296) hw V hb (IntKind.u64.wrap (IntKind.u64.wrap ((y:Int)-(((c+B)%4294967296:Nat):Int))-(b:Int))) (by rw[kG,kG];omega);generalize hd:ZN y b ((c+B)%4294967296)=d at *
  generalize δ:qi y b ((c+B)%4294967296)=Y at *
  have γ:Y≤1:=by rw[←δ];unfold qi;split<;>omega
  have hs:=u d;simp only[go_sem,I,YH,ι,YI,ex,em,ea,YJ,J,M,ey,S,YK,s1,hs,YL,ayV,s2,YM,EN,VJ,eI (Om:Z' P<9223372036854775807)];refine aH (P++[d],(c+B)/4294967296,Y) ⟨by simp;omega,j.app λz hz=>by simp at hz;omega,k2,γ,?_⟩ (by simp;omega) ?_ (e_ a_ ?_)
  ·simp only;rw[a3Z,a4E,nB,F,θ,a5X,a4V,a4V];have h4:4294967296^P.length*y+4294967296^P.length*(4294967296*Y)=4294967296^P.length*d+4294967296^P.length*((c+B)%4294967296)+4294967296^P.length*b:=by rw[←a4L,s3,a4L,a4L]
   have h5:4294967296^P.length*(4294967296*((c+B)/4294967296))+4294967296^P.length*((c+B)%4294967296)=4294967296^P.length*c+4294967296^P.length*B:=by rw[←a4L,a7P,a4L]
   omega
  ·simp only;rw[a3Z,a4E];exact Lq
  ·simp only;rw[a3Z,a4E];simp only[go_sem]
 ·have e:Z' P=Z' v:=Om;have I:¬(Z' P:Int)<(Z' v:Nat):=Om;have E:Z' v<Z' W:=Om;have J:(Z' v:Int)<((Z' v+1:Nat):Int):=Om;have hw:=hW _ (a3Y E);have F:=dL W E;have M:=yf (A:=A) (Z:=Z) (P:=P) e E;have u:=NY (A:=A) (Z:=Z) (P:=P) e E;have K:val (W.take (Z' v+1))=val W:=by rw[a4N Om]
  generalize κ:W[Z' v]=y at *
  have ey:IntKind.u64.wrap ((y:Nat):Int)=((y:Nat):Int):=bO Om;have β:=jH j;rw[e]at w β;rw[a5F]at w;rw[K]at F;have X:4294967296^(Z' v+1)=4294967296^v.length*4294967296:=a5X _ _;have ο:val W+4294967296^v.length*(b+c)=val P+val v*f+4294967296^v.length*y:=by rw[F,a4L];omega
  have ξ:b+c≤y+4294967296:=by
   rcases a4R (y+4294967296) (b+c)with h|h
   ·exfalso;have:4294967296^v.length*(y+4294967296+1)≤4294967296^v.length*(b+c):=a6P _ h;rw[a4L,a4L,Nat.mul_one]at this;omega
   ·exact h
  have O:∃d k:Nat,d<4294967296∧k≤1∧y+4294967296*k=d+(b+c)∧IntKind.u32.wrap (IntKind.u64.wrap (IntKind.u64.wrap ((y:Int)-(c:Int))-(b:Int)))=(d:Int)∧((IntKind.u64.wrap (IntKind.u64.wrap ((y:Int)-(c:Int))-(b:Int))/9223372036854775808==1)=decide (k=1)):=by
   rw[jd,kG,kG];by_cases h:y<b+c
   ·refine⟨y+4294967296-(b+c),1,by omega,by omega,by omega,by omega,?_⟩;simp only[decide_true];exact cA Om
   ·refine⟨y-(b+c),0,by omega,by omega,by omega,by omega,?_⟩;exact bJ Om
  obtain⟨d,k,hd,hk,hy,w1,w2⟩:=O;have hs:=u d;have hN:val (P++[d])+val v*f=val W+4294967296^(Z' v+1)*k:=by
   have:4294967296^v.length*y+4294967296^v.length*(4294967296*k)=4294967296^v.length*d+4294967296^v.length*(b+c):=by rw[←a4L,hy,a4L]
   rw[nB,e,X,a4V];omega
  have U:Lim (P++[d]):=j.app λz hz=>by simp at hz;omega
  have ε:=jH U;rw[a3Z,a4E,e]at ε;have N:decide (k=1)=decide (val W<val v*f):=by
   congr 1;apply propext;constructor
   ·intro h;subst h;omega
   ·intro h;rcases a6C k with h0|h0
    ·subst h0;omega
    ·omega
  have R:SW (Z' v+1) (val W) (val v*f)=val (P++[d]):=by
   unfold SW;split
   ·rename_i h;have:k=1:=by simpa[h]using N
    subst this;omega
   ·rename_i h;have:k=0:=by
     have:¬k=1:=by simpa[h]using N
     omega
    subst this;omega
  have hD:fN (Z' v+1) (SW (Z' v+1) (val W) (val v*f))=P++[d]:=by have:=OM U;rw[a3Z,a4E,e]at this;rw[R,this]
  have ζ:W.drop (Z' v+1)=[]:=a7U Om;simp only[go_sem,I,VK,e,J,M,ey,VL,w1,hs,VM,ayV,w2,N];refine bD (vs:=[.bool (decide (val W<val v*f))]) (.inr rfl) (PH.nil.set o (.rows 1 (aP (A++(P++[d]++W.drop (Z' v+1))++Z)))) rfl (e_ a_ Sq) ⟨rfl,?_⟩;rw[hD,ζ,a5O]
end Go.PM
namespace Go.Na
theorem alP{xs e:List Nat}(u:Lim xs)(w:Lim e)(j:Z' xs=Z' e)(l:val xs=val e):xs=e:=by
 rw[←OM u,←OM w,j,l]
theorem aOE{k n:Nat}{xs:List Nat}(l:Lim xs)(e:Z' xs=k)(j:val xs=n%4294967296^k):fN k n=xs:=
 alP (rQ k n) l (by rw[qE,e]) (by rw[HO,j])
end Go.Na
namespace Go.PM
open Go Go.Na
def Xs(v:List Nat)(j o i c:Nat):PF:=((((((PF.nil.set 0 (.osl o 1 j (Z' v+1))).set 1 (aO v)).set 4 (.int .u64 c)).set 7 (aO v)).set 8 (.int .i64 (Z' v:Nat))).set 9 (.int .i64 i))
theorem agL{C:Ctx}(A W Z v:List Nat)(hW:Lim W)(hv:Lim v)(hl:Z' W=Z' v+1)(h1:Z' A+Z' v≤100000)(o:Nat) :
  DA.wp C (aV ny.res (λr H'=>r=.tup []∧H'=PH.nil.set o (.rows 1 (aP (A++fN (Z' v+1) (val W+val v)++Z)))))
   (PF.args [.osl o 1 A.length (Z' v+1),aO v]) (PH.nil.set o (.rows 1 (aP (A++W++Z)))):=by
 simp only[go_sem,DA,gn,gp,ny];refine wp_loop (α:=List Nat × Nat) (λt=>Xs v A.length o t.1.length t.2) (λt=>PH.nil.set o (.rows 1 (aP (A++(t.1++W.drop t.1.length)++Z))))
  (λt=>t.1.length≤Z' v∧Lim t.1∧t.2≤1∧val (W.take t.1.length)+val (v.take t.1.length)=val t.1+4294967296^t.1.length*t.2) (λt=>Z' v-t.1.length) ([],0)
  ⟨by simp,by simp[Lim],by simp,by simp[val]⟩ ?_ (e_ a_ (by simp only[go_sem,a6F,a5J,a7C])) ?_
 ·unfold Xs;exact Lq
 rintro⟨P,c⟩ ⟨hP,j,hc,u⟩;simp only at hP j hc u;simp only[go_sem,gm,gq,Xs];by_cases O:Z' P<Z' v
 ·have B:(Z' P:Int)<(Z' v:Nat):=Om;have w:Z' P<Z' W:=Om;have E:(Z' P:Int)<((Z' v+1:Nat):Int):=Om;have hx:=hv _ (a3Y O);have hw:=hW _ (a3Y w);have X:=dL v O;have J:=dL W w;have I:=yf (A:=A) (Z:=Z) (P:=P) rfl w;have l:=NY (A:=A) (Z:=Z) (P:=P) rfl w;generalize γ:v[Z' P]=x at *
  generalize β:W[Z' P]=y at *
  have Y:(aP v)[Z' P]?=some [.int .u32 ((x:Nat):Int)]:=by rw[cM v O,γ]
  have ex:IntKind.u64.wrap ((x:Nat):Int)=((x:Nat):Int):=bO Om;have R:IntKind.u64.wrap ((y:Nat):Int)=((y:Nat):Int):=bO Om;have e1:IntKind.u64.wrap ((y:Int)+(x:Int))=((y+x:Nat):Int):=jI Om;have e2:IntKind.u64.wrap ((c:Int)+((y+x:Nat):Int))=((c+(y+x):Nat):Int):=jI Om;have V:=l ((c+(y+x))%4294967296);simp only[go_sem,B,gr,Y,gs,E,I,ex,R,e1,e2,gt,dU,V,gv,EN,gw,eI (Om:Z' P<9223372036854775807)];refine aH (P++[(c+(y+x))%4294967296],(c+(y+x))/4294967296) ⟨by simp;omega,j.app λz N=>by simp at N;subst N;exact a5T _ aX,by simp only;omega,?_⟩ (by simp;omega) ?_ (e_ a_ ?_)
  ·simp only;rw[a3Z,a4E,nB,J,X,a5X,a4V];have h5:4294967296^P.length*(4294967296*((c+(y+x))/4294967296))+4294967296^P.length*((c+(y+x))%4294967296)=4294967296^P.length*c+(4294967296^P.length*y+4294967296^P.length*x):=by rw[←a4L,a7P,a4L,a4L]
   omega
  ·simp only;rw[a3Z,a4E];exact Lq
  ·simp only;rw[a3Z,a4E];simp only[go_sem]
 ·have e:Z' P=Z' v:=Om;have B:¬(Z' P:Int)<(Z' v:Nat):=Om;have w:Z' v<Z' W:=Om;have E:(Z' v:Int)<((Z' v+1:Nat):Int):=Om;have hw:=hW _ (a3Y w);have J:=dL W w;have I:=yf (A:=A) (Z:=Z) (P:=P) e w;have l:=NY (A:=A) (Z:=Z) (P:=P) e w;have F:val (W.take (Z' v+1))=val W:=by rw[a4N Om]
  generalize β:W[Z' v]=y at *
  have S:=jH j;rw[e]at u S;rw[a5F]at u;rw[F]at J;have ec:IntKind.u32.wrap ((c:Nat):Int)=((c:Nat):Int):=by rw[dU,a5N Om]
  have R:IntKind.u32.wrap ((y:Int)+(c:Int))=(((y+c)%4294967296:Nat):Int):=by rw[show(y:Int)+(c:Int)=((y+c:Nat):Int) by omega,dU]
  have V:=l ((y+c)%4294967296);have K:Lim (P++[(y+c)%4294967296]):=j.app λz N=>by simp at N;subst N;exact a5T _ aX
  have M:=jH K;rw[a3Z,a4E,e]at M;have hD:fN (Z' v+1) (val W+val v)=P++[(y+c)%4294967296]:=by
   refine aOE K (by rw[a3Z,a4E,e]) ?_;have:val W+val v=val (P++[(y+c)%4294967296])+4294967296^(Z' v+1)*((y+c)/4294967296):=by rw[nB,e,a5X,a4V,a6O,←a4L,Nat.mod_add_div,a4L];omega
   rw[this,Nat.add_mul_mod_self_left,a5N M]
  have U:W.drop (Z' v+1)=[]:=a7U Om;simp only[go_sem,B,gx,e,E,I,ec,R,V];refine bD (vs:=[]) (.inl rfl) (PH.nil.set o (.rows 1 (aP (A++(P++[(y+c)%4294967296]++W.drop (Z' v+1))++Z)))) rfl (e_ a_ Sq) ⟨rfl,?_⟩;rw[hD,U,a5O]
def axZ(o n:Nat)(len:Nat):PF:=((PF.nil.set 0 (.osl o 1 0 len)).set 3 (.int .i64 n))
theorem agK{C:Ctx}(xs:List Nat)(B:Lim xs)(F:Z' xs≤35184372087808)(o:Nat):uR.wp C (aV NR.res (λr H'=>r=.int .i64 (nl (val xs):Nat)∧H'=PH.nil.set o (.rows 1 (aP xs)))) (PF.args [.osl o 1 0 xs.length]) (PH.nil.set o (.rows 1 (aP xs))):=by
 simp only[go_sem,uR,RJ,RK,NR];refine wp_loop (α:=Nat) (λn=>axZ o n xs.length) (λ_=>PH.nil.set o (.rows 1 (aP xs))) (λn=>n≤Z' xs∧∀j x,n≤j→xs[j]?=some x→x=0) (λn=>n) xs.length ⟨a4B _,λj x h e=>by rw[a5K h]at e;cases e⟩ ?_ b_ ?_
 ·unfold axZ;exact Lq
 rintro n ⟨A,y⟩;have out:(∀x,0<n→xs[n-1]?=some x→x≠0)→nl (val xs)=n:=λh=>arD B A y h;simp only[go_sem,RI,RL,axZ];by_cases u:(n:Int)>0
 ·have w:0<n:=Om;have hi:=cM xs (Om:n-1<Z' xs);have hlt:((n-1:Nat):Int)<(Z' xs:Nat):=Om;simp only[go_sem,u,CW (Om:n≤9223372036854775807) w,hi,hlt];by_cases l:xs[n-1]=0
  ·simp only[go_sem,cA (Om:((xs[n-1]:Nat):Int)=0),RM,CW (Om:n≤9223372036854775807) w];refine aH (n-1) ⟨by omega,λj x E he=>?_⟩ Om ?_ b_
   ·rcases a4R j n with h|h
    ·have:j=n-1:=Om;subst this;rw[a4C Om]at he;cases he;exact l
    ·exact y j x h he
   ·exact Lq
  ·simp only[go_sem,bJ (Om:((xs[n-1]:Nat):Int)≠0),zJ];refine bD (.inr rfl) _ rfl b_ ⟨?_,rfl⟩;rw[out λx _ he=>by rw[a4C Om]at he;cases he;exact l];rfl
 ·simp only[go_sem,u,zJ];refine bD (.inr rfl) _ rfl b_ ⟨?_,rfl⟩;rw[out λx h=>by omega];rfl
end Go.PM
namespace Go.Na
structure Kn(V W top next Vr head u2 Wr p:Nat):Prop where
 hV:V=top*(4294967296*p)+next*p+Vr
 hW:W=head*(4294967296*p)+u2*p+Wr
 hVr:Vr<p
 hWr:Wr<p
 htop:2147483648≤top
 a3D:next<4294967296
 hu2:u2<4294967296
 hlt:W<V*4294967296
section
variable {V W top next Vr head u2 Wr p:Nat}
theorem Kn.low(K:Kn V W top next Vr head u2 Wr p):next*p+Vr<4294967296*p∧u2*p+Wr<4294967296*p:=by
 have e:(next+1)*p≤4294967296*p:=a4Z _ K.a3D;have j:(u2+1)*p≤4294967296*p:=a4Z _ K.hu2;rw[a5G,Nat.one_mul]at e j;have:=K.hVr;have:=K.hWr;omega
theorem Kn.Oq(K:Kn V W top next Vr head u2 Wr p):0<V∧4294967296*p≤V∧0<p:=by
 have:=K.hVr;have h:1*(4294967296*p)≤top*(4294967296*p):=a4Z _ (by have:=K.htop;omega);have:=K.hV;omega
theorem Kn.aTY(K:Kn V W top next Vr head u2 Wr p):W/V<4294967296:=by
 rw[a7F K.Oq.1,a4Y];exact K.hlt
theorem Kn.g0(K:Kn V W top next Vr head u2 Wr p):W/V≤head/top:=by
 have e:0<top:=by have:=K.htop;omega
 rw[Nat.le_div_iff_mul_le e];have j:W/V*V≤W:=Nat.div_mul_le_self W V;have l:W/V*(top*(4294967296*p))≤W/V*V:=a6P _ (by have:=K.hV;omega);have u:=K.low.2;have w:=K.hW;have h5:(W/V*top)*(4294967296*p)<(head+1)*(4294967296*p):=by rw[a4V,a5G,Nat.one_mul];omega
 have:=Nat.lt_of_mul_lt_mul_right h5;omega
theorem Kn.g1(K:Kn V W top next Vr head u2 Wr p){g r:Nat}(u:g*top+r=head)(hq:W/V≤g)(h:g≥4294967296∨g*next>r*4294967296+u2):1≤g∧W/V≤g-1:=by
 have x:=K.aTY;have j:=Nat.div_mul_le_self W V;generalize W/V=Q at *
 rcases h with h|h
 ·omega
 ·have w:Q≠g:=by
   intro e;have y:g*V≤W:=by rw[←e];exact j
   have A:g*V=g*top*(4294967296*p)+g*next*p+g*Vr:=by rw[K.hV,a4L,a4L,a4V,a4V]
   have l:(r*4294967296+u2+1)*p≤g*next*p:=a4Z _ h
   rw[a5G,a5G,Nat.one_mul,a4V r]at l;have B:g*top*(4294967296*p)+r*(4294967296*p)=head*(4294967296*p):=by rw[←a5G,u]
   have:=K.hW;have:=K.hWr;omega
  omega
theorem Kn.g2(K:Kn V W top next Vr head u2 Wr p){g r:Nat}(w:g*top+r=head)(x:g≤4294967296)(h:g*next≤r*4294967296+u2):g≤W/V+1:=by
 rcases a6C g with e|e
 ·rw[e];exact a4A _
 have l:g*V=g*top*(4294967296*p)+g*next*p+g*Vr:=by rw[K.hV,a4L,a4L,a4V,a4V]
 have j:g*next*p≤(r*4294967296+u2)*p:=a4Z _ h
 rw[a5G,a4V r]at j;have u:g*top*(4294967296*p)+r*(4294967296*p)=head*(4294967296*p):=by rw[←a5G,w]
 have h5:g*Vr≤4294967296*Vr:=a4Z _ x;have y:4294967296*(Vr+1)≤4294967296*p:=a6P _ K.hVr;have hV:=K.Oq;have hW:=K.hW;have h7:(g-1)*V≤W:=by
  have:g*V=(g-1)*V+V:=by obtain⟨k,rfl⟩:∃k,g=k+1:=⟨g-1,by omega⟩;rw[a5G,Nat.one_mul];rfl
  omega
 have:=(Nat.le_div_iff_mul_le hV.1).2 h7;generalize W/V=Q at *
 clear l j u h5 h7;omega
theorem Kn.g3(K:Kn V W top next Vr head u2 Wr p){g r:Nat}(w:g*top+r=head)(x:g≤4294967296)(y:4294967296≤r):g≤W/V+1:=by
 have e:=K.low.1;have hV:=K.Oq;have j:g*V=g*top*(4294967296*p)+g*(next*p+Vr):=by rw[K.hV,a6O,a4L,a4V]
 have l:g*(next*p+Vr)≤4294967296*(4294967296*p):=a7G x Om;have u:g*top*(4294967296*p)+r*(4294967296*p)=head*(4294967296*p):=by rw[←a5G,w]
 have h5:4294967296*(4294967296*p)≤r*(4294967296*p):=a4Z _ y;have hW:=K.hW;have h7:g*V≤W:=Om;have:=(Nat.le_div_iff_mul_le hV.1).2 h7;generalize W/V=Q at *
 clear j l u h5 h7;omega
theorem Kn.g4(K:Kn V W top next Vr head u2 Wr p):head/top≤4294967296+1:=by
 have e:=K.low.1;have hV:=K.Oq;have hW:=K.hW;have hlt:=K.hlt;have x:=K.htop;have u:head<(top+1)*4294967296:=by
  have j:V<(top+1)*(4294967296*p):=by rw[K.hV,a5G,Nat.one_mul];omega
  have w:V*4294967296≤(top+1)*(4294967296*p)*4294967296:=a4Z _ (Nat.le_of_lt j);have l:head*(4294967296*p)<(top+1)*4294967296*(4294967296*p):=by
   have:(top+1)*(4294967296*p)*4294967296=(top+1)*4294967296*(4294967296*p):=by rw[a4V,a4Y (4294967296*p) 4294967296,←a4V]
   omega
  exact Nat.lt_of_mul_lt_mul_right l
 have h5:head/top<4294967296+2:=by rw[a7F Om];omega
 omega
end
theorem CE:∀(k n:Nat),fN (k+1) n=fN k n++[n/4294967296^k%4294967296]
 |0,n=>by simp[fN]
 |k+1,n=>by show(n%4294967296)::fN (k+1) (n/4294967296)=(n%4294967296)::fN k (n/4294967296)++[n/4294967296^(k+1)%4294967296];rw[CE k (n/4294967296),Nat.div_div_eq_div_mul,a5X,a4Y 4294967296];rfl
theorem BG{xs:List Nat}(h:Lim xs):∀{k:Nat},k≤Z' xs→val (xs.drop k)=val xs/4294967296^k:=by
 intro k j;have e:val xs=val (xs.take k)+4294967296^k*val (xs.drop k):=by
  conv=>lhs;rw[←a6W k xs,kP,a4M,a6G j]
 have l:=jH (h.take k);rw[a4M,a6G j]at l;rw[e,Nat.add_mul_div_left _ _ (a6X aX),a7D l,a4I]
theorem ij{R s i j l X:Nat}(w:s<32)(h:R/4294967296^i=j+4294967296*(l+4294967296*X)):(R/2^s)/4294967296^i%4294967296=(4294967296*l+j)/2^s%4294967296:=by
 rw[Nat.div_div_eq_div_mul,a4Y (2^s),←Nat.div_div_eq_div_mul,h];have u:4294967296*4294967296=2^s*(2^(32-s)*4294967296):=by rw[←a4V,←Nat.pow_add,show s+(32-s)=32 by omega]
 have e:j+4294967296*(l+4294967296*X)=(4294967296*l+j)+2^s*(2^(32-s)*X*4294967296):=by
  have:4294967296*(4294967296*X)=2^s*(2^(32-s)*X*4294967296):=by rw[←a4V,u,a4V,a4V,a4V,a4Y 4294967296 X]
  rw[a4L,this];omega
 rw[e,Nat.add_mul_div_left _ _ (a6X aX),Nat.add_mul_mod_self_right]
end Go.Na
namespace Go.PM
open Go Go.Na
theorem aRE{A W Z:List Nat}{i:Nat}(hi:i<Z' W):(aP (A++W++Z))[Z' A+i]?=some [.int .u32 ((W[i]:Nat):Int)]:=by
 have e:Z' A+i<(A++W++Z).length:=by simp;omega
 rw[cM _ e];congr 4;rw[List.getElem_append_left (by simp;omega),List.getElem_append_right Om];congr 1;omega
def dF(u v:PV)(n:Nat)(q:PV)(e next j s:Nat):PF:=((((((((PF.nil.set 8 (.int .u64 s)).set 9 (u)).set 10 (v)).set 11 (.int .i64 n)).set 12 (q)).set 13 (.int .u64 e)).set 14 (.int .u64 next)).set 15 (.int .i64 j))
def dG(u v:PV)(n:Nat)(q:PV)(e next j s g r:Nat):PF:=((((((((((PF.nil.set 8 (.int .u64 s)).set 9 (u)).set 10 (v)).set 11 (.int .i64 n)).set 12 (q)).set 13 (.int .u64 e)).set 14 (.int .u64 next)).set 15 (.int .i64 j)).set 17 (.int .u64 g)).set 18 (.int .u64 r))
theorem Nc{C:Ctx}{V J e next Vr l w Wr p:Nat}(x:Kn V J e next Vr l w Wr p)(htop:e<4294967296)(o y m j s:Nat)(v q:PV)(θ:j+m+2<y)(ι:y≤100000)(U:List Nat)(hU:(aP U)[j+m]?=some [.int .u32 (w:Nat)])(K:cP)(F:PF)(H:PH)
  (hF:(dG (.osl o 1 0 y) v (m+2) q e next j s (l/e) (l%e)).le F) (hH:H o=some (.rows 1 (aP U)))
  (hK:∀g r I,J/V≤g→g≤J/V+1→g≤4294967296→(dG (.osl o 1 0 y) v (m+2) q e next j s g r).le I→K .normal I H) :
  aC.wp C (.block 4 (.loop BP)) K F H:=by
 have γ:0<e:=by have:=x.htop;omega
 have hn:=x.a3D;have hu2:=x.hu2;simp only[go_sem];refine wp_loop (α:=Nat × Nat) (λt=>dG (.osl o 1 0 y) v (m+2) q e next j s t.1 t.2) (λ_=>H) (λt=>t.1*e+t.2=l∧J/V≤t.1∧t.1≤4294967296+1∧t.2<4294967296) (λt=>t.1) (l/e,l%e)
  ⟨by simp only;rw[a4Y];exact a7P l e,x.g0,x.g4,Nat.lt_trans (a5T _ γ) htop⟩ hF b_ ?_
 rintro⟨g,r⟩ ⟨R,hq,β,hr⟩;simp only at R hq β hr;have e1:IntKind.i64.wrap ((j:Int)+((m+2:Nat):Int))=((j+(m+2):Nat):Int):=kU Om;have e2:IntKind.i64.wrap (((j+(m+2):Nat):Int)-2)=((j+m:Nat):Int):=by rw[wrap_i64 Om Om];omega
 have hlt:((j+m:Nat):Int)<(y:Nat):=Om;have X:IntKind.u64.wrap ((w:Nat):Int)=((w:Nat):Int):=bO Om;have N:shift .shl .u64 (r:Int) 32=some (.int .u64 ((2^32*r:Nat):Int)):=SS (s:=32) Om Om;have W:(2:Nat)^32=4294967296:=by decide
 have M:=orI (a:=2^32*r) (b:=w) (n:=2^32*r+w) Om Om (Nat.two_pow_add_eq_or_of_lt Om r).symm Om;rw[W]at N M;have A:(g≥4294967296∨g*next>r*4294967296+w)→∀I:PF,(dG (.osl o 1 0 y) v (m+2) q e next j s g r).le I→aC.wp C (.block 5 (.seq (.region KQ) (.seq (.region KR) (.seq (.region KT) (.cond (.tmp 136) (.exit 4) .skip)))))
   (iR (λt:Nat × Nat=>dG (.osl o 1 0 y) v (m+2) q e next j s t.1 t.2) (λ_=>H) (λt=>t.1*e+t.2=l∧J/V≤t.1∧t.1≤4294967296+1∧t.2<4294967296) (λt=>t.1) g (gP 4 K)) I H:=by
  intro hc I u;obtain⟨g1,g2⟩:=x.g1 R hq hc;have f8:=u 8 _ (by unfold dG;simp only[go_sem];rfl);have f9:=u 9 _ (by unfold dG;simp only[go_sem];rfl);have δ:=u 10 _ (by unfold dG;simp only[go_sem];rfl);have f11:=u 11 _ (by unfold dG;simp only[go_sem];rfl);have ε:=u 12 _ (by unfold dG;simp only[go_sem];rfl);have f13:=u 13 _ (by unfold dG;simp only[go_sem];rfl);have f14:=u 14 _ (by unfold dG;simp only[go_sem];rfl);have ζ:=u 15 _ (by unfold dG;simp only[go_sem];rfl);have Y:=u 17 _ (by unfold dG;simp only[go_sem];rfl);have Z:=u 18 _ (by unfold dG;simp only[go_sem];rfl);have w1:IntKind.u64.wrap ((g:Int)-1)=((g-1:Nat):Int):=by rw[wrap_u64 Om Om];omega
  have w2:IntKind.u64.wrap ((r:Int)+(e:Int))=((r+e:Nat):Int):=jI Om;have O:(g-1)*e+(r+e)=l:=by obtain⟨k,rfl⟩:∃k,g=k+1:=⟨g-1,by omega⟩;rw[a5G,Nat.one_mul]at R;simp only[Nat.add_sub_cancel];omega
  simp only[go_sem,KQ,KR,KT,Y,Z,f13,w1,w2];by_cases c:r+e≥4294967296
  ·have S:((r+e:Nat):Int)≥4294967296:=Om;simp only[go_sem,S];refine hK (g-1) (r+e) _ g2 (x.g3 O Om c) Om ?_;unfold dG;exact Lq
  ·have S:¬((r+e:Nat):Int)≥4294967296:=Om;simp only[go_sem,S];refine aH (g-1,r+e) ⟨O,g2,by simp only;omega,by simp only;omega⟩ (by simp only;omega) ?_ b_;unfold dG;exact Lq
 simp only[go_sem,BP,ge,dG];by_cases c1:g≥4294967296
 ·have B:(g:Int)≥4294967296:=Om;simp only[go_sem,B];have:=A (.inl c1);simp only[go_sem,dG]at this;refine this _ ?_;exact Lq
 ·have B:¬(g:Int)≥4294967296:=Om;have η:g*next≤4294967295*4294967295:=a7G Om Om
  have em:IntKind.u64.wrap ((g:Int)*(next:Int))=((g*next:Nat):Int):=by rw[show(g:Int)*(next:Int)=((g*next:Nat):Int) by simp];exact bO Om
  simp only[go_sem,B,em,N,e1,e2,hlt,hH,hU,X,M];by_cases c2:g*next>r*4294967296+w
  ·have E:((g*next:Nat):Int)>((4294967296*r+w:Nat):Int):=Om;simp only[go_sem,E];have:=A (.inr c2);simp only[go_sem,dG]at this;refine this _ ?_;exact Lq
  ·have E:¬((g*next:Nat):Int)>((4294967296*r+w:Nat):Int):=Om;simp only[go_sem,E];refine hK g r _ hq (x.g2 R Om Om) Om ?_;unfold dG;exact Lq
end Go.PM
namespace Go.Na
theorem aWS{W v:List Nat}{m:Nat}(hW:Lim W)(e:Lim v)(y:Z' v=m+2)(x:Z' W=m+3)(A:2147483648≤v[m+1])(hlt:val W<val v*4294967296) :
  Kn (val v) (val W) (v[m+1]) (v[m]) (val (v.take m)) (W[m+2]*4294967296+W[m+1]) (W[m]) (val (W.take m)) (4294967296^m):=by
 have u:val v=val (v.take m)+4294967296^m*(v[m]+4294967296*v[m+1]):=by
  rw[yG v (Om:m<Z' v)];congr 4;have:v.drop (m+1)=[v[m+1]]:=by rw[a6J Om,a7U Om]
  rw[this];simp[val]
 have w:val W=val (W.take m)+4294967296^m*(W[m]+4294967296*(W[m+1]+4294967296*W[m+2])):=by
  rw[yG W (Om:m<Z' W)];congr 4;have:W.drop (m+1)=[W[m+1],W[m+2]]:=by rw[a6J Om,a6J Om,a7U Om]
  rw[this];simp[val]
 have j:=jH (e.take m);have l:=jH (hW.take m);rw[a4M,a6G Om]at j l;refine⟨?_,?_,j,l,A,e _ (a3Y _),hW _ (a3Y _),hlt⟩
 ·rw[u,a4L,a4Y (4294967296^m) (v[m]),←a4V (4294967296^m),a4Y (4294967296^m*4294967296),a4Y (4294967296^m) 4294967296];omega
 ·rw[w,a4L,a4Y (4294967296^m) (W[m]),←a4V (4294967296^m),a4Y (4294967296^m*4294967296),a4Y (4294967296^m) 4294967296,a4Y (W[m+2]),Nat.add_comm (4294967296*W[m+2])];omega
end Go.Na
namespace Go.PM
open Go Go.Na
structure Np(C:Ctx):Prop where
 subtract:∀(A W Z v:List Nat)(f o:Nat),Lim W→Lim v→Z' W=Z' v+1→Z' A+Z' v≤100000→f≤4294967296→val v*f≤val W+4294967296^(Z' v+1) →
  aJ C 142 [.osl o 1 A.length (Z' v+1),aO v,.int .u64 f] (PH.nil.set o (.rows 1 (aP (A++W++Z)))) (λr H'=>r=.bool (decide (val W<val v*f))∧H'=PH.nil.set o (.rows 1 (aP (A++fN (Z' v+1) (SW (Z' v+1) (val W) (val v*f))++Z))))
 restore:∀(A W Z v:List Nat)(o:Nat),Lim W→Lim v→Z' W=Z' v+1→Z' A+Z' v≤100000 →
  aJ C 139 [.osl o 1 A.length (Z' v+1),aO v] (PH.nil.set o (.rows 1 (aP (A++W++Z)))) (λr H'=>r=.tup []∧H'=PH.nil.set o (.rows 1 (aP (A++fN (Z' v+1) (val W+val v)++Z))))
theorem Pc(k n:Nat):fN k (n%4294967296^k)=fN k n:=
 alP (rQ _ _) (rQ _ _) (by rw[qE,qE]) (by rw[HO,HO,Nat.mod_mod])
theorem Nb{C:Ctx}(D:Np C)(A W Z v Q:List Nat)(m o S R s:Nat)(β:S≠o)(hW:Lim W)(hv:Lim v)(ο:Z' v=m+2)(ξ:Z' W=m+3)(ht:2147483648≤v[m+1])(hlt:val W<val v*4294967296)
  (p':R=Z' A+(m+3)+Z' Z) (k':R≤10000) (a':Z' A<Z' Q) (K:cP) (F:PF) (H:PH) (U:(dF (.osl o 1 0 R) (aO v) (m+2) (.osl S 1 0 Q.length) (v[m+1]) (v[m]) A.length s).le F)
  (hH:H o=some (.rows 1 (aP (A++W++Z)))) (κ:H S=some (.rows 1 (aP Q)))
  (hK:∀F' H',(dF (.osl o 1 0 R) (aO v) (m+2) (.osl S 1 0 Q.length) (v[m+1]) (v[m]) A.length s).le F'→H' o=some (.rows 1 (aP (A++fN (m+3) (val W%val v)++Z)))→H' S=some (.rows 1 (aP (Q.set A.length (val W/val v))))→K .normal F' H') :
  aC.wp C (.block 3 (.seq (.draw KO) (.seq (.draw KP) (.seq (.block 4 (.loop BP)) (.seq (.seq (.region KU) (.cond (.tmp 146) (.seq (.region KV) (.region KW)) .skip)) (.region BQ)))))) K F H:=by
 have Kk:=aWS hW hv ο ξ ht hlt;have x:∀i (h:i<Z' W),(aP (A++W++Z))[Z' A+i]?=some [.int .u32 ((W[i]:Nat):Int)]:=λi h=>aRE h;have g0:=x (m+2) Om;have g1:=x (m+1) Om;have g2:=x m Om;have hq:=Kk.aTY;have htop:v[m+1]<4294967296:=hv _ (a3Y _);have t':=hW _ (a3Y (Om:m+2<Z' W));have u':=hW _ (a3Y (Om:m+1<Z' W));have α:=Kk.Oq.1;generalize s':v[m+1]=l at *
 generalize q':v[m]=next at *
 generalize v':W[m+2]=I at *
 generalize w':W[m+1]=u1 at *
 generalize x':W[m]=u2 at *
 have f8:=U 8 _ (by unfold dF;simp only[go_sem];rfl);have f9:=U 9 _ (by unfold dF;simp only[go_sem];rfl);have Θ:=U 10 _ (by unfold dF;simp only[go_sem];rfl);have f11:=U 11 _ (by unfold dF;simp only[go_sem];rfl);have Λ:=U 12 _ (by unfold dF;simp only[go_sem];rfl);have f13:=U 13 _ (by unfold dF;simp only[go_sem];rfl);have f14:=U 14 _ (by unfold dF;simp only[go_sem];rfl);have ζ:=U 15 _ (by unfold dF;simp only[go_sem];rfl);have e1:IntKind.i64.wrap ((Z' A:Int)+((m+2:Nat):Int))=((Z' A+(m+2):Nat):Int):=kU Om;have e2:IntKind.i64.wrap (((Z' A+(m+2):Nat):Int)-1)=((Z' A+(m+1):Nat):Int):=by rw[wrap_i64 Om Om];omega
 have c0:((Z' A+(m+2):Nat):Int)<(R:Nat):=Om;have c1:((Z' A+(m+1):Nat):Int)<(R:Nat):=Om;have Γ:IntKind.u64.wrap ((I:Nat):Int)=((I:Nat):Int):=bO Om;have Δ:IntKind.u64.wrap ((u1:Nat):Int)=((u1:Nat):Int):=bO Om;have ε:shift .shl .u64 (I:Int) 32=some (.int .u64 ((2^32*I:Nat):Int)):=SS (s:=32) Om Om;have ω:(2:Nat)^32=4294967296:=by decide
 have X:=orI (a:=2^32*I) (b:=u1) (n:=2^32*I+u1) Om Om (Nat.two_pow_add_eq_or_of_lt Om I).symm Om;rw[ω]at ε X;have Φ:4294967296*I+u1=I*4294967296+u1:=Om;rw[Φ]at X;simp only[go_sem];refine aZ H cI b_ ?_;simp only[go_sem,KO,f9,ζ,f11,e1,e2,c0,c1,hH,g0,g1,Γ,Δ,ε,X];refine aZ H cI b_ ?_;have r':0<l:=Om;have e':¬((l:Nat):Int)=0:=Om;generalize o':I*4294967296+u1=e at *
 have γ:IntKind.u64.wrap (Int.tdiv ((e:Nat):Int) ((l:Nat):Int))=((e/l:Nat):Int):=by rw[show Int.tdiv ((e:Nat):Int) ((l:Nat):Int)=((e/l:Nat):Int)from rfl];exact bO (by have:=Kk.g4;omega)
 have δ:Int.tmod ((e:Nat):Int) ((l:Nat):Int)=((e%l:Nat):Int):=rfl;simp only[go_sem,KP,f13,e',γ,δ];have w:=Nc (C:=C) Kk htop o R m A.length s (aO v) (.osl S 1 0 Q.length) Om Om (A++W++Z) g2;simp only[go_sem]at w;refine w _ _ H ?_ hH ?_
 ·unfold dG;refine d_ (d_ (d_ (d_ (d_ (d_ (d_ (d_ (d_ (d_ c_ ?_) ?_) ?_) ?_) ?_) ?_) ?_) ?_) ?_) ?_<;>simp only[go_sem,f8,f9,Θ,f11,Λ,f13,f14,ζ]
 clear w;intro g r F' q1 q2 q3 j;have h8:=j 8 _ (by unfold dG;simp only[go_sem];rfl);have h9:=j 9 _ (by unfold dG;simp only[go_sem];rfl);have J:=j 10 _ (by unfold dG;simp only[go_sem];rfl);have M:=j 11 _ (by unfold dG;simp only[go_sem];rfl);have η:=j 12 _ (by unfold dG;simp only[go_sem];rfl);have θ:=j 13 _ (by unfold dG;simp only[go_sem];rfl);have ι:=j 14 _ (by unfold dG;simp only[go_sem];rfl);have N:=j 15 _ (by unfold dG;simp only[go_sem];rfl);have Y:=j 17 _ (by unfold dG;simp only[go_sem];rfl);have e3:IntKind.i64.wrap (((Z' A+(m+2):Nat):Int)+1)=((Z' A+(m+3):Nat):Int):=by rw[wrap_i64 Om Om];omega
 have c3:(Z' A:Int)≤((Z' A+(m+3):Nat):Int):=Om;have c4:((Z' A+(m+3):Nat):Int)≤(R:Nat):=Om;have e4:Z' A+(m+3)-Z' A=Z' v+1:=Om;have B:Z' v+1=m+3:=Om;have n':val v*(val W/val v)+val W%val v=val W:=a7P _ _;have μ:=jH hW;rw[ξ]at μ;have ψ:val W%val v<val v:=a5T _ α;have υ:=jH hv;rw[ο]at υ;have σ:4294967296^(m+3)=4294967296^(m+2)*4294967296:=a5X _ _;generalize l':val W/val v=E at *
 generalize m':val W%val v=rd at *
 have V:∀(y:PF)(H2:PH),y 8=some (.int .u64 s)→y 9=some (.osl o 1 0 R)→y 10=some (aO v)→y 11=some (.int .i64 ((m+2:Nat):Int))→y 12=some (.osl S 1 0 Q.length)→y 13=some (.int .u64 l)→y 14=some (.int .u64 next)→y 15=some (.int .i64 A.length)→y 17=some (.int .u64 E) →
   H2 o=some (.rows 1 (aP (A++fN (m+3) rd++Z)))→H2 S=some (.rows 1 (aP Q))→aC.wp C (.region BQ) (gP 3 K) y H2:=by
  intro y H2 k8 k9 f' g' φ h' i' χ j' kH kQ;have d':(aP Q)[Z' A]?=some [.int .u32 ((Q[Z' A]:Nat):Int)]:=cM Q a';have c':(Z' A:Int)<(Z' Q:Nat):=Om;have eq:IntKind.u32.wrap ((E:Nat):Int)=((E:Nat):Int):=by rw[dU,a5N hq]
  have τ:=jW Q A.length E;have ρ:¬o=S:=λh=>β h.symm;simp only[go_sem,BQ,φ,χ,j',eq,c',kQ,d',τ];refine hK _ _ ?_ (by simp only[go_sem,ρ,kH]) Sq;unfold dF;refine d_ (d_ (d_ (d_ (d_ (d_ (d_ (d_ c_ ?_) ?_) ?_) ?_) ?_) ?_) ?_) ?_<;>simp only[go_sem,k8,k9,f',g',φ,h',i',χ]
 have b':(PH.nil.set o (.rows 1 (aP (A++W++Z)))).le H:=e_ a_ hH;have ν:val v*g≤val W+4294967296^(Z' v+1):=by have:val v*g≤val v*(E+1):=a6P _ q2;rw[a4L,Nat.mul_one]at this;rw[B,σ];omega
 simp only[go_sem,KU,h9,N,M,e1,e3,c3,c4,e4,J,Y];refine eY (D.subtract A W Z v g o hW hv Om Om q3 ν) rfl b' ?_;rintro rr H' ⟨rfl,rfl⟩ -;rw[PH.sI];by_cases Ω:g=E
 ·subst Ω;have u:¬val W<val v*g:=Om;have hN:SW (Z' v+1) (val W) (val v*g)=rd:=by unfold SW;rw[aG u];omega
  rw[hN,B];simp only[go_sem,u];have:=V;simp only[go_sem]at this;refine this _ _ ?_ ?_ ?_ ?_ ?_ ?_ ?_ ?_ ?_ ?_ ?_<;>simp only[go_sem,h8,h9,J,M,η,θ,ι,N,Y,β,κ]
 ·have Ψ:g=E+1:=Om;subst Ψ;rw[a4L,Nat.mul_one];have u:val W<val v*E+val v:=Om;have hN:SW (Z' v+1) (val W) (val v*E+val v)=rd+4294967296^(m+3)-val v:=by unfold SW;rw[aL u,B];omega
  rw[hN];have w1:IntKind.u64.wrap (((E+1:Nat):Int)-1)=((E:Nat):Int):=by rw[wrap_u64 Om Om];omega
  simp only[go_sem,u,KV,Y,w1,KW,h9,N,M,e1,e3,c3,c4,e4,J];have Ξ:val (fN (Z' v+1) (rd+4294967296^(m+3)-val v))=rd+4294967296^(m+3)-val v:=tW (by rw[B];omega);refine eY (D.restore A (fN (Z' v+1) (rd+4294967296^(m+3)-val v)) Z v o (rQ _ _) hv (qE _ _) Om) rfl (e_ a_ Sq) ?_;rintro rr H' ⟨rfl,rfl⟩ -;rw[PH.sI,PH.set_set,Ξ];have O:fN (Z' v+1) (rd+4294967296^(m+3)-val v+val v)=fN (m+3) rd:=by rw[B,←Pc (m+3) (rd+4294967296^(m+3)-val v+val v)];rw[show rd+4294967296^(m+3)-val v+val v=rd+4294967296^(m+3) by omega,Nat.add_mod_right,Pc]
  rw[O];simp only[go_sem];have:=V;simp only[go_sem]at this;refine this _ _ ?_ ?_ ?_ ?_ ?_ ?_ ?_ ?_ ?_ ?_ ?_<;>simp only[go_sem,h8,h9,J,M,η,θ,ι,N,β,κ]
open Go
section
variable {C:Ctx} {K:cP} {F:PF} {H Hs:PH} {S:Spec}
theorem Bt{name:Nat}{vs:List PV}{R:PV→PH→Prop}{args:List aR}{st:Bool}{d:Option Nat}{K:PF→PH→Prop}(w:S name vs=some ([],λ_=>R))(h:aJ C name vs .nil R)(e:aR.evs F args=some vs)
  (j:∀G:PH,∃r H',R r H'∧oP G .nil H') (y:∀r H',R r H'→oP H .nil H'→Hs.le (H.over .nil H')∧K (F.put d r) (H.over .nil H')):dOp C Hs S st (.call name args) d K F H:=by
 refine⟨vs,[],λ_=>R,e,w,λo A=>by simp at A,by rw[RT];exact h,λG=>?_,λr H' B e=>?_⟩
 ·obtain⟨r,H',l,u⟩:=j G;exact⟨r,H',l,λo x E I=>u o x E (by simp[PH.nil])⟩
 ·rw[RT]at e ⊢;exact y r H' B e
theorem PH.over_self(H0:PH)(h:H0.le H):H.over H0 H0=H:=PH.ext λq=>by
 rw[tQ];cases e:H0 q with
 |none=>rfl
 |some x=>exact(h q x e).symm
theorem oc{o:Nat}{x:cD}(h:H o=some x):H.only [o]=PH.nil.set o x:=PH.ext λq=>by
 rw[vX,aU];by_cases e:q=o
 ·subst e;simp[h]
 ·simp[e,Cf]
theorem OL{name o:Nat}{x:cD}{vs:List PV}{v:PV}{R:PH→PV→PH→Prop}{args:List aR}{st:Bool}{d:Option Nat}{K:PF→PH→Prop}(E:S name vs=some ([o],R))(B:H o=some x)
  (h:aJ C name vs (PH.nil.set o x) (λr H'=>r=v∧H'=PH.nil.set o x)) (j:R (PH.nil.set o x) v (PH.nil.set o x)) (u:∀r H',R (PH.nil.set o x) r H'→r=v∧H'=PH.nil.set o x) (I:aR.evs F args=some vs) (w:Hs.le H) (J:K (F.put d v) H) :
  dOp C Hs S st (.call name args) d K F H:=by
 have e:=oc B;refine⟨vs,[o],_,I,E,λq hq=>?_,?_,λG=>⟨v,_,by rw[e];exact j,λq y M A=>?_⟩,λr H' l _=>?_⟩
 ·simp at hq;subst hq;exact⟨x,B⟩
 ·rw[e];exact h.post λr H' l=>⟨r,.refl _,by rw[l.1,l.2];exact j⟩
 ·rw[e]at A;rw[M]at A;cases A
 ·rw[e]at l;obtain⟨rfl,rfl⟩:=u r H' l;rw[e,PH.over_self _ (by rw[←e];exact dh H [o])];exact⟨w,J⟩
theorem agY{c:aC}{α:Type}(e:α→PF)(Hs:α→PH)(j:α→Prop)(m:α→Nat)(l:α)(o:Nat){s:Nat}{rs:List (List PV)}(y:H o=some (.rows s rs))(u:j l)(w:(e l).le (F.frz o s rs))(x:(Hs l).le (H.frz o s rs))
  (hb:∀a,j a→c.wp C (iR e Hs j m (m a) K) (e a) (Hs a)):aC.wp C (.loop c) K F H:=
 ⟨α,e,Hs,j,m,l,_,_,.step o y (.refl _ _),u,w,x,hb⟩
@[go_sem] theorem FP(o s:Nat)(rs:List (List PV))(q:Nat):(H.frz o s rs) q=if q=o then none else(H q).map (cD.frz o s rs):=(rfl)
theorem aEJ{t u o1 o2 s1 s2 k1 k2:Nat}{rs1 rs2:List (List PV)}{R:PV→PH→Prop}{e:nN}(he:e=.normal∨e=.ret)(l:o1≠o2)(M:F t=some (.osl o1 s1 0 k1))(N:F u=some (.osl o2 s2 0 k2))(x:H o1=some (.rows s1 rs1))(y:H o2=some (.rows s2 rs2))
  (U:k1≤Z' rs1) (V:k2≤Z' rs2) (A:rs2.map (λr=>r.map (PV.cT o1 s1 rs1))=rs2) (W:(rs1.take k1)=rs1.take k1) (O:R (.tup [.sl s1 (rs1.take k1),.sl s2 (rs2.take k2)]) .nil):aV [.tmp t,.tmp u] R e F H:=by
 have B:∃vs,fC.evs F H [.tmp t,.tmp u]=some vs∧∃E I H2,lN (PF.nil.set 0 (cE vs)) H E I∧H2.le I∧∃w,E 0=some w∧R w H2:=by
  have j:o2≠o1:=λh=>l h.symm;have J:(H.frz o1 s1 rs1) o2=some (.rows s2 rs2):=by rw[FP,aG j,y];simp only[a5B,cD.frz,A]
  refine⟨[.osl o1 s1 0 k1,.osl o2 s2 0 k2],by rw[oY,sJ,M,oY,sJ,N,tU],_,_,.nil,.step o1 x (.step o2 J (.refl _ _)),a_,_,?_,O⟩;have a1:0+k1≤Z' rs1:=Om;have a2:0+k2≤Z' rs2:=Om;simp only[PF.frz,pF,if_true,cE,a5B,PV.frz,PV.uO,PV.cT,a5D,a6L,true_and,aL a1,aL a2,a5J,aG j]
 rcases he with rfl|rfl<;>exact B
end
end Go.PM
namespace Go.Na
structure uD(U0 V n lu lq:Nat)(k:Nat)(U Q:List Nat):Prop where
 lu':Z' U=lu
 lq':Z' Q=lq
 limU:Lim U
 limQ:Lim Q
 v:val U+val Q*V=U0
 r:val (U.drop k)<V
 z:∀i x,i<k→Q[i]?=some x→x=0
theorem Pd{N V n M A j:Nat}{U Q:List Nat}(h:uD N V n M A (j+1) U Q)(hV:V<4294967296^n)(hj:j<A)(hl:M=A+n) :
  val ((U.drop j).take (n+1))<V*4294967296∧uD N V n M A j (U.take j++fN (n+1) (val ((U.drop j).take (n+1))%V)++U.drop (j+(n+1))) (Q.set j (val ((U.drop j).take (n+1))/V)):=by
 have Z:=h.lu';have J:=h.lq';have e:0<V:=by have:=h.r;omega
 have u:j<Z' U:=Om;have e1:val (U.drop j)=U[j]+4294967296*val (U.drop (j+1)):=by rw[a6J u];rfl
 have X:=h.limU _ (a3Y u);have hlt:val (U.drop j)<V*4294967296:=by have:=h.r;omega
 have I:((U.drop j).take (n+1)).length=n+1:=by rw[a4M,a5M];omega
 have O:val (U.drop j)=val ((U.drop j).take (n+1))+4294967296^(n+1)*val (U.drop (j+(n+1))):=by
  conv=>lhs;rw[←a6W (n+1) (U.drop j),kP,I,List.drop_drop]
 have R:4294967296^(n+1)=4294967296^n*4294967296:=a5X _ _;have Y:V*4294967296≤4294967296^n*4294967296:=a4Z _ (Nat.le_of_lt hV);have E:val (U.drop (j+(n+1)))=0:=by
  rcases a6C (val (U.drop (j+(n+1))))with h0|h0
  ·exact h0
  ·have:=a6P (4294967296^(n+1)) h0;omega
 rw[E,Nat.mul_zero,a5H]at O;generalize hW:val ((U.drop j).take (n+1))=W at *
 have e3:val U=val (U.take j)+4294967296^j*W:=by
  conv=>lhs;rw[←a6W j U,kP,a4M,a6G Om,O]
 have y:W%V<V:=a5T _ e;have F:V*(W/V)+W%V=W:=a7P _ _;have K:W/V<4294967296:=by rw[a7F e,a4Y];omega
 have hD:val (fN (n+1) (W%V))=W%V:=tW Om;have B:Q[j]=0:=h.z j _ Om (a4C Om);have l:=OA (Om:j<Z' Q) (W/V);rw[B,Nat.mul_zero,a5H]at l;have w:(U.take j).length=j:=by rw[a4M];omega
 refine⟨by omega,?_,?_,?_,?_,?_,?_,?_⟩
 ·simp only[a3Z,qE,a5M,a4M];omega
 ·rw[a5Q];exact J
 ·exact((h.limU.take j).app (rQ _ _)).app (h.limU.drop _)
 ·exact h.limQ.set _ K
 ·rw[a5C,kP,kP,w,hD,qE,E,Nat.mul_zero,a5H,l];have:=h.v;have h5:(val Q+4294967296^j*(W/V))*V=val Q*V+4294967296^j*(V*(W/V)):=by rw[a5G,a4V,a4Y (W/V) V]
  have h6:4294967296^j*W=4294967296^j*(V*(W/V))+4294967296^j*(W%V):=by rw[←a4L,F]
  omega
 ·rw[a5C,List.drop_append_of_le_length Om,a7U Om,a7C,kP,hD,E,Nat.mul_zero,a5H];exact y
 ·intro i x hi S;rw[List.getElem?_set_ne Om]at S;exact h.z i x Om S
end Go.Na
namespace Go.PM
open Go Go.Na
def dI(u v:PV)(n:Nat)(q:PV)(e next s:Nat)(j:Int):PF:=((((((((PF.nil.set 8 (.int .u64 s)).set 9 (u)).set 10 (v)).set 11 (.int .i64 n)).set 12 (q)).set 13 (.int .u64 e)).set 14 (.int .u64 next)).set 15 (.int .i64 j))
theorem xZ(o s:Nat)(rs:List (List PV))(L:List Nat):(aP L).map (λr=>r.map (PV.cT o s rs))=aP L:=by
 unfold aP;rw[a7A];rfl
theorem Xb{C:Ctx}(D:Np C)(X m y w o o2 x s:Nat)(v e:List Nat)(h2:o2≠o)(h3:x≠o)(h4:x≠o2)(hv:Lim v)(R:Z' v=m+2)(Δ:(aP e).take (m+2)=aP v)(Θ:m+2≤Z' e)(ht:2147483648≤v[m+1])
  (Γ:y=w+(m+2)) (S:y≤10000) (U:List Nat) (E:uD X (val v) (m+2) y w w U (a3W w 0)) (K:cP) (F:PF) (H:PH)
  (B:(dI (.osl o 1 0 y) (.osl o2 1 0 (m+2)) (m+2) (.osl x 1 0 w) (v[m+1]) (v[m]) s ((w:Int)-1)).le F) (hH:H o=some (.rows 1 (aP U))) (ν:H o2=some (.rows 1 (aP e))) (μ:H x=some (.rows 1 (aP (a3W w 0))))
  (hK:∀U' Q' W,uD X (val v) (m+2) y w 0 U' Q'→(dI (.osl o 1 0 y) (aO v) (m+2) (.osl x 1 0 w) (v[m+1]) (v[m]) s (-1)).le W→K .normal W ((PH.nil.set o (.rows 1 (aP U'))).set x (.rows 1 (aP Q')))) :
  aC.wp C (.block 2 (.loop KM)) K F H:=by
 have f8:=B 8 _ (by unfold dI;simp only[go_sem];rfl);have f9:=B 9 _ (by unfold dI;simp only[go_sem];rfl);have Z:=B 10 _ (by unfold dI;simp only[go_sem];rfl);have f11:=B 11 _ (by unfold dI;simp only[go_sem];rfl);have β:=B 12 _ (by unfold dI;simp only[go_sem];rfl);have f13:=B 13 _ (by unfold dI;simp only[go_sem];rfl);have f14:=B 14 _ (by unfold dI;simp only[go_sem];rfl);have γ:=B 15 _ (by unfold dI;simp only[go_sem];rfl);have I:¬o=o2:=λh=>h2 h.symm;have J:¬x=o2:=h4;have V:¬o=x:=λh=>h3 h.symm;have υ:∀(k:IntKind)(n:Int),PV.frz o2 1 (aP e) (.int k n)=.int k n:=λ_ _=>rfl;have χ:∀l,PV.frz o2 1 (aP e) (.osl o 1 0 l)=.osl o 1 0 l:=λl=>by simp only[PV.frz,PV.uO,PV.cT,aG I]
 have φ:∀l,PV.frz o2 1 (aP e) (.osl x 1 0 l)=.osl x 1 0 l:=λl=>by simp only[PV.frz,PV.uO,PV.cT,aG J]
 have ψ:PV.frz o2 1 (aP e) (.osl o2 1 0 (m+2))=aO v:=by
  have:0+(m+2)≤(aP e).length:=by rw[dE];omega
  simp only[PV.frz,PV.uO,PV.cT,if_true,true_and,aL this,a5J,Δ]
 simp only[go_sem];refine agY (α:=Nat × List Nat × List Nat) (λt=>dI (.osl o 1 0 y) (aO v) (m+2) (.osl x 1 0 w) (v[m+1]) (v[m]) s ((t.1:Int)-1)) (λt=>(PH.nil.set o (.rows 1 (aP t.2.1))).set x (.rows 1 (aP t.2.2)))
  (λt=>t.1≤w∧uD X (val v) (m+2) y w t.1 t.2.1 t.2.2) (λt=>t.1) (w,U,a3W w 0) o2 ν ⟨a4B _,E⟩ ?_ ?_ ?_
 ·unfold dI;refine d_ (d_ (d_ (d_ (d_ (d_ (d_ (d_ c_ ?_) ?_) ?_) ?_) ?_) ?_) ?_) ?_<;>simp only[go_sem,f8,f9,Z,f11,β,f13,f14,γ,υ,χ,φ,ψ]
 ·refine e_ (e_ a_ ?_) ?_
  ·simp only[go_sem,I,hH,cD.frz,xZ]
  ·simp only[go_sem,J,μ,cD.frz,xZ]
 rintro⟨k,U,Q⟩ ⟨hk,E⟩;simp only at hk E;simp only[go_sem,KM,gd,dI];by_cases h0:0<k
 ·obtain⟨j,rfl⟩:∃j,k=j+1:=⟨k-1,by omega⟩;have hz:((j+1:Nat):Int)-1=(j:Int):=Om;have ω:(j:Int)≥0:=Om;have O:val v<4294967296^(m+2):=by have:=jH hv;rw[R]at this;exact this
  obtain⟨hlt,ξ⟩:=Pd E O Om Γ;have ρ:=E.lu';have ο:=E.lq';have hA:(U.take j).length=j:=by rw[a4M];omega
  have σ:((U.drop j).take (m+3)).length=m+3:=by rw[a4M,a5M];omega
  have A:U.take j++(U.drop j).take (m+3)++U.drop (j+(m+3))=U:=by rw[a5C,←List.drop_drop,a6W,a6W]
  have τ:(U.drop (j+(m+3))).length=y-(j+(m+3)):=by rw[a5M,ρ]
  have M:=Nb (C:=C) D (U.take j) ((U.drop j).take (m+3)) (U.drop (j+(m+3))) v Q m o x y s h3 ((E.limU.drop _).take _) hv R σ ht hlt (by rw[hA,τ];omega) S (by rw[hA];omega);rw[hA,A,ο]at M;have Y:IntKind.i64.wrap ((j:Int)-1)=(j:Int)-1:=wrap_i64 Om Om;simp only[go_sem,hz,ω];simp only[go_sem]at M;refine M _ _ _ ?_ (by simp only[go_sem,V]) Sq ?_
  ·unfold dF;exact Lq
  ·intro W H' u κ N;have g8:=u 8 _ (by unfold dF;simp only[go_sem];rfl);have g9:=u 9 _ (by unfold dF;simp only[go_sem];rfl);have δ:=u 10 _ (by unfold dF;simp only[go_sem];rfl);have ε:=u 11 _ (by unfold dF;simp only[go_sem];rfl);have ζ:=u 12 _ (by unfold dF;simp only[go_sem];rfl);have η:=u 13 _ (by unfold dF;simp only[go_sem];rfl);have θ:=u 14 _ (by unfold dF;simp only[go_sem];rfl);have ι:=u 15 _ (by unfold dF;simp only[go_sem];rfl);simp only[go_sem,gf,ι,Y];refine aH (j,_,_) ⟨by simp only;omega,ξ⟩ (by simp only;omega) ?_ (e_ (e_ a_ κ) N);refine d_ (d_ (d_ (d_ (d_ (d_ (d_ (d_ c_ ?_) ?_) ?_) ?_) ?_) ?_) ?_) ?_<;>simp only[go_sem,g8,g9,δ,ε,ζ,η,θ]
 ·have:k=0:=Om;subst this;have hz:¬((0:Nat):Int)-1≥0:=by decide
  simp only[go_sem,hz];refine hK U Q _ E ?_;unfold dI
  (repeat' (first|exact c_|refine d_ ?_ ?_))<;>first|(simp only[go_sem,show((0:Nat):Int)-1=-1 from rfl]<;>rfl)|rfl
open Go Go.Na
def rFr(o j l e or n s i:Nat):PF:=((((((PF.nil.set 8 (.int .u64 s)).set 9 (.osl o 1 0 j)).set 12 (.osl l 1 0 e)).set 19 (.osl or 1 0 n)).set 166 (.int .i64 n)).set 167 (.int .i64 i))
theorem aUE{x s:Nat}(e:s≤64):shift .shr .u64 (x:Int) (s:Int)=some (.int .u64 ((x/2^s:Nat):Int)):=by
 unfold shift;rw[aG Om];simp only;have:min (Int.toNat (s:Int)) IntKind.u64.bits=s:=by rw[show IntKind.u64.bits=64 from rfl];omega
 rw[this,Int.fdiv_eq_ediv_of_nonneg _ (by exact_mod_cast a4A _)]
 norm_cast
theorem Xc{C:Ctx}(o w j lq n s:Nat)(U Q:List Nat)(hs:s<32)(h3:j≠o)(Z:Lim U)(hl:Z' U=w)(hn:n<w)(ε:w≤10000)(K:cP)(F:PF)
  (f8:F 8=some (.int .u64 s)) (f9:F 9=some (.osl o 1 0 w)) (f11:F 11=some (.int .i64 n)) (ζ:F 12=some (.osl j 1 0 lq))
  (hK:∀or F' H',or≠o→or≠j→(rFr o w j lq or n s n).le F'→H' j=some (.rows 1 (aP Q))→H' or=some (.rows 1 (aP (fN n (val U/2^s))))→K .normal F' H') :
  aC.wp C (.seq (.region KX) (.seq (.region KY) (.block 6 (.loop KN)))) K F ((PH.nil.set o (.rows 1 (aP U))).set j (.rows 1 (aP Q))):=by
 have γ:((n:Nat):Int)*((4:Nat):Int)≤140737488355328:=Om;have δ:((n:Nat):Int)≤9223372036854775807:=Om;have hz:a3W n [PV.int .u32 0]=aP ([]++a3W n 0):=by simp[aP]
 simp only[go_sem,KX,f11,γ,δ,hz];refine aQ λor O=>?_;have n1:¬or=j:=(mK.1 O).1;have n2:¬or=o:=(mK.1 (mK.1 O).2).1;have A:¬j=or:=λh=>n1 h.symm;have B:¬o=or:=λh=>n2 h.symm;have n3:¬j=o:=h3;have E:¬o=j:=λh=>n3 h.symm;simp only[go_sem,KY];refine wp_loop (α:=List Nat) (λP=>rFr o w j lq or n s P.length) (λP=>((PH.nil.set o (.rows 1 (aP U))).set j (.rows 1 (aP Q))).set or (.rows 1 (aP (P++a3W (n-Z' P) 0)))) (λP=>Z' P≤n∧P=fN P.length (val U/2^s)) (λP=>n-Z' P) []
  ⟨by simp,rfl⟩ ?_ ?_ ?_
 ·unfold rFr;exact Lq
 ·refine e_ (e_ (e_ a_ ?_) ?_) ?_<;>simp only[go_sem,n1,A,n2,B,n3,E,a6F]
 rintro P ⟨hP,hD⟩;simp only[go_sem,KN,gg,rFr];by_cases c1:Z' P<n
 ·have u:(Z' P:Int)<(n:Nat):=Om;obtain⟨k,hk⟩:∃k,n-Z' P=k+1:=⟨n-Z' P-1,by omega⟩;have β:(aP (P++a3W (k+1) 0))[Z' P]?=some [.int .u32 ((0:Nat):Int)]:=by rw[cM _ aW];simp
  have V:Z' P<Z' U:=Om;have a1:Z' P+1<Z' U:=Om;have b0:(Z' P:Int)<(w:Nat):=Om;have b1:((Z' P+1:Nat):Int)<(w:Nat):=Om;have η:=Z _ (a3Y V);have θ:=Z _ (a3Y a1);have e:val U/4294967296^P.length=U[Z' P]+4294967296*(U[Z' P+1]+4294967296*val (U.drop (Z' P+2))):=by rw[←BG Z Om,a6J V,a6J a1];rfl
  have N:=ij hs e;have g0:=cM U V;have g1:=cM U a1;generalize ι:U[Z' P]=y at *
  generalize κ:U[Z' P+1]=l at *
  have e1:IntKind.i64.wrap ((Z' P:Int)+1)=((Z' P+1:Nat):Int):=eI Om;have X:IntKind.u64.wrap ((y:Nat):Int)=((y:Nat):Int):=bO Om;have Y:IntKind.u64.wrap ((l:Nat):Int)=((l:Nat):Int):=bO Om;have J:shift .shl .u64 (l:Int) 32=some (.int .u64 ((2^32*l:Nat):Int)):=SS (s:=32) Om Om;have W:(2:Nat)^32=4294967296:=by decide
  have I:=orI (a:=2^32*l) (b:=y) (n:=2^32*l+y) Om Om (Nat.two_pow_add_eq_or_of_lt Om l).symm Om;rw[W]at J I;have M:=aUE (x:=4294967296*l+y) (s:=s) Om;have S:(aP (P++a3W (k+1) 0)).set P.length [.int .u32 (((4294967296*l+y)/2^s%4294967296:Nat):Int)]=aP ((P++[(4294967296*l+y)/2^s%4294967296])++a3W k 0):=by rw[jW,GB]
  simp only[go_sem,u,gh];refine aZ .nil cI a_ ?_;simp only[go_sem,gi,u,e1,b0,b1,B,E,g0,g1,X,Y,J,I,M,dU,hk,β,S];refine⟨a_,?_⟩;simp only[go_sem,gj,e1];refine aH (P++[(4294967296*l+y)/2^s%4294967296]) ⟨by simp;omega,?_⟩ (by simp;omega) ?_ (e_ (e_ (e_ a_ ?_) ?_) ?_)
  ·rw[a3Z,a4E,CE,←hD,N]
  ·rw[a3Z,a4E];exact Lq
  ·simp only[go_sem,B,E]
  ·simp only[go_sem,A]
  ·rw[a3Z,a4E,show n-(Z' P+1)=k by omega];simp only[go_sem]
 ·have e:Z' P=n:=Om;have u:¬(Z' P:Int)<(n:Nat):=Om;have R:a3W (n-Z' P) 0=[]:=by rw[show n-Z' P=0 by omega];rfl
  rw[e]at hD;simp only[go_sem,u,R,a5O];refine hK or _ _ n2 n1 ?_ (by simp only[go_sem,A]) (by simp only[go_sem];rw[←hD]);unfold rFr;rw[e];exact Lq
structure Of(C:Ctx):Prop where
 L:wV C
 D:Np C
 up:∀(a:List Nat)(s:Nat),Lim a→s<32→Z' a≤1000→aJ C 143 [aO a,.int .u64 s] .nil (upR a s)
 short:∀(a:List Nat)(d:Nat),Lim a→0<d→d<4294967296→Z' a≤1000→aJ C 140 [aO a,.int .u32 d] .nil (aK (.tup [aO (aM (val a/d)),.int .u32 ((val a%d:Nat):Int)]))
 lengthO:∀(xs:List Nat)(o:Nat),Lim xs→Z' xs≤35184372087808→aJ C 138 [.osl o 1 0 xs.length] (PH.nil.set o (.rows 1 (aP xs))) (λr H'=>r=.int .i64 (nl (val xs):Nat)∧H'=PH.nil.set o (.rows 1 (aP xs)))
def aHB:Spec:=λname vs=>match name,vs with
 |143,[x,.int _ s]=>some ([],λ_=>upR (mU x) s.toNat)
 |138,[.osl q _ _ _]=>some ([q],λH0 r H'=>H'=H0∧∀xs,Lim xs→H0 q=some (.rows 1 (aP xs))→r=.int .i64 (nl (val xs):Nat))
 |_,_=>none
theorem ahN(a:List Nat)(s:Nat):aHB 143 [aO a,.int .u64 s]=some ([],λ_=>upR a s):=by
 show some _=_;rw[gI,a6U]
theorem acM(a:List Nat)(s:Nat):∀G:PH,∃r H',upR a s r H'∧oP G .nil H':=λG=>by
 obtain⟨o,l⟩:=G.fresh;refine⟨_,_,⟨o,rfl,rfl⟩,λq x j _=>?_⟩;rw[aU]at j;split at j
 ·rename_i e;subst e;exact l
 ·cases j
theorem YA{xs e:List Nat}(h:aP xs=aP e):xs=e:=by
 have:=congrArg mU (show aO xs=aO e by show PV.sl 1 (aP xs)=PV.sl 1 (aP e);rw[h])
 rwa[gI,gI]at this
theorem J8(q:Nat)(L:List Nat):(PH.nil.set q (.rows 1 (aP L)))=(PH.nil.set q (.rows 1 (aP L)))∧∀xs,Lim xs→(PH.nil.set q (.rows 1 (aP L))) q=some (.rows 1 (aP xs))→(PV.int .i64 (nl (val L):Nat))=.int .i64 (nl (val xs):Nat):=by
 refine⟨rfl,λxs j e=>?_⟩;rw[bT]at e;have:aP L=aP xs:=(cD.rows.inj (a6H.inj e)).2;rw[YA this]
def wJ(A B:Nat):PV:=.tup [aO (aM (A/B)),aO (aM (A%B))]
def axR(a b:List Nat)(s:Nat):PF:=(((PF.nil.set 0 (aO a)).set 1 (aO b)).set 8 (.int .u64 s))
theorem aRH{x s:Nat}(e:s≤31)(h:x*2^s<4294967296):shift .shl .u32 (x:Int) (s:Int)=some (.int .u32 ((x*2^s:Nat):Int)):=by
 unfold shift;rw[aG Om];simp only;have:min (Int.toNat (s:Int)) IntKind.u32.bits=s:=by rw[show IntKind.u32.bits=32 from rfl];omega
 rw[this,show(x:Int)*2^s=((x*2^s:Nat):Int) by simp,dU,a5N h]
theorem afC{n i x:Nat}(e:(a3W n 0)[i]?=some x):x=0:=by
 have:=a5S e;rw[List.mem_replicate]at this;exact this.2
theorem axT{C:Ctx}(K:Of C)(A B:Nat)(hB:B≠0)(hA:nl A≤900)(k':nl B≤900) :
  HA.wp C (aV Cy.res (cY (wJ A B))) (PF.args [aO (aM A),aO (aM B)]) .nil:=by
 have LA:=bB A;have LB:=bB B;have vA:=aY A;have vB:=aY B;have lA:(aM A).length=nl A:=rfl;have lB:(aM B).length=nl B:=rfl;simp only[go_sem,HA,wm,wn,Cy];refine aB (K.L.cmp _ _ LA LB Om Om) rfl ?_;rw[vA,vB];by_cases c1:A<B
 ·have hc:fB A B<0:=by simp[fB,c1]
  simp only[go_sem,hc,wq];refine aB (K.L.trim _ LA Om) rfl ?_;rw[vA];simp only[go_sem];refine bD (vs:=[.aE,aO (aM A)]) (.inr rfl) .nil rfl a_ ⟨?_,rfl⟩;rw[wJ,a7D c1,a5N c1,jY];refine .tup rfl λj p q hp hq=>?_
  match j with
  |0=>simp at hp hq;subst hp;subst hq;exact .nil 1
  |1=>simp at hp hq;subst hp;subst hq;exact .refl _
  |j+2=>simp at hp
 have hc:¬fB A B<0:=by unfold fB;rw[aG c1];split<;>decide
 have W:0<B:=a6Q hB;have n':nl B≠0:=λh=>hB (mA.1 h);simp only[go_sem,hc,wr];by_cases c2:nl B=1
 ·have ε:B<4294967296:=by have:=(mO B 1).1 Om;simpa using this
  have Ψ:aM B=[B]:=tO hB ε;have hr:A%B<B:=a5T _ W;have ew:IntKind.u64.wrap ((A%B:Nat):Int)=((A%B:Nat):Int):=bO Om;rw[Ψ];have ρ:=K.short (aM A) B LA W ε Om;rw[vA]at ρ;simp only[go_sem,show(((1:Nat):Int)==1)=true from rfl,wt];refine aB ρ rfl ?_;simp only[go_sem,wu,ew];refine aB (K.L.make (A%B) Om) rfl ?_;simp only[go_sem];exact bD (vs:=[aO (aM (A/B)),aO (aM (A%B))]) (.inr rfl) .nil rfl a_ ⟨.refl _,rfl⟩
 obtain⟨m,hm⟩:∃m,nl B=m+2:=⟨nl B-2,by omega⟩;have j':nl B≤nl A:=kF Om;obtain⟨bt,y,g'⟩:=aaX LB (n:=m+1) (by rw[vB];exact hm);have O:m+1<(aM B).length:=Om;have μ:bt<4294967296:=LB bt (a5S y);have l':B=val ((aM B).take (m+1))+4294967296^(m+1)*bt:=by have u:=dL (aM B) O;rw[a4N Om,vB]at u;rw[a4C O]at y;rw[a6H.inj y]at u;exact u
 have X:=jH (LB.take (m+1));rw[a4M,a6G Om]at X;have ο:(aP (aM B))[m+1]?=some [.int .u32 ((bt:Nat):Int)]:=by rw[cM _ O];rw[a4C O]at y;rw[a6H.inj y]
 have i1:IntKind.i64.wrap ((((aM B).length:Nat):Int)-1)=((m+1:Nat):Int):=by rw[wrap_i64 Om Om];omega
 have ν:¬(((aM B).length:Nat):Int)=1:=Om;simp only[go_sem,bJ ν,ww];refine wp_loop (α:=Nat) (λs=>axR (aM A) (aM B) s) (λ_=>.nil) (λs=>s≤31∧bt*2^s<4294967296) (λs=>32-s) 0 ⟨by omega,by simpa using μ⟩ ?_ a_ ?_
 ·unfold axR;exact Lq
 rintro s ⟨hs,Ξ⟩;have χ:=aRH hs Ξ;simp only[go_sem,wk,wx,axR,i1,ο,χ];refine aGW ?_ ?_
 ·intro c3;have φ:=of_decide_eq_true c3;have h':s<31:=by
   rcases a4R s 31 with h|h
   ·exact h
   ·exfalso;have u:2147483648≤2^s:=Nat.pow_le_pow_right (show 0<2 by decide) h;have M:1*2^s≤bt*2^s:=a4Z _ Om;omega
  have es:IntKind.u64.wrap ((s:Int)+1)=((s+1:Nat):Int):=by rw[wrap_u64 Om Om];omega
  simp only[go_sem,wy,es];refine aH (s+1) ⟨by omega,by rw[a5X,←a4V];omega⟩ Om ?_ a_;exact Lq
 intro c3;have φ:=of_decide_eq_false c3;have F:s<32:=Om;have E:0<2^s:=a6X aX;have V:2147483648*4294967296^(m+1)≤B*2^s:=by
  have u:2147483648*4294967296^(m+1)≤(bt*2^s)*4294967296^(m+1):=a4Z _ Om;have M:(4294967296^(m+1)*bt)*2^s≤B*2^s:=a4Z _ Om;have h3:(4294967296^(m+1)*bt)*2^s=(bt*2^s)*4294967296^(m+1):=by rw[a4V,a4Y]
  omega
 have κ:B*2^s<4294967296^(m+2):=by
  have h0:(bt+1)*2^s≤4294967296:=by
   have i':(4294967296:Nat)=2^(32-s)*2^s:=by rw[←Nat.pow_add,show 32-s+s=32 by omega]
   have:bt<2^(32-s):=by
    rcases a4R bt (2^(32-s))with h|h
    ·exact h
    ·have:=a4Z (2^s) h;omega
   have:=a4Z (2^s) (show bt+1≤2^(32-s)from this);omega
  have u:B<(bt+1)*4294967296^(m+1):=by rw[a5G,Nat.one_mul,a4Y bt];omega
  have M:B*2^s<(bt+1)*4294967296^(m+1)*2^s:=Nat.mul_lt_mul_of_pos_right u E;have h3:(bt+1)*4294967296^(m+1)*2^s=(bt+1)*2^s*4294967296^(m+1):=Nat.mul_right_comm _ _ _;have h4:(bt+1)*2^s*4294967296^(m+1)≤4294967296*4294967296^(m+1):=a4Z _ h0;have h5:4294967296^(m+2)=4294967296*4294967296^(m+1):=by rw[a5X,a4Y]
  omega
 have U:A<4294967296^nl A:=(mO A _).1 (a4B _);simp only[go_sem];refine aZ .nil aHB a_ ?_;simp only[go_sem,fx];have ua:=K.up (aM A) s LA F Om;have ub:=K.up (aM B) s LB F Om;refine Bt (ahN (aM A) s) ua rfl (acM _ _) ?_;rintro r H' ⟨o,rfl,rfl⟩ -;rw[PH.qL,lA,vA];refine⟨a_,?_⟩;simp only[go_sem];refine Bt (ahN (aM B) s) ub rfl (acM _ _) ?_;rintro r H' ⟨o2,rfl,rfl⟩ Λ;rw[PH.qL,lB,vB,hm];refine⟨a_,?_⟩;have Φ:=Λ o2 _ (by rw[aU,aL rfl]) (by rfl);have τ:¬o2=o:=(mK.1 Φ).1;have e':¬o=o2:=λh=>τ h.symm;have k1:((m+2:Nat):Int)≤((m+2+1:Nat):Int):=Om;have k2:IntKind.i64.wrap (((nl A+1:Nat):Int)-((m+2:Nat):Int))=((nl A+1-(m+2):Nat):Int):=by rw[wrap_i64 Om Om];omega
 obtain⟨e,Ω⟩:∃e,nl A+1-(m+2)=e:=⟨_,rfl⟩;have a':nl A+1=e+(m+2):=Om;rw[Ω]at k2;have k3:((e:Nat):Int)*((4:Nat):Int)≤140737488355328:=Om;have k4:((e:Nat):Int)≤9223372036854775807:=Om;have hz:a3W e [PV.int .u32 0]=aP (a3W e 0):=by simp[aP]
 have k5:m+2-0=m+2:=Om;simp only[go_sem,lB,hm,k1,k5,fy,fz,k2,k3,k4,hz];refine aQ λJ ξ=>?_;have q2:¬J=o2:=(mK.1 ξ).1;have q1:¬J=o:=(mK.1 (mK.1 ξ).2).1;have υ:¬o2=J:=λh=>q2 h.symm;have f':¬o=J:=λh=>q1 h.symm;have b':fN (m+2+1) (B*2^s)=fN (m+2) (B*2^s)++[B*2^s/4294967296^(m+2)%4294967296]:=CE _ _;have Lv:=rQ (m+2) (B*2^s);have lv:=qE (m+2) (B*2^s);have vv:val (fN (m+2) (B*2^s))=B*2^s:=tW κ;have σ:(aP (fN (m+2+1) (B*2^s))).take (m+2)=aP (fN (m+2) (B*2^s)):=by unfold aP;rw[←List.map_take,b',List.take_append_of_le_length Om,a4N Om]
 generalize q':fN (m+2) (B*2^s)=v at *
 have r':(fN (m+2+1) (B*2^s)).length=m+2+1:=qE _ _;have S:∀i (h:i<Z' v),(aP (fN (m+2+1) (B*2^s)))[i]?=some [.int .u32 ((v[i]:Nat):Int)]:=by intro i h;have u:(aP v)[i]?=some [.int .u32 ((v[i]:Nat):Int)]:=cM v h;rw[←σ,List.getElem?_take_of_lt Om]at u;exact u
 have g1:=S (m+1) Om;have g0:=S m Om;have htop:2147483648≤v[m+1]:=by
  have u:=dL v (Om:m+1<Z' v);rw[a4N Om,vv]at u;have M:=jH (Lv.take (m+1));rw[a4M,a6G Om]at M;rcases a4R v[m+1] 2147483648 with h|h
  ·exfalso;have h3:4294967296^(m+1)*(v[m+1]+1)≤4294967296^(m+1)*2147483648:=a6P _ h;rw[a4L,Nat.mul_one]at h3;rw[a4Y 2147483648]at V;omega
  ·exact h
 have p':=Lv _ (a3Y (Om:m+1<Z' v));have o':=Lv _ (a3Y (Om:m<Z' v));have w1:IntKind.u64.wrap ((v[m+1]:Nat):Int)=((v[m+1]:Nat):Int):=bO Om;have w0:IntKind.u64.wrap ((v[m]:Nat):Int)=((v[m]:Nat):Int):=bO Om;have j1:IntKind.i64.wrap (((m+2:Nat):Int)-1)=((m+1:Nat):Int):=by rw[wrap_i64 Om Om];omega
 have j0:IntKind.i64.wrap (((m+2:Nat):Int)-2)=((m:Nat):Int):=by rw[wrap_i64 Om Om];omega
 have d1:((m+1:Nat):Int)<((m+2:Nat):Int):=Om;have d0:((m:Nat):Int)<((m+2:Nat):Int):=Om;have jq:IntKind.i64.wrap ((e:Int)-1)=(e:Int)-1:=wrap_i64 Om Om;simp only[go_sem];refine aZ .nil cI a_ ?_;simp only[go_sem,ga,j1,j0,d1,d0,υ,g1,g0,w1,w0,gb,jq];have ι:A*2^s<4294967296^(nl A+1):=by
  have h0:2^s≤4294967296:=by have:(2:Nat)^s≤2^32:=Nat.pow_le_pow_right aX Om;simpa using this
  have u:A*2^s<4294967296^nl A*2^s:=Nat.mul_lt_mul_of_pos_right U E;have M:4294967296^nl A*2^s≤4294967296^nl A*4294967296:=a6P _ h0;rw[a5X];omega
 have LU:=rQ (nl A+1) (A*2^s);have lU:=qE (nl A+1) (A*2^s);have vU:val (fN (nl A+1) (A*2^s))=A*2^s:=tW ι;have hI:uD (A*2^s) (val v) (m+2) (nl A+1) e e (fN (nl A+1) (A*2^s)) (a3W e 0):=by
  refine⟨lU,a7J,LU,CJ _,by rw[vU,yJ];omega,?_,λi x _ hx=>afC hx⟩
  ·rw[BG LU Om,vU,vv,a7F (a6X aX)];have u:A*2^s<4294967296^nl A*2^s:=Nat.mul_lt_mul_of_pos_right U E;have hx:nl A=m+1+e:=Om;have M:4294967296^nl A=4294967296^(m+1)*4294967296^e:=by rw[hx,Nat.pow_add]
   have h3:2^s≤2147483648:=by have:(2:Nat)^s≤2^31:=Nat.pow_le_pow_right aX hs;simpa using this
   have h4:4294967296^nl A*2^s≤(2147483648*4294967296^(m+1))*4294967296^e:=by rw[M,a4Y (4294967296^(m+1)*4294967296^e),←a4V];exact a4Z _ (a4Z _ h3)
   have h5:(2147483648*4294967296^(m+1))*4294967296^e≤B*2^s*4294967296^e:=a4Z _ V;omega
 have β:=Xb (C:=C) K.D (A*2^s) m (nl A+1) e o o2 J s v (fN (m+2+1) (B*2^s)) τ q1 q2 Lv lv σ Om htop a' Om _ hI;simp only[go_sem]at β;refine β _ _ _ ?_ (by simp only[go_sem,e',f']) (by simp only[go_sem,υ]) Sq ?_
 ·unfold dI;exact Lq
 clear β;intro U' w F' l N;have hu:val U'<val v:=by have:=l.r;rwa[a5J]at this
 have Z:=l.v;rw[vv]at hu Z;have Θ:0<B*2^s:=Om;have Γ:val w=A/B:=by
  have:A*2^s/(B*2^s)=val w:=by rw[←Z,Nat.add_mul_div_right _ _ Θ,a7D hu,a4I]
  rw[←this,Nat.mul_div_mul_right _ _ E]
 have Δ:val U'/2^s=A%B:=by
  have:A*2^s%(B*2^s)=val U':=by rw[←Z,Nat.add_mul_mod_self_right,a5N hu]
  rw[←this,Nat.mul_mod_mul_right,Nat.mul_div_cancel _ E]
 have g8:=N 8 _ (by unfold dI;simp only[go_sem];rfl);have g9:=N 9 _ (by unfold dI;simp only[go_sem];rfl);have ψ:=N 11 _ (by unfold dI;simp only[go_sem];rfl);have ω:=N 12 _ (by unfold dI;simp only[go_sem];rfl);have I:=Xc (C:=C) o (nl A+1) J e (m+2) s U' w F q1 l.limU l.lu' Om Om;simp only[go_sem]at I;simp only[go_sem];refine I _ _ g8 g9 ψ ω ?_;clear I;intro or F2 H2 r1 r2 ζ η Y;rw[Δ]at Y;have c':=ζ 12 _ (by unfold rFr;simp only[go_sem];rfl);have d':=ζ 19 _ (by unfold rFr;simp only[go_sem];rfl);have θ:A%B<4294967296^(m+2):=by have u:A%B<B:=a5T _ W;have M:B<4294967296^nl B:=(mO B _).1 (a4B _);rw[hm]at M;omega
 have LR:=rQ (m+2) (A%B);have lR:=qE (m+2) (A%B);have vR:val (fN (m+2) (A%B))=A%B:=tW θ;have nQ:=jV l.limQ;have nR:=jV LR;have e1:=l.lq';generalize m':fN (m+2) (A%B)=R at *
 simp only[go_sem];refine aZ .nil aHB a_ ?_;simp only[go_sem,gk,c'];have γ:=K.lengthO w J l.limQ Om;rw[e1]at γ;have δ:=K.lengthO R or LR Om;rw[lR]at δ;refine OL (o:=J) (x:=.rows 1 (aP w)) (v:=.int .i64 (nl (val w):Nat)) rfl η γ (J8 J w) (λr H' hr=>⟨hr.2 w l.limQ (by rw[bT]),hr.1⟩) rfl a_ ?_;have c4:((nl (val w):Nat):Int)≤(e:Nat):=Om;simp only[go_sem,c4,d',Nat.sub_zero];refine OL (o:=or) (x:=.rows 1 (aP R)) (v:=.int .i64 (nl (val R):Nat)) rfl Y δ (J8 or R) (λr H' hr=>⟨hr.2 R LR (by rw[bT]),hr.1⟩) rfl a_ ?_;have c5:((nl (val R):Nat):Int)≤((m+2:Nat):Int):=Om;simp only[go_sem,c5];refine aEJ (o1:=J) (o2:=or) (s1:=1) (s2:=1) (k1:=nl (val w)) (k2:=nl (val R)) (rs1:=aP w) (rs2:=aP R) (.inr rfl) (λh=>r2 h.symm) rfl rfl η Y (by rw[dE];exact nQ) (by rw[dE];exact nR) (xZ _ _ _ _) rfl ⟨?_,rfl⟩;have t1:(aP w).take (nl (val w))=aP (aM (A/B)):=by have:=mW l.limQ;rw[Γ]at this ⊢;exact this
 have t2:(aP R).take (nl (val R))=aP (aM (A%B)):=by have:=mW LR;rw[vR]at this ⊢;exact this
 rw[t1,t2];exact .refl _
def aHZ(a b:Nat):PF:=((PF.nil.set 0 (aO (aM a))).set 1 (aO (aM b)))
theorem aQI{C:Ctx}(L:wV C)(e:∀A B:Nat,B≠0→nl A≤900→nl B≤900→aJ C 136 [aO (aM A),aO (aM B)] .nil (aK (wJ A B)))(a b:List Nat)(E:Lim a)(hb:Lim b)(I:Z' a≤35184372087808)(J:Z' b≤35184372087808) :
  XW.wp C (aV aJV.res (cY (if fP (val a) (val b)then .tup [aO [],.int .i64 2]else .tup [aO (aM (a3X (val a) (val b))),.int .i64 0]))) (PF.args [aO a,aO b]) .nil:=by
 simp only[go_sem,XW,aoI,aoJ,aJV];refine aB (L.large a E I) rfl ?_;by_cases j:nl (val a)>512
 ·simp only[go_sem,j,C3];rw[aL (by simp[fP,j])];exact hY rfl
 simp only[go_sem,j];refine aB (L.large b hb J) rfl ?_;by_cases l:nl (val b)>512
 ·simp only[go_sem,l,C3];rw[aL (by simp[fP,l])];exact hY rfl
 rw[aG (by simp[fP,j,l])];simp only[go_sem,l,aoK];refine aB (L.trim a E I) rfl ?_;simp only[go_sem];refine aB (L.trim b hb J) rfl ?_;simp only[go_sem];refine wp_loop (α:=Nat × Nat) (λt=>aHZ t.1 t.2) (λ_=>.nil) (λt=>a3X t.1 t.2=a3X (val a) (val b)∧nl t.1≤512∧nl t.2≤512) (λt=>t.2) (val a,val b) ⟨rfl,by simp only;omega,by simp only;omega⟩ ?_ a_ ?_
 ·unfold aHZ;exact Lq
 rintro⟨x,y⟩ ⟨w,K,F⟩;simp only at w K F;simp only[go_sem,aoH,aoL,aHZ,bH];by_cases u:y=0
 ·subst u;have:¬((nl 0:Nat):Int)>0:=by rw[FY];decide
  simp only[go_sem,this,aoO];refine bD (vs:=[aO (aM x),.int .i64 0]) (.inr rfl) .nil rfl a_ ⟨?_,rfl⟩;rw[←w,Nat.gcd_zero_right];exact .refl _
 ·have M:nl y≠0:=λh=>u (mA.1 h);have:((nl y:Nat):Int)>0:=Om;simp only[go_sem,this,aoM];refine aB (e x y u Om Om) rfl ?_;simp only[go_sem,wJ,aoN];have hlt:x%y<y:=a5T _ (a6Q u);refine aH (y,x%y) ⟨?_,F,?_⟩ hlt ?_ a_
  ·simp only;rw[←w,Nat.gcd_comm y,←Nat.gcd_rec y x,Nat.gcd_comm]
  ·have:=kF (Nat.le_of_lt hlt);simp only;omega
  ·exact Lq
def rZ(A B:Nat):PV:=if fP A B then .tup [aO [],aO [],.int .i64 2]else if B=0 then .tup [aO [],aO [],.int .i64 3]else .tup [aO (aM (A/B)),aO (aM (A%B)),.int .i64 0]
def axS:Spec:=λname vs=>match name,vs with
 |138,[x]=>some ([],λ_=>aK (.int .i64 (nl (val (mU x)):Nat)))
 |136,[x,y]=>some ([],λ_=>aK (wJ (val (mU x)) (val (mU y))))
 |_,_=>none
theorem XS(xs:List Nat):axS 138 [aO xs]=some ([],λ_=>aK (.int .i64 (nl (val xs):Nat))):=by
 show some _=_;rw[gI]
theorem Xa(A B:Nat):axS 136 [aO (aM A),aO (aM B)]=some ([],λ_=>aK (wJ A B)):=by
 show some _=_;rw[gI,gI,aY,aY]
theorem yC{res:List fC}{F:PF}{H:PH}{e:Int}(h:fC.evs F H res=some [.aE,.aE,.int .i64 e]):aV res (cY (.tup [aO [],aO [],.int .i64 e])) .ret F H:=by
 refine bD (.inr rfl) .nil h a_ ⟨?_,rfl⟩;refine .tup rfl λj p q l hq=>?_
 match j with
 |0=>simp at l hq;subst l;subst hq;exact .nil 1
 |1=>simp at l hq;subst l;subst hq;exact .nil 1
 |2=>simp at l hq;subst l;subst hq;exact .refl _
 |j+3=>simp at l
theorem aQD{C:Ctx}(L:wV C)(l:∀A B:Nat,B≠0→nl A≤900→nl B≤900→aJ C 136 [aO (aM A),aO (aM B)] .nil (aK (wJ A B)))(a b:List Nat)(w:Lim a)(hb:Lim b)(F:Z' a≤35184372087808)(E:Z' b≤35184372087808) :
  XT.wp C (aV aJR.res (cY (rZ (val a) (val b)))) (PF.args [aO a,aO b]) .nil:=by
 simp only[go_sem,XT,anU,anV,aJR];refine aB (L.large a w F) rfl ?_;by_cases e:nl (val a)>512
 ·simp only[go_sem,e,Cx];rw[show rZ (val a) (val b)=.tup [aO [],aO [],.int .i64 2] by simp[rZ,fP,e]];exact yC rfl
 simp only[go_sem,e];refine aB (L.large b hb E) rfl ?_;by_cases u:nl (val b)>512
 ·simp only[go_sem,u,Cx];rw[show rZ (val a) (val b)=.tup [aO [],aO [],.int .i64 2] by simp[rZ,fP,u]];exact yC rfl
 simp only[go_sem,u,anW];refine aB (L.length b hb E) rfl ?_;by_cases j:val b=0
 ·have:((nl (val b):Nat):Int)=0:=by rw[j,FY];rfl
  simp only[go_sem,cA this,anX];rw[show rZ (val a) (val b)=.tup [aO [],aO [],.int .i64 3] by simp[rZ,fP,e,j,FY]];exact yC rfl
 have I:nl (val b)≠0:=λh=>j (mA.1 h);rw[show rZ (val a) (val b)=.tup [aO (aM (val a/val b)),aO (aM (val a%val b)),.int .i64 0] by simp[rZ,fP,e,u,j]];simp only[go_sem,bJ (show((nl (val b):Nat):Int)≠0 by omega)];refine aZ .nil axS a_ ?_;simp only[go_sem,anY];have J:=jV w;have K:=jV hb;have x:((nl (val a):Nat):Int)≤(Z' a:Nat):=Om;have y:((nl (val b):Nat):Int)≤(Z' b:Nat):=Om;refine cS (XS a) (L.length a w F) rfl a_ ?_;simp only[go_sem,x,or_true,a5J,mW w];refine cS (XS b) (L.length b hb E) rfl a_ ?_;simp only[go_sem,y,or_true,a5J,mW hb];refine cS (Xa (val a) (val b)) (l _ _ j Om Om) rfl a_ ?_;simp only[go_sem,wJ,anZ];exact bD (.inr rfl) .nil rfl a_ ⟨.refl _,rfl⟩
def oI:=bP [] Proofs.Tryz.f123
def td:=aA oI 0
def te:=aA oI 1
def tf:=aA oI 2
def tg:=aA oI 3
def th:=aA oI 4
def OT:=aA oI 5
def DL:=aA oI 6
def OU:=aA oI 7
def GP:aC:=(sq td (.seq (sq te (sq tf (.cond (Tm 18) (sq tg (.region th)) .skip))) (dN OT 40 DL (sq OU .ret))))
def AL:bA:=⟨3,53,GP,[.cell 6 (some 3),.tmp 7]⟩
def JW:=bP [] Proofs.Tryz.f127
def Fa:=aA JW 0
def Fb:=aA JW 1
def Fc:=aA JW 2
def JV:aC:=(sq Fa (sq Fb (sq Fc .ret)))
def Q0:bA:=⟨2,14,JV,[.tmp 4]⟩
def t7:=bP [1] Proofs.Tryz.f128
def Rn:=aA t7 0
def Ro:=aA t7 1
def PB:aC:=(sq Rn (sq Ro .ret))
def avZ:bA:=⟨1,7,PB,[.tmp 2]⟩
def DM:=bP [] Proofs.Tryz.f92
def P3:=aA DM 0
def P4:=aA DM 1
def P5:=aA DM 2
def P6:=aA DM 3
def OV:aC:=(sq P3 (dN P4 7 P5 (sq P6 .ret)))
def Nt:bA:=⟨2,21,OV,[.cell 4 (some 3),.tmp 5]⟩
def IC:=bP [] Proofs.Tryz.f124
def ahS:=aA IC 0
def ahT:=aA IC 1
def ahU:=aA IC 2
def ahV:=aA IC 3
def WG:aC:=(sq ahS (dN ahT 4 ahU (sq ahV .ret)))
def aHK:bA:=⟨1,12,WG,[.tmp 2]⟩
def JY:=bP [1] Proofs.Tryz.f125
def Fe:=aA JY 0
def Ff:=aA JY 1
def IG:=aA JY 2
def JX:aC:=(sq Fe (sq Ff (sq IG .ret)))
def Q1:bA:=⟨1,19,JX,[.tmp 2]⟩
def yY:=bP [1] Proofs.Tryz.f119
def tv:=aA yY 0
def tw:=aA yY 1
def tx:=aA yY 2
def tz:=aA yY 3
def GQ:aC:=(sq tv (dN tw 6 tx (sq tz .ret)))
def ck:bA:=⟨1,17,GQ,[.cell 2 (some 3),.tmp 3]⟩
def nJ:=bP [2,3] Proofs.Tryz.f93
def aiN:=aA nJ 0
def aiO:=aA nJ 1
def Bx:=aA nJ 2
def aiP:=bY nJ 0
def aiQ:=bY nJ 1
def FI:=aA nJ 3
def By:=aA nJ 4
def NI:=aA nJ 5
def Bz:=aA nJ 6
def cj:=aA nJ 7
def jv:=aA nJ 8
def jw:=aA nJ 9
def WJ:aC:=(sq aiN (dN aiO 16 Bx (dq aiP (dq aiQ (.seq (.block 0 (sq FI (.cond (Tm 42) (sq By .ret) (sq NI (.cond (Tm 49) (sq Bz .ret) (sq cj (.cond (Tm 51) (sq jv .ret) .skip))))))) (sq jw .ret))))))
def aHM:bA:=⟨2,54,WJ,[.tmp 4,.tmp 5]⟩
def nI:=bP [2,3] Proofs.Tryz.f122
def ahW:=aA nI 0
def ahX:=aA nI 1
def Bw:=aA nI 2
def ahY:=bY nI 0
def ahZ:=aA nI 3
def aiA:=aA nI 4
def aiB:=aA nI 5
def aiC:=aA nI 6
def aiD:=aA nI 7
def aiE:=aA nI 8
def Pm:=aA nI 9
def Pn:=aA nI 10
def WH:aC:=(sq ahW (dN ahX 22 Bw (dq ahY (jA ahZ 43 (sq aiA (sq aiB .ret)) (jA aiC 60 (sq aiD (sq aiE .ret)) (sq Pm (sq Pn .ret)))))))
def Bv:bA:=⟨2,87,WH,[.cell 4 (some 3),.tmp 5]⟩
def oJ:=bP [] Proofs.Tryz.f91
def ajJ:=aA oJ 0
def ajK:=aA oJ 1
def ajL:=aA oJ 2
def ajM:=aA oJ 3
def ajN:=aA oJ 4
def ajO:=aA oJ 5
def B7:=aA oJ 6
def ajP:=aA oJ 7
def ajQ:=aA oJ 8
def ajR:=aA oJ 9
def Qz:aC:=(gJ ajM 14 0 ajR (sq ajN (sq ajO (dN B7 24 ajP (.region ajQ)))))
def kf:=aA oJ 10
def WQ:aC:=(sq ajJ (sq ajK (.seq (cL ajL 0 Qz) (sq kf .ret))))
def Qy:bA:=⟨1,30,WQ,[.cell 2 (some 3),.tmp 3]⟩
theorem CoL.nil:CoL [] []:=.refl _
theorem CoL.cons{p q:PV}{ps u:List PV}(h:Co p q)(l:CoL ps u):CoL (p::ps) (q::u):=
 ⟨by simp[l.len],λj a b e hb=>by
  cases j with
  |zero=>simp at e hb;subst e;subst hb;exact h
  |succ j=>exact l.at_ j a b (by simpa using e) (by simpa using hb)⟩
theorem CoL.agg{ps e:List PV}(h:CoL ps e):Co (.agg ps) (.agg e):=.agg h.len h.at_
theorem CoL.tup{ps e:List PV}(h:CoL ps e):Co (.tup ps) (.tup e):=.tup h.len h.at_
structure yQ(C:Ctx):Prop extends wV C where
 bits:∀xs,Lim xs→Z' xs≤35184372087808→aJ C 128 [aO xs] .nil (aK (.int .i64 (dV (val xs):Nat)))
 add:∀xs ys,Lim xs→Lim ys→Z' xs≤35184372087808→Z' ys≤35184372087808→aJ C 127 [aO xs,aO ys] .nil (aK (opV (fP (val xs) (val ys)) (val xs+val ys)))
 sub:∀xs ys,Lim xs→Lim ys→Z' xs≤35184372087808→Z' ys≤35184372087808→aJ C 134 [aO xs,aO ys] .nil (aK (xT (val xs) (val ys)))
 mul:∀xs ys,Lim xs→Lim ys→Z' xs≤35184372087808→Z' ys≤35184372087808→aJ C 133 [aO xs,aO ys] .nil (aK (opV (fP (val xs) (val ys)) (val xs*val ys)))
 gcd:∀xs ys,Lim xs→Lim ys→Z' xs≤35184372087808→Z' ys≤35184372087808→aJ C 131 [aO xs,aO ys] .nil (aK (if fP (val xs) (val ys)then .tup [aO [],.int .i64 2]else .tup [aO (aM (a3X (val xs) (val ys))),.int .i64 0]))
 div:∀xs ys,Lim xs→Lim ys→Z' xs≤35184372087808→Z' ys≤35184372087808→aJ C 130 [aO xs,aO ys] .nil (aK (rZ (val xs) (val ys)))
theorem lY{a b:Nat}(e:nl a≤512)(hb:nl b≤512):fP a b=false:=by
 simp[fP];omega
theorem qJ{a b m n:Nat}(e:nl a≤m)(hb:nl b≤n):nl (a*b)≤m+n:=by
 rw[mO]at e hb ⊢;rw[Nat.pow_add];by_cases h:b=0
 ·subst h;exact Nat.mul_pos (a6X aX) (a6X aX)
 ·calc a*b<4294967296^m*b:=Nat.mul_lt_mul_of_pos_right e (a6Q h)
   _≤4294967296^m*4294967296^n:=a6P _ (Nat.le_of_lt hb)
theorem HM{n:Nat}(h:nl n≤512):szV n=.tup [aO (aM n),.int .i64 0]:=by
 have:¬nl n>512:=Om;simp[szV,szL,szE,this]
theorem aBP{C:Ctx}(L:yQ C)(a b:List Nat)(e:Lim a)(hb:Lim b)(j:Z' a≤35184372087808)(l:Z' b≤35184372087808)(u:nl (val a)≤256)(w:nl (val b)≤256) :
  JV.wp C (aV Q0.res (aK (aO (aM (val a*val b))))) (PF.args [aO a,aO b]) .nil:=by
 simp only[go_sem,JV,Fa,Fb,Q0];refine aB (L.mul a b e hb j l) rfl ?_;have:=qJ u w;rw[lY Om Om,opV,HM Om];simp only[go_sem,Fc];refine aT (.inr rfl) rfl ?_;rfl
abbrev gQ(neg:Bool)(a b:List Nat):List PV:=[.bool neg,aO a,aO b]
theorem aHV{C:Ctx}(L:yQ C)(neg:Bool)(a b:List Nat)(e:Lim a)(j:Z' a≤35184372087808) :
  PB.wp C (aV avZ.res (aK (.bool (decide (val a=0))))) (PF.args [.agg (gQ neg a b)]) .nil:=by
 simp only[go_sem,PB,Rn,Ro,avZ];refine aB (L.bits a e j) rfl ?_;simp only[go_sem];refine aT (.inr rfl) rfl ?_;have:=@oG (val a);by_cases c:val a=0
 ·rw[cA Om,cB c];rfl
 ·rw[bJ Om,cF c];rfl
def eF(a b:Nat):Bool:=decide (0<dV b)&&decide (dV b≤4096)&&decide (dV a≤4096)
theorem aBQ{C:Ctx}(L:yQ C)(neg:Bool)(a b:List Nat)(w:Lim a)(hb:Lim b)(x:Z' a≤35184372087808)(y:Z' b≤35184372087808) :
  JX.wp C (aV Q1.res (aK (.bool (eF (val a) (val b))))) (PF.args [.agg (gQ neg a b)]) .nil:=by
 simp only[go_sem,JX,Fe,Ff,Q1];refine aB (L.bits b hb y) rfl ?_;by_cases l:0<dV (val b)
 ·have e:((dV (val b):Nat):Int)>0:=Om;by_cases u:dV (val b)≤4096
  ·have j:((dV (val b):Nat):Int)≤4096:=Om;simp only[go_sem,IG,e,j];refine aB (L.bits a w x) rfl ?_;simp only[go_sem];refine aT (.inr rfl) rfl ?_;show PV.bool (decide _)=_;rw[eF,cB l,cB u,a4K,a4K];congr 1;rw[decide_eq_decide];omega
  ·have j:¬((dV (val b):Nat):Int)≤4096:=Om;simp only[go_sem,IG,e,j];refine aT (.inr rfl) rfl ?_;show PV.bool _=_;simp[eF,l,u]
 ·have e:¬((dV (val b):Nat):Int)>0:=Om;simp only[go_sem,IG,e];refine aT (.inr rfl) rfl ?_;show PV.bool _=_;simp[eF,l]
theorem aOK{C:Ctx}(L:yQ C)(v:Int)(j:-9223372036854775808≤v)(l:v≤9223372036854775807) :
  WG.wp C (aV aHK.res (aK (aO (aM v.natAbs)))) (PF.args [.int .i64 v]) .nil:=by
 simp only[go_sem,WG,ahS,ahT,aHK];by_cases c:v<0
 ·have e:IntKind.u64.wrap (0-IntKind.u64.wrap v)=(v.natAbs:Int):=by rw[kG,kG];omega
  simp only[go_sem,c,ahU,e];refine aB (L.make v.natAbs Om) rfl ?_;simp only[go_sem];refine aT (.inr rfl) rfl ?_;rfl
 ·have e:IntKind.u64.wrap v=(v.natAbs:Int):=by rw[kG];omega
  simp only[go_sem,c,ahV,e];refine aB (L.make v.natAbs Om) rfl ?_;simp only[go_sem];refine aT (.inr rfl) rfl ?_;rfl
abbrev IF(e:Int):PV:=.tup [.agg (gQ false [] []),.int .i64 e]
abbrev avY(neg:Bool)(a b:Nat):PV:=.tup [.agg (gQ neg (aM a) (aM b)),.int .i64 0]
def QH(neg:Bool)(a b:Nat):PV:=
 if dV (a/a3X a b)>4096∨dV (b/a3X a b)>4096 then IF 2 else avY (neg&&decide (a/a3X a b≠0)) (a/a3X a b) (b/a3X a b)
theorem lZ{res:List fC}{F:PF}{H:PH}{e:Int}(h:fC.evs F H res=some [.agg [.bool false,.aE,.aE],.int .i64 e]):aV res (cY (IF e)) .ret F H:=
 bD (.inr rfl) .nil h a_ ⟨CoL.tup (.cons (CoL.agg (.cons (.refl _) (.cons (.nil 1) (.cons (.nil 1) .nil)))) (.cons (.refl _) .nil)),rfl⟩
theorem O1{n:Nat}:dV n>1↔n>1:=by
 have:=qV n 1;omega
theorem wz{a n:Nat}(g:Nat)(h:nl a≤n):nl (a/g)≤n:=a6T (kF (a7E _ _)) h
theorem WM{C:Ctx}(L:yQ C)(neg:Bool)(a b:List Nat)(w:Lim a)(hb:Lim b)(x:Z' a≤35184372087808)(y:Z' b≤35184372087808)(o:Nat)(F:PF)(H:PH)
  (f0:F 0=some (.bool neg)) (f1:F 1=some (aO a)) (f2:F 2=some (aO b)) (f6:F 6=some (.ptr o 3 0 0)) (f7:F 7=some (.int .i64 0)) (j:H o=some (.rows 3 [[.bool false,.aE,.aE]])) :
  aC.wp C (.seq (.seq (.region OT) (.cond (.tmp 40) (.seq (.region DL) .ret) .skip)) (.seq (.region OU) .ret)) (aV AL.res (cY (if dV (val a)>4096∨dV (val b)>4096 then IF 2 else avY (neg&&decide (val a≠0)) (val a) (val b)))) F H:=by
 have fin:∀(r:List (List PV)) F H,F 6=some (.ptr o 3 0 0)→F 7=some (.int .i64 2)→H o=some (.rows 3 [[.bool false,.aE,.aE]])→aV AL.res (cY (IF 2)) .ret F H:=by intro r F H E h7 h;refine lZ ?_;simp only[go_sem,AL,E,h7,h]
 simp only[go_sem,OT,f1];refine aB (L.bits a w x) rfl ?_;by_cases A:dV (val a)>4096
 ·have l:((dV (val a):Nat):Int)>4096:=Om;rw[aL (.inl A)];simp only[go_sem,l,DL,f6,j];exact fin [] _ _ (by simp only[go_sem,f6]) rfl Sq
 ·have l:¬((dV (val a):Nat):Int)>4096:=Om;simp only[go_sem,l,f2];refine aB (L.bits b hb y) rfl ?_;by_cases B:dV (val b)>4096
  ·have u:((dV (val b):Nat):Int)>4096:=Om;rw[aL (.inr B)];simp only[go_sem,u,DL,f6,j];exact fin [] _ _ (by simp only[go_sem,f6]) rfl Sq
  ·have u:¬((dV (val b):Nat):Int)>4096:=Om;rw[aG Om];have last:∀F:PF,F 1=some (aO a)→F 2=some (aO b)→F 6=some (.ptr o 3 0 0)→∀(q:Bool),q=(neg&&decide (val a≠0))→F 47=some (.bool q) →
     True:=λ_ _ _ _ _ _ _=>trivial
   simp only[go_sem,u,OU,f0,f1,f2,f6,j];cases neg with
   |false =>simp only[go_sem,f0,f1,f2,f6,j];refine aB (L.trim a w x) rfl ?_;simp only[go_sem,f0,f1,f2,f6,j];refine aB (L.trim b hb y) rfl ?_;simp only[go_sem,f0,f1,f2,f6,j,a4F];refine bD (.inr rfl) .nil (vs:=[.agg (gQ false (aM (val a)) (aM (val b))),.int .i64 0]) ?_ a_ ⟨.refl _,rfl⟩;simp only[go_sem,AL,f6,j]
   |true=>
    simp only[go_sem,f0,f1,f2,f6,j];refine aB (L.bits a w x) rfl ?_;have e:decide (((dV (val a):Nat):Int)>0)=decide (val a≠0):=by have:=@oG (val a);rw[decide_eq_decide];omega
    simp only[go_sem,f0,f1,f2,f6,j,e];refine aB (L.trim a w x) rfl ?_;simp only[go_sem,f0,f1,f2,f6,j];refine aB (L.trim b hb y) rfl ?_;simp only[go_sem,f0,f1,f2,f6,j,a4K];refine bD (.inr rfl) .nil (vs:=[.agg (gQ (decide (val a≠0)) (aM (val a)) (aM (val b))),.int .i64 0]) ?_ a_ ⟨.refl _,rfl⟩;simp only[go_sem,AL,f6,j]
theorem avU{C:Ctx}(L:yQ C)(neg:Bool)(a b:List Nat)(x:Lim a)(hb:Lim b)(y:Z' a≤35184372087808)(A:Z' b≤35184372087808)(B:nl (val a)≤512)(u:nl (val b)≤512)(E:val b≠0) :
  GP.wp C (aV AL.res (cY (QH neg (val a) (val b)))) (PF.args [.bool neg,aO a,aO b]) .nil:=by
 simp only[go_sem,GP,td,te];refine aQ λo J=>?_;simp only[go_sem];refine aB (L.gcd a b x hb y A) rfl ?_;rw[lY B u];simp only[go_sem,tf];have j:a3X (val a) (val b)≠0:=by intro h;exact E (Nat.gcd_eq_zero_iff.1 h).2
 have l:nl (a3X (val a) (val b))≤512:=a6T (kF (Nat.gcd_le_right _ (a6Q E))) u;have e:(aM (a3X (val a) (val b))).length≤35184372087808:=by rw[bH];omega
 refine aB (L.bits _ (bB _) e) rfl ?_;rw[aY];by_cases c:a3X (val a) (val b)>1
 ·have w:((dV (a3X (val a) (val b)):Nat):Int)>1:=by have:=O1.2 c;omega
  simp only[go_sem,w,tg];refine aB (L.div a _ x (bB _) y e) rfl ?_;rw[aY,rZ,lY B l,aG aX,aG j];simp only[go_sem,th];refine aB (L.div b _ hb (bB _) A e) rfl ?_;rw[aY,rZ,lY u l,aG aX,aG j];simp only[go_sem];have:=WM L neg (aM (val a/a3X (val a) (val b))) (aM (val b/a3X (val a) (val b))) (bB _) (bB _) (by rw[bH];have:=wz (a3X (val a) (val b)) B;omega) (by rw[bH];have:=wz (a3X (val a) (val b)) u;omega) o;rw[aY,aY]at this;have:=λF H=>this F H;simp only[aC.wp,go_sem]at this;exact this _ _ rfl rfl rfl rfl rfl Sq
 ·have w:¬((dV (a3X (val a) (val b)):Nat):Int)>1:=by have:=(@O1 (a3X (val a) (val b)));omega
  have I:a3X (val a) (val b)=1:=Om;simp only[go_sem,w];rw[QH,I,Nat.div_one,Nat.div_one];have:=WM L neg a b x hb y A o;simp only[aC.wp,go_sem]at this;exact this _ _ rfl rfl rfl rfl rfl Sq
structure OD(C:Ctx):Prop extends yQ C where
 times:∀a b,Lim a→Lim b→Z' a≤35184372087808→Z' b≤35184372087808→nl (val a)≤256→nl (val b)≤256→aJ C 121 [aO a,aO b] .nil (aK (aO (aM (val a*val b))))
 zero:∀neg a b,Lim a→Z' a≤35184372087808→aJ C 122 [.agg (gQ neg a b)] .nil (aK (.bool (decide (val a=0))))
 valid:∀neg a b,Lim a→Lim b→Z' a≤35184372087808→Z' b≤35184372087808→aJ C 118 [.agg (gQ neg a b)] .nil (aK (.bool (eF (val a) (val b))))
 abs:∀v:Int,-9223372036854775808≤v→v≤9223372036854775807→aJ C 119 [.int .i64 v] .nil (aK (aO (aM v.natAbs)))
 lowest:∀neg a b,Lim a→Lim b→Z' a≤35184372087808→Z' b≤35184372087808→nl (val a)≤512→nl (val b)≤512→val b≠0→aJ C 120 [.bool neg,aO a,aO b] .nil (aK (QH neg (val a) (val b)))
def ut(n d:Int):PV:=if d=0 then IF 3 else QH (decide (n<0) != decide (d<0)) n.natAbs d.natAbs
theorem tF{n k:Nat}(h:n<4294967296^k):nl n≤k:=(mO _ _).2 h
theorem Uo(neg:Bool)(a b:Nat):∃j x y e,QH neg a b=.tup [.agg (gQ j x y),.int .i64 e]:=by
 unfold QH;split
 ·exact⟨_,_,_,_,rfl⟩
 ·exact⟨_,_,_,_,rfl⟩
theorem aHQ{C:Ctx}(L:OD C)(n d:Int)(l:-9223372036854775808≤n)(u:n≤9223372036854775807)(w:-9223372036854775808≤d)(A:d≤9223372036854775807) :
  OV.wp C (aV Nt.res (cY (ut n d))) (PF.args [.int .i64 n,.int .i64 d]) .nil:=by
 simp only[go_sem,OV,P3,P4];refine aQ λo E=>?_;unfold ut;by_cases c:d=0
 ·subst c;simp only[go_sem,P5];refine lZ ?_;simp only[go_sem,Nt]
 ·rw[aG c];simp only[go_sem,bJ c,P6];refine aB (L.abs n l u) rfl ?_;simp only[go_sem];refine aB (L.abs d w A) rfl ?_;simp only[go_sem];have F:nl n.natAbs≤2:=tF Om;have I:nl d.natAbs≤2:=tF Om;have low:=L.lowest (decide (n<0) != decide (d<0)) (aM n.natAbs) (aM d.natAbs) (bB _) (bB _) (by rw[bH];omega) (by rw[bH];omega);rw[aY,aY]at low;have low:=low Om Om Om;refine aB low rfl ?_;obtain⟨j,x,y,e,B⟩:=Uo (decide (n<0) != decide (d<0)) n.natAbs d.natAbs;rw[B];simp only[go_sem];exact bD (.inr rfl) .nil (vs:=[.agg (gQ j x y),.int .i64 e]) (by simp only[go_sem,Nt]) a_ ⟨.refl _,rfl⟩
theorem kA{a b:Nat}:eF a b=true↔b≠0∧nl b≤128∧nl a≤128:=by
 have e:=qW b 128;have j:=qW a 128;have l:=@oG b;simp only[eF,a4P,decide_eq_true_eq];omega
def dj(neg:Bool)(a b:Nat):PV:=if eF a b then QH neg a b else IF 1
theorem avX{C:Ctx}(L:OD C)(neg:Bool)(a b:List Nat)(l:Lim a)(hb:Lim b)(u:Z' a≤35184372087808)(w:Z' b≤35184372087808) :
  GQ.wp C (aV ck.res (cY (dj neg (val a) (val b)))) (PF.args [.agg (gQ neg a b)]) .nil:=by
 simp only[go_sem,GQ,tv,tw];refine aQ λo F=>?_;simp only[go_sem];refine aB (L.valid neg a b l hb u w) rfl ?_;unfold dj;cases B:eF (val a) (val b)with
 |false =>simp only[go_sem,tx,a4O];refine lZ ?_;simp only[go_sem,ck]
 |true =>obtain⟨E,I,J⟩:=kA.1 B;simp only[go_sem,tz,a4H];refine aB (L.lowest neg a b l hb u w Om Om E) rfl ?_;obtain⟨j,x,y,e,A⟩:=Uo neg (val a) (val b);rw[A];simp only[go_sem];exact bD (.inr rfl) .nil (vs:=[.agg (gQ j x y),.int .i64 e]) (by simp only[go_sem,ck]) a_ ⟨.refl _,rfl⟩
def uT(l:Bool)(a1 e:Nat)(u:Bool)(a2 j:Nat):Int:=
 match l&&decide (a1≠0),u&&decide (a2≠0)with
 |true,true=>- fB (a1*j) (a2*e)
 |true,false=>-1
 |false,true=>1
 |false,false=>fB (a1*j) (a2*e)
def ID(l:Bool)(a1 e:Nat)(u:Bool)(a2 j:Nat):PV:=
 if eF a1 e&&eF a2 j then .tup [.int .i64 (uT l a1 e u a2 j),.int .i64 0]else .tup [.int .i64 0,.int .i64 1]
def fr1:PV→List Nat
 | .agg [_,a,_]=>mU a
 |_=>[]
def frS:Spec:=λname vs=>match name,vs with
 |121,[x,y]=>some ([],λ_=>aK (aO (aM (val (mU x)*val (mU y)))))
 |129,[x,y]=>some ([],λ_=>aK (.int .i64 (fB (val (mU x)) (val (mU y)))))
 |122,[x]=>some ([],λ_=>aK (.bool (decide (val (fr1 x)=0))))
 |_,_=>none
theorem CG(a b:List Nat):frS 121 [aO a,aO b]=some ([],λ_=>aK (aO (aM (val a*val b)))):=by
 show some _=_;rw[gI,gI]
theorem aOS(a b:List Nat):frS 129 [aO a,aO b]=some ([],λ_=>aK (.int .i64 (fB (val a) (val b)))):=by
 show some _=_;rw[gI,gI]
theorem kc(neg:Bool)(a b:List Nat):frS 122 [.agg (gQ neg a b)]=some ([],λ_=>aK (.bool (decide (val a=0)))):=by
 show some _=_;rw[fr1,gI]
theorem aGU(a b:Nat):IntKind.i64.wrap (0-fB a b)=- fB a b:=by
 unfold fB;split
 ·rfl
 ·split<;>rfl
theorem aON{C:Ctx}(L:OD C)(E y:Bool)(a1 j a2 e:List Nat)(w:Lim a1)(I:Lim j)(l:Lim a2)(J:Lim e)
  (x:Z' a1≤35184372087808) (K:Z' j≤35184372087808) (u:Z' a2≤35184372087808) (M:Z' e≤35184372087808) :
  WJ.wp C (aV aHM.res (cY (ID E (val a1) (val j) y (val a2) (val e)))) (PF.args [.agg (gQ E a1 j),.agg (gQ y a2 e)]) .nil:=by
 simp only[go_sem,WJ,aiN,aiO];refine aB (L.valid E a1 j w I x K) rfl ?_;unfold ID;cases V:eF (val a1) (val j)with
 |false =>simp only[go_sem,a4O,Bx,a4F];exact bD (.inr rfl) .nil (vs:=[.int .i64 0,.int .i64 1]) rfl a_ ⟨.refl _,rfl⟩
 |true=>
  obtain⟨v1,X,Y⟩:=kA.1 V;simp only[go_sem,a4H];refine aB (L.valid y a2 e l J u M) rfl ?_;cases W:eF (val a2) (val e)with
  |false =>simp only[go_sem,a4O,Bx,a5I];exact bD (.inr rfl) .nil (vs:=[.int .i64 0,.int .i64 1]) rfl a_ ⟨.refl _,rfl⟩
  |true=>
   obtain⟨w1,Z,w3⟩:=kA.1 W;simp only[go_sem,a4H,a5Z];refine aZ .nil frS a_ ?_;simp only[go_sem,aiP];refine cS (CG a1 e) (L.times a1 e w J x M Om Om) rfl a_ ?_;simp only[go_sem];refine cS (CG a2 j) (L.times a2 j l I u K Om Om) rfl a_ ?_;simp only[go_sem];have m1:=qJ Y Z;have m2:=qJ w3 X;have O:=L.cmp (aM (val a1*val e)) (aM (val a2*val j)) (bB _) (bB _) (by rw[bH];omega) (by rw[bH];omega);have R:=aOS (aM (val a1*val e)) (aM (val a2*val j));rw[aY,aY]at O R;refine cS R O rfl a_ ?_;simp only[go_sem];refine aZ .nil frS a_ ?_;have z1:(!decide (val a1=0))=decide (val a1≠0):=by by_cases h:val a1=0<;>simp[h]
   have S:(!decide (val a2=0))=decide (val a2≠0):=by by_cases h:val a2=0<;>simp[h]
   have fin:∀(F:PF)(A B:Bool),F 6=some (.int .i64 (fB (val a1*val e) (val a2*val j)))→F 7=some (.bool A)→F 8=some (.bool B)→A=(E&&decide (val a1≠0))→B=(y&&decide (val a2≠0)) →
     aC.wp C (.seq (.block 0 (.seq (.region FI) (.cond (.tmp 42) (.seq (.region By) .ret) (.seq (.region NI) (.cond (.tmp 49) (.seq (.region Bz) .ret) (.seq (.region cj) (.cond (.tmp 51) (.seq (.region jv) .ret) .skip))))))) (.seq (.region jw) .ret)) (aV aHM.res (cY (.tup [.int .i64 (uT E (val a1) (val j) y (val a2) (val e)),.int .i64 0]))) F .nil:=by
    intro F A B f6 f7 N U hB;rw[uT,←U,←hB];cases A<;>cases B
    ·simp only[go_sem,FI,NI,cj,jw,f6,f7,N];exact bD (.inr rfl) .nil rfl a_ ⟨.refl _,rfl⟩
    ·simp only[go_sem,FI,NI,cj,jv,f6,f7,N];exact bD (.inr rfl) .nil rfl a_ ⟨.refl _,rfl⟩
    ·simp only[go_sem,FI,NI,Bz,f6,f7,N];exact bD (.inr rfl) .nil rfl a_ ⟨.refl _,rfl⟩
    ·simp only[go_sem,FI,By,f6,f7,N,aGU];exact bD (.inr rfl) .nil rfl a_ ⟨.refl _,rfl⟩
   simp only[aC.wp,go_sem]at fin;simp only[go_sem,aiQ];cases E with
   |false=>
    simp only[go_sem];cases y with
    |false =>simp only[go_sem];exact fin _ false false rfl rfl rfl rfl rfl
    |true =>simp only[go_sem];refine cS (kc true a2 e) (L.zero true a2 e l u) rfl a_ ?_;simp only[go_sem,S];exact fin _ false (decide (val a2≠0)) rfl rfl rfl rfl (by rw[a4K])
   |true=>
    simp only[go_sem];refine cS (kc true a1 j) (L.zero true a1 j w x) rfl a_ ?_;simp only[go_sem,z1];cases y with
    |false =>simp only[go_sem];exact fin _ (decide (val a1≠0)) false rfl rfl rfl (by rw[a4K]) rfl
    |true =>simp only[go_sem];refine cS (kc true a2 e) (L.zero true a2 e l u) rfl a_ ?_;simp only[go_sem,S];exact fin _ (decide (val a1≠0)) (decide (val a2≠0)) rfl rfl rfl (by rw[a4K]) (by rw[a4K])
abbrev FV:=Bool × Nat × Nat
abbrev FR:=Except Int FV
def mH(neg:Bool)(a b:Nat):FR:=
 if dV (a/a3X a b)>4096∨dV (b/a3X a b)>4096 then .error 2 else .ok (neg&&decide (a/a3X a b≠0),a/a3X a b,b/a3X a b)
def frV:FR→PV
 | .ok (n,a,b)=>avY n a b
 | .error e=>IF e
theorem Cj(neg:Bool)(a b:Nat):QH neg a b=frV (mH neg a b):=by
 unfold QH mH;split<;>rfl
def lC:FV→FV→FR
 |(l,a1,e),(u,a2,j)=>if eF a1 e&&eF a2 j then
   (if l=u then mH l (a1*j+a2*e) (e*j)else if a2*e≤a1*j then mH l (a1*j-a2*e) (e*j)else mH u (a2*e-a1*j) (e*j))
  else .error 1
theorem Xf{a b m:Nat}(e:nl a≤m)(hb:nl b≤m):nl (a+b)≤m+1:=by
 rw[mO]at e hb ⊢;rw[a5X];omega
theorem cc(a b:Nat):(fB a b≥0)↔b≤a:=by
 unfold fB;split
 ·constructor
  ·intro h;exact absurd h aX
  ·intro h;omega
 ·split
  ·constructor
   ·intro h;omega
   ·intro h;decide
  ·constructor
   ·intro h;omega
   ·intro h;decide
theorem AM(r:FR):∃j x y e,frV r=.tup [.agg (gQ j x y),.int .i64 e]:=by
 rcases r with e|⟨n,a,b⟩
 ·exact⟨_,_,_,_,rfl⟩
 ·exact⟨_,_,_,_,rfl⟩
theorem aOL{C:Ctx}(L:OD C)(w I:Bool)(a1 l a2 u:List Nat)(S:Lim a1)(M:Lim l)(U:Lim a2)(N:Lim u)
  (V:Z' a1≤35184372087808) (O:Z' l≤35184372087808) (W:Z' a2≤35184372087808) (R:Z' u≤35184372087808) :
  WH.wp C (aV Bv.res (cY (frV (lC (w,val a1,val l) (I,val a2,val u))))) (PF.args [.agg (gQ w a1 l),.agg (gQ I a2 u)]) .nil:=by
 simp only[go_sem,WH,ahW];refine aQ λo ho=>?_;simp only[go_sem,ahX];refine aB (L.valid w a1 l S M V O) rfl ?_;simp only[lC];cases hv:eF (val a1) (val l)with
 |false =>simp only[go_sem,a4O,Bw,a4F];refine lZ ?_;simp only[go_sem,Bv]
 |true=>
  obtain⟨v1,v2,v3⟩:=kA.1 hv;simp only[go_sem,a4H];refine aB (L.valid I a2 u U N W R) rfl ?_;cases hw:eF (val a2) (val u)with
  |false =>simp only[go_sem,a4O,Bw,a5I];refine lZ ?_;simp only[go_sem,Bv]
  |true=>
   obtain⟨w1,w2,w3⟩:=kA.1 hw;simp only[go_sem,a4H,a5Z];refine aZ .nil frS a_ ?_;simp only[go_sem,ahY];refine cS (CG a1 u) (L.times a1 u S N V R Om Om) rfl a_ ?_;simp only[go_sem];refine cS (CG a2 l) (L.times a2 l U M W O Om Om) rfl a_ ?_;simp only[go_sem];refine cS (CG l u) (L.times l u M N O R Om Om) rfl a_ ?_;simp only[go_sem];have m1:=qJ v3 w2;have m2:=qJ w3 v2;have m3:=qJ v2 w2;have d0:val l*val u≠0:=Nat.mul_ne_zero v1 w1;generalize hA:val a1*val u=A at *
   generalize hB:val a2*val l=B at *
   generalize hD:val l*val u=D at *
   have fin:∀(F:PF)(H:PH)(r:FR),(∃j x y e,frV r=.tup [.agg (gQ j x y),.int .i64 e]∧F 4=some (.ptr o 3 0 0)∧F 5=some (.int .i64 e)∧H o=some (.rows 3 [gQ j x y]))→aV Bv.res (cY (frV r)) .ret F H:=by rintro F H r ⟨j,x,y,e,he,f4,f5,hH⟩;rw[he];exact bD (.inr rfl) .nil (vs:=[.agg (gQ j x y),.int .i64 e]) (by simp only[go_sem,Bv,f4,f5,hH]) a_ ⟨.refl _,rfl⟩
   have eb:(w==I)=decide (w=I):=by cases w<;>cases I<;>rfl
   have low:∀neg x,nl x≤257→aJ C 120 [.bool neg,aO (aM x),aO (aM D)] .nil (aK (frV (mH neg x D))):=by
    intro neg x hx;have h1:(aM x).length≤35184372087808:=by rw[bH];omega
    have h2:(aM D).length≤35184372087808:=by rw[bH];omega
    have:=L.lowest neg (aM x) (aM D) (bB _) (bB _) h1 h2;rw[aY,aY,Cj]at this;exact this Om Om d0
   have lA:(aM A).length≤35184372087808:=by rw[bH];omega
   have lB:(aM B).length≤35184372087808:=by rw[bH];omega
   simp only[go_sem,ahZ];by_cases c:w=I
   ·rw[aL c];have Z:(w==I)=true:=by rw[eb,cB c]
    simp only[go_sem,Z,aiA];have J:=L.add (aM A) (aM B) (bB _) (bB _) lA lB;have α:=Xf m1 m2;rw[aY,aY,lY Om Om,opV,HM Om]at J;refine aB J rfl ?_;simp only[go_sem,aiB];refine aB (low w _ Om) rfl ?_;obtain⟨j,x,y,e,E⟩:=AM (mH w (A+B) D);rw[E];simp only[go_sem];rw[←E];exact fin _ _ _ ⟨j,x,y,e,E,by simp only[go_sem],by simp only[go_sem],by simp only[go_sem]⟩
   ·rw[aG c];have Z:(w==I)=false:=by rw[eb,cF c]
    simp only[go_sem,Z,aiC];have hc:=L.cmp (aM A) (aM B) (bB _) (bB _) lA lB;rw[aY,aY]at hc;refine aB hc rfl ?_;have K:∀X Y:Nat,nl X≤256→nl Y≤256→Y≤X→aJ C 134 [aO (aM X),aO (aM Y)] .nil (aK (.tup [aO (aM (X-Y)),.int .i64 0])):=by intro X Y h1 h2 h;have:=L.sub (aM X) (aM Y) (bB _) (bB _) (by rw[bH];omega) (by rw[bH];omega);have h3:=kF (Om:X-Y≤X);rw[aY,aY,xT,lY Om Om,aG aX,aG Om,HM Om]at this;exact this
    by_cases g:B≤A
    ·have g':fB A B≥0:=(cc A B).2 g;rw[aL g];simp only[go_sem,g',aiD];refine aB (K A B Om Om g) rfl ?_;simp only[go_sem,aiE];have h3:=kF (Om:A-B≤A);refine aB (low w (A-B) Om) rfl ?_;obtain⟨j,x,y,e,E⟩:=AM (mH w (A-B) D);rw[E];simp only[go_sem];rw[←E];exact fin _ _ _ ⟨j,x,y,e,E,by simp only[go_sem],by simp only[go_sem],by simp only[go_sem]⟩
    ·have g':¬fB A B≥0:=λh=>g ((cc A B).1 h);rw[aG g];simp only[go_sem,g',Pm];refine aB (K B A Om Om Om) rfl ?_;simp only[go_sem,Pn];have h3:=kF (Om:B-A≤B);refine aB (low I (B-A) Om) rfl ?_;obtain⟨j,x,y,e,E⟩:=AM (mH I (B-A) D);rw[E];simp only[go_sem];rw[←E];exact fin _ _ _ ⟨j,x,y,e,E,by simp only[go_sem],by simp only[go_sem],by simp only[go_sem]⟩
structure RF where
 neg:Bool
 num:List Nat
 den:List Nat
abbrev RF.cells(x:RF):List PV:=gQ x.neg x.num x.den
def RF.Ok(x:RF):Prop:=Lim x.num∧Lim x.den∧Z' x.num≤35184372087808∧Z' x.den≤35184372087808
def RF.v(x:RF):FV:=(x.neg,val x.num,val x.den)
abbrev frs(l:List RF):PV:=.sl 3 (l.map RF.cells)
def FV.rf:FV→RF
 |(n,a,b)=>⟨n,aM a,aM b⟩
def FV.Small:FV→Prop
 |(_,a,b)=>nl a≤900000∧nl b≤900000
theorem FV.aUA(x:FV):x.rf.v=x:=by
 obtain⟨n,a,b⟩:=x;show(n,val (aM a),val (aM b))=_;rw[aY,aY]
def sN(l:List FV):FR:=l.foldlM lC (false,0,1)
theorem zD{neg:Bool}{a b:Nat}{r:FV}(h:mH neg a b=.ok r):r.Small∧r.rf.Ok:=by
 unfold mH at h;split at h
 ·cases h
 ·rename_i l;have e:=(qW (a/a3X a b) 128).1 Om;have j:=(qW (b/a3X a b) 128).1 Om;injection h with h
  subst h;refine⟨⟨by omega,by omega⟩,bB _,bB _,?_,?_⟩
  ·show(aM _).length≤_;rw[bH];omega
  ·show(aM _).length≤_;rw[bH];omega
theorem Bl{x y r:FV}(h:lC x y=.ok r):r.rf.Ok:=by
 obtain⟨l,a1,e⟩:=x;obtain⟨u,a2,j⟩:=y;simp only[lC]at h;split at h
 ·split at h
  ·exact(zD h).2
  ·split at h
   ·exact(zD h).2
   ·exact(zD h).2
 ·cases h
theorem fh{α β:Type}{f:β→α→Except Int β}(l:List α)(b:β){k:Nat}(h:k<Z' l):(l.take (k+1)).foldlM f b=((l.take k).foldlM f b).bind λx=>f x l[k]:=by
 rw[a5W h,List.foldlM_append];cases(l.take k).foldlM f b with
 |error e=>rfl
 |ok x =>show([l[k]]:List α).foldlM f x=f x l[k];rw[List.foldlM_cons];cases f x l[k]<;>rfl
theorem ti{α β:Type}{f:β→α→Except Int β}(l:List α)(b:β){k:Nat}{e:Int}(h:(l.take k).foldlM f b=.error e):l.foldlM f b=.error e:=by
 conv=>lhs;rw[←a6W k l,List.foldlM_append,h]
 rfl
def aLE(l:List RF)(o2 o4:Nat)(k:Nat):PF:=((((((PF.nil.set 2 (.ptr o2 3 0 0)).set 3 (.int .i64 0)).set 4 (.ptr o4 3 0 0)).set 11 (frs l)).set 12 (.int .i64 (Z' l:Nat))).set 13 (.int .i64 k))
def qj(o2 o4:Nat)(c:List PV):PH:=(PH.nil.set o2 (.rows 3 [[.bool false,.aE,.aE]])).set o4 (.rows 3 [c])
theorem aOU{C:Ctx}(L:OD C)(V:∀x y:RF,x.Ok→y.Ok→aJ C 113 [.agg x.cells,.agg y.cells] .nil (aK (frV (lC x.v y.v))))(l:List RF)(hl:∀x∈l,x.Ok)(β:Z' l≤9223372036854775807) :
  WQ.wp C (aV Qy.res (cY (frV (sN (l.map RF.v))))) (PF.args [frs l]) .nil:=by
 simp only[go_sem,WQ,ajJ];refine aQ λo2 γ=>?_;simp only[go_sem,ajK];refine aB (L.make 1 aX) rfl ?_;simp only[go_sem];refine aQ λo4 W=>?_;have w:o4≠o2:=by rintro rfl;simp only[aU,if_true]at W;cases W
 have j:o2≠o4:=Ne.symm w;simp only[go_sem,ajL];refine wp_loop (α:=Nat × FV × PV) (λt=>aLE l o2 o4 t.1) (λt=>qj o2 o4 [.bool t.2.1.1,t.2.2,aO (aM t.2.1.2.2)]) (λt=>t.1≤Z' l∧((l.map RF.v).take t.1).foldlM lC (false,0,1)=.ok t.2.1∧(t.2.2=.aE∧t.2.1.2.1=0∨t.2.2=aO (aM t.2.1.2.1))∧(FV.rf t.2.1).Ok) (λt=>Z' l-t.1)
  (0,(false,0,1),.aE) ⟨a4A _,rfl,.inl ⟨rfl,rfl⟩,⟨bB _,bB _,?_,?_⟩⟩ ?_ ?_ ?_
 ·show(aM 0).length≤_;rw[jY];simp
 ·show(aM 1).length≤_;rw[tO aX aX];simp
 ·unfold aLE
  (repeat' (first|exact c_|refine d_ ?_ ?_))<;>first|(simp only[go_sem,a3V]<;>rfl)|rfl
 ·unfold qj;exact e_ (e_ a_ (by simp only[go_sem,j,w])) (by simp only[go_sem,j,w])
 rintro⟨k,⟨U,X,S⟩,cy⟩ ⟨hk,Y,R,M⟩;simp only at hk Y R M ⊢;have N:CoL [.bool U,cy,aO (aM S)] (FV.rf (U,X,S)).cells:=by
  refine .cons (.refl _) (.cons ?_ (.cons (.refl _) .nil));rcases R with⟨rfl,rfl⟩|rfl
  ·show Co .aE (aO (aM 0));rw[jY];exact .nil 1
  ·exact .refl _
 simp only[go_sem,Qz,ajM,aLE];by_cases hlt:k<Z' l
 ·have E:(k:Int)<(Z' l:Nat):=Om;have hr:(l.map RF.cells)[k]?=some (l[k]).cells:=by simp[hlt]
  simp only[go_sem,E,ajN,hr];refine aQ λo6 J=>?_;have F:o4≠o6:=by rintro rfl;simp only[qj,aU,if_true]at J;cases J
  have B:o2≠o6:=by rintro rfl;simp only[qj,aU,if_true,aG j]at J;cases J
  simp only[go_sem,ajO,qj,F,B,w,j];refine aB ((V (FV.rf (U,X,S)) l[k] M (hl _ (a3Y hlt))).args (.cons (CoL.agg N) (.cons (.refl _) .nil))) rfl ?_;rw[FV.aUA];have u:=fh (f:=lC) (l.map RF.v) (false,0,1) (k:=k) (by simpa using hlt);rw[Y]at u;simp only[Except.bind,a6E]at u;cases he:lC (U,X,S) (l[k]).v with
  |error e=>
   simp only[go_sem,frV];refine aQ λo7 A=>?_;have Z:e≠0:=by
    revert he;obtain⟨n2,a2,b2⟩:=(l[k]).v;simp only[lC,mH]
    repeat' split
    all_goals (intro h;first|(injection h with h;subst h;decide)|cases h)
   have I:o2≠o7:=by rintro rfl;simp only[aU,B,j,if_true,if_false]at A;cases A
   simp only[go_sem,B7,cU Z,ajP,I,B,j];rw[he]at u;rw[sN,ti _ _ u];refine lZ ?_;simp only[go_sem,Qy]
  |ok r=>
   obtain⟨rn,ra,rb⟩:=r;simp only[go_sem,frV];refine aQ λo7 A=>?_;have K:o4≠o7:=by rintro rfl;simp only[aU,F,if_true,if_false]at A;cases A
   have I:o2≠o7:=by rintro rfl;simp only[aU,B,j,if_true,if_false]at A;cases A
   simp only[go_sem,B7,ajQ,K,I,F,B,w,j,Ne.symm K,ajR,wZz k];rw[he]at u;refine aH (k+1,(rn,ra,rb),aO (aM ra)) ⟨hlt,u,.inr rfl,Bl he⟩ (by simp only;omega) ?_ ?_
   ·exact Lq
   ·refine e_ (e_ a_ ?_) ?_
    ·simp only[go_sem,j,w,K,I,F,B]
    ·simp only[go_sem,j,w,K,I,F,B]
 ·have E:¬(k:Int)<(Z' l:Nat):=Om;have:k=Z' l:=Om;subst this;rw[a4N aW]at Y;rw[sN,Y];have O:cY (frV (.ok (U,X,S))) (cE [.agg [.bool U,cy,aO (aM S)],.int .i64 0]) .nil:=⟨CoL.tup (.cons (CoL.agg N) (.cons (.refl _) .nil)),rfl⟩;rcases R with⟨rfl,rfl⟩|rfl
  ·simp only[go_sem,E,kf,qj,w,j];refine bD (.inr rfl) .nil ?_ a_ O;simp only[go_sem,Qy,w,j]
  ·simp only[go_sem,E,kf,qj,w,j];refine bD (.inr rfl) .nil ?_ a_ O;simp only[go_sem,Qy,w,j]
def XE:=bP [] Proofs.Tryz.f135
def vN:=aA XE 0
def vO:=aA XE 1
def qH:aC:=(sq vN (sq vO .ret))
def cx:bA:=⟨1,17,qH,[.tmp 2]⟩
def fm:=bP [] Proofs.Tryz.f153
def IN:=aA fm 0
def IP:=aA fm 1
def wQ:aC:=(sq IN (sq IP .ret))
def ul:bA:=⟨1,9,wQ,[.tmp 2]⟩
def fp:=bP [] Proofs.Tryz.f136
def F8:=aA fp 0
def F9:=aA fp 1
def KE:aC:=(sq F8 (sq F9 .ret))
def uo:bA:=⟨1,17,KE,[.tmp 2]⟩
def pJ:=bP [] Proofs.Tryz.f97
def QC:=aA pJ 0
def QD:=aA pJ 1
def QE:=aA pJ 2
def Uf:=aA pJ 3
def Ug:=aA pJ 4
def Uh:=aA pJ 5
def Ui:=aA pJ 6
def Uj:=aA pJ 7
def Ue:aC:=(dS Ug 20 0 Uj (sq Uh (.cond (Tm 27) (sq Ui .ret) .skip)))
def Uk:=aA pJ 8
def zC:aC:=(sq QC (dN QD 16 QE (.seq (cL Uf 0 Ue) (sq Uk .ret))))
def Nu:bA:=⟨1,28,zC,[.tmp 2]⟩
def Su:=bP [] Proofs.Tryz.f58
def t8:=aA Su 0
def uc:=aA Su 1
def GR:aC:=(sq t8 (sq uc .ret))
def gin:bA:=⟨3,15,GR,[.tmp 6]⟩
def fi:=bP [1] Proofs.Tryz.f89
def Fg:=aA fi 0
def Fh:=aA fi 1
def JZ:aC:=(sq Fg (sq Fh .ret))
def Rp:bA:=⟨1,7,JZ,[.tmp 2]⟩
def WW:=bP [1] Proofs.Tryz.f88
def akP:=aA WW 0
def akQ:=aA WW 1
def cq:=aA WW 2
def WV:aC:=(sq akP (sq akQ (sq cq .ret)))
def aIC:bA:=⟨1,29,WV,[.tmp 2]⟩
def IM:=bP [1] Proofs.Tryz.f134
def akU:=aA IM 0
def akV:=aA IM 1
def akW:=aA IM 2
def Cb:=aA IM 3
def WY:aC:=(sq akU (sq akV (sq akW (sq Cb .ret))))
def gone:bA:=⟨1,23,WY,[.tmp 2]⟩
def rI:=bP [] Proofs.Tryz.f90
def R0:=aA rI 0
def R1:=aA rI 1
def R2:=aA rI 2
def R3:=aA rI 3
def R4:=aA rI 4
def R5:=aA rI 5
def R6:=aA rI 6
def Rz:aC:=(gJ R2 10 0 R6 (sq R3 (sq R4 (.cond (Tm 16) (sq R5 .ret) .skip))))
def R7:=aA rI 7
def PD:aC:=(sq R0 (.seq (cL R1 0 Rz) (sq R7 .ret)))
def awC:bA:=⟨2,18,PD,[.tmp 4]⟩
def rJ:=bP [] Proofs.Tryz.f131
def R9:=aA rJ 0
def Sa:=aA rJ 1
def Sb:=aA rJ 2
def Sd:=aA rJ 3
def Se:=aA rJ 4
def Sf:=aA rJ 5
def Sg:=aA rJ 6
def R8:aC:=(gJ Sb 10 0 Sg (sq Sd (sq Se (.cond (Tm 16) (sq Sf .ret) .skip))))
def Sh:=aA rJ 7
def PE:aC:=(sq R9 (.seq (cL Sa 0 R8) (sq Sh .ret)))
def awD:bA:=⟨2,18,PE,[.tmp 4]⟩
def rH:=bP [] Proofs.Tryz.f129
def Rr:=aA rH 0
def Rs:=aA rH 1
def Rt:=aA rH 2
def Ru:=aA rH 3
def Rv:=aA rH 4
def Rw:=aA rH 5
def Rx:=aA rH 6
def Rq:aC:=(gJ Rt 10 0 Rx (sq Ru (sq Rv (.cond (Tm 16) (sq Rw .ret) .skip))))
def Ry:=aA rH 7
def PC:aC:=(sq Rr (.seq (cL Rs 0 Rq) (sq Ry .ret)))
def awB:bA:=⟨2,18,PC,[.tmp 4]⟩
def fj:=bP [] Proofs.Tryz.f130
def Fi:=aA fj 0
def Fj:=aA fj 1
def KB:aC:=(sq Fi (sq Fj .ret))
def Sl:bA:=⟨1,4,KB,[.tmp 2]⟩
def jQ:=bP [1] Proofs.Tryz.f94
def Sm:=aA jQ 0
def Sn:=aA jQ 1
def So:=aA jQ 2
def Sp:=aA jQ 3
def Sr:=aA jQ 4
def kj:=aA jQ 5
def Ss:=aA jQ 6
def kk:=aA jQ 7
def kn:=aA jQ 8
def St:=aA jQ 9
def Fl:=aA jQ 10
def WS:=aA jQ 11
def IK:=aA jQ 12
def II:aC:=(gJ St 45 4 IK (sq Fl (.region WS)))
def WT:=aA jQ 13
def IJ:aC:=(gJ kj 21 2 WT (sq Ss (sq kk (cL kn 4 II))))
def Fm:=aA jQ 14
def Fk:aC:=(dS Sp 15 0 Fm (cL Sr 2 IJ))
def Fo:=aA jQ 15
def PG:aC:=(sq Sm (sq Sn (.seq (cL So 0 Fk) (sq Fo .ret))))
def awH:bA:=⟨1,70,PG,[.tmp 2]⟩
def lI:=bP [1] Proofs.Tryz.f60
def akH:=aA lI 0
def akI:=aA lI 1
def akJ:=aA lI 2
def FN:=aA lI 3
def akK:=aA lI 4
def akL:=aA lI 5
def akM:=aA lI 6
def akN:=aA lI 7
def cn:=aA lI 8
def akO:=aA lI 9
def Sv:aC:=(gJ akL 48 0 akO (sq akM (sq akN (.cond (Tm 67) (sq cn .ret) .skip))))
def ko:=aA lI 10
def PI:=aA lI 11
def PJ:=aA lI 12
def AQ:=aA lI 13
def WU:aC:=(sq akH (sq akI (dN akJ 43 FN (.seq (cL akK 0 Sv) (sq ko (sq PI (sq PJ (sq AQ .ret))))))))
def aIB:bA:=⟨1,95,WU,[.tmp 2]⟩
def oC:=bP [] Proofs.Tryz.f62
def Ta:=aA oC 0
def Tb:=aA oC 1
def Tc:=aA oC 2
def Td:=aA oC 3
def Te:=aA oC 4
def Tf:=aA oC 5
def kr:=aA oC 6
def Tg:=aA oC 7
def Th:=aA oC 8
def S9:aC:=(gJ Td 10 0 Th (sq Te (dN Tf 20 kr (.region Tg))))
def Fr:=aA oC 9
def PO:aC:=(sq Ta (sq Tb (.seq (cL Tc 0 S9) (sq Fr .ret))))
def awN:bA:=⟨1,24,PO,[.tmp 2]⟩
def mJ:=bP [1] Proofs.Tryz.f59
def B9:=aA mJ 0
def Ca:=aA mJ 1
def akB:=aA mJ 2
def akC:=aA mJ 3
def FL:=aA mJ 4
def AP:=aA mJ 5
def akD:=aA mJ 6
def akE:=aA mJ 7
def akF:=aA mJ 8
def akG:=bY mJ 0
def AO:=aA mJ 9
def Sj:=aA mJ 10
def Si:aC:=(gJ akE 48 0 Sj (sq akF (dq akG (.cond (Tm 87) (sq AO .ret) .skip))))
def Sk:=aA mJ 11
def IH:aC:=(sq B9 (dN Ca 9 akB (sq akC (dN FL 42 AP (.seq (cL akD 0 Si) (sq Sk .ret))))))
def awF:bA:=⟨1,89,IH,[.tmp 2]⟩
def ud:=bP [] Proofs.Tryz.f132
def Sw:=aA ud 0
def Sx:=aA ud 1
def PK:aC:=(sq Sw (sq Sx .ret))
def awJ:bA:=⟨1,5,PK,[.tmp 2]⟩
def IL:=bP [7] Proofs.Tryz.f95
def akR:=aA IL 0
def akS:=aA IL 1
def FO:=aA IL 2
def akT:=aA IL 3
def WX:aC:=(sq akR (dN akS 36 FO (sq akT .ret)))
def aID:bA:=⟨4,39,WX,[.tmp 8]⟩
def fk:=bP [1] Proofs.Tryz.f133
def Fp:=aA fk 0
def Fq:=aA fk 1
def KC:aC:=(sq Fp (sq Fq .ret))
def S1:bA:=⟨1,9,KC,[.tmp 2]⟩
def ue:=bP [6,7] Proofs.Tryz.f96
def S3:=aA ue 0
def S4:=aA ue 1
def PL:aC:=(sq S3 (sq S4 .ret))
def awK:bA:=⟨4,30,PL,[.tmp 8]⟩
def nK:=bP [2] Proofs.Tryz.f61
def akX:=aA nK 0
def akY:=aA nK 1
def cu:=aA nK 2
def akZ:=aA nK 3
def alA:=aA nK 4
def alB:=aA nK 5
def alC:=aA nK 6
def alD:=aA nK 7
def Cc:=aA nK 8
def alE:=aA nK 9
def Sz:=aA nK 10
def Sy:aC:=(gJ alB 42 0 Sz (sq alC (dN alD 55 Cc (.region alE))))
def S0:=aA nK 11
def WZ:aC:=(sq akX (dN akY 35 cu (sq akZ (.seq (cL alA 0 Sy) (sq S0 .ret)))))
def aIF:bA:=⟨2,60,WZ,[.tmp 4]⟩
def dD:=bP [1,76,94,128,141,183,204] Proofs.Tryz.f31
def alF:=aA dD 0
def alG:=aA dD 1
def vL:=aA dD 2
def alH:=aA dD 3
def alI:=aA dD 4
def Cd:=aA dD 5
def alJ:=aA dD 6
def alK:=aA dD 7
def alL:=aA dD 8
def Ce:=aA dD 9
def ku:=aA dD 10
def PP:aC:=(gJ alJ 70 0 ku (sq alK (sq alL (.region Ce))))
def kw:=aA dD 11
def Ti:=aA dD 12
def Tj:=aA dD 13
def Tk:=aA dD 14
def kx:=aA dD 15
def GW:=aA dD 16
def PQ:aC:=(gJ Ti 88 2 GW (sq Tj (sq Tk (.region kx))))
def ky:=aA dD 17
def Tl:=aA dD 18
def Tn:=aA dD 19
def To:=aA dD 20
def Tq:=aA dD 21
def PR:aC:=(gJ Tl 122 4 Tq (sq Tn (.region To)))
def kz:=aA dD 22
def Tr:=aA dD 23
def Ts:=aA dD 24
def Tt:=aA dD 25
def k6:=aA dD 26
def AR:=aA dD 27
def PS:aC:=(gJ Tr 135 6 AR (sq Ts (sq Tt (.region k6))))
def k7:=aA dD 28
def Tu:=aA dD 29
def Tv:=aA dD 30
def Tw:=aA dD 31
def lf:=aA dD 32
def lg:=aA dD 33
def PT:aC:=(gJ Tu 177 8 lg (sq Tv (sq Tw (.region lf))))
def lh:=aA dD 34
def Tx:=aA dD 35
def Tz:=aA dD 36
def T0:=aA dD 37
def lj:=aA dD 38
def lk:=aA dD 39
def PU:aC:=(gJ Tx 198 10 lk (sq Tz (sq T0 (.region lj))))
def GX:=aA dD 40
def tA:=aA dD 41
def PW:=aA dD 42
def XA:aC:=(sq alF (dN alG 65 vL (sq alH (sq alI (.seq (cL Cd 0 PP) (.seq (cL kw 2 PQ) (.seq (cL ky 4 PR) (.seq (cL kz 6 PS) (.seq (cL k7 8 PT) (.seq (cL lh 10 PU) (dN GX 243 tA (sq PW .ret))))))))))))
def aIJ:bA:=⟨1,244,XA,[.tmp 2]⟩
@[go_sem] theorem aVY(a b:List UInt8):VT .eql a b=some (.bool (a==b)):=(rfl)
@[go_sem] theorem aVZ(a b:List UInt8):VT .neq a b=some (.bool !(a==b)):=(rfl)
@[go_sem] theorem avC(a b:List UInt8):VT .add a b=if((Z' a+Z' b:Nat):Int)>9223372036854775807 then none else some (.str (a++b)):=(rfl)
@[go_sem] theorem aSI:(([]:List UInt8)==[])=true:=(rfl)
@[go_sem] theorem aNY(c:UInt8)(t:List UInt8):((c::t)==[])=false:=(rfl)
theorem vI{a b:List UInt8}(h:a=b):(a==b)=true:=by simp[h]
theorem sn{a b:List UInt8}(h:a≠b):(a==b)=false:=by simp[h]
section
variable {C:Ctx} {F:PF} {H:PH}
theorem tX{name o s:Nat}{rs:List (List PV)}{vs:List PV}{v:PV}{args:List aR}{d:Option Nat}{K:PF→PH→Prop}(h:aJ C name vs .nil (aK v))(l:H o=some (.rows s rs))
  (j:aR.evs (F.frz o s rs) args=some vs) (e:K ((F.frz o s rs).put d v) (H.frz o s rs)):jX C name args [] d K F H:=by
 refine .inr ⟨_,_,.step o l (.refl _ _),vs,.nil,aK v,?_,a_,h,?_⟩
 ·rw[j];simp
 ·rintro r H' ⟨rfl,rfl⟩ -;rw[PH.qK];exact e
theorem lN.trans{e j l:PF}{u H2 w:PH}(h:lN e u j H2)(k:lN j H2 l w):lN e u l w:=by
 induction h with
 |refl=>exact k
 |step o x h y=>exact .step o x (y k)
theorem wG{c:aC}{K:cP}{s:Nat}{v:PV}{rows:List (List PV)}(N:cZ H s v rows)
  (h:∀l,Seen s l rows→∀e w,(∀t,F t=some v→e t=some l)→(∀i u,F i=some u→Pure u→e i=some u)→aC.wp C (.loop c) K e w):aC.wp C (.loop c) K F H:=by
 obtain⟨l,O,M⟩:=N.frz;obtain⟨e,w,R,I,J⟩:=M F;obtain⟨α,A,Hs,B,m,E,y,H2,x,j⟩:=h l O e w I J;exact⟨α,A,Hs,B,m,E,y,H2,R.trans x,j⟩
theorem aJ.ayS{name s:Nat}{v:PV}{rows:List (List PV)}{H0:PH}{R:PV→PH→Prop}(h:aJ C name [.sl s rows] H0 R)(l:Seen s v rows):aJ C name [v] H0 R:=by
 rcases l with⟨rfl,rfl⟩|rfl
 ·refine h.args ⟨rfl,λj p q e hq=>?_⟩;cases j with
  |zero=>simp at e hq;subst e;subst hq;exact .nil s
  |succ j=>simp at e
 ·exact h
theorem cZ.fresh{s:Nat}{v:PV}{rows:List (List PV)}{o:Nat}(h:cZ H s v rows)(u:H o=none)(x:cD):cZ (H.set o x) s v rows∧∀l,v≠.osl o s 0 l:=by
 refine⟨h.ext λq y hq=>?_,λl e=>?_⟩
 ·have:q≠o:=by rintro rfl;rw[u]at hq;cases hq
  simp only[aU,aG this,hq]
 ·rcases h with⟨_,j⟩|⟨q,rs,h1,j,_⟩
  ·rw[j]at e;cases e
  ·rw[h1]at e;injection e with w
   subst w;rw[u]at j;cases j
theorem sC{s b:Nat}{v:PV}{rows:List (List PV)}{r:List PV}{o:Nat}{x:cD}{K:PV→PH→Prop}(h:cZ H s v rows)(w:H o=none)(A:roomFor rows.length 1 b)
  (u:∀v' H',cZ H' s v' (rows++[r])→H' o=some x→K v' H'):pC (H.set o x) s b v (.sl s [r]) K:=by
 obtain⟨e,j⟩:=h.fresh w x;refine lO (src:=[r]) e (by simp[fY]) A λv' H' l y=>u v' H' l (y o x (by simp only[aU,if_true]) j)
theorem yA{o s k:Nat}{rs:List (List PV)}(e:k≤Z' rs):PV.frz o s rs (.osl o s 0 k)=.sl s (rs.take k):=by
 have:0+k≤Z' rs:=Om;simp only[PV.frz,PV.uO,PV.cT,if_true,true_and,aL this,a5J]
end
def iW(n:Nat):Bool:=decide (97≤n)&&decide (n≤122)||decide (65≤n)&&decide (n≤90)
def rD(n:Nat):Bool:=decide (48≤n)&&decide (n≤57)
def jU(n:Nat):Bool:=iW n||rD n||decide (n=45)||decide (n=46)
theorem axC{C:Ctx}(n:Nat):qH.wp C (aV cx.res (aK (.bool (iW n)))) (PF.args [.int .u8 n]) .nil:=by
 have fin:∀(F:PF)(b:Bool),F 2=some (.bool b)→b=iW n→aV cx.res (aK (.bool (iW n))) .ret F .nil:=by intro F b h e;subst e;refine aT (.inr rfl) (vs:=[.bool (iW n)]) (by simp only[go_sem,cx,h]) rfl
 unfold iW at *
 by_cases a:97≤n
 ·have j:(n:Int)≥97:=Om;by_cases b:n≤122
  ·have u:(n:Int)≤122:=Om;simp only[go_sem,qH,vN,vO,j,u];exact fin _ _ rfl (by simp[a,b])
  ·have u:¬(n:Int)≤122:=Om;by_cases c:65≤n
   ·have l:(n:Int)≥65:=Om;have d:¬(n:Int)≤90:=Om;simp only[go_sem,qH,vN,vO,j,u,l,d];exact fin _ _ rfl (by simp[a,b,c];omega)
   ·omega
 ·have j:¬(n:Int)≥97:=Om;by_cases c:65≤n
  ·have l:(n:Int)≥65:=Om;by_cases d:n≤90
   ·have w:(n:Int)≤90:=Om;simp only[go_sem,qH,vN,vO,j,l,w];exact fin _ _ rfl (by simp[a,c,d])
   ·have w:¬(n:Int)≤90:=Om;simp only[go_sem,qH,vN,vO,j,l,w];exact fin _ _ rfl (by simp[a,c,d])
  ·have l:¬(n:Int)≥65:=Om;simp only[go_sem,qH,vN,vO,j,l];exact fin _ _ rfl (by simp[a,c])
theorem aCA{C:Ctx}(n:Nat):wQ.wp C (aV ul.res (aK (.bool (rD n)))) (PF.args [.int .u8 n]) .nil:=by
 have fin:∀(F:PF)(b:Bool),F 2=some (.bool b)→b=rD n→aV ul.res (aK (.bool (rD n))) .ret F .nil:=by intro F b h e;subst e;refine aT (.inr rfl) (vs:=[.bool (rD n)]) (by simp only[go_sem,ul,h]) rfl
 unfold rD at *
 by_cases a:48≤n
 ·have j:(n:Int)≥48:=Om;by_cases b:n≤57
  ·have l:(n:Int)≤57:=Om;simp only[go_sem,wQ,IN,IP,j,l];exact fin _ _ rfl (by simp[a,b])
  ·have l:¬(n:Int)≤57:=Om;simp only[go_sem,wQ,IN,IP,j,l];exact fin _ _ rfl (by simp[a,b])
 ·have j:¬(n:Int)≥48:=Om;simp only[go_sem,wQ,IN,IP,j];exact fin _ _ rfl (by simp[a])
theorem aCE{C:Ctx}(u:∀n:Nat,aJ C 126 [.int .u8 n] .nil (aK (.bool (iW n))))(w:∀n:Nat,aJ C 124 [.int .u8 n] .nil (aK (.bool (rD n))))(n:Nat) :
  KE.wp C (aV uo.res (aK (.bool (jU n)))) (PF.args [.int .u8 n]) .nil:=by
 have fin:∀(F:PF)(b:Bool),F 2=some (.bool b)→b=jU n→aV uo.res (aK (.bool (jU n))) .ret F .nil:=by intro F b h e;subst e;refine aT (.inr rfl) (vs:=[.bool (jU n)]) (by simp only[go_sem,uo,h]) rfl
 simp only[go_sem,KE,F8,F9];refine aB (u n) rfl ?_;cases l:iW n with
 |true =>simp only[go_sem];exact fin _ _ rfl (by simp[jU,l])
 |false=>
  simp only[go_sem];refine aB (w n) rfl ?_;cases j:rD n with
  |true =>simp only[go_sem];exact fin _ _ rfl (by simp[jU,j])
  |false=>
   by_cases c:n=45
   ·simp only[go_sem,cA (Om:(n:Int)=45)];exact fin _ _ rfl (by simp[jU,c])
   ·by_cases d:n=46
    ·simp only[go_sem,bJ (Om:(n:Int)≠45),cA (Om:(n:Int)=46)];exact fin _ _ rfl (by simp[jU,d])
    ·simp only[go_sem,bJ (Om:(n:Int)≠45),bJ (Om:(n:Int)≠46)];exact fin _ _ rfl (by simp[jU,c,d,l,j])
def isName(s:List UInt8):Bool:=match s with
 |[]=>false
 |c::_=>decide (Z' s≤16)&&iW c.toNat&&s.all λc=>jU c.toNat
theorem uF{α:Type}{p:α→Bool}{l:List α}{k:Nat}(e:k<Z' l)(h:(l.take k).all p=true)(j:p l[k]=true):(l.take (k+1)).all p=true:=by
 rw[a5W e,List.all_append,h];simp[j]
theorem uG{α:Type}{p:α→Bool}{l:List α}{k:Nat}(e:k<Z' l)(j:p l[k]=false):l.all p=false:=by
 rw[List.all_eq_false];exact⟨l[k],a3Y e,by simp[j]⟩
def Ud(s:List UInt8)(k:Nat):PF:=((PF.nil.set 0 (.str s)).set 3 (.int .i64 k))
theorem aIU{C:Ctx}(B:∀n:Nat,aJ C 126 [.int .u8 n] .nil (aK (.bool (iW n))))(E:∀n:Nat,aJ C 125 [.int .u8 n] .nil (aK (.bool (jU n))))(s:List UInt8) :
  zC.wp C (aV Nu.res (aK (.bool (isName s)))) (PF.args [.str s]) .nil:=by
 have fin:∀(F:PF)(b:Bool),F 2=some (.bool b)→b=isName s→aV Nu.res (aK (.bool (isName s))) .ret F .nil:=by intro F b h e;subst e;refine aT (.inr rfl) (vs:=[.bool (isName s)]) (by simp only[go_sem,Nu,h]) rfl
 cases s with
 |nil =>simp only[go_sem,zC,QC,QD,QE];exact fin _ _ rfl rfl
 |cons c t=>
  have J:(c::t)[0]?=some c:=rfl;have w:(c::t==[])=false:=rfl;have u:isName (c::t)=(decide ((c::t).length≤16)&&iW c.toNat&&(c::t).all λc=>jU c.toNat):=rfl;generalize c::t=s at *
  by_cases A:Z' s≤16
  ·have l:¬(Z' s:Int)>16:=Om;rw[cB A,a4K]at u;simp only[go_sem,zC,QC,QD,w,l,J,a5B];refine aB (B c.toNat) rfl ?_;cases y:iW c.toNat with
   |false =>simp only[go_sem,a4O,QE];exact fin _ _ rfl (by rw[u,y];rfl)
   |true=>
    rw[y,a4K]at u;simp only[go_sem,a4H,Uf];refine wp_loop (α:=Nat) (λk=>Ud s k) (λ_=>.nil) (λk=>k≤Z' s∧(s.take k).all (λc=>jU c.toNat)=true) (λk=>Z' s-k) 0 ⟨a4A _,rfl⟩ ?_ a_ ?_
    ·unfold Ud;exact Lq
    rintro k ⟨K,x⟩;simp only[go_sem,Ue,Ug,Ud];by_cases hlt:k<Z' s
    ·have j:(k:Int)<(Z' s:Nat):=Om;have I:s[k]?=some s[k]:=a4C hlt;simp only[go_sem,j,Uh,I,a5B];refine aB (E (s[k]).toNat) rfl ?_;cases hi:jU (s[k]).toNat with
     |false =>simp only[go_sem,a4O,Ui];refine fin _ false rfl ?_;rw[u,uG hlt hi]
     |true =>simp only[go_sem,a4H,Uj,wZz k];refine aH (k+1) ⟨hlt,a4T.1 (uF hlt x hi)⟩ Om ?_ a_;exact Lq
    ·have j:¬(k:Int)<(Z' s:Nat):=Om;simp only[go_sem,j,Uk];have:k=Z' s:=Om;subst this;rw[a4N (a4B _)]at x;exact fin _ true rfl (by rw[u,x])
  ·have l:(Z' s:Int)>16:=Om;simp only[go_sem,zC,QC,QD,QE,w,l];exact fin _ _ rfl (by rw[u,cF A];rfl)
abbrev eP(x:Int):Prop:=-9223372036854775808≤x∧x≤9223372036854775807
structure dJ where
 name:List UInt8
 start:List RF
 a2L:List (List RF)
 exit:List RF
structure dZ where
 name:List UInt8
 a2X:Int
 port:Int
 law:Int
structure dM where
 name:List UInt8
 level:Int
 parent:Int
 a3B:Int
 a2W:RF
structure eS where
 name:List UInt8
 model:Int
 machine:Int
structure eG where
 name:List UInt8
 k:Int
 m:Int
 a3F:Int
 s0:Int
 s1:Int
 s2:Int
 s3:Int
 s4:Int
 a2H:List Int
 repair:List RF
 target:RF
 a2R:RF
structure hC where
 name:List UInt8
 a2T:Int
structure aD where
 a3M:Int
 a2O:List dJ
 a2H:List dZ
 a2J:List dM
 a2G:List eS
 a2K:List eG
 a2I:List hC
abbrev ayR(l:List (List RF)):PV:=.sl 1 (l.map λr=>[frs r])
abbrev dJ.cells(x:dJ):List PV:=[.str x.name,frs x.start,ayR x.a2L,frs x.exit]
abbrev dZ.cells(x:dZ):List PV:=[.str x.name,.int .i64 x.a2X,.int .i64 x.port,.int .i64 x.law]
abbrev dM.cells(x:dM):List PV:=[.str x.name,.int .i64 x.level,.int .i64 x.parent,.int .i64 x.a3B,.bool x.a2W.neg,aO x.a2W.num,aO x.a2W.den]
abbrev eS.cells(x:eS):List PV:=[.str x.name,.int .i64 x.model,.int .i64 x.machine]
abbrev eG.cells(x:eG):List PV:=[.str x.name,.int .i64 x.k,.int .i64 x.m,.int .i64 x.a3F,.int .i64 x.s0,.int .i64 x.s1,.int .i64 x.s2,.int .i64 x.s3,.int .i64 x.s4,ints x.a2H,frs x.repair,
 .bool x.target.neg,aO x.target.num,aO x.target.den,.bool x.a2R.neg,aO x.a2R.num,aO x.a2R.den]
abbrev hC.cells(x:hC):List PV:=[.str x.name,.int .i64 x.a2T]
abbrev aD.cells(f:aD):List PV:=[.int .i64 f.a3M,.sl 4 (f.a2O.map dJ.cells),.sl 4 (f.a2H.map dZ.cells),.sl 7 (f.a2J.map dM.cells),.sl 3 (f.a2G.map eS.cells),.sl 17 (f.a2K.map eG.cells),.sl 2 (f.a2I.map hC.cells)]
def eG.spread(p:eG)(level:Nat):Int:=match level with
 |0=>p.s0
 |1=>p.s1
 |2=>p.s2
 |3=>p.s3
 |_=>p.s4
abbrev Fits{α:Type}(l:List α):Prop:=Z' l≤9223372036854775807
structure nY(l:List RF):Prop where
 fits:Fits l
 all:∀x∈l,x.Ok
structure dJ.Ok(x:dJ):Prop where
 start:nY x.start
 exit:nY x.exit
 a2L:Fits x.a2L
 row:∀r∈x.a2L,nY r
structure eG.Ok(x:eG):Prop where
 k:eP x.k
 m:eP x.m
 a3F:eP x.a3F
 a2H:Fits x.a2H
 each:∀m∈x.a2H,eP m
 repair:nY x.repair
 target:x.target.Ok
 a2R:x.a2R.Ok
structure aD.Ok(f:aD):Prop where
 a2O:Fits f.a2O
 a2H:Fits f.a2H
 a2J:Fits f.a2J
 a2G:Fits f.a2G
 a2K:Fits f.a2K
 a2I:Fits f.a2I
 law:∀x∈f.a2O,x.Ok
 dom:∀x∈f.a2J,x.a2W.Ok∧eP x.level∧eP x.parent
 drive:∀x∈f.a2G,eP x.model∧eP x.machine
 a2T:∀x∈f.a2K,x.Ok
 volume:∀x∈f.a2I,eP x.a2T
def tY(x:RF):FR:=if eF (val x.num) (val x.den)then mH x.neg (val x.num) (val x.den)else .error 1
theorem ayM(x:RF):dj x.neg (val x.num) (val x.den)=frV (tY x):=by
 unfold dj tY;split
 ·exact Cj _ _ _
 ·rfl
def eC(x:RF):Bool:=match tY x with
 | .ok (n,a,b)=>!n&&(decide (dV a≤32)&&decide (dV b≤32))
 | .error _=>false
def bV(x:RF):Bool:=decide (val x.num≠0)
def DB(x:RF):Bool:=eF (val x.num) (val x.den)&&decide (uT x.neg (val x.num) (val x.den) false 1 1≤0)
def within(n lo hi:Int):Bool:=decide (lo≤n)&&decide (n≤hi)
def dT(R:List Bool)(i:Nat)(row:List RF):Nat→List Bool
 |0=>R
 |k+1=>let e:=dT R i row k
  e.set i (e.getD i false||(row.map bV).getD k false&&e.getD k false)
def oW(l:dJ)(R:List Bool)(i:Nat):List Bool:=
 dT (R.set i (R.getD i false||(l.exit.map bV).getD i false)) i (l.a2L.getD i []) (l.a2L.getD i []).length
def eH(l:dJ)(R:List Bool):Nat→List Bool
 |0=>R
 |i+1=>oW l (eH l R i) i
def eJ(l:dJ):Nat→List Bool
 |0=>a3W l.exit.length false
 |r+1=>eH l (eJ l r) l.exit.length
def tZ(l:dJ):Bool:=(eJ l (Z' l.exit+1)).all id
def oK(l:dJ):Bool:=
 within l.start.length 1 4&&decide (Z' l.exit=Z' l.start)&&decide (Z' l.a2L=Z' l.start)&&l.start.all eC&&l.exit.all eC
 && (a3U l.a2L.length).all (λi=>decide ((l.a2L.getD i []).length=Z' l.start)&&(l.a2L.getD i []).all eC&&!((l.a2L.getD i []).map bV).getD i false)
 && (match sN (l.start.map RF.v)with
  | .ok (n,a,b)=>decide (uT n a b false 1 1=0)
  | .error _=>false)&&tZ l
def distinct(l:List (List UInt8)):Bool:=(a3U l.length).all λi=>isName (l.getD i [])&&!(l.take i).contains (l.getD i [])
def ON(f:aD)(i:Nat)(d:dM):Bool:=
 within d.parent 0 i&&decide ((f.a2J.map dM.level).getD d.parent.toNat 0=IntKind.i64.wrap (d.level-1))&&within d.level 1 4&&within d.a3B 1 64&&eC d.a2W
def IB(f:aD)(r:dM)(t:List dM):Bool:=
 decide (r.name=[])&&decide (r.level=0)&&decide (r.parent=-1)&&decide (r.a3B=0)&&eC r.a2W&&!bV r.a2W
  && (a3U t.length).all λi=>match t[i]? with
   |some d=>ON f i d
   |none=>false
def sX(f:aD):Bool:=match f.a2J with
 |[]=>false
 |r::t=>IB f r t
def RQ(p:eG):Bool:=
 within p.k 1 6&&within p.m 0 4&&decide (p.k+p.m≤8)&&within p.a3F p.k (p.k+p.m)&&decide (p.s0=0)&&([p.s0,p.s1,p.s2,p.s3,p.s4].all λn=>within n 0 8)
def IZ(p:eG):Bool:=
 decide ((Z' p.repair:Int)=max p.m 1)&&(p.repair.all λx=>eC x&&bV x)&&eC p.target&&DB p.target&&eC p.a2R
def mY(a2H:Nat)(p:eG):Bool:=
 RQ p&&decide (Z' p.a2H≠0)&&IZ p&&(a3U p.a2H.length).all λj=>within (p.a2H.getD j 0) 0 ((a2H:Int)-1)&&!(p.a2H.take j).contains (p.a2H.getD j 0)
def oN(f:aD)(m:dZ):Bool:=within m.a2X 1 16&&within m.port 1 64&&within m.law 0 ((Z' f.a2O:Int)-1)
def mI(f:aD)(d:eS):Bool:=within d.model 0 ((Z' f.a2H:Int)-1)&&within d.machine 0 ((Z' f.a2J:Int)-1)&&decide ((f.a2J.map dM.level).getD d.machine.toNat 0=4)
def tI(f:aD)(v:hC):Bool:=within v.a2T 0 ((Z' f.a2K:Int)-1)
def sL(f:aD):Bool:=within f.a3M 1 4&&decide (Z' f.a2O≤4)&&decide (Z' f.a2H≤4)&&decide (Z' f.a2J≤40)&&decide (Z' f.a2G≤24)&&decide (Z' f.a2K≤4)&&decide (Z' f.a2I≤12)
def dX(f:aD):Bool:=
 sL f&&sX f&&(f.a2O.all oK&&f.a2H.all (oN f)&&f.a2G.all (mI f)&&f.a2K.all (mY f.a2H.length)&&f.a2I.all (tI f))
 && (distinct (f.a2O.map dJ.name)&&distinct (f.a2H.map dZ.name)&&distinct ((f.a2J.drop 1).map dM.name++f.a2G.map eS.name)&&distinct (f.a2K.map eG.name)&&distinct (f.a2I.map hC.name))
theorem bM{t:Nat}{b j:Bool}{F:PF}{H:PH}(h:F t=some (.bool b))(e:b=j):aV [.tmp t] (cY (.bool j)) .ret F H:=by
 subst e;exact bD (.inr rfl) .nil (vs:=[.bool b]) (by rw[oY,sJ,h,tU]) a_ ⟨.refl _,rfl⟩
theorem aTJ{C:Ctx}(n lo hi:Int):GR.wp C (aV gin.res (cY (.bool (within n lo hi)))) (PF.args [.int .i64 n,.int .i64 lo,.int .i64 hi]) .nil:=by
 by_cases a:lo≤n
 ·by_cases b:n≤hi
  ·simp only[go_sem,GR,t8,uc,gin,show n≥lo from a,b];exact bM Ev (by simp[within,a,b])
  ·simp only[go_sem,GR,t8,uc,gin,show n≥lo from a,b];exact bM Ev (by simp[within,a,b])
 ·have e:¬n≥lo:=a;simp only[go_sem,GR,t8,uc,gin,e];exact bM Ev (by simp[within,a])
theorem aBT{C:Ctx}(L:yQ C)(x:RF)(e:x.Ok):JZ.wp C (aV Rp.res (cY (.bool (bV x)))) (PF.args [.agg x.cells]) .nil:=by
 simp only[go_sem,JZ,Fg,Fh,Rp];refine aB (L.bits x.num e.1 e.2.2.1) Ev ?_;simp only[go_sem];refine bM Ev ?_;have:=@oG (val x.num);rw[bV,decide_eq_decide];omega
structure No(C:Ctx):Prop extends OD C where
 frac:∀n d:Int,eP n→eP d→aJ C 115 [.int .i64 n,.int .i64 d] .nil (aK (ut n d))
 red:∀x:RF,x.Ok→aJ C 116 [.agg x.cells] .nil (aK (frV (tY x)))
 ord:∀x y:RF,x.Ok→y.Ok→aJ C 114 [.agg x.cells,.agg y.cells] .nil (aK (ID x.neg (val x.num) (val x.den) y.neg (val y.num) (val y.den)))
 plus:∀x y:RF,x.Ok→y.Ok→aJ C 113 [.agg x.cells,.agg y.cells] .nil (aK (frV (lC x.v y.v)))
 tot:∀l:List RF,nY l→aJ C 117 [frs l] .nil (aK (frV (sN (l.map RF.v))))
theorem QF{neg:Bool}{a b:Nat}{e:Int}(h:mH neg a b=.error e):e=2:=by
 unfold mH at h;split at h
 ·injection h with h;exact h.symm
 ·cases h
theorem Zr{x:RF}{e:Int}(h:tY x=.error e):e≠0:=by
 unfold tY at h;split at h
 ·rw[QF h];decide
 ·injection h with h;subst h;decide
theorem aRB{x:RF}{r:FV}(h:tY x=.ok r):r.rf.Ok:=by
 unfold tY at h;split at h
 ·exact(zD h).2
 ·cases h
theorem aOY{C:Ctx}(L:No C)(x:RF)(y:x.Ok):WV.wp C (aV aIC.res (cY (.bool (eC x)))) (PF.args [.agg x.cells]) .nil:=by
 simp only[go_sem,WV,akP,akQ,aIC];refine aB (L.red x y) Ev ?_;unfold eC;cases u:tY x with
 |error e =>have:=bJ (Zr u);simp only[go_sem,frV];refine aQ λo w=>?_;simp only[go_sem,cq,this];exact bM Ev rfl
 |ok r=>
  obtain⟨n,a,b⟩:=r;obtain⟨A,B,E,F⟩:=aRB u;simp only[go_sem,frV];refine aQ λo w=>?_;cases n with
  |true =>simp only[go_sem,cq];exact bM Ev rfl
  |false=>
   simp only[go_sem,cq];refine aB (L.bits _ A E) Ev ?_;rw[show val (FV.rf (false,a,b)).num=a from aY a];by_cases l:dV a≤32
   ·have j:((dV a:Nat):Int)≤32:=Om;simp only[go_sem,j];refine aB (L.bits _ B F) Ev ?_;rw[show val (FV.rf (false,a,b)).den=b from aY b];simp only[go_sem];refine bM Ev ?_;rw[cB l];simp;omega
   ·have j:¬((dV a:Nat):Int)≤32:=Om;simp only[go_sem,j];refine bM Ev ?_;rw[cF l];rfl
theorem Un:mH false 1 1=.ok (false,1,1):=by
 have:dV 1=1:=by rw[uH aX,nH]
 simp[mH,this]
theorem Ut:ut 1 1=frV (.ok (false,1,1)):=by
 rw[ut,aG aX,Cj];show frV (mH false 1 1)=_;rw[Un]
theorem aDL:(FV.rf (false,1,1)).Ok:=(zD Un).2
theorem Li:eF 1 1=true:=by
 have:dV 1=1:=by rw[uH aX,nH]
 simp[eF,this]
theorem aPA{C:Ctx}(L:No C)(x:RF)(e:x.Ok):WY.wp C (aV gone.res (cY (.bool (DB x)))) (PF.args [.agg x.cells]) .nil:=by
 simp only[go_sem,WY,akU,akV,gone];refine aB (L.frac 1 1 aX aX) Ev ?_;rw[Ut];simp only[go_sem,frV];refine aQ λo j=>?_;simp only[go_sem,akW];refine aB (L.ord x (FV.rf (false,1,1)) e aDL) Ev ?_;rw[show val (FV.rf (false,1,1)).num=1 from aY 1,show val (FV.rf (false,1,1)).den=1 from aY 1,show(FV.rf (false,1,1)).neg=false from rfl];unfold ID DB;rw[Li,a5Z];cases l:eF (val x.num) (val x.den)with
 |false =>simp only[go_sem,Cb];exact bM Ev rfl
 |true =>simp only[go_sem,Cb];exact bM Ev rfl
theorem aHX{C:Ctx}(p:RF→Bool)(fn:Nat)(l:List RF)(y:Fits l)(h:∀x∈l,aJ C fn [.agg x.cells] .nil (aK (.bool (p x)))) :
  PD.wp C (aV awC.res (cY (.bool (l.all p)))) (PF.args [frs l,.fn fn []]) .nil:=by
 simp only[go_sem,PD,R0,R1,awC];refine wp_loop (α:=Nat) (λk=>((((PF.nil.set 1 (.fn fn [])).set 7 (frs l)).set 8 (.int .i64 (Z' l:Nat))).set 9 (.int .i64 k))) (λ_=>.nil) (λk=>k≤Z' l∧(l.take k).all p=true) (λk=>Z' l-k) 0 ⟨a4A _,rfl⟩ ?_ a_ ?_
 ·(repeat' (first|exact c_|refine d_ ?_ ?_))<;>first|(simp only[go_sem,a3V]<;>rfl)|rfl
 rintro k ⟨A,j⟩;simp only[go_sem,Rz,R2];by_cases hlt:k<Z' l
 ·have e:(k:Int)<(Z' l:Nat):=Om;have w:(l.map RF.cells)[k]?=some (l[k]).cells:=by simp[hlt]
  simp only[go_sem,e,R3,w];refine aQ λo B=>?_;simp only[go_sem,R4];refine aB (h _ (a3Y hlt)) Ev ?_;cases u:p l[k]with
  |false =>simp only[go_sem,R5];exact bM (b:=false) Ev (uG (p:=p) hlt u).symm
  |true =>simp only[go_sem,R6,wZz k];refine aH (k+1) ⟨hlt,a4T.1 (uF hlt j u)⟩ Om ?_ a_;exact Lq
 ·have e:¬(k:Int)<(Z' l:Nat):=Om;simp only[go_sem,e,R7];have:k=Z' l:=Om;subst this;rw[a4N (a4B _)]at j;exact bM Ev j.symm
theorem aHY{C:Ctx}(p:Int→Bool)(fn:Nat)(l:List Int)(y:Fits l)(h:∀x∈l,aJ C fn [.int .i64 x] .nil (aK (.bool (p x)))) :
  PE.wp C (aV awD.res (cY (.bool (l.all p)))) (PF.args [ints l,.fn fn []]) .nil:=by
 simp only[go_sem,PE,R9,Sa,awD];refine wp_loop (α:=Nat) (λk=>((((PF.nil.set 1 (.fn fn [])).set 7 (ints l)).set 8 (.int .i64 (Z' l:Nat))).set 9 (.int .i64 k))) (λ_=>.nil) (λk=>k≤Z' l∧(l.take k).all p=true) (λk=>Z' l-k) 0 ⟨a4A _,rfl⟩ ?_ a_ ?_
 ·(repeat' (first|exact c_|refine d_ ?_ ?_))<;>first|(simp only[go_sem,a3V]<;>rfl)|rfl
 rintro k ⟨A,j⟩;simp only[go_sem,R8,Sb];by_cases hlt:k<Z' l
 ·have e:(k:Int)<(Z' l:Nat):=Om;have w:(l.map λn=>[PV.int .i64 n])[k]?=some [.int .i64 l[k]]:=by simp[hlt]
  simp only[go_sem,e,Sd,w,Se];refine aB (h _ (a3Y hlt)) Ev ?_;cases u:p l[k]with
  |false =>simp only[go_sem,Sf];exact bM (b:=false) Ev (uG (p:=p) hlt u).symm
  |true =>simp only[go_sem,Sg,wZz k];refine aH (k+1) ⟨hlt,a4T.1 (uF hlt j u)⟩ Om ?_ a_;exact Lq
 ·have e:¬(k:Int)<(Z' l:Nat):=Om;simp only[go_sem,e,Sh];have:k=Z' l:=Om;subst this;rw[a4N (a4B _)]at j;exact bM Ev j.symm
abbrev kC(l:List Bool):PV:=.sl 1 (l.map λb=>[PV.bool b])
theorem aHW{C:Ctx}(p:Bool→Bool)(fn:Nat)(l:List Bool)(y:Fits l)(h:∀x∈l,aJ C fn [.bool x] .nil (aK (.bool (p x)))) :
  PC.wp C (aV awB.res (cY (.bool (l.all p)))) (PF.args [kC l,.fn fn []]) .nil:=by
 simp only[go_sem,PC,Rr,Rs,awB];refine wp_loop (α:=Nat) (λk=>((((PF.nil.set 1 (.fn fn [])).set 7 (kC l)).set 8 (.int .i64 (Z' l:Nat))).set 9 (.int .i64 k))) (λ_=>.nil) (λk=>k≤Z' l∧(l.take k).all p=true) (λk=>Z' l-k) 0 ⟨a4A _,rfl⟩ ?_ a_ ?_
 ·(repeat' (first|exact c_|refine d_ ?_ ?_))<;>first|(simp only[go_sem,a3V]<;>rfl)|rfl
 rintro k ⟨A,j⟩;simp only[go_sem,Rq,Rt];by_cases hlt:k<Z' l
 ·have e:(k:Int)<(Z' l:Nat):=Om;have w:(l.map λb=>[PV.bool b])[k]?=some [.bool l[k]]:=by simp[hlt]
  simp only[go_sem,e,Ru,w,Rv];refine aB (h _ (a3Y hlt)) Ev ?_;cases u:p l[k]with
  |false =>simp only[go_sem,Rw];exact bM (b:=false) Ev (uG (p:=p) hlt u).symm
  |true =>simp only[go_sem,Rx,wZz k];refine aH (k+1) ⟨hlt,a4T.1 (uF hlt j u)⟩ Om ?_ a_;exact Lq
 ·have e:¬(k:Int)<(Z' l:Nat):=Om;simp only[go_sem,e,Ry];have:k=Z' l:=Om;subst this;rw[a4N (a4B _)]at j;exact bM Ev j.symm
theorem aBU{C:Ctx}(b:Bool):KB.wp C (aV Sl.res (cY (.bool b))) (PF.args [.bool b]) .nil:=by
 simp only[go_sem,KB,Fi,Fj,Sl];exact bM Ev rfl
theorem aIE{C:Ctx}(e:∀n lo hi:Int,aJ C 104 [.int .i64 n,.int .i64 lo,.int .i64 hi] .nil (aK (.bool (within n lo hi))))(n:Int):PK.wp C (aV awJ.res (cY (.bool (within n 0 8)))) (PF.args [.int .i64 n]) .nil:=by
 simp only[go_sem,PK,Sw,Sx,awJ];refine aB (e n 0 8) Ev ?_;simp only[go_sem];exact bM Ev rfl
theorem aBW{C:Ctx}(j:∀x:RF,x.Ok→aJ C 105 [.agg x.cells] .nil (aK (.bool (eC x))))(l:∀x:RF,x.Ok→aJ C 97 [.agg x.cells] .nil (aK (.bool (bV x))))(x:RF)(e:x.Ok) :
  KC.wp C (aV S1.res (cY (.bool (eC x&&bV x)))) (PF.args [.agg x.cells]) .nil:=by
 simp only[go_sem,KC,Fp,Fq,S1];refine aB (j x e) Ev ?_;cases u:eC x with
 |false =>simp only[go_sem];exact bM Ev rfl
 |true =>simp only[go_sem];refine aB (l x e) Ev ?_;simp only[go_sem];exact bM Ev rfl
structure yN(C:Ctx):Prop extends No C where
 inn:∀n lo hi:Int,aJ C 104 [.int .i64 n,.int .i64 lo,.int .i64 hi] .nil (aK (.bool (within n lo hi)))
 wW:∀x:RF,x.Ok→aJ C 97 [.agg x.cells] .nil (aK (.bool (bV x)))
 lim:∀x:RF,x.Ok→aJ C 105 [.agg x.cells] .nil (aK (.bool (eC x)))
 one:∀x:RF,x.Ok→aJ C 101 [.agg x.cells] .nil (aK (.bool (DB x)))
 allf:∀(p:RF→Bool)(fn:Nat)(l:List RF),Fits l→(∀x∈l,aJ C fn [.agg x.cells] .nil (aK (.bool (p x))))→aJ C 99 [frs l,.fn fn []] .nil (aK (.bool (l.all p)))
 alli:∀(p:Int→Bool)(fn:Nat)(l:List Int),Fits l→(∀x∈l,aJ C fn [.int .i64 x] .nil (aK (.bool (p x))))→aJ C 100 [ints l,.fn fn []] .nil (aK (.bool (l.all p)))
 allb:∀(p:Bool→Bool)(fn:Nat)(l:List Bool),Fits l→(∀x∈l,aJ C fn [.bool x] .nil (aK (.bool (p x))))→aJ C 98 [kC l,.fn fn []] .nil (aK (.bool (l.all p)))
 ends1:∀b:Bool,aJ C 103 [.bool b] .nil (aK (.bool b))
 num1:∀n:Int,aJ C 107 [.int .i64 n] .nil (aK (.bool (within n 0 8)))
 rate1:∀x:RF,x.Ok→aJ C 109 [.agg x.cells] .nil (aK (.bool (eC x&&bV x)))
 name:∀s:List UInt8,aJ C 123 [.str s] .nil (aK (.bool (isName s)))
theorem yN.aIT{C:Ctx}(L:yN C)(l:List RF)(h:nY l):aJ C 99 [frs l,.fn 105 []] .nil (aK (.bool (l.all eC))):=
 L.allf eC 105 l h.fits λx e=>L.lim x (h.all x e)
theorem within_iff{n lo hi:Int}:within n lo hi=true↔lo≤n∧n≤hi:=by simp[within]
theorem aOZ{C:Ctx}(L:yN C)(p:eG)(F:p.Ok) :
  WX.wp C (aV aID.res (cY (.bool (RQ p)))) (PF.args [.int .i64 p.k,.int .i64 p.m,.int .i64 p.a3F,.agg [.int .i64 p.s0,.int .i64 p.s1,.int .i64 p.s2,.int .i64 p.s3,.int .i64 p.s4]]) .nil:=by
 simp only[go_sem,WX,akR,akS,aID];refine aB (L.inn p.k 1 6) rfl ?_;unfold RQ;cases y:within p.k 1 6 with
 |false =>simp only[go_sem,a4O,FO];exact bM rfl (by simp only[a4F])
 |true=>
  obtain⟨k1,k2⟩:=within_iff.1 y;simp only[go_sem,a4H];refine aB (L.inn p.m 0 4) rfl ?_;cases A:within p.m 0 4 with
  |false =>simp only[go_sem,a4O,FO];exact bM rfl (by simp only[a4F,a5I])
  |true=>
   obtain⟨I,J⟩:=within_iff.1 A;have w:IntKind.i64.wrap (p.k+p.m)=p.k+p.m:=wrap_i64 Om Om;by_cases u:p.k+p.m≤8
   ·have e:¬p.k+p.m>8:=Om;simp only[go_sem,a4H,w,e];refine aB (L.inn p.a3F p.k (p.k+p.m)) rfl ?_;cases E:within p.a3F p.k (p.k+p.m)with
    |false =>simp only[go_sem,a4O,FO];exact bM rfl (by simp only[a4F,a5I])
    |true=>
     have j:(0:Int)<((5:Nat):Int):=by decide
     by_cases h5:p.s0=0
     ·have l:chunks 1 5 [PV.int .i64 p.s0,.int .i64 p.s1,.int .i64 p.s2,.int .i64 p.s3,.int .i64 p.s4]=([p.s0,p.s1,p.s2,p.s3,p.s4].map λn=>[PV.int .i64 n]):=rfl;have B:5≤maxLen:=by decide
      simp only[go_sem,a4H,j,bW h5,akT,l,B];refine aB (L.alli (λn=>within n 0 8) 107 [p.s0,p.s1,p.s2,p.s3,p.s4] (show 5≤9223372036854775807 by decide) λx _=>L.num1 x) rfl ?_;simp only[go_sem];exact bM rfl (by rw[cB u,cB h5];simp only[a4K])
     ·simp only[go_sem,a4H,j,cU h5,FO];exact bM rfl (by rw[cF h5];simp only[a4F,a5I])
   ·have e:p.k+p.m>8:=Om;simp only[go_sem,a4H,w,e,FO];exact bM rfl (by rw[cF u];simp only[a4F,a5I])
theorem max_eq(a b:Int):(if a<b then b else a)=max a b:=by
 rw[Int.max_def];by_cases h:a<b
 ·rw[aL h,aL Om]
 ·by_cases e:a≤b
  ·rw[aG h,aL e];omega
  ·rw[aG h,aG e]
theorem aIG{C:Ctx}(L:yN C)(p:eG)(e:p.Ok) :
  PL.wp C (aV awK.res (cY (.bool (IZ p)))) (PF.args [.int .i64 p.m,frs p.repair,.agg p.target.cells,.agg p.a2R.cells]) .nil:=by
 simp only[go_sem,PL,S3,S4,awK,max_eq,a3V];unfold IZ;by_cases j:(Z' p.repair:Int)=max p.m 1
 ·simp only[go_sem,cA j];refine aB (L.allf (λx=>eC x&&bV x) 109 p.repair e.repair.fits λx l=>L.rate1 x (e.repair.all x l)) rfl ?_;rw[cB j,a4K];cases u:p.repair.all λx=>eC x&&bV x with
  |false =>simp only[go_sem];exact bM rfl rfl
  |true=>
   simp only[go_sem];refine aB (L.lim _ e.target) rfl ?_;cases w:eC p.target with
   |false =>simp only[go_sem];exact bM rfl rfl
   |true=>
    simp only[go_sem];refine aB (L.one _ e.target) rfl ?_;cases y:DB p.target with
    |false =>simp only[go_sem];exact bM rfl rfl
    |true =>simp only[go_sem];refine aB (L.lim _ e.a2R) rfl ?_;simp only[go_sem];exact bM rfl rfl
 ·simp only[go_sem,bJ j];exact bM rfl (by rw[cF j];rfl)
def wC(l:List (List UInt8))(k:List KS):Option PV:=match k with
 |[.str s]=>if l.contains s then some (.bool true)else none
 |_=>none
theorem aER(l:List (List UInt8))(s:List UInt8):(λk=>if k=[KS.str s]then some (PV.bool true)else wC l k)=wC (l++[s]):=by
 funext k
 match k with
 |[]=>rfl
 |[.int a b]=>simp[wC]
 |[.bool a]=>simp[wC]
 |[.str t]=>
  by_cases h:t=s
  ·subst h;simp[wC]
  ·simp[wC,h]
 |a::b::c=>simp[wC]
abbrev texts(l:List (List UInt8)):PV:=.sl 1 (l.map λs=>[PV.str s])
theorem aEQ:wC []=(λ_=>none:nM):=by
 funext k
 match k with
 |[]=>rfl
 |[.int a b]=>rfl
 |[.bool a]=>rfl
 |[.str t]=>rfl
 |a::b::c=>cases a<;>rfl
theorem aES(l:List (List UInt8))(s:List UInt8):nM.upd (wC l) [KS.str s] (.bool true)=wC (l++[s]):=aER l s
theorem Z5(l:List (List UInt8))(s:List UInt8):(wC l [KS.str s]).getD (.bool false)=.bool (l.contains s):=by
 show(if l.contains s then some (PV.bool true)else none).getD (.bool false)=_;cases l.contains s<;>rfl
theorem Do{p:Nat→Bool}{k:Nat}(h:(a3U k).all p=true)(e:p k=true):(a3U (k+1)).all p=true:=by
 rw[a6N,List.all_append,h];simp[e]
theorem iY{p:Nat→Bool}{n k:Nat}(e:k<n)(j:p k=false):(a3U n).all p=false:=by
 rw[List.all_eq_false];exact⟨k,a4S.2 e,by simp[j]⟩
def wU(p:Nat→Bool)(k:Nat):Prop:=(a3U k).all p=true
theorem wU.zero{p:Nat→Bool}:wU p 0:=rfl
theorem wU.step{p:Nat→Bool}{k:Nat}(h:wU p k)(e:p k=true):wU p (k+1):=Do h e
def azK(l:List (List UInt8))(o k:Nat):PF:=((((PF.nil.set 3 (.map o)).set 7 (texts l)).set 8 (.int .i64 (Z' l:Nat))).set 9 (.int .i64 k))
theorem aII{C:Ctx}(L:yN C)(l:List (List UInt8))(F:Fits l):PO.wp C (aV awN.res (cY (.bool (distinct l)))) (PF.args [texts l]) .nil:=by
 simp only[go_sem,PO,Ta,Tb,awN];refine aQ λo J=>?_;simp only[go_sem,Tc];have A:(PH.nil.set o (.map (false,[.str]) (λ_=>none)))=PH.nil.set o (.map (false,[.str]) (wC (l.take 0))):=by rw[List.take_zero,aEQ]
 unfold distinct;generalize B:(λi=>isName (l.getD i [])&&!(l.take i).contains (l.getD i []))=p;have w:∀k (h:k<Z' l),p k=(isName l[k]&&!(l.take k).contains l[k]):=by intro k h;rw[←B];simp only[a4D,a4C h,a6R]
 refine wp_loop (α:=Nat) (λk=>azK l o k) (λk=>PH.nil.set o (.map (false,[.str]) (wC (l.take k)))) (λk=>k≤Z' l∧wU p k) (λk=>Z' l-k) 0 ⟨a4A _,.zero⟩ ?_ ?_ ?_
 ·unfold azK
  (repeat' (first|exact c_|refine d_ ?_ ?_))<;>first|(simp only[go_sem,a3V]<;>rfl)|rfl
 ·rw[A];exact b_
 rintro k ⟨I,y⟩;simp only[go_sem,S9,Td,azK];by_cases hlt:k<Z' l
 ·have j:(k:Int)<(Z' l:Nat):=Om;have E:(l.map λs=>[PV.str s])[k]?=some [.str l[k]]:=by simp[hlt]
  simp only[go_sem,j,Te,E,Tf];refine aB (L.name l[k]) rfl ?_;have e:=w k hlt;cases x:isName l[k]with
  |false =>rw[x,a4F]at e;simp only[go_sem,a4O,kr];exact bM (b:=false) rfl (iY hlt e).symm
  |true=>
   rw[x,a4K]at e;cases u:(l.take k).contains l[k]with
   |true =>rw[u]at e;simp only[go_sem,a4H,Z5,u,kr];exact bM (b:=false) rfl (iY hlt e).symm
   |false=>
    rw[u]at e;simp only[go_sem,a4H,Z5,u,Tg,aES,Th,wZz k];refine aH (k+1) ⟨hlt,y.step e⟩ Om ?_ ?_
    ·exact Lq
    ·rw[a5W hlt];exact e_ a_ Sq
 ·have j:¬(k:Int)<(Z' l:Nat):=Om;simp only[go_sem,j,Fr];have:k=Z' l:=Om;subst this;exact bM (b:=true) rfl (show wU p l.length from y).symm
def marks(n:Nat)(l:List Int):List Bool:=(a3U n).map λ(i:Nat)=>l.contains (i:Int)
theorem aCG(n:Nat)(l:List Int):(marks n l).length=n:=by simp[marks]
theorem Gf(n:Nat):marks n []=a3W n false:=by
 refine List.ext_getElem (by simp[marks]) λi e j=>by simp[marks]
theorem l6{n:Nat}{l:List Int}{m:Int}(e:0≤m)(j:m<n):(marks n l)[m.toNat]?=some (l.contains m):=by
 have:m.toNat<n:=Om;simp only[marks,a4Q,a6K this,a5B];rw[Int.toNat_of_nonneg e]
theorem Gh{n:Nat}{l:List Int}{m:Int}(j:0≤m)(u:m<n):(marks n l).set m.toNat true=marks n (l++[m]):=by
 refine List.ext_getElem (by simp[marks]) λi w x=>?_;simp only[marks,a6E,List.getElem_range,List.getElem_set,List.contains_append];by_cases h:m.toNat=i
 ·subst h;rw[aL rfl,Int.toNat_of_nonneg j];simp
 ·have e:((i:Nat):Int)≠m:=Om;rw[aG h];simp[e]
abbrev bC(l:List Bool):List (List PV):=l.map λb=>[PV.bool b]
theorem jN(l:List Bool)(i:Nat)(b:Bool):(bC l).set i [.bool b]=bC (l.set i b):=by unfold bC;rw[List.map_set]
structure Ob(C:Ctx):Prop extends yN C where
 num:∀p:eG,p.Ok→aJ C 106 [.int .i64 p.k,.int .i64 p.m,.int .i64 p.a3F,.agg [.int .i64 p.s0,.int .i64 p.s1,.int .i64 p.s2,.int .i64 p.s3,.int .i64 p.s4]] .nil (aK (.bool (RQ p)))
 rate:∀p:eG,p.Ok→aJ C 108 [.int .i64 p.m,frs p.repair,.agg p.target.cells,.agg p.a2R.cells] .nil (aK (.bool (IZ p)))
 uniq:∀l:List (List UInt8),Fits l→aJ C 110 [texts l] .nil (aK (.bool (distinct l)))
def aKK(p:eG)(a2H:Nat)(o k:Nat):PF:=(((((PF.nil.set 1 (.int .i64 a2H)).set 5 (.osl o 1 0 a2H)).set 39 (ints p.a2H)).set 40 (.int .i64 (Z' p.a2H:Nat))).set 41 (.int .i64 k))
theorem aPB{C:Ctx}(L:Ob C)(p:eG)(I:p.Ok)(a2H:Nat)(V:a2H≤4):WZ.wp C (aV aIF.res (cY (.bool (mY a2H p)))) (PF.args [.agg p.cells,.int .i64 a2H]) .nil:=by
 simp only[go_sem,WZ,akX,akY,aIF];refine aB (L.num p I) rfl ?_;unfold mY;cases x:RQ p with
 |false =>simp only[go_sem,a4O,cu];exact bM rfl (by simp only[a4F])
 |true=>
  by_cases w:Z' p.a2H=0
  ·simp only[go_sem,a4H,a3V,cA (Om:(Z' p.a2H:Int)=0),cu];refine bM rfl ?_;have:decide (Z' p.a2H≠0)=false:=by simp[w]
   rw[this];simp only[a4F,a5I]
  ·have B:decide (Z' p.a2H≠0)=true:=by simp[w]
   simp only[go_sem,a4H,a3V,bJ (Om:(Z' p.a2H:Int)≠0)];refine aB (L.rate p I) rfl ?_;rw[B];cases S:IZ p with
   |false =>simp only[go_sem,a4O,cu];exact bM rfl (by simp only[a4F,a5I])
   |true=>
    have E:((a2H:Nat):Int)*((1:Nat):Int)≤140737488355328:=Om;have F:((a2H:Nat):Int)≤9223372036854775807:=Om;simp only[a4K];simp only[go_sem,a4H,akZ,E,F];refine aQ λo W=>?_;simp only[go_sem,alA];have N:a3W a2H [PV.bool false]=bC (marks a2H (p.a2H.take 0)):=by rw[List.take_zero,Gf];simp[bC]
    rw[N];generalize hq:(λj=>within (p.a2H.getD j 0) 0 ((a2H:Int)-1)&&!(p.a2H.take j).contains (p.a2H.getD j 0))=q;have J:∀k (h:k<Z' p.a2H),q k=(within p.a2H[k] 0 ((a2H:Int)-1)&&!(p.a2H.take k).contains p.a2H[k]):=by intro k h;rw[←hq];simp only[a4D,a4C h,a6R]
    refine wp_loop (α:=Nat) (λk=>aKK p a2H o k) (λk=>PH.nil.set o (.rows 1 (bC (marks a2H (p.a2H.take k))))) (λk=>k≤Z' p.a2H∧wU q k) (λk=>Z' p.a2H-k) 0 ⟨a4A _,.zero⟩ ?_ (b_) ?_
    ·unfold aKK
     (repeat' (first|exact c_|refine d_ ?_ ?_))<;>first|(simp only[go_sem,a3V]<;>rfl)|rfl
    rintro k ⟨U,K⟩;simp only[go_sem,Sy,alB,aKK];have M:=I.a2H;by_cases hlt:k<Z' p.a2H
    ·have l:(k:Int)<(Z' p.a2H:Nat):=Om;have O:(p.a2H.map λn=>[PV.int .i64 n])[k]?=some [.int .i64 p.a2H[k]]:=by simp[hlt]
     have R:IntKind.i64.wrap ((a2H:Int)-1)=(a2H:Int)-1:=wrap_i64 Om Om;simp only[go_sem,l,alC,O,alD,R];refine aB (L.inn p.a2H[k] 0 ((a2H:Int)-1)) rfl ?_;have e:=J k hlt;cases x:within p.a2H[k] 0 ((a2H:Int)-1)with
     |false =>rw[x,a4F]at e;simp only[go_sem,a4O,Cc];exact bM (b:=false) rfl (iY hlt e).symm
     |true=>
      rw[x,a4K]at e;obtain⟨y,X⟩:=within_iff.1 x;have A:p.a2H[k]<(a2H:Nat):=Om;have u:(bC (marks a2H (p.a2H.take k)))[p.a2H[k].toNat]?=some [.bool ((p.a2H.take k).contains p.a2H[k])]:=by unfold bC;rw[a4Q,l6 y A];rfl
      cases w:(p.a2H.take k).contains p.a2H[k]with
      |true =>rw[w]at e u;simp only[go_sem,a4H,y,A,a4I,u,Cc];exact bM (b:=false) rfl (iY hlt e).symm
      |false=>
       rw[w]at e u;simp only[go_sem,a4H,y,A,a4I,u,alE,jN,Gh y A,Sz,wZz k];refine aH (k+1) ⟨hlt,K.step e⟩ Om ?_ ?_
       ·exact Lq
       ·rw[a5W hlt];exact e_ a_ Sq
    ·have l:¬(k:Int)<(Z' p.a2H:Nat):=Om;simp only[go_sem,l,S0];have:k=Z' p.a2H:=Om;subst this;exact bM (b:=true) rfl (show wU q p.a2H.length from K).symm
def aHA:PV→RF
 | .agg [.bool n,a,b]=>⟨n,mU a,mU b⟩
 |_=>⟨false,[],[]⟩
theorem avK(x:RF):aHA (.agg x.cells)=x:=by
 show(⟨x.neg,mU (aO x.num),mU (aO x.den)⟩:RF)=x;rw[gI,gI]
def flS:Spec:=λname vs=>match name,vs with
 |104,[.int _ n,.int _ lo,.int _ hi]=>some ([],λ_=>aK (.bool (within n lo hi)))
 |105,[x]=>some ([],λ_=>aK (.bool (eC (aHA x))))
 |97,[x]=>some ([],λ_=>aK (.bool (bV (aHA x))))
 |_,_=>none
theorem Py(n lo hi:Int):flS 104 [.int .i64 n,.int .i64 lo,.int .i64 hi]=some ([],λ_=>aK (.bool (within n lo hi))):=rfl
theorem aOQ(x:RF):flS 105 [.agg x.cells]=some ([],λ_=>aK (.bool (eC x))):=by
 show some _=_;rw[avK]
def awG(f:aD)(t:List dM)(k:Nat):PF:=((((PF.nil.set 1 (.bU f.cells)).set 45 (.sl 7 (t.map dM.cells))).set 46 (.int .i64 (Z' t:Nat))).set 47 (.int .i64 k))
theorem aOW{C:Ctx}(L:yN C)(f:aD)(hf:f.Ok):IH.wp C (aV awF.res (cY (.bool (sX f)))) (PF.args [.agg f.cells]) .nil:=by
 obtain⟨a3M,a2O,a2H,a2J,a2G,a2K,a2I⟩:=f;cases a2J with
 |nil =>rw[show sX ⟨a3M,a2O,a2H,[],a2G,a2K,a2I⟩=false from rfl];simp only[go_sem,IH,B9,Ca,awF,a6L,a6F];have:(((0:Nat):Int)==0)=true:=rfl;simp only[go_sem,this,akB];exact bM rfl rfl
 |cons r t=>
  generalize hF:(⟨a3M,a2O,a2H,r::t,a2G,a2K,a2I⟩:aD)=f at *
  have B:f.a2J=r::t:=by rw[←hF]
  have hP:sX f=IB f r t:=by unfold sX;rw[B]
  rw[hP];unfold IB;have j:Z' f.a2J=Z' t+1:=by rw[B];rfl
  have β:=hf.a2J;have J:(f.a2J.map dM.cells)[0]?=some r.cells:=by rw[B];rfl
  have γ:(f.a2J.map dM.cells)[Int.toNat 0]?=some r.cells:=J;have F:=hf.dom;have w:=F r (by rw[B];exact List.mem_cons_self ..);simp only[go_sem,IH,B9,Ca,awF,a3V,j,bJ (Om:((Z' t+1:Nat):Int)≠0),akC,J];refine aQ λo ho=>?_;by_cases x:r.name=[]
  ·rw[cB x];by_cases A:r.level=0
   ·rw[cB A];by_cases E:r.parent=-1
    ·rw[cB E];by_cases K:r.a3B=0
     ·rw[cB K];simp only[go_sem,FL,vI x,a4H,bW A,bW E,bW K];refine aB (L.lim r.a2W w.1) rfl ?_;cases c5:eC r.a2W with
      |false =>simp only[go_sem,a4O,AP];exact bM rfl (by simp only[a5I,a4F])
      |true=>
       simp only[go_sem,a4H];refine aB (L.wW r.a2W w.1) rfl ?_;cases c6:bV r.a2W with
       |true =>simp only[go_sem,AP];exact bM rfl (by simp only[a4H,a5I,a4F])
       |false=>
        have V:(0:Int)≤1∧(1:Int)≤((Z' t+1:Nat):Int):=Om;have y:((f.a2J.map dM.cells).take (Z' t+1)).drop (Int.toNat 1)=t.map dM.cells:=by rw[a4N (by simp[j]),B];rfl
        have u:((f.a2J.map dM.cells).take (Z' t+1)).drop 1=t.map dM.cells:=y;simp only[go_sem,akD,a3V,j,V,u,a6U];generalize hq:(λi=>match t[i]? with|some d=>ON f i d|none=>false)=q;have S:∀k (h:k<Z' t),q k=ON f k t[k]:=by intro k h;rw[←hq];simp only[a4C h]
        refine wp_loop (α:=Nat) (λk=>awG f t k) (λk=>.nil) (λk=>k≤Z' t∧wU q k) (λk=>Z' t-k) 0 ⟨a4A _,.zero⟩ ?_ a_ ?_
        ·unfold awG
         (repeat' (first|exact c_|refine d_ ?_ ?_))<;>first|(simp only[go_sem,a3V]<;>rfl)|rfl
        rintro k ⟨hk,Z⟩;simp only[go_sem,Si,akE,awG];by_cases hlt:k<Z' t
        ·have l:(k:Int)<(Z' t:Nat):=Om;have U:(t.map dM.cells)[k]?=some (t[k]).cells:=by simp[hlt]
         have O:=F t[k] (by rw[B];exact a7B _ (a3Y hlt));have e:=S k hlt;unfold ON at e;simp only[go_sem,l,akF,U];refine aQ λo2 δ=>?_;simp only[go_sem];refine aZ .nil flS a_ ?_;simp only[go_sem,akG];refine cS (Py _ 0 k) (L.inn (t[k]).parent 0 k) rfl a_ ?_;cases N:within (t[k]).parent 0 k with
         |false =>simp only[N,a4F]at e;simp only[go_sem,a4O,AO];exact bM (b:=false) rfl (iY hlt e).symm
         |true=>
          obtain⟨i1,i2⟩:=within_iff.1 N;have i3:(t[k]).parent.toNat<Z' f.a2J:=Om;have I:(f.a2J.map dM.cells)[(t[k]).parent.toNat]?=some (f.a2J[(t[k]).parent.toNat]).cells:=by simp[i3]
          have R:(f.a2J.map dM.level).getD (t[k]).parent.toNat 0=(f.a2J[(t[k]).parent.toNat]).level:=by simp[i3]
          rw[R,N,a4K]at e;by_cases M:(f.a2J[(t[k]).parent.toNat]).level=IntKind.i64.wrap ((t[k]).level-1)
          ·rw[cB M,a4K]at e;simp only[go_sem,a4H,i1,I,bW M];refine cS (Py _ 1 4) (L.inn (t[k]).level 1 4) rfl a_ ?_;cases W:within (t[k]).level 1 4 with
           |false =>simp only[W,a4F]at e;simp only[go_sem,a4O,AO];exact bM (b:=false) rfl (iY hlt e).symm
           |true=>
            rw[W,a4K]at e;simp only[go_sem,a4H];refine cS (Py _ 1 64) (L.inn (t[k]).a3B 1 64) rfl a_ ?_;cases X:within (t[k]).a3B 1 64 with
            |false =>simp only[X,a4F]at e;simp only[go_sem,a4O,AO];exact bM (b:=false) rfl (iY hlt e).symm
            |true=>
             rw[X,a4K]at e;simp only[go_sem,a4H];refine cS (aOQ (t[k]).a2W) (L.lim _ O.1) rfl a_ ?_;cases Y:eC (t[k]).a2W with
             |false =>rw[Y]at e;simp only[go_sem,a4O,AO];exact bM (b:=false) rfl (iY hlt e).symm
             |true =>rw[Y]at e;simp only[go_sem,a4H,Sj,wZz k];refine aH (k+1) ⟨hlt,Z.step e⟩ Om ?_ a_;exact Lq
          ·simp only[cF M,a4F]at e;simp only[go_sem,a4H,i1,I,cU M,AO];exact bM (b:=false) rfl (iY hlt e).symm
        ·have l:¬(k:Int)<(Z' t:Nat):=Om;simp only[go_sem,l,Sk];have:k=Z' t:=Om;subst this;exact bM (b:=true) rfl (show wU q t.length from Z).symm
     ·simp only[go_sem,FL,vI x,a4H,bW A,bW E,cU K,AP];exact bM rfl (by rw[cF K];simp only[a5I,a4F])
    ·simp only[go_sem,FL,vI x,a4H,bW A,cU E,AP];exact bM rfl (by rw[cF E];simp only[a5I,a4F])
   ·simp only[go_sem,FL,vI x,a4H,cU A,AP];exact bM rfl (by rw[cF A];simp only[a5I,a4F])
  ·simp only[go_sem,FL,sn x,a4O,AP];exact bM rfl (by rw[cF x];simp only[a5I,a4F])
theorem zS(R:List Bool)(i:Nat)(row:List RF):∀k,(dT R i row k).length=Z' R
 |0=>rfl
 |k+1=>by simp only[dT,a5Q,zS R i row k]
theorem Zq(l:dJ)(R:List Bool)(i:Nat):(oW l R i).length=Z' R:=by
 unfold oW;rw[zS,a5Q]
theorem wA(l:dJ)(R:List Bool):∀i,(eH l R i).length=Z' R
 |0=>rfl
 |i+1=>by simp only[eH,Zq,wA l R i]
theorem vZ(l:dJ):∀r,(eJ l r).length=Z' l.exit
 |0=>by simp[eJ]
 |r+1=>by simp only[eJ,wA,vZ l r]
theorem fA{R:List Bool}{i:Nat}(h:i<Z' R):(bC R)[i]?=some [.bool (R.getD i false)]:=by
 unfold bC;rw[a4Q,a4C h,a4D,a4C h];rfl
theorem hJ(R:List Bool):(bC R).length=Z' R:=by simp[bC]
def ch(l:dJ)(o r:Nat):PF:=(((PF.nil.set 1 (.bU l.cells)).set 3 (.osl o 1 0 l.exit.length)).set 4 (.int .i64 r))
def OO(l:dJ)(o r i:Nat):PF:=(((((PF.nil.set 1 (.bU l.cells)).set 3 (.osl o 1 0 l.exit.length)).set 4 (.int .i64 r)).set 19 (.int .i64 (Z' l.exit:Nat))).set 20 (.int .i64 i))
def yX(l:dJ)(o r i:Nat)(row:List RF)(k:Nat):PF:=(((((((((PF.nil.set 1 (.bU l.cells)).set 3 (.osl o 1 0 l.exit.length)).set 4 (.int .i64 r)).set 19 (.int .i64 (Z' l.exit:Nat))).set 20 (.int .i64 i)).set 5 (.int .i64 i)).set 42 (frs row)).set 43 (.int .i64 (Z' row:Nat))).set 44 (.int .i64 k))
def lP(o:Nat)(R:List Bool):PH:=PH.nil.set o (.rows 1 (bC R))
theorem agC{C:Ctx}(L:yN C)(l:dJ)(o r i:Nat)(row:List RF)(I:nY row)(W:Z' row=Z' l.exit)(hi:i<Z' l.exit)(hn:Z' l.exit≤4)(e:List Bool)(X:Z' e=Z' l.exit)(K:cP)(F:PF)(H:PH)
  (N:(yX l o r i row 0).le F) (J:(lP o e).le H)
  (U:∀F H,(yX l o r i row row.length).le F→(lP o (dT e i row row.length)).le H→K .normal F H) :
  aC.wp C (.block 4 (.loop II)) K F H:=by
 simp only[go_sem];refine wp_loop (α:=Nat) (λk=>yX l o r i row k) (λk=>lP o (dT e i row k)) (λk=>k≤Z' row) (λk=>Z' row-k) 0 (a4A _) N J ?_;intro k Z;simp only[go_sem,II,St,yX,lP];have O:=zS e i row k;by_cases hlt:k<Z' row
 ·have j:(k:Int)<(Z' row:Nat):=Om;have V:(row.map RF.cells)[k]?=some (row[k]).cells:=by simp[hlt]
  simp only[go_sem,j,Fl,V];refine aQ λo7 E=>?_;have M:o≠o7:=by rintro rfl;simp only[aU,if_true]at E;cases E
  have w:(i:Int)<(Z' l.exit:Nat):=Om;have B:(k:Int)<(Z' l.exit:Nat):=Om;have u:=fA (R:=dT e i row k) (i:=i) Om;have x:=fA (R:=dT e i row k) (i:=k) Om;have y:dT e i row (k+1)=(dT e i row k).set i ((dT e i row k).getD i false||bV row[k]&&(dT e i row k).getD k false):=by simp only[dT,a4D,a4Q,a4C hlt,a5B,a6R]
  have fin:∀(b:Bool)(F:PF)(H:PH),b=((dT e i row k).getD i false||bV row[k]&&(dT e i row k).getD k false)→(yX l o r i row (k+1)).le F→H o=some (.rows 1 ((bC (dT e i row k)).set i [.bool b])) →
    iR (λk=>yX l o r i row k) (λk=>lP o (dT e i row k)) (λk=>k≤Z' row) (λk=>Z' row-k) (Z' row-k) (gP 4 K) .normal F H:=by
   intro b F H hb N J;refine aH (k+1) hlt Om N ?_;rw[jN,hb,←y]at J;exact e_ a_ J
  unfold yX lP at fin;generalize hb:(dT e i row k).getD i false=b at *
  generalize Y:(dT e i row k).getD k false=c at *
  generalize S:bV row[k]=A at *
  cases b with
  |true =>simp only[go_sem,WS,M,w,a4I,u,IK,wZz k];exact fin true _ _ aW Lq Sq
  |false=>
   simp only[go_sem,WS,M,w,a4I,u];refine aB (L.wW _ (I.all _ (a3Y hlt))) rfl ?_;rw[S];cases A with
   |false =>simp only[go_sem,w,B,M,a4I,u,x,IK,wZz k];exact fin false _ _ aW Lq Sq
   |true =>simp only[go_sem,w,B,M,a4I,u,x,IK,wZz k];exact fin c _ _ aW Lq Sq
 ·have j:¬(k:Int)<(Z' row:Nat):=Om;simp only[go_sem,j];have:k=Z' row:=Om;subst this;exact U _ _ (by unfold yX;exact Lq) (b_)
structure HY(l:dJ):Prop where
 n:Z' l.exit≤4
 a2L:Z' l.a2L=Z' l.exit
 row:∀r∈l.a2L,Z' r=Z' l.exit
theorem agD{C:Ctx}(L:yN C)(l:dJ)(U:l.Ok)(he:HY l)(o r:Nat)(R:List Bool)(hR:Z' R=Z' l.exit)(K:cP)(F:PF)(H:PH)
  (x:(OO l o r 0).le F) (N:(lP o R).le H)
  (hK:∀F H,(ch l o r).le F→(lP o (eH l R l.exit.length)).le H→K .normal F H) :
  aC.wp C (.block 2 (.loop IJ)) K F H:=by
 simp only[go_sem];refine wp_loop (α:=Nat) (λi=>OO l o r i) (λi=>lP o (eH l R i)) (λi=>i≤Z' l.exit) (λi=>Z' l.exit-i) 0 (a4A _) x N ?_;intro i hi;have V:=wA l R i;have hn:=he.n;by_cases hlt:i<Z' l.exit
 ·have e:(i:Int)<(Z' l.exit:Nat):=Om;have w:i<Z' l.a2L:=by rw[he.a2L];exact hlt
  have y:=fA (R:=eH l R i) (i:=i) Om;have hx:(l.exit.map RF.cells)[i]?=some (l.exit[i]).cells:=by simp[hlt]
  have I:(l.a2L.map λr=>[frs r])[i]?=some [frs l.a2L[i]]:=by simp[w]
  have S:(l.a2L[i]).length=Z' l.exit:=he.row _ (a3Y w);generalize u:(eH l R i).set i ((eH l R i).getD i false||bV l.exit[i])=J;have E:Z' J=Z' l.exit:=by rw[←u,a5Q];omega
  have A:eH l R (i+1)=dT J i l.a2L[i] (l.a2L[i]).length:=by
   simp only[eH,oW];have X:(l.exit.map bV).getD i false=bV l.exit[i]:=by simp[a4D,hlt]
   have Y:l.a2L.getD i []=l.a2L[i]:=by simp[a4D,w]
   rw[X,Y,u]
  have j:∀(F:PF)(H:PH),(((((((PF.nil.set 1 (.bU l.cells)).set 3 (.osl o 1 0 l.exit.length)).set 4 (.int .i64 r)).set 19 (.int .i64 (Z' l.exit:Nat))).set 20 (.int .i64 i)).set 5 (.int .i64 i)):PF).le F→H o=some (.rows 1 (bC J)) →
    aC.wp C (.seq (.region kn) (.block 4 (.loop II))) (gP 3 (kT C (aC.wp C (.region WT)) (iR (λi=>OO l o r i) (λi=>lP o (eH l R i)) (λi=>i≤Z' l.exit) (λi=>Z' l.exit-i) (Z' l.exit-i) (gP 2 K)))) F H:=by
   intro F H x N;have f1:F 1=some (.bU l.cells):=x 1 _ rfl;have f3:F 3=some (.osl o 1 0 l.exit.length):=x 3 _ rfl;have f4:F 4=some (.int .i64 r):=x 4 _ rfl;have Z:F 19=some (.int .i64 (Z' l.exit:Nat)):=x 19 _ rfl;have β:F 20=some (.int .i64 i):=x 20 _ rfl;have f5:F 5=some (.int .i64 i):=x 5 _ rfl;rw[Ec];simp only[go_sem,kn,f1,f5,I,a3V];have inner:=agC L l o r i l.a2L[i] (U.row _ (a3Y w)) S hlt hn J E;simp only[aC.wp,go_sem]at inner;refine inner _ _ _ ?_ (e_ a_ N) ?_
   ·unfold yX;exact Lq
   ·intro W H' B O;have M:W 20=some (.int .i64 i):=B 20 _ (by unfold yX;simp only[go_sem]);simp only[go_sem,WT,M,wZz i];refine aH (i+1) hlt Om ?_ (by rw[A];exact O);have g:=λ(q:Nat) v h=>B q v h;unfold OO;unfold yX at g;refine d_ (d_ (d_ (d_ (d_ c_ ?_) ?_) ?_) ?_) ?_
    ·simp only[go_sem];exact g 1 _ rfl
    ·simp only[go_sem];exact g 3 _ rfl
    ·simp only[go_sem];exact g 4 _ rfl
    ·simp only[go_sem];exact g 19 _ rfl
    ·simp only[go_sem]
  simp only[aC.wp,go_sem]at j;simp only[go_sem,IJ,kj,OO,lP,e,Ss];generalize hb:(eH l R i).getD i false=b at *
  cases b with
  |true =>simp only[go_sem,kk,e,a4I,y];refine j _ _ Lq ?_;rw[←u];simp only[go_sem,jN,Bool.true_or]
  |false =>simp only[go_sem,kk,e,a4I,y,hx];refine aB (L.wW _ (U.exit.all _ (a3Y hlt))) rfl ?_;simp only[go_sem,e,a4I,y];refine j _ _ Lq ?_;rw[←u];simp only[go_sem,jN,Bool.false_or]
 ·have e:¬(i:Int)<(Z' l.exit:Nat):=Om;simp only[go_sem,IJ,kj,OO,lP,e];have:i=Z' l.exit:=Om;subst this;exact hK _ _ (by unfold ch;exact Lq) b_
theorem aIA{C:Ctx}(L:yN C)(l:dJ)(I:l.Ok)(he:HY l):PG.wp C (aV awH.res (cY (.bool (tZ l)))) (PF.args [.agg l.cells]) .nil:=by
 have J:=he.n;have A:(Z' l.exit:Int)*((1:Nat):Int)≤140737488355328:=Om;have B:(Z' l.exit:Int)≤9223372036854775807:=Om;simp only[go_sem,PG,Sm,Sn,awH,a3V,A,B];refine aQ λo K=>?_;simp only[go_sem,So];refine wp_loop (α:=Nat) (λr=>ch l o r) (λr=>lP o (eJ l r)) (λr=>r≤Z' l.exit+1) (λr=>Z' l.exit+1-r) 0 (a4A _) ?_ ?_ ?_
 ·unfold ch;exact Lq
 ·refine e_ a_ ?_;simp only[go_sem,eJ];simp[bC]
 intro r M;have j:=vZ l r;simp only[go_sem,Fk,Sp,ch,lP];by_cases hlt:r≤Z' l.exit
 ·have e:(r:Int)≤(Z' l.exit:Nat):=Om;simp only[go_sem,e,Sr];have inner:=agD L l I he o r (eJ l r) j;simp only[aC.wp,go_sem]at inner;refine inner _ _ _ ?_ b_ ?_
  ·unfold OO;exact Lq
  ·intro E H' w y;have g:=λ(q:Nat) v h=>w q v h;unfold ch at g;have g4:E 4=some (.int .i64 r):=g 4 _ rfl;simp only[go_sem,Fm,g4,wZz r];refine aH (r+1) Om Om ?_ y;refine d_ (d_ (d_ c_ ?_) ?_) ?_
   ·simp only[go_sem];exact g 1 _ rfl
   ·simp only[go_sem];exact g 3 _ rfl
   ·simp only[go_sem]
 ·have e:¬(r:Int)≤(Z' l.exit:Nat):=Om;have:r=Z' l.exit+1:=Om;subst this;simp only[go_sem,e,Fo];have u:=L.allb id 103 (eJ l (Z' l.exit+1)) (Om:(eJ l (Z' l.exit+1)).length≤_) λx _=>L.ends1 x;have F:(bC (eJ l (Z' l.exit+1))).length=Z' l.exit:=by rw[hJ,j]
  refine tX u (rs:=bC (eJ l (Z' l.exit+1))) (o:=o) (s:=1) Sq ?_ ?_
  ·simp only[go_sem,yA (show l.exit.length≤(bC (eJ l (Z' l.exit+1))).length by omega),a4N (show(bC (eJ l (Z' l.exit+1))).length≤l.exit.length by omega)]
  ·simp only[go_sem];exact bM rfl rfl
end Go.PM
