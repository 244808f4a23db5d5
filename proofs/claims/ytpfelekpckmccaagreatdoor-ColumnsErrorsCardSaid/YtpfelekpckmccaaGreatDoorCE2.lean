/-
  Texts of ours, joined. No condition.
-/
import Derived.Test.YtpfelekpckmccaaGreatDoorCE1
import Derived.Shelf.Strconv.Itoa3
import Derived.Test.YtpfelekpckmccaaGreatDoorProg
import Derived.ProofKit
import Derived.OpenShut
set_option linter.unusedSimpArgs false
set_option linter.unusedVariables false
open Nat renaming reduceEqDiff→γ,reduceAdd→δ,reduceSub→ε,reduceMul→ζ,reduceLT→η,reduceLeDiff→θ,reduceBEq→τ
open Int renaming reduceLT→ι,reduceLE→κ,reduceEq→μ,reduceToNat→ν,reduceAdd→ξ,reduceNeg→ο,reduceBEq→ρ,reduceBNe→σ
open List renaming reduceReplicate→υ
open List renaming length_map→awL,replicate→awO,length_append→awQ,getElem_mem→awS,mem_cons→awT,range→awU,length_singleton→awV,getElem?_eq_getElem→awX,length_take→axC,take_of_length_le→axE,mem_map→axG,getElem?_map→axH,all_eq_true→axK,map_cons→axL,getElem?_eq_some_iff→axO,drop_zero→axU,getElem?_eq_none→axV,append_assoc→axX,getD_eq_getElem?_getD→axY,mem_append→ayA,mem_range→ayB,take_length→ayC,length_cons→ayF,map_nil→ayI,getElem_of_mem→ayK,length_drop→ayL,length_set→ayM,mem_of_getElem?→ayN,append_nil→ayO,getElem_map→ayR,drop_eq_getElem_cons→ayS,getElem?_append_right→ayW,mem_singleton→ayX,length_nil→azB,getElem?_append_left→azD,take_succ_eq_append_getElem→azH,map_map→azL,map_take→azM,take_append_drop→azN,ext_getElem→azS,set_append_right→azT,drop_of_length_le→aAE,getElem?_drop→aAF,set_cons_zero→aAG,getElem_append_right→aAH,mem_or_eq_of_mem_set→aAI
open Nat renaming gcd→awM,le_refl→awP,mul_add→awW,lt_or_ge→axA,zero_le→axB,mul_assoc→axI,zero_add→axJ,mul_comm→axM,add_mul→axR,mul_le_mul_right→axS,le_trans→axT,mod_eq_of_lt→axW,mod_lt→ayD,pow_succ→ayH,add_zero→ayT,add_assoc→ayY,min_eq_left→ayZ,mul_le_mul_left→azA,eq_zero_or_pos→azE,pos_of_ne_zero→azI,pow_pos→azJ,div_le_self→azO,sub_self→azP,succ_mul→azQ,div_lt_iff_lt_mul→azR,mul_le_mul→azY,div_add_mod→aAA,div_eq_of_lt→aAB
open Bool renaming and_eq_true→awN,false_and→awY,not_true→awZ,true_and→axN,not_false→axP,and_false→ayE,and_true→azC
open Option renaming map_eq_some_iff→awR,map_some→axF,some→axZ,bind_some→azU,getD_some→azV,bind_eq_some_iff→aAC
open Array renaming length_toList→azK
open Int renaming toNat_natCast→ayU
open List renaming length→Z'
set_option maxRecDepth 100000
set_option maxHeartbeats 800000
noncomputable section
namespace Go.Proofs
open Go.Shelf
def Tryz.Kt:Go.Shelf.Ren:=⟨λ|171=>122|243=>163|246=>184|283=>194|284=>195|285=>196|286=>197|129=>199|317=>198|318=>200|319=>201|320=>202|337=>203|338=>204|n=>n,λ|3=>3|9=>9|2=>2|4=>4|171=>207|0=>0|53=>131|37=>22|5=>5|173=>210|212=>213|51=>141|20=>20|213=>214|46=>176|232=>217|233=>218|n=>n,λ|17=>0|18=>1|19=>2|n=>n⟩
theorem Tryz.ajB:Go.Proofs.Lays.n171 Tryz.prog Tryz.Kt:={
 mixed:=by kernel_rfl
 f129:=Tryz.func199.trans (congrArg some (by kernel_rfl))
 f171:=Tryz.func122.trans (congrArg some (by kernel_rfl))
 f243:=Tryz.func163.trans (congrArg some (by kernel_rfl))
 f246:=Tryz.func184.trans (congrArg some (by kernel_rfl))
 f283:=Tryz.func194.trans (congrArg some (by kernel_rfl))
 f284:=Tryz.func195.trans (congrArg some (by kernel_rfl))
 f285:=Tryz.func196.trans (congrArg some (by kernel_rfl))
 f286:=Tryz.func197.trans (congrArg some (by kernel_rfl))
 f317:=Tryz.func198.trans (congrArg some (by kernel_rfl))
 f318:=Tryz.func200.trans (congrArg some (by kernel_rfl))
 f319:=Tryz.func201.trans (congrArg some (by kernel_rfl))
 f320:=Tryz.func202.trans (congrArg some (by kernel_rfl))
 f337:=Tryz.func203.trans (congrArg some (by kernel_rfl))
 f338:=Tryz.func204.trans (congrArg some (by kernel_rfl))
 t0:=Tryz.underlying0
 a0:=Tryz.isAgg0
 z0:=Tryz.sizeOf0
 v0:=Tryz.zeroValue0
 t2:=Tryz.underlying2
 a2:=Tryz.isAgg2
 z2:=Tryz.sizeOf2
 v2:=Tryz.zeroValue2
 t3:=Tryz.underlying3
 a3:=Tryz.isAgg3
 z3:=Tryz.sizeOf3
 v3:=Tryz.zeroValue3
 t4:=Tryz.underlying4
 a4:=Tryz.isAgg4
 z4:=Tryz.sizeOf4
 v4:=Tryz.zeroValue4
 t5:=Tryz.underlying5
 a5:=Tryz.isAgg5
 z5:=Tryz.sizeOf5
 v5:=Tryz.zeroValue5
 t9:=Tryz.underlying9
 a9:=Tryz.isAgg9
 z9:=Tryz.sizeOf9
 v9:=Tryz.zeroValue9
 t20:=Tryz.underlying20
 a20:=Tryz.isAgg20
 z20:=Tryz.sizeOf20
 v20:=Tryz.zeroValue20
 t37:=Tryz.underlying22
 a37:=Tryz.isAgg22
 z37:=Tryz.sizeOf22
 v37:=Tryz.zeroValue22
 t46:=Tryz.underlying176
 a46:=Tryz.isAgg176
 z46:=Tryz.sizeOf176
 v46:=Tryz.zeroValue176
 t51:=Tryz.underlying141
 a51:=Tryz.isAgg141
 z51:=Tryz.sizeOf141
 v51:=Tryz.zeroValue141
 t53:=Tryz.underlying131
 a53:=Tryz.isAgg131
 z53:=Tryz.sizeOf131
 v53:=Tryz.zeroValue131
 t171:=Tryz.underlying207
 a171:=Tryz.isAgg207
 z171:=Tryz.sizeOf207
 v171:=Tryz.zeroValue207
 t173:=Tryz.underlying210
 a173:=Tryz.isAgg210
 z173:=Tryz.sizeOf210
 v173:=Tryz.zeroValue210
 t212:=Tryz.underlying213
 a212:=Tryz.isAgg213
 z212:=Tryz.sizeOf213
 v212:=Tryz.zeroValue213
 t213:=Tryz.underlying214
 a213:=Tryz.isAgg214
 z213:=Tryz.sizeOf214
 t232:=Tryz.underlying217
 a232:=Tryz.isAgg217
 z232:=Tryz.sizeOf217
 v232:=Tryz.zeroValue217
 t233:=Tryz.underlying218
 a233:=Tryz.isAgg218
 z233:=Tryz.sizeOf218
 v233:=Tryz.zeroValue218
 g17:=by kernel_rfl
 g18:=by kernel_rfl
 g19:=by kernel_rfl }
end Go.Proofs
namespace Go.PM
open Go
inductive Co:PV→PV→Prop
 |refl (v:PV):Co v v
 |junk (v:PV):Co v .junk
 |nil (s:Nat):Co .aH (.sl s [])
 |osl0 (o s off s':Nat):Co (.osl o s off 0) (.sl s' [])
 |agg {cs ds:List PV} (hl:Z' ds=Z' cs) (h:∀(j:Nat) p q,cs[j]?=some p→ds[j]?=some q→Co p q):Co (.agg cs) (.agg ds)
 |tup {cs ds:List PV} (hl:Z' ds=Z' cs) (h:∀(j:Nat) p q,cs[j]?=some p→ds[j]?=some q→Co p q):Co (.tup cs) (.tup ds)
 |cT {cs ds:List PV} (hl:Z' ds=Z' cs) (h:∀(j:Nat) p q,cs[j]?=some p→ds[j]?=some q→Co p q):Co (.cT cs) (.cT ds)
 |sl {s:Nat} {rs ts:List (List PV)} (hl:Z' ts=Z' rs) (hr:∀(i:Nat) r t,rs[i]?=some r→ts[i]?=some t→Z' t=Z' r)
   (h:∀(i j:Nat) p q,at2 rs i j=some p→at2 ts i j=some q→Co p q):Co (.sl s rs) (.sl s ts)
structure CoL(ps qs:List PV):Prop where
 len:Z' qs=Z' ps
 at_:∀(j:Nat) p q,ps[j]?=some p→qs[j]?=some q→Co p q
theorem CoL.refl(ps:List PV):CoL ps ps:=⟨rfl,λj p q h k=>by rw[h]at k;cases k;exact .refl p⟩
theorem Co.sound{E:Env}{p q:PV}(h:Co p q):∀{v:Value},aX E p v→aX E q v:=by
 induction h with
 |refl=>intro v r;exact r
 |junk=>intro v _;exact .junk v
 |nil s =>intro v r;cases r;exact .sl (λ_ _=>.bool false) aY aV aY aY (λ_ _=>rfl) (by simp[at2])
 |osl0 o s Z s'=>
  intro v r;cases r with
  |osl hb J V U x hn Q=>exact .sl (λ_ _=>.bool false) aY x aY aY (λ_ _=>rfl) (by simp[at2])
 |agg w h B=>
  intro v r;cases r with
  |agg vs A F y=>
  refine .agg vs (A.trans w.symm) F λj q u d R=>?_;have l:=(axO.1 d).1;have hp:=awX (show j<_ by rw[w]at l;exact l);exact B j _ q hp d (y j _ u hp R)
 |tup w h B=>
  intro v r;cases r with
  |tup vs A y=>
  refine .tup vs (A.trans w.symm) λj q u d R=>?_;have l:=(axO.1 d).1;have hp:=awX (show j<_ by rw[w]at l;exact l);exact B j _ q hp d (y j _ u hp R)
 |cT w h B=>
  intro v r;cases r with
  |cT u J N F y=>
  refine .cT u J (λj q d=>?_) F λj q d=>?_
  ·have l:=(axO.1 d).1;exact N j _ (awX (show j<_ by rw[w]at l;exact l))
  ·have l:=(axO.1 d).1;have hp:=awX (show j<_ by rw[w]at l;exact l);exact B j _ q hp d (y j _ hp)
 |@sl s rs ts w H h B=>
  intro v r;have K:∀(i j:Nat) q,at2 ts i j=some q→∃p,at2 rs i j=some p:=by intro i j q d;unfold at2 at d ⊢;rw[aAC]at d;obtain⟨t,M,d⟩:=d;have hi:=(axO.1 M).1;have y:=awX (Om:i<Z' rs);have:=H i _ t y M;have l:=(axO.1 d).1;rw[y];exact⟨(rs[i])[j]'Om,by simp⟩
  cases r with
  |sl u S x Y X F y=>
  rw[←w];refine .sl u Om x (λt M=>?_) (λO=>?_) F λi j q d=>?_
  ·obtain⟨i,hi,rfl⟩:=ayK M;have:=H i rs[i] ts[i] aY aY;rw[this];exact Y _ aY
  ·obtain⟨W,e,sp,N⟩:=X (by rintro rfl;exact O (List.eq_nil_of_length_eq_zero (by simpa using w)));refine⟨W,e,sp,λi j q d=>?_⟩;obtain⟨p,hp⟩:=K i j q d;exact N i j p hp
  ·obtain⟨p,hp⟩:=K i j q d;exact B i j p q hp d (y i j p hp)
theorem CoL.sound{E:Env}:∀{ps d:List PV}{vs:List Value},CoL ps d→eW E ps vs→eW E d vs
 |[],d,vs,h,r=>by cases r;have:d=[]:=List.eq_nil_of_length_eq_zero h.len;subst this;exact .nil
 |p::ps,d,vs,h,r=>by
  cases r with
  |cons r1 r2=>
  cases d with
  |nil=>have:=h.len;simp at this
  |cons q d =>refine .cons ((h.at_ 0 p q rfl rfl).sound r1) (CoL.sound ⟨by simpa using h.len,λj x y a b=>h.at_ (j+1) x y (by simpa using a) (by simpa using b)⟩ r2)
theorem aJ.args{C:Ctx}{name:Nat}{args d:List PV}{H:PH}{R:PV→PH→Prop}(h:aJ C name d H R)(l:CoL args d):aJ C name args H R:=
 ⟨h.1,λE w vs i hW e=>h.2 E w vs i hW (l.sound e)⟩
theorem aJ.post{C:Ctx}{name:Nat}{args:List PV}{H:PH}{R x:PV→PH→Prop}(h:aJ C name args H R)(F:∀r H',R r H'→∃r',Co r r'∧x r' H'):aJ C name args H x:=
 ⟨h.1,λE w vs B hW p=>(h.2 E w vs B hW p).mono λe M J=>by obtain⟨v,pv,y,H',rfl,d,K,A,hp⟩:=J;obtain⟨u,i,l⟩:=F pv H' hp;exact⟨v,u,y,H',rfl,d,i.sound K,A,l⟩⟩
attribute [go_sem] List.getElem?_cons_succ List.getElem?_cons_zero and_self and_true true_and or_true true_or or_false false_or awZ axP axF azU if_true if_false ayF azB List.drop_succ_cons axU List.take_succ_cons List.take_zero axL ayI axZ.injEq PV.bool.injEq PV.int.injEq aL PV.bin
@[go_sem] theorem aoB(k:IntKind)(a b:Int):mE .add k a b=some (.int k (k.wrap (a+b))):=(rfl)
@[go_sem] theorem aoL(k:IntKind)(a b:Int):mE .sub k a b=some (.int k (k.wrap (a-b))):=(rfl)
@[go_sem] theorem aoH(k:IntKind)(a b:Int):mE .mul k a b=some (.int k (k.wrap (a*b))):=(rfl)
@[go_sem] theorem aoJ(k:IntKind)(a b:Int):mE .quo k a b=if b=0 then none else some (.int k (k.wrap (a.tdiv b))):=(rfl)
@[go_sem] theorem aoK(k:IntKind)(a b:Int):mE .rem k a b=if b=0 then none else some (.int k (a.tmod b)):=(rfl)
@[go_sem] theorem aoC(k:IntKind)(a b:Int):mE .eql k a b=some (.bool (a==b)):=(rfl)
@[go_sem] theorem aoI(k:IntKind)(a b:Int):mE .neq k a b=some (.bool (a != b)):=(rfl)
@[go_sem] theorem aoG(k:IntKind)(a b:Int):mE .lss k a b=some (.bool (decide (a<b))):=(rfl)
@[go_sem] theorem aoF(k:IntKind)(a b:Int):mE .leq k a b=some (.bool (decide (a≤b))):=(rfl)
@[go_sem] theorem aoE(k:IntKind)(a b:Int):mE .gtr k a b=some (.bool (decide (a>b))):=(rfl)
@[go_sem] theorem aoD(k:IntKind)(a b:Int):mE .geq k a b=some (.bool (decide (a≥b))):=(rfl)
section
variable {C:Ctx} {K:cJ} {F:PF} {H:PH}
@[go_sem] theorem atA:aD.wp C .skip K F H=K .normal F H:=(rfl)
@[go_sem] theorem apY(ops:List aS):aD.wp C (.region ops) K F H=wpOps C ops (K .normal) F H:=(rfl)
@[go_sem] theorem oi(a b:aD):aD.wp C (.seq a b) K F H=a.wp C (jT C (b.wp C) K) F H:=(rfl)
@[go_sem] theorem arH(id:Nat)(c:aD):aD.wp C (.block id c) K F H=c.wp C (gU id K) F H:=(rfl)
@[go_sem] theorem asZ(id:Nat):aD.wp C (.exit id) K F H=K (.exit id) F H:=(rfl)
@[go_sem] theorem atM:aD.wp C .ret K F H=K .ret F H:=(rfl)
def SK(C:Ctx)(v:Option PV)(a b:aD)(K:cJ)(F:PF)(H:PH):Prop:=
 match v with
 |some (.bool t)=>if t then a.wp C K F H else b.wp C K F H
 |_=>False
@[go_sem] theorem agK(c:aO)(a b:aD):aD.wp C (.cond c a b) K F H=SK C (c.ev F) a b K F H:=(rfl)
@[go_sem] theorem aoQ(a b:aD):SK C (some (.bool true)) a b K F H=a.wp C K F H:=(rfl)
@[go_sem] theorem anD(a b:aD):SK C (some (.bool false)) a b K F H=b.wp C K F H:=(rfl)
theorem abR{t:Bool}{a b:aD}(d:t=true→a.wp C K F H)(e:t=false→b.wp C K F H):SK C (some (.bool t)) a b K F H:=by
 cases t
 ·exact e rfl
 ·exact d rfl
@[go_sem] theorem anL(w:cJ→PF→PH→Prop):jT C w K .normal F H=w K F H:=(rfl)
@[go_sem] theorem amO(w:cJ→PF→PH→Prop):jT C w K .normal=w K:=(rfl)
@[go_sem] theorem aqU(w:cJ→PF→PH→Prop)(id:Nat):jT C w K (.exit id)=K (.exit id):=(rfl)
@[go_sem] theorem asQ(w:cJ→PF→PH→Prop):jT C w K .ret=K .ret:=(rfl)
@[go_sem] theorem akV(id:Nat):gU id K .normal=K .normal:=(rfl)
@[go_sem] theorem aoO(id:Nat):gU id K .ret=K .ret:=(rfl)
@[go_sem] theorem DQ(id d:Nat):gU id K (.exit d) F H=if d=id then K .normal F H else K (.exit d) F H:=(rfl)
@[go_sem] theorem apW(K:PF→PH→Prop):wpOps C [] K F H=K F H:=(rfl)
@[go_sem] theorem apX(d:Option Nat)(op:POp)(rest:List aS)(K:PF→PH→Prop):wpOps C (⟨d,op,none⟩::rest) K F H=wpOp C op d (wpOps C rest K) F H:=(rfl)
def xR(C:Ctx)(v:Option PV)(e:Bool)(op:POp)(d:Option Nat)(rest:List aS)(K:PF→PH→Prop)(F:PF)(H:PH):Prop:=
 match v with
 |some (.bool b)=>if b=e then wpOp C op d (wpOps C rest K) F H else wpOps C rest K (F.put d (.tup [])) H
 |some (.tup [])=>wpOps C rest K (F.put d (.tup [])) H
 |_=>False
@[go_sem] theorem Li(d:Option Nat)(op:POp)(t:Nat)(e:Bool)(rest:List aS)(K:PF→PH→Prop) :
  wpOps C (⟨d,op,some (t,e)⟩::rest) K F H=xR C (F t) e op d rest K F H:=(rfl)
@[go_sem] theorem aqQ(op:POp)(d:Option Nat)(rest:List aS)(K:PF→PH→Prop):xR C (some (.bool true)) true op d rest K F H=wpOp C op d (wpOps C rest K) F H:=(rfl)
@[go_sem] theorem aqN(op:POp)(d:Option Nat)(rest:List aS)(K:PF→PH→Prop):xR C (some (.bool false)) false op d rest K F H=wpOp C op d (wpOps C rest K) F H:=(rfl)
@[go_sem] theorem aqP(op:POp)(d:Option Nat)(rest:List aS)(K:PF→PH→Prop):xR C (some (.bool true)) false op d rest K F H=wpOps C rest K (F.put d (.tup [])) H:=(rfl)
@[go_sem] theorem aqO(op:POp)(d:Option Nat)(rest:List aS)(K:PF→PH→Prop):xR C (some (.bool false)) true op d rest K F H=wpOps C rest K (F.put d (.tup [])) H:=(rfl)
@[go_sem] theorem anI(e:Bool)(op:POp)(d:Option Nat)(rest:List aS)(K:PF→PH→Prop):xR C (some (.tup [])) e op d rest K F H=wpOps C rest K (F.put d (.tup [])) H:=(rfl)
@[go_sem] theorem asM(d:Nat)(v:PV):F.put (some d) v=F.set d v:=(rfl)
@[go_sem] theorem asL(v:PV):F.put none v=F:=(rfl)
@[go_sem] theorem mG(i j:Nat)(v:PV):(F.set i v) j=if j=i then some v else F j:=(rfl)
@[go_sem] theorem args_at(vs:List PV)(i:Nat):PF.args vs i=vs[i]?:=(rfl)
@[go_sem] theorem atT(i:Nat):PF.nil i=none:=(rfl)
@[go_sem] theorem dt(t:Nat):(aO.tmp t).ev F=F t:=(rfl)
@[go_sem] theorem asA(v:PV):(aO.const v).ev F=some v:=(rfl)
@[go_sem] theorem aU(i j:Nat)(x:aR):(H.set i x) j=if j=i then some x else H j:=(rfl)
@[go_sem] theorem SX(i:Nat):PH.nil i=none:=(rfl)
@[go_sem] theorem SO:aO.evs F []=some []:=(rfl)
@[go_sem] theorem BB(x:aO)(xs:List aO):aO.evs F (x::xs)=(match x.ev F,aO.evs F xs with|some v,some vs=>some (v::vs)|_,_=>none):=(rfl)
theorem iW{i j:Nat}{x:aR}:(H.set i x) j=none↔j≠i∧H j=none:=by
 rw[aU];split<;>simp_all
@[go_sem] theorem anM(v:PV)(d:Option Nat)(K:PF→PH→Prop):bW (some v) d K F H=K (F.put d v) H:=by
 simp[bW]
theorem aW{e:Nat→PV}{x:aR}{d:Option Nat}{K:PF→PH→Prop}(h:∀o,H o=none→K (F.put d (e o)) (H.set o x)):nL (some (e,x)) d K F H:=⟨e,x,rfl,h⟩
@[go_sem] theorem atK(x:aO)(d:Option Nat)(K:PF→PH→Prop):wpOp C (.mv x) d K F H=bW (aL (.mv x) F H) d K F H:=(rfl)
@[go_sem] theorem arG(x:aO)(d:Option Nat)(K:PF→PH→Prop):wpOp C (.same x) d K F H=bW (aL (.same x) F H) d K F H:=(rfl)
@[go_sem] theorem arF(c a b:aO)(d:Option Nat)(K:PF→PH→Prop):wpOp C (.pick c a b) d K F H=bW (aL (.pick c a b) F H) d K F H:=(rfl)
@[go_sem] theorem asU(o:BinOp)(x y:aO)(d:Option Nat)(K:PF→PH→Prop):wpOp C (.bin o x y) d K F H=bW (aL (.bin o x y) F H) d K F H:=(rfl)
@[go_sem] theorem asW(n:Bool)(x y:aO)(d:Option Nat)(K:PF→PH→Prop):wpOp C (.eqb n x y) d K F H=bW (aL (.eqb n x y) F H) d K F H:=(rfl)
@[go_sem] theorem asX(n:Bool)(e:List Sc)(x y:aO)(d:Option Nat)(K:PF→PH→Prop):wpOp C (.eqs n e x y) d K F H=bW (aL (.eqs n e x y) F H) d K F H:=(rfl)
@[go_sem] theorem atL(o:UnOp)(x:aO)(d:Option Nat)(K:PF→PH→Prop):wpOp C (.un o x) d K F H=bW (aL (.un o x) F H) d K F H:=(rfl)
@[go_sem] theorem aqY(k:IntKind)(x:aO)(d:Option Nat)(K:PF→PH→Prop):wpOp C (.conv k x) d K F H=bW (aL (.conv k x) F H) d K F H:=(rfl)
@[go_sem] theorem apP(z:List PV)(ps:List (Nat × Nat × aO))(d:Option Nat)(K:PF→PH→Prop):wpOp C (.build z ps) d K F H=bW (aL (.build z ps) F H) d K F H:=(rfl)
@[go_sem] theorem arD(n:Option Nat)(p:aO)(d:Option Nat)(K:PF→PH→Prop):wpOp C (.load n p) d K F H=bW (aL (.load n p) F H) d K F H:=(rfl)
@[go_sem] theorem anX(x:aO)(d:Option Nat)(K:PF→PH→Prop):wpOp C (.avN x) d K F H=bW (aL (.avN x) F H) d K F H:=(rfl)
@[go_sem] theorem anQ(e:Nat)(x:aO)(d:Option Nat)(K:PF→PH→Prop):wpOp C (.awD e x) d K F H=bW (aL (.awD e x) F H) d K F H:=(rfl)
@[go_sem] theorem apR(e:Nat)(n:Option Nat)(x:aO)(d:Option Nat)(K:PF→PH→Prop):wpOp C (.field e n x) d K F H=bW (aL (.field e n x) F H) d K F H:=(rfl)
@[go_sem] theorem arA(s:Nat)(x i:aO)(d:Option Nat)(K:PF→PH→Prop):wpOp C (.avR s x i) d K F H=bW (aL (.avR s x i) F H) d K F H:=(rfl)
@[go_sem] theorem aqZ(n s:Nat)(x i:aO)(d:Option Nat)(K:PF→PH→Prop):wpOp C (.idxA n s x i) d K F H=bW (aL (.idxA n s x i) F H) d K F H:=(rfl)
@[go_sem] theorem arB(n s:Nat)(g:Bool)(x i:aO)(d:Option Nat)(K:PF→PH→Prop):wpOp C (.idxV n s g x i) d K F H=bW (aL (.idxV n s g x i) F H) d K F H:=(rfl)
@[go_sem] theorem anR(x i:aO)(d:Option Nat)(K:PF→PH→Prop):wpOp C (.awB x i) d K F H=bW (aL (.awB x i) F H) d K F H:=(rfl)
@[go_sem] theorem apU(s:Nat)(x:aO)(lo hi mx:Option aO)(d:Option Nat)(K:PF→PH→Prop):wpOp C (.slice s x lo hi mx) d K F H=bW (aL (.slice s x lo hi mx) F H) d K F H:=(rfl)
@[go_sem] theorem anY(n s:Nat)(x:aO)(lo hi mx:Option aO)(d:Option Nat)(K:PF→PH→Prop):wpOp C (.sliceA n s x lo hi mx) d K F H=bW (aL (.sliceA n s x lo hi mx) F H) d K F H:=(rfl)
@[go_sem] theorem akY(x:aO)(lo hi:Option aO)(d:Option Nat)(K:PF→PH→Prop):wpOp C (.avX x lo hi) d K F H=bW (aL (.avX x lo hi) F H) d K F H:=(rfl)
@[go_sem] theorem aqR:PV.qD .aH=some (.int .i64 0):=(rfl)
@[go_sem] theorem atJ(s:Nat)(rows:List (List PV)):PV.qD (.sl s rows)=some (.int .i64 rows.length):=(rfl)
@[go_sem] theorem asH(o s d n:Nat):PV.qD (.osl o s d n)=some (.int .i64 n):=(rfl)
@[go_sem] theorem asY(x:aO)(d:Option Nat)(K:PF→PH→Prop):wpOp C (.len x) d K F H=bW (aL (.len x) F H) d K F H:=(rfl)
@[go_sem] theorem anT(x:aO)(d:Option Nat)(K:PF→PH→Prop):wpOp C (.awA x) d K F H=bW (aL (.awA x) F H) d K F H:=(rfl)
@[go_sem] theorem arC(x:aO)(d:Option Nat)(K:PF→PH→Prop):wpOp C (.lenM x) d K F H=bW (aL (.lenM x) F H) d K F H:=(rfl)
@[go_sem] theorem apS(n:Bool)(x:aO)(d:Option Nat)(K:PF→PH→Prop):wpOp C (.isNil n x) d K F H=bW (aL (.isNil n x) F H) d K F H:=(rfl)
@[go_sem] theorem anK:PV.sN .aH=some true:=(rfl)
@[go_sem] theorem apF(o s d len:Nat):PV.sN (.osl o s d len)=some false:=(rfl)
@[go_sem] theorem anJ(s:Nat)(r:List PV)(rs:List (List PV)):PV.sN (.sl s (r::rs))=some false:=(rfl)
@[go_sem] theorem anP(x:aO)(d:Option Nat)(K:PF→PH→Prop):wpOp C (.awK x) d K F H=bW (aL (.awK x) F H) d K F H:=(rfl)
@[go_sem] theorem anA(x:aO)(i:Nat)(d:Option Nat)(K:PF→PH→Prop):wpOp C (.extract x i) d K F H=bW (aL (.extract x i) F H) d K F H:=(rfl)
@[go_sem] theorem anW(m:Bool)(x y:aO)(d:Option Nat)(K:PF→PH→Prop):wpOp C (.avV m x y) d K F H=bW (aL (.avV m x y) F H) d K F H:=(rfl)
@[go_sem] theorem arE(n:Nat)(cs:List aO)(d:Option Nat)(K:PF→PH→Prop):wpOp C (.mkfn n cs) d K F H=bW (aL (.mkfn n cs) F H) d K F H:=(rfl)
@[go_sem] theorem anU(sh:MSh)(z:PV)(x k:aO)(ok:Bool)(d:Option Nat)(K:PF→PH→Prop):wpOp C (.lookup sh z x k ok) d K F H=bW (aL (.lookup sh z x k ok) F H) d K F H:=(rfl)
@[go_sem] theorem akT(x:aO)(d:Option Nat)(K:PF→PH→Prop):wpOp C (.avO x) d K F H=bW (aL (.avO x) F H) d K F H:=(rfl)
@[go_sem] theorem aqW(x:aO)(d:Option Nat)(K:PF→PH→Prop):wpOp C (.box true x) d K F H=bW (aL (.box true x) F H) d K F H:=(rfl)
@[go_sem] theorem amZ(s l:Nat)(z:List PV)(ps:List (Nat × aO))(d:Option Nat)(K:PF→PH→Prop):wpOp C (.avG true s l z ps) d K F H=bW (aL (.avG true s l z ps) F H) d K F H:=(rfl)
@[go_sem] theorem apO(cs:List PV)(d:Option Nat)(K:PF→PH→Prop):wpOp C (.alloc cs) d K F H=nL (cA (.alloc cs) F) d K F H:=(rfl)
@[go_sem] theorem anB(s b:Nat)(z:List PV)(l c:aO)(d:Option Nat)(K:PF→PH→Prop):wpOp C (.avI s b z l c) d K F H=nL (cA (.avI s b z l c) F) d K F H:=(rfl)
@[go_sem] theorem apT(sh:MSh)(d:Option Nat)(K:PF→PH→Prop):wpOp C (.awG sh) d K F H=nL (cA (.awG sh) F) d K F H:=(rfl)
@[go_sem] theorem asV(x:aO)(d:Option Nat)(K:PF→PH→Prop):wpOp C (.box false x) d K F H=nL (cA (.box false x) F) d K F H:=(rfl)
@[go_sem] theorem anO(s l:Nat)(z:List PV)(ps:List (Nat × aO))(d:Option Nat)(K:PF→PH→Prop):wpOp C (.avG false s l z ps) d K F H=nL (cA (.avG false s l z ps) F) d K F H:=(rfl)
@[go_sem] theorem apV(n:Nat)(p x:aO)(d:Option Nat)(K:PF→PH→Prop):wpOp C (.store n p x) d K F H=bN (.store n p x) F H (λr H'=>K (F.put d r) H'):=(rfl)
@[go_sem] theorem anN(s b:Nat)(x y:aO)(d:Option Nat)(K:PF→PH→Prop):wpOp C (.append s b x y) d K F H=bN (.append s b x y) F H (λr H'=>K (F.put d r) H'):=(rfl)
@[go_sem] theorem anV(sh:MSh)(x k v:aO)(d:Option Nat)(K:PF→PH→Prop):wpOp C (.avS sh x k v) d K F H=bN (.avS sh x k v) F H (λr H'=>K (F.put d r) H'):=(rfl)
@[go_sem] theorem anS(sh:MSh)(x k v:aO)(d:Option Nat)(K:PF→PH→Prop):wpOp C (.insert sh x k v) d K F H=bN (.insert sh x k v) F H (λr H'=>K (F.put d r) H'):=(rfl)
@[go_sem] theorem aqX(n:Nat)(e:List aO)(d:Option Nat)(K:PF→PH→Prop):wpOp C (.call n e) d K F H=kN C n e [] d K F H:=(rfl)
@[go_sem] theorem apQ(x:aO)(e:List aO)(d:Option Nat)(K:PF→PH→Prop):wpOp C (.awC x e) d K F H=sA C (x.ev F) e d K F H:=(rfl)
@[go_sem] theorem apN(n:Nat)(cs:List PV)(e:List aO)(d:Option Nat)(K:PF→PH→Prop):sA C (some (.fn n cs)) e d K F H=kN C n e cs d K F H:=(rfl)
theorem PF.nil_le:PF.nil.le F:=λ_ _ h=>(by cases h)
abbrev d_:=@PF.nil_le
theorem PF.aN{i:Nat}{v:PV}{G:PF}(l:F.le G)(p:G i=some v):(F.set i v).le G:=by
 intro j u d;rw[mG]at d;split at d
 ·rename_i e;subst e;cases d;exact p
 ·exact l _ _ d
abbrev c_:=@PF.aN
theorem PF.le_refl:F.le F:=λ_ _ h=>h
theorem PH.nil_le:PH.nil.le H:=λ_ _ h=>(by cases h)
abbrev a_:=@PH.nil_le
theorem PH.aN{i:Nat}{x:aR}{G:PH}(l:H.le G)(p:G i=some x):(H.set i x).le G:=by
 intro j u d;rw[aU]at d;split at d
 ·rename_i e;subst e;cases d;exact p
 ·exact l _ _ d
theorem PH.le_refl:H.le H:=λ_ _ h=>h
abbrev b_:=@PH.le_refl
theorem wp_loop{c:aD}{α:Type}(d:α→PF)(Hs:α→PH)(e:α→Prop)(m:α→Nat)(i:α)(l:e i)(p:(d i).le F)(u:(Hs i).le H)
  (hb:∀a,e a→c.wp C (lO d Hs e m (m a) K) (d a) (Hs a)):aD.wp C (.loop c) K F H:=
 ⟨α,d,Hs,e,m,i,F,H,.refl F H,l,p,u,hb⟩
theorem aP{α:Type}{d:α→PF}{Hs:α→PH}{e:α→Prop}{m:α→Nat}{n:Nat}(a:α)(i:e a)(u:m a<n)(l:(d a).le F)(p:(Hs a).le H):lO d Hs e m n K .normal F H:=
 ⟨a,F,H,.refl F H,i,u,l,p⟩
@[go_sem] theorem apI{α:Type}{d:α→PF}{Hs:α→PH}{e:α→Prop}{m:α→Nat}{n:Nat}(id:Nat):lO d Hs e m n K (.exit id)=K (.exit id):=(rfl)
@[go_sem] theorem aqS{α:Type}{d:α→PF}{Hs:α→PH}{e:α→Prop}{m:α→Nat}{n:Nat}:lO d Hs e m n K .ret=K .ret:=(rfl)
def aQ(v:PV)(r:PV)(H:PH):Prop:=r=v∧H=PH.nil
theorem PH.BP:H.over .nil .nil=H:=PH.ext λo=>rfl
theorem Lh{name:Nat}{vs cs:List PV}{v:PV}{args:List aO}{d:Option Nat}{K:PF→PH→Prop}(h:aJ C name (vs++cs) .nil (aQ v))(e:aO.evs F args=some vs)
  (i:K (F.put d v) H):kN C name args cs d K F H:=by
 refine .inl ⟨vs++cs,.nil,_,by rw[e];rfl,a_,h,?_⟩;rintro r H' ⟨rfl,rfl⟩ _;rw[PH.BP];exact i
theorem aB{name:Nat}{vs:List PV}{v:PV}{args:List aO}{d:Option Nat}{K:PF→PH→Prop}(h:aJ C name vs .nil (aQ v))(e:aO.evs F args=some vs)
  (i:K (F.put d v) H):kN C name args [] d K F H:=Lh (cs:=[]) (by rw[ayO];exact h) e i
theorem cY{res:List dJ}{vs:List PV}{v:PV}{e:kZ}(p:e=.normal∨e=.ret)(h:dJ.evs F H res=some vs)(w:cR vs=v):bD res (aQ v) e F H:=by
 have d:∃vs,dJ.evs F H res=some vs∧∃i l H2,iV (PF.nil.set 0 (cR vs)) H i l∧H2.le l∧∃u,i 0=some u∧aQ v u H2:=
  ⟨vs,h,_,H,.nil,.refl _ _,a_,v,by rw[mG,aF rfl,w],rfl,rfl⟩
 rcases p with rfl|rfl<;>exact d
@[go_sem] theorem qA:dJ.evs F H []=some []:=(rfl)
@[go_sem] theorem mA(x:dJ)(xs:List dJ):dJ.evs F H (x::xs)=(match x.ev F H,dJ.evs F H xs with|some v,some vs=>some (v::vs)|_,_=>none):=(rfl)
@[go_sem] theorem oX(t:Nat):dJ.ev F H (.tmp t)=F t:=(rfl)
@[go_sem] theorem asN(t:Nat):dJ.ev F H (.cell t none)=(match F t with|some p=>(match loadCells H p 1 with|some [v]=>some v|_=>none)|none=>none):=(rfl)
@[go_sem] theorem aqT(t k:Nat):dJ.ev F H (.cell t (some k))=(match F t with|some p=>(loadCells H p k).map .agg|none=>none):=(rfl)
end
section
variable {C:Ctx} {K:cJ} {F:PF} {H Hs:PH} {S:Spec}
theorem dH{ops:List (aS × Bool)}(Hs:PH)(S:Spec)(d:Hs.le H)(h:wpD C Hs S ops (K .normal) F H):aD.wp C (.draw ops) K F H:=⟨Hs,S,d,h⟩
def gX:Spec:=λ_ _=>none
def dOp(C:Ctx)(Hs:PH)(S:Spec)(st:Bool)(op:POp)(d:Option Nat)(K:PF→PH→Prop)(F:PF)(H:PH):Prop:=(op.kind F).run C Hs S st (λv H'=>K (F.put d v) H') H
@[go_sem] theorem asS(K:PF→PH→Prop):wpD C Hs S [] K F H=K F H:=(rfl)
@[go_sem] theorem asT(d:Option Nat)(op:POp)(st:Bool)(rest:List (aS × Bool))(K:PF→PH→Prop):wpD C Hs S ((⟨d,op,none⟩,st)::rest) K F H=dOp C Hs S st op d (wpD C Hs S rest K) F H:=(rfl)
def BH(C:Ctx)(Hs:PH)(S:Spec)(v:Option PV)(e st:Bool)(op:POp)(d:Option Nat)(rest:List (aS × Bool))(K:PF→PH→Prop)(F:PF)(H:PH):Prop:=
 match v with
 |some (.bool b)=>if b=e then dOp C Hs S st op d (wpD C Hs S rest K) F H else wpD C Hs S rest K (F.put d (.tup [])) H
 |some (.tup [])=>wpD C Hs S rest K (F.put d (.tup [])) H
 |_=>False
@[go_sem] theorem aqV(d:Option Nat)(op:POp)(t:Nat)(e st:Bool)(rest:List (aS × Bool))(K:PF→PH→Prop) :
  wpD C Hs S ((⟨d,op,some (t,e)⟩,st)::rest) K F H=BH C Hs S (F t) e st op d rest K F H:=by
 have i:wpD C Hs S ((⟨d,op,some (t,e)⟩,st)::rest) K F H=((⟨d,op,some (t,e)⟩:aS).kind F).run C Hs S st (λv H'=>wpD C Hs S rest K (F.put d v) H') H:=(rfl);rw[i];unfold aS.kind BH;simp only;cases F t with
 |none=>rfl
 |some v=>
  cases v
  case bool b=>
   simp only;by_cases hb:b=e
   ·rw[aF hb,aF hb];rfl
   ·rw[aC hb,aC hb];simp[Kind.run]
  case tup vs=>cases vs<;>simp[Kind.run]
  all_goals rfl
@[go_sem] theorem aqM(op:POp)(st:Bool)(d:Option Nat)(rest:List (aS × Bool))(K:PF→PH→Prop):BH C Hs S (some (.bool true)) true st op d rest K F H=dOp C Hs S st op d (wpD C Hs S rest K) F H:=(rfl)
@[go_sem] theorem aqJ(op:POp)(st:Bool)(d:Option Nat)(rest:List (aS × Bool))(K:PF→PH→Prop):BH C Hs S (some (.bool false)) false st op d rest K F H=dOp C Hs S st op d (wpD C Hs S rest K) F H:=(rfl)
@[go_sem] theorem aqL(op:POp)(st:Bool)(d:Option Nat)(rest:List (aS × Bool))(K:PF→PH→Prop):BH C Hs S (some (.bool true)) false st op d rest K F H=wpD C Hs S rest K (F.put d (.tup [])) H:=(rfl)
@[go_sem] theorem aqK(op:POp)(st:Bool)(d:Option Nat)(rest:List (aS × Bool))(K:PF→PH→Prop):BH C Hs S (some (.bool false)) true st op d rest K F H=wpD C Hs S rest K (F.put d (.tup [])) H:=(rfl)
@[go_sem] theorem anH(e:Bool)(op:POp)(st:Bool)(d:Option Nat)(rest:List (aS × Bool))(K:PF→PH→Prop):BH C Hs S (some (.tup [])) e st op d rest K F H=wpD C Hs S rest K (F.put d (.tup [])) H:=(rfl)
@[go_sem] theorem atO(x:aO)(st:Bool)(d:Option Nat)(K:PF→PH→Prop):dOp C Hs S st (.mv x) d K F H=bW (aL (.mv x) F (if st then Hs else H)) d K F H:=(rfl)
@[go_sem] theorem arY(x:aO)(st:Bool)(d:Option Nat)(K:PF→PH→Prop):dOp C Hs S st (.same x) d K F H=bW (aL (.same x) F (if st then Hs else H)) d K F H:=(rfl)
@[go_sem] theorem arX(c a b:aO)(st:Bool)(d:Option Nat)(K:PF→PH→Prop):dOp C Hs S st (.pick c a b) d K F H=bW (aL (.pick c a b) F (if st then Hs else H)) d K F H:=(rfl)
@[go_sem] theorem atC(o:BinOp)(x y:aO)(st:Bool)(d:Option Nat)(K:PF→PH→Prop):dOp C Hs S st (.bin o x y) d K F H=bW (aL (.bin o x y) F (if st then Hs else H)) d K F H:=(rfl)
@[go_sem] theorem atE(n:Bool)(x y:aO)(st:Bool)(d:Option Nat)(K:PF→PH→Prop):dOp C Hs S st (.eqb n x y) d K F H=bW (aL (.eqb n x y) F (if st then Hs else H)) d K F H:=(rfl)
@[go_sem] theorem atF(n:Bool)(e:List Sc)(x y:aO)(st:Bool)(d:Option Nat)(K:PF→PH→Prop):dOp C Hs S st (.eqs n e x y) d K F H=bW (aL (.eqs n e x y) F (if st then Hs else H)) d K F H:=(rfl)
@[go_sem] theorem atP(o:UnOp)(x:aO)(st:Bool)(d:Option Nat)(K:PF→PH→Prop):dOp C Hs S st (.un o x) d K F H=bW (aL (.un o x) F (if st then Hs else H)) d K F H:=(rfl)
@[go_sem] theorem arQ(k:IntKind)(x:aO)(st:Bool)(d:Option Nat)(K:PF→PH→Prop):dOp C Hs S st (.conv k x) d K F H=bW (aL (.conv k x) F (if st then Hs else H)) d K F H:=(rfl)
@[go_sem] theorem aqA(z:List PV)(ps:List (Nat × Nat × aO))(st:Bool)(d:Option Nat)(K:PF→PH→Prop):dOp C Hs S st (.build z ps) d K F H=bW (aL (.build z ps) F (if st then Hs else H)) d K F H:=(rfl)
@[go_sem] theorem arV(n:Option Nat)(p:aO)(st:Bool)(d:Option Nat)(K:PF→PH→Prop):dOp C Hs S st (.load n p) d K F H=bW (aL (.load n p) F (if st then Hs else H)) d K F H:=(rfl)
@[go_sem] theorem apA(x:aO)(st:Bool)(d:Option Nat)(K:PF→PH→Prop):dOp C Hs S st (.avN x) d K F H=bW (aL (.avN x) F (if st then Hs else H)) d K F H:=(rfl)
@[go_sem] theorem aoU(e:Nat)(x:aO)(st:Bool)(d:Option Nat)(K:PF→PH→Prop):dOp C Hs S st (.awD e x) d K F H=bW (aL (.awD e x) F (if st then Hs else H)) d K F H:=(rfl)
@[go_sem] theorem aqB(e:Nat)(n:Option Nat)(x:aO)(st:Bool)(d:Option Nat)(K:PF→PH→Prop):dOp C Hs S st (.field e n x) d K F H=bW (aL (.field e n x) F (if st then Hs else H)) d K F H:=(rfl)
@[go_sem] theorem arS(s:Nat)(x i:aO)(st:Bool)(d:Option Nat)(K:PF→PH→Prop):dOp C Hs S st (.avR s x i) d K F H=bW (aL (.avR s x i) F (if st then Hs else H)) d K F H:=(rfl)
@[go_sem] theorem arR(n s:Nat)(x i:aO)(st:Bool)(d:Option Nat)(K:PF→PH→Prop):dOp C Hs S st (.idxA n s x i) d K F H=bW (aL (.idxA n s x i) F (if st then Hs else H)) d K F H:=(rfl)
@[go_sem] theorem arT(n s:Nat)(g:Bool)(x i:aO)(st:Bool)(d:Option Nat)(K:PF→PH→Prop):dOp C Hs S st (.idxV n s g x i) d K F H=bW (aL (.idxV n s g x i) F (if st then Hs else H)) d K F H:=(rfl)
@[go_sem] theorem aoV(x i:aO)(st:Bool)(d:Option Nat)(K:PF→PH→Prop):dOp C Hs S st (.awB x i) d K F H=bW (aL (.awB x i) F (if st then Hs else H)) d K F H:=(rfl)
@[go_sem] theorem aqE(s:Nat)(x:aO)(lo hi mx:Option aO)(st:Bool)(d:Option Nat)(K:PF→PH→Prop):dOp C Hs S st (.slice s x lo hi mx) d K F H=bW (aL (.slice s x lo hi mx) F (if st then Hs else H)) d K F H:=(rfl)
@[go_sem] theorem alL(x:aO)(lo hi:Option aO)(st:Bool)(d:Option Nat)(K:PF→PH→Prop):dOp C Hs S st (.avX x lo hi) d K F H=bW (aL (.avX x lo hi) F (if st then Hs else H)) d K F H:=(rfl)
@[go_sem] theorem atG(x:aO)(st:Bool)(d:Option Nat)(K:PF→PH→Prop):dOp C Hs S st (.len x) d K F H=bW (aL (.len x) F (if st then Hs else H)) d K F H:=(rfl)
@[go_sem] theorem aoW(x:aO)(st:Bool)(d:Option Nat)(K:PF→PH→Prop):dOp C Hs S st (.awA x) d K F H=bW (aL (.awA x) F (if st then Hs else H)) d K F H:=(rfl)
@[go_sem] theorem arU(x:aO)(st:Bool)(d:Option Nat)(K:PF→PH→Prop):dOp C Hs S st (.lenM x) d K F H=bW (aL (.lenM x) F (if st then Hs else H)) d K F H:=(rfl)
@[go_sem] theorem aqC(n:Bool)(x:aO)(st:Bool)(d:Option Nat)(K:PF→PH→Prop):dOp C Hs S st (.isNil n x) d K F H=bW (aL (.isNil n x) F (if st then Hs else H)) d K F H:=(rfl)
@[go_sem] theorem aoT(x:aO)(st:Bool)(d:Option Nat)(K:PF→PH→Prop):dOp C Hs S st (.awK x) d K F H=bW (aL (.awK x) F (if st then Hs else H)) d K F H:=(rfl)
@[go_sem] theorem anF(x:aO)(i:Nat)(st:Bool)(d:Option Nat)(K:PF→PH→Prop):dOp C Hs S st (.extract x i) d K F H=bW (aL (.extract x i) F (if st then Hs else H)) d K F H:=(rfl)
@[go_sem] theorem aoZ(m:Bool)(x y:aO)(st:Bool)(d:Option Nat)(K:PF→PH→Prop):dOp C Hs S st (.avV m x y) d K F H=bW (aL (.avV m x y) F (if st then Hs else H)) d K F H:=(rfl)
@[go_sem] theorem arW(n:Nat)(cs:List aO)(st:Bool)(d:Option Nat)(K:PF→PH→Prop):dOp C Hs S st (.mkfn n cs) d K F H=bW (aL (.mkfn n cs) F (if st then Hs else H)) d K F H:=(rfl)
@[go_sem] theorem aoX(sh:MSh)(z:PV)(x k:aO)(ok:Bool)(st:Bool)(d:Option Nat)(K:PF→PH→Prop):dOp C Hs S st (.lookup sh z x k ok) d K F H=bW (aL (.lookup sh z x k ok) F (if st then Hs else H)) d K F H:=(rfl)
@[go_sem] theorem akX(x:aO)(st:Bool)(d:Option Nat)(K:PF→PH→Prop):dOp C Hs S st (.avO x) d K F H=bW (aL (.avO x) F (if st then Hs else H)) d K F H:=(rfl)
@[go_sem] theorem arP(x:aO)(st:Bool)(d:Option Nat)(K:PF→PH→Prop):dOp C Hs S st (.box true x) d K F H=bW (aL (.box true x) F (if st then Hs else H)) d K F H:=(rfl)
@[go_sem] theorem anE(s l:Nat)(z:List PV)(ps:List (Nat × aO))(st:Bool)(d:Option Nat)(K:PF→PH→Prop):dOp C Hs S st (.avG true s l z ps) d K F H=bW (aL (.avG true s l z ps) F (if st then Hs else H)) d K F H:=(rfl)
@[go_sem] theorem apZ(cs:List PV)(st:Bool)(d:Option Nat)(K:PF→PH→Prop):dOp C Hs S st (.alloc cs) d K F H=nL (cA (.alloc cs) F) d K F H:=(rfl)
@[go_sem] theorem anG(s b:Nat)(z:List PV)(l c:aO)(st:Bool)(d:Option Nat)(K:PF→PH→Prop):dOp C Hs S st (.avI s b z l c) d K F H=nL (cA (.avI s b z l c) F) d K F H:=(rfl)
@[go_sem] theorem aqD(sh:MSh)(st:Bool)(d:Option Nat)(K:PF→PH→Prop):dOp C Hs S st (.awG sh) d K F H=nL (cA (.awG sh) F) d K F H:=(rfl)
@[go_sem] theorem atD(x:aO)(st:Bool)(d:Option Nat)(K:PF→PH→Prop):dOp C Hs S st (.box false x) d K F H=nL (cA (.box false x) F) d K F H:=(rfl)
@[go_sem] theorem aoS(s l:Nat)(z:List PV)(ps:List (Nat × aO))(st:Bool)(d:Option Nat)(K:PF→PH→Prop):dOp C Hs S st (.avG false s l z ps) d K F H=nL (cA (.avG false s l z ps) F) d K F H:=(rfl)
@[go_sem] theorem aqF(n:Nat)(p x:aO)(st:Bool)(d:Option Nat)(K:PF→PH→Prop):dOp C Hs S st (.store n p x) d K F H=bN (.store n p x) F H (λr H'=>Hs.le H'∧K (F.put d r) H'):=(rfl)
@[go_sem] theorem aoR(s b:Nat)(x y:aO)(st:Bool)(d:Option Nat)(K:PF→PH→Prop):dOp C Hs S st (.append s b x y) d K F H=bN (.append s b x y) F H (λr H'=>Hs.le H'∧K (F.put d r) H'):=(rfl)
@[go_sem] theorem aoY(sh:MSh)(x k v:aO)(st:Bool)(d:Option Nat)(K:PF→PH→Prop):dOp C Hs S st (.avS sh x k v) d K F H=bN (.avS sh x k v) F H (λr H'=>Hs.le H'∧K (F.put d r) H'):=(rfl)
theorem KU:H.only []=PH.nil:=PH.ext λo=>by simp[PH.only,PH.nil]
theorem eI{name:Nat}{vs:List PV}{v:PV}{args:List aO}{st:Bool}{d:Option Nat}{K:PF→PH→Prop}(i:S name vs=some ([],λ_=>aQ v))(h:aJ C name vs .nil (aQ v))(l:aO.evs F args=some vs)
  (e:Hs.le H) (p:K (F.put d v) H):dOp C Hs S st (.call name args) d K F H:=by
 refine⟨vs,[],λ_=>aQ v,l,i,λo u=>by simp at u,by rw[KU];exact h,λG=>⟨v,.nil,⟨rfl,rfl⟩,λo x w=>by simp[PH.nil]at w⟩,?_⟩;rintro r H' ⟨rfl,rfl⟩ -;rw[KU,PH.BP];exact⟨e,p⟩
end
theorem wrap_i64{n:Int}(d:-9223372036854775808≤n)(i:n≤9223372036854775807):IntKind.i64.wrap n=n:=by
 have e:IntKind.i64.wrap n=if decide (n%18446744073709551616≥9223372036854775808)=true then n%18446744073709551616-18446744073709551616 else n%18446744073709551616:=by simp[IntKind.wrap,IntKind.bits,IntKind.signed]
 rw[e];split
 ·rename_i h;simp only[decide_eq_true_eq]at h;omega
 ·rename_i h;simp only[decide_eq_true_eq]at h;omega
theorem aw{k:Nat}(h:k≤9223372036854775807):IntKind.i64.wrap (k:Int)=k:=wrap_i64 Om Om
theorem dT{k:Nat}(h:k<9223372036854775807):IntKind.i64.wrap ((k:Int)+1)=((k+1:Nat):Int):=by
 rw[wrap_i64 Om Om];omega
theorem wZz(k:Nat)(h:k<9223372036854775807:=by omega):IntKind.i64.wrap ((k:Int)+1)=((k+1:Nat):Int):=dT h
theorem wrap_u64{n:Int}(d:0≤n)(i:n<18446744073709551616):IntKind.u64.wrap n=n:=by
 have e:IntKind.u64.wrap n=n%18446744073709551616:=by simp[IntKind.wrap,IntKind.bits,IntKind.signed]
 rw[e];omega
abbrev ints(xs:List Int):PV:=.sl 1 (xs.map λn=>[.int .i64 n])
open Go Go.RowKit
inductive CT where
 |int (k:IntKind)
 |bool
 |str
 |sl (es:List CT)
 deriving Inhabited
def sK(P:Program)(rec:TypeId→Option (List CT)):Nat→List Field→Option (List CT)
 |_,[]=>some []
 |k,f::d=>match rec f.type with
  |some cts=>if f.offset=k∧P.cellsOf f.type=cts.length then(sK P rec (k+Z' cts) d).map (cts++·)else none
  |none=>none
def jD(P:Program):Nat→TypeId→Option (List CT)
 |0,_=>none
 |n+1,t=>match P.underlying t with
  |some .bool=>some [.bool]
  |some (.int k)=>some [.int k]
  |some .string=>some [.str]
  |some (.slice e)=>match jD P n e with
   |some cts=>if P.cellsOf e=Z' cts∧0<cts.length then some [.sl cts]else none
   |none=>none
  |some (.struct d)=>match sK P (jD P n) 0 d.toList with
   |some cts=>if P.cellsOf t=cts.length then some cts else none
   |none=>none
  |some (.array k e)=>match jD P n e with
   |some cts=>if P.cellsOf e=Z' cts∧P.cellsOf t=k*cts.length then some (awO k cts).flatten else none
   |none=>none
  |_=>none
inductive PV.Ty:CT→PV→Prop
 |int {k:IntKind} {n:Int} (h:(Lit.int k n).wf=true):PV.Ty (.int k) (.int k n)
 |bool (b:Bool):PV.Ty .bool (.bool b)
 |str {s:List UInt8} (h:Z' s≤maxLen):PV.Ty .str (.str s)
 |sl {es:List CT} {rows:List (List PV)} (hr:∀r∈rows,Z' r=Z' es) (hl:Z' rows≤maxLen) (h:∀(i j:Nat) pv ct,at2 rows i j=some pv→es[j]?=some ct→PV.Ty ct pv):PV.Ty (.sl es) (.sl es.length rows)
def Env.of(W:World)(num:Nat→FuncId):Env:=⟨λb=>match W.heap[b]? with|some (.cells cs _ _)=>some cs|_=>none,λ_=>none,num⟩
theorem bK.start(W:World)(num:Nat→FuncId):bK (Env.of W num) PH.nil W:=by
 refine⟨λb cs hb=>⟨λx d=>(by cases d),?_⟩,λo x d=>(by cases d),λo n h=>(by cases h)⟩;simp only[Env.of]at hb;split at hb
 ·rename_i c ty fr h;cases hb;exact⟨ty,fr,h⟩
 ·cases hb
structure Reads(E:Env)(cts:List CT)(pvs:List PV)(cs:List Value):Prop where
 lp:Z' pvs=Z' cts
 lc:Z' cs=Z' cts
 rep:∀(j:Nat) pv c,pvs[j]?=some pv→cs[j]?=some c→aX E pv c∧c.oneCell'=true
 ty:∀(j:Nat) pv ct,pvs[j]?=some pv→cts[j]?=some ct→PV.Ty ct pv
theorem Reads.one{E:Env}{ct:CT}{pv:PV}{c:Value}(h:aX E pv c)(d:c.oneCell'=true)(e:PV.Ty ct pv):Reads E [ct] [pv] [c]:=by
 refine⟨rfl,rfl,λj p u a b=>?_,λj p u a b=>?_⟩
 ·cases j with
  |zero=>simp at a b;subst a;subst b;exact⟨h,d⟩
  |succ j=>simp at a
 ·cases j with
  |zero=>simp at a b;subst a;subst b;exact e
  |succ j=>simp at a
theorem Reads.append{E:Env}{d i:List CT}{e x:List PV}{l w:List Value}(h:Reads E d e l)(k:Reads E i x w):Reads E (d++i) (e++x) (l++w):=by
 refine⟨by simp[h.lp,k.lp],by simp[h.lc,k.lc],λj p u a b=>?_,λj p u a b=>?_⟩
 ·rcases axA j e.length with hj|hj
  ·rw[azD hj]at a;rw[azD (by rw[h.lc,←h.lp];exact hj)]at b;exact h.rep j p u a b
  ·rw[ayW hj]at a;rw[ayW (by rw[h.lc,←h.lp];exact hj)]at b;rw[show j-Z' l=j-e.length by rw[h.lc,h.lp]]at b;exact k.rep _ p u a b
 ·rcases axA j e.length with hj|hj
  ·rw[azD hj]at a;rw[azD (by rw[←h.lp];exact hj)]at b;exact h.ty j p u a b
  ·rw[ayW hj]at a;rw[ayW (by rw[←h.lp];exact hj)]at b;rw[show j-Z' d=j-e.length by rw[h.lp]]at b;exact k.ty _ p u a b
theorem ce{W:World}{num:Nat→FuncId}{a:Addr}{v:Value}(h:W.cell? a=some v):a.spot=none∧(Env.of W num).cell a.block a.off=some v:=by
 unfold World.cell? at h;split at h
 ·rename_i c ty fr hb;split at h
  ·cases h
  ·rename_i d;refine⟨by simpa using d,?_⟩;simp only[Env.cell,Env.of,hb];exact h
 ·cases h
inductive PV.Len (N:Nat):PV→Prop
 |flat {pv:PV} (h1:∀n rows,pv≠.sl n rows) (h2:∀vs,pv≠.agg vs):PV.Len N pv
 |sl {n:Nat} {rows:List (List PV)} (h:Z' rows≤N) (hr:∀r∈rows,∀v∈r,PV.Len N v):PV.Len N (.sl n rows)
 |agg {vs:List PV} (h:∀v∈vs,PV.Len N v):PV.Len N (.agg vs)
theorem PV.Len.int{N:Nat}(k:IntKind)(n:Int):PV.Len N (.int k n):=.flat (λ_ _ h=>by cases h) λ_ h=>by cases h
theorem PV.Len.bool{N:Nat}(b:Bool):PV.Len N (.bool b):=.flat (λ_ _ h=>by cases h) λ_ h=>by cases h
theorem PV.Len.str{N:Nat}(s:List UInt8):PV.Len N (.str s):=.flat (λ_ _ h=>by cases h) λ_ h=>by cases h
theorem PV.Len.rows{N n:Nat}{rows:List (List PV)}(h:PV.Len N (.sl n rows)):Z' rows≤N∧∀r∈rows,∀v∈r,PV.Len N v:=by
 cases h with
 |flat d _=>exact absurd rfl (d n rows)
 |sl d e=>exact⟨d,e⟩
theorem PV.Len.parts{N:Nat}{vs:List PV}(h:PV.Len N (.agg vs)):∀v∈vs,PV.Len N v:=by
 cases h with
 |flat _ d=>exact absurd rfl (d vs)
 |agg h=>exact h
structure WN{H:Type}(P:Program)(N:Nat)(S:TypeId→DataW H→Prop):Prop where
 sl:∀t e elems spare,P.underlying t=some (.slice e)→S t (.slice elems spare)→Z' elems≤N∧∀d∈elems,S e d
 st:∀t fs parts,P.underlying t=some (.struct fs)→S t (.agg parts)→∀(i:Nat) g d,fs[i]?=some g→parts[i]?=some d→S g.type d
 ar:∀t n e parts,P.underlying t=some (.array n e)→S t (.agg parts)→∀d∈parts,S e d
theorem SH{H:Type}{P:Program}{A:(TypeId→DataW H→Prop)→Prop}{pv:PV}(h:∀{N},PV.Len N pv):∀N S,WN P N S→A S→∀v∈[pv],PV.Len N v:=λN S _ _ v d=>by
 obtain rfl:=ayX.1 d;exact h
theorem du{P:Program}{E:Env}{rec:TypeId→Option (List CT)}{H:Type}{f:TypeId→List Value→Option (DataW H × List MemPlace)}
  (F:∀t cs x cts,f t cs=some x→rec t=some cts→∃d,Reads E cts d cs∧∀N S,WN P N S→S t x.1→∀v∈d,PV.Len N v) (cs:List Value) :
  ∀(i:List Field)(k:Nat)(cts:List CT),(∀g∈i,∃x,f g.type ((cs.drop g.offset).take (P.cellsOf g.type))=some x)→sK P rec k i=some cts →
   ∃d,Reads E cts d ((cs.drop k).take cts.length)∧∀N S,WN P N S→(∀g∈i,∀x,f g.type ((cs.drop g.offset).take (P.cellsOf g.type))=some x→S g.type x.1)→∀v∈d,PV.Len N v
 |[],k,cts,_,h=>by simp[sK]at h;subst h;exact⟨[],⟨rfl,by simp,λj p c a=>by simp at a,λj p c a=>by simp at a⟩,λ_ _ _ _ v hv=>by cases hv⟩
 |g::i,k,cts,A,h=>by
  simp only[sK]at h;split at h
  ·rename_i J M;split at h
   ·rename_i y;simp only[awR]at h;obtain⟨K,O,rfl⟩:=h;obtain⟨x,B⟩:=A g aY;obtain⟨U,r1,Q⟩:=F _ _ _ _ B M;rw[y.1,y.2]at r1;obtain⟨V,r2,R⟩:=du F cs i (k+Z' J) K (λl e=>A l (by simp[e])) O;refine⟨U++V,?_,λN S u w v hv=>?_⟩
    ·have:=r1.append r2;rw[awQ,List.take_add,List.drop_drop];exact this
    ·rcases ayA.1 hv with hv|hv
     ·exact Q N S u (w g aY x B) v hv
     ·exact R N S u (λl e=>w l (by simp[e])) v hv
   ·cases h
  ·cases h
theorem rh{E:Env}{cts:List CT}{R:List PV→Prop}(e:R [])(l:∀a b,R a→R b→R (a++b))(cs:List Value) :
  ∀n:Nat,(∀i,i<n→∃d,Reads E cts d ((cs.drop (i*Z' cts)).take cts.length)∧R d)→∃d,Reads E (awO n cts).flatten d (cs.take (n*Z' cts))∧R d
 |0,_=>⟨[],⟨rfl,by simp,λj p c a=>by simp at a,λj p c a=>by simp at a⟩,e⟩
 |n+1,h=>by obtain⟨u,r1,x⟩:=rh e l cs n λi hi=>h i Om;obtain⟨w,r2,y⟩:=h n Om;refine⟨u++w,?_,l _ _ x y⟩;rw[List.replicate_succ',List.flatten_append,List.flatten_singleton,azQ,List.take_add];exact r1.append r2
theorem afO{H:Type}{enc:TypeId × Value→H}{P:Program}{W:World}{M:Nat}{sp:Nat→Bool}{α:Bool}(num:Nat→FuncId) :
  ∀(fuel m:Nat)(t:TypeId)(cs:List Value)(x:DataW H × List MemPlace)(cts:List CT),DataW.trod enc P W M sp α fuel t cs=some x→jD P m t=some cts→∃l,Reads (Env.of W num) cts l cs∧∀N S,WN P N S→S t x.1→∀v∈l,PV.Len N v:=by
 intro fuel
 induction fuel with
 |zero=>intro m t cs x cts h;simp[DataW.trod]at h
 |succ fuel ih=>
  intro m t cs x cts h u;cases m with
  |zero=>simp[jD]at u
  |succ m=>
   simp only[jD]at u;split at u
   ·rename_i O;cases u;obtain⟨b,rfl,-⟩:=DataW.trod_bool O h;exact⟨[.bool b],.one (.bool b) rfl (.bool b),SH (.bool b)⟩
   ·rename_i k O;cases u;obtain⟨n,rfl,-,hw⟩:=DataW.trod_int O h;exact⟨[.int k n],.one (.int k n) rfl (.int hw),SH (.int k n)⟩
   ·rename_i O;cases u;obtain⟨s,rfl,-,hs⟩:=DataW.trod_string O h;exact⟨[.str s.data.toList],.one (.str s) rfl (.str (by rw[azK];exact hs)),SH (.str _)⟩
   ·rename_i e O;split at u
    ·rename_i p he;split at u
     ·rename_i A;cases u;rcases DataW.trod_slice O h with⟨rfl,-⟩|⟨a,len,cap,elems,rest,n,hn,rfl,X,-,β,hcap,hel,helem,-⟩
      ·refine⟨[.sl p.length []],.one ?_ rfl (.sl aY aY (by simp[at2])),SH (.sl (axB _) (λr U=>by cases U))⟩;exact .sl (λ_ _=>.bool false) aY aV aY aY (λ_ _=>rfl) (by simp[at2])
      ·cases hn;have each:∀i,i<len→∃l Y,(Reads (Env.of W num) p l Y∧∀N S,WN P N S→(∀d∈elems.map (·.1),S e d)→∀v∈l,PV.Len N v)∧W.cells? M (a.add (i*Z' p)) p.length=some Y:=by intro i hi;have h1:=helem i hi;rw[awX Om,aAC]at h1;obtain⟨Y,h2,h3⟩:=h1;obtain⟨l,r,rl⟩:=ih m e Y _ p h3 he;rw[A.1]at h2;exact⟨l,Y,⟨r,λN S F J=>rl N S F (J _ (axG.2 ⟨_,awS _,rfl⟩))⟩,h2⟩
       have γ:∀i,∃l,∃Y,i<len→(Reads (Env.of W num) p l Y∧∀N S,WN P N S→(∀d∈elems.map (·.1),S e d)→∀v∈l,PV.Len N v)∧W.cells? M (a.add (i*Z' p)) p.length=some Y:=by
        intro i;by_cases hi:i<len
        ·obtain⟨l,Y,h1⟩:=each i hi;exact⟨l,Y,λ_=>h1⟩
        ·exact⟨[],[],λh=>(hi h).elim⟩
       obtain⟨pf,ν⟩:=Classical.axiomOfChoice γ;obtain⟨uf,K⟩:=Classical.axiomOfChoice ν;have δ:∀i j pv,at2 ((awU len).map pf) i j=some pv→i<len∧(pf i)[j]?=some pv:=by
        intro i j pv hp;unfold at2 at hp;rw[axH,aAC]at hp;obtain⟨r,U,hp⟩:=hp;rw[awR]at U;obtain⟨i',Q,rfl⟩:=U;have hi:i<len:=by simpa using(axO.1 Q).1
        have:i'=i:=by simp[hi]at Q;exact Q.symm
        subst this;exact⟨hi,hp⟩
       have hu2:∀i j pv,at2 ((awU len).map pf) i j=some pv→∃v,(uf i)[j]?=some v∧j<Z' p∧aX (Env.of W num) pv v∧v.oneCell'=true:=by
        intro i j pv hp;obtain⟨hi,V⟩:=δ i j pv hp;obtain⟨⟨r,-⟩,-⟩:=K i hi;have hj:j<Z' p:=by rw[←r.lp];exact(axO.1 V).1
        have B:(uf i)[j]?=some ((uf i)[j]'(by rw[r.lc];exact hj)):=awX _;exact⟨_,B,hj,(r.rep j pv _ V B).1,(r.rep j pv _ V B).2⟩
       have Z:((awU len).map pf).length=len:=by simp
       refine⟨[.sl p.length ((awU len).map pf)],.one ?_ rfl (.sl (λr U=>?_) (by rw[Z];omega) λi j pv ct hp ι=>?_),λN S F J v B=>?_⟩
       ·have ζ:=aX.sl (E:=Env.of W num) (size:=Z' p) (rows:=(awU len).map pf) (a:=some a) (cap:=cap)
         (λi j=>match at2 ((awU len).map pf) i j with|some _=>((uf i)[j]?).getD (.bool false)|none=>.bool false) (by rw[Z];exact β) hcap
         (λr U=>by simp only[axG,ayB]at U;obtain⟨i,hi,rfl⟩:=U;exact(K i hi).1.1.lp)
         (λμ=>by
          have κ:0<len:=by
           rcases azE len with h|h
           ·subst h;exact(μ rfl).elim
           ·exact h
          have ε:a.spot=none:=by obtain⟨⟨r,-⟩,u⟩:=K 0 κ;have h3:=(World.cells?_some u).2.2 0 A.2;rw[Nat.zero_mul,Addr.add_zero',Addr.add_zero',awX (by rw[r.lc];exact A.2)]at h3;exact(ce (num:=num) h3).1
          refine⟨a,rfl,ε,λi j pv hp=>?_⟩;obtain⟨hi,-⟩:=δ i j pv hp;obtain⟨v,B,hj,-⟩:=hu2 i j pv hp;have h3:=(World.cells?_some (K i hi).2).2.2 j hj;rw[pG ε,add_plain,add_plain,B]at h3;have h4:=(ce (num:=num) h3).2;simp only[hp,B,azV];exact h4)
         (λi j=>by
          split
          ·rename_i pv hp;obtain⟨v,B,-,-,h1⟩:=hu2 i j pv hp;simp[B,h1]
          ·rfl)
         (λi j pv hp=>by obtain⟨v,B,-,h1,-⟩:=hu2 i j pv hp;simp only[hp,B,azV];exact h1)
        rw[Z]at ζ;exact ζ
       ·simp only[axG,ayB]at U;obtain⟨i,hi,rfl⟩:=U;exact(K i hi).1.1.lp
       ·obtain⟨hi,V⟩:=δ i j pv hp;exact(K i hi).1.1.ty j pv ct V ι
       ·rw[X]at J;obtain⟨m1,m2⟩:=F.sl t e _ _ O J;obtain rfl:=ayX.1 B;refine .sl (by rw[Z];simpa[hel]using m1) λr U w hw=>?_;simp only[axG,ayB]at U;obtain⟨i,hi,rfl⟩:=U;exact(K i hi).1.2 N S F m2 w hw
     ·cases u
    ·cases u
   ·rename_i fs O;split at u
    ·rename_i ο η;split at u
     ·rename_i β;cases u;obtain⟨xs,n,hn,X,θ,ξ,hx⟩:=DataW.trod_struct O h;cases hn;have:=du (f:=DataW.trod enc P W M sp α fuel) (λt cs x cts a b=>ih m t cs x cts a b) cs fs.toList 0 cts (λg hg=>by obtain⟨i,hi,rfl⟩:=ayK hg;have:=hx i fs.toList[i] (by simp at hi;simp[hi]);rw[this];exact⟨_,awX (by simp at hi;omega)⟩) η
      rw[axU,axE Om]at this;obtain⟨l,r,rl⟩:=this;refine⟨l,r,λN S F J=>rl N S F λg hg y hy=>?_⟩;rw[X]at J;obtain⟨i,hi,rfl⟩:=ayK hg;have Q:i<fs.size:=by simpa using hi
      have:=hx i fs.toList[i] (by simp[Q]);rw[hy,awX Om]at this;refine F.st t fs _ O J i fs.toList[i] y.1 (by simp[Q]) ?_;rw[axH,awX Om,←this];rfl
     ·cases u
    ·cases u
   ·rename_i k e O;split at u
    ·rename_i p he;split at u
     ·rename_i A;cases u;obtain⟨xs,n,hn,X,θ,ξ,hx⟩:=DataW.trod_array O h;cases hn;obtain⟨l,r,hq⟩:=rh (E:=Env.of W num) (cts:=p) (R:=λl=>∀N S,WN P N S→(∀d:DataW H,d∈xs.map (λy:DataW H × List MemPlace=>y.1)→S e d)→∀v∈l,PV.Len N v) (λ_ _ _ _ v B=>by cases B)
       (λa b ha hb N S F J v B=>(ayA.1 B).elim (ha N S F J v) (hb N S F J v)) cs k λi hi=>by have h2:=hx i hi;rw[awX Om,A.1]at h2;obtain⟨l,r,rl⟩:=ih m e _ _ p h2 he;exact⟨l,r,λN S F J=>rl N S F (J _ (axG.2 ⟨_,awS _,rfl⟩))⟩
      rw[axE Om]at r;exact⟨l,r,λN S F J=>hq N S F (F.ar t k e _ O (by rw[X]at J;exact J))⟩
     ·cases u
    ·cases u
   ·cases u
theorem ju{H:Type}{enc:TypeId × Value→H}{P:Program}{W:World}{d:Nat}{p:Nat→Bool}{e:Bool}(num:Nat→FuncId)
  (fuel m:Nat) (t:TypeId) (cs:List Value) (x:DataW H × List MemPlace) (cts:List CT) (h:DataW.trod enc P W d p e fuel t cs=some x) (l:jD P m t=some cts):∃i,Reads (Env.of W num) cts i cs:=
 (afO num fuel m t cs x cts h l).imp λ_ r=>r.1
open Go Go.RowKit Go.ChangeShapes Go.WideShapes
theorem Ext.below{E e:Env}{H':PH}{w d:World}(h:Ext E PH.nil w e H' d):Below w.heap.size w d:=
 ⟨h.os,h.tape,h.output,h.size,λk i=>h.block k i rfl⟩
theorem Below.trodAll{H:Type}{enc:TypeId × Value→H}{P:Program}(w:laidOutB P=true){W i:World}(hb:Below W.heap.size W i) :
  ∀{ts:List TypeId}{vs:List Value}{ds:List (DataW H)}{ps:List MemPlace},(∀t∈ts,P.readableRec t=true∧t<P.types.size)→DataW.TrodAll enc P W 0 (λ_=>true) true ts vs ds ps →
   DataW.TrodAll enc P i 0 (λb=>decide (b<W.heap.size)) true ts vs ds ps
 |[],[],[],ps,_,h=>h
 |[],_::_,_,_,_,h=>h.elim
 |[],[],_::_,_,_,h=>h.elim
 |_::_,[],_,_,_,h=>h.elim
 |_::_,_::_,[],_,_,h=>h.elim
 |t::ts,v::vs,d::ds,ps,e,h=>by obtain⟨p,q,l,y,rfl⟩:=h;have hlt:∀x∈p,x.block<W.heap.size:=λx B=>DataW.TrodAll.lt (ts:=[t]) (vs:=[v]) (ds:=[d]) ⟨p,[],l,rfl,(ayO p).symm⟩ x B;exact⟨p,q,Below.trod w (e t aY).1 (e t aY).2 l hb hlt,Below.trodAll w hb (λu A=>e u (by simp[A])) y,rfl⟩
theorem Zq{H:Type}{enc:TypeId × Value→H}{P:Program}{f:Func}{s:ChangeSpec}{d apart fresh:Bool}{W A:World}{args:Array Value}{ds i:List (DataW H)}{e:List MemPlace}{bt:TypeId}
  (F:laidOutB P=true) (hW:DataW.Whole enc P f.params.toList s.vars apart W args.toList ds i e) (hb:Below W.heap.size W A) (w:∀t∈f.params.toList,P.readableRec t=true∧t<P.types.size)
  (u:f.resultTypes=#[bt]) (l:P.underlying bt=some .bool) (x:s.vars=[]) (K:(s.fn H (ds++i)).results=[.lit (.bool true)]) (E:(s.fn H (ds++i)).args=ds) (y:(s.fn H (ds++i)).vars=[]) :
  s.post enc P f apart fresh d false W args (.bool true) A:=by
 obtain⟨p,q,B,hV,rfl,M,J⟩:=hW;rw[x]at hV;obtain⟨rfl,rfl⟩:=trodVars_none hV;refine⟨ds,[],p++[],[],p,[],⟨p,[],B,by rw[x];exact hV,rfl,M,J⟩,?_,?_,?_,hb.frame _,λh=>by cases h⟩
 ·rw[K,u];refine⟨[],[],⟨1,?_⟩,rfl,rfl⟩;simp[DataW.trod,l,Value.cells,Value.resultList]
 ·rw[E];exact Below.trodAll F hb w B
 ·rw[x,y];exact rfl
theorem Yj{C:Ctx}{name:Nat}{W:World}{args:Array Value}{i:List PV}(h:aJ C name i PH.nil (aQ (.bool true)))(w:eW (Env.of W C.num) i args.toList) :
  Calls C.P (C.num name) args W λe l=>e=.returned (.bool true)∧Below W.heap.size W l:=
 (h.2 (Env.of W C.num) W args rfl (bK.start W C.num) w).mono λe l u=>by obtain⟨v,pv,x,H',rfl,-,d,p,rfl,-⟩:=u;cases d;exact⟨rfl,p.below⟩
theorem R3{H:Type}{enc:TypeId × Value→H}{P:Program}{W:World}{r:Reach}{l:Nat}{J:Nat→Bool}{p:Bool}(num:Nat→FuncId){t:TypeId}{v:Value}{d:DataW H}{ps:List MemPlace}{A:Array Field}{n:Nat}{cts:List CT}
  (x:P.underlying t=some (.struct A)) (w:Value.okWide P W r l t v) (E:DataW.Trod enc P W 0 J p t v d ps) (B:jD P n t=some cts) :
  ∃e,aX (Env.of W num) (.agg e) v∧Z' e=Z' cts∧∀(j:Nat) pv ct,e[j]?=some pv→cts[j]?=some ct→PV.Ty ct pv:=by
 obtain⟨cs,rfl,-⟩:=okWide_struct x w;obtain⟨fuel,h⟩:=E;obtain⟨e,i⟩:=ju num fuel n t _ _ cts h B;have F:cs.size=Z' e:=by have:=i.lc;rw[i.lp,←this];simp[Value.cells]
 refine⟨e,.agg cs F (λu x=>?_) (λj pv u a b=>(i.rep j pv u a (by simpa[Value.cells]using b)).1),i.lp,i.ty⟩;obtain⟨j,y,rfl⟩:=ayK x;simp only[azK]at y;exact(i.rep j _ _ (awX Om) (by simp[Value.cells,y])).2
theorem wC{H:Type}{enc:TypeId × Value→H}{P:Program}{W:World}{y:Nat→Bool}{e:Bool}(num:Nat→FuncId){t:TypeId}{v:Value}{d:DataW H}{ps:List MemPlace}{n:Nat}{ct:CT}
  (x:v.cells=#[v]) (u:DataW.Trod enc P W 0 y e t v d ps) (p:jD P n t=some [ct]):∃pv,aX (Env.of W num) pv v∧PV.Ty ct pv:=by
 obtain⟨fuel,h⟩:=u;obtain⟨l,i⟩:=ju num fuel n t _ _ [ct] h p;rw[x]at i;have w:=i.lp;cases l with
 |nil=>simp at w
 |cons pv rest=>exact⟨pv,(i.rep 0 pv v rfl rfl).1,i.ty 0 pv ct rfl rfl⟩
def InK(k:IntKind)(n:Int):Prop:=k.min≤n∧n≤k.max
def Us(k:IntKind)(xs:List Int):PV:=.sl 1 (xs.map λn=>[.int k n])
theorem Ty.TA{k:IntKind}{pv:PV}(h:PV.Ty (.int k) pv):∃n,pv=.int k n∧InK k n:=by
 cases h with
 |int h=>simp only[Lit.wf,awN,decide_eq_true_eq]at h;exact⟨_,rfl,h⟩
theorem Ty.akI{ct:CT}{pv:PV}(h:PV.Ty (.sl [ct]) pv):∃vs:List PV,pv=.sl 1 (vs.map λv=>[v])∧Z' vs≤maxLen∧∀v∈vs,PV.Ty ct v:=by
 cases h with
 |@sl A rows y w h=>
 have d:∀r∈rows,r=[r.headD .junk]:=λr l=>by
  have:=y r l
  match r,this with
  |[x],_=>rfl
 have e:rows=(rows.map λr=>r.headD .junk).map λv=>[v]:=by rw[azL];apply azS aY;intro n u B;simp only[ayR,Function.comp];exact d _ (awS u)
 refine⟨rows.map λr=>r.headD .junk,by rw[←e];rfl,by simpa using w,λv p=>?_⟩;rw[axG]at p;obtain⟨r,l,rfl⟩:=p;obtain⟨i,hi,rfl⟩:=ayK l;refine h i 0 _ ct ?_ rfl;have:=d rows[i] l;unfold at2;rw[awX hi,azU,this];rfl
theorem Ty.adJ{k:IntKind}{pv:PV}(h:PV.Ty (.sl [.int k]) pv):∃xs:List Int,pv=Us k xs∧Z' xs≤maxLen∧∀x∈xs,InK k x:=by
 obtain⟨vs,rfl,w,i⟩:=Ty.akI h;have e:vs=(vs.map λv=>match v with | .int _ n=>n|_=>0).map λn=>PV.int k n:=by rw[azL];apply azS aY;intro n p y;simp only[ayR,Function.comp];obtain⟨m,d,-⟩:=Ty.TA (i _ (awS p));rw[d]
 refine⟨vs.map λv=>match v with | .int _ n=>n|_=>0,?_,by simpa using w,λx l=>?_⟩
 ·unfold Us
  conv=>lhs;rw[e]
  rw[azL];rfl
 ·rw[axG]at l;obtain⟨v,d,rfl⟩:=l;obtain⟨m,rfl,u⟩:=Ty.TA (i v d);exact u
end Go.PM
namespace Go.Proofs.YtpfelekpckmccaaGreatDoor
open Go Go.PM
def amA:List Nat:=[25,121,63,18,24,66,26,65,0,0,0,0,0,0,0,0,0,0,0,0,0,0,0,0,0,0,0,14,23,64,138,185,120,124,123,68,162,139,94,165,187,164,178,177,183,186,81,22,176,21,27,62,136,45,42,156,44,137,67,69,119,157,153,193,182,181,158,58,110,113,109,154,112,108,111,155,107,160,0,0,161,143,57,19,115,36,0,59,179,159,114,0,0,0,0,72,28,126,166,127,168,171,129,167,70,125,130,169,131,170,74,71,73,77,39,53,133,128,56,103,102,83,84,132,188,173,172,134,106,82,150,149,152,141,135,151,180,174,140,192,189,175,191,190,0,0,0,0,0,0,0,0,33,0,0,0,0,0,0,0,0,78,184,163,200,196,197,201,198,195,194,0,0,0,0,0,0,0,0,0,0,0,0,0,0,0,0,0,0,0,0,0,0,0,0,122,0,0,0,0,0,118,117,116,60,96,46,47,61,20,48,95,0,144,0,89,91,88,90,41,92,0,0,0,0,0,0,0,0,86,15,40,85,43,79,10,38,0,0,0,0,0,0,0,0,0,0,0,0,0,0,0,0,0,0,0,0,0,0,0,0,0,0,0,0,0,0,0,0,0,0,0,0,0,0,0,0,0,87,142,93,145,0,0,0,0,0,0,0,0,0,0,0,0,0,0,0,0,0,0,0,0,0,0,0,0,0,0,0,0,0,0,0,0,0,0,0,0,0,0,0,0,0,3,4,5,6,7,8,9,11,12,13,16,17,29,30,31,32,34,35,37,49,50,51,52,54,55,75,76,80,97,98,99,100,101,104,105,146,147,148]
def ajK:List (Option Nat):=[none,none,none,some 323,some 324,some 325,some 326,some 327,some 328,some 329,some 235,some 330,some 331,some 332,some 27,some 230,some 333,some 334,some 3,some 83,some 209,some 49,some 47,some 28,some 4,some 0,some 6,some 50,some 96,some 335,some 336,some 337,some 338,some 152,some 339,some 340,some 85,some 341,some 236,some 114,some 231,some 219,some 54,some 233,some 56,some 53,some 206,some 207,some 210,some 342,some 343,some 344,some 345,some 115,some 346,some 347,some 118,some 82,some 67,some 87,some 204,some 208,some 51,some 2,some 29,some 7,some 5,some 58,some 35,some 59,some 104,some 111,some 95,some 112,some 110,some 348,some 349,some 113,some 161,some 234,some 350,some 46,some 129,some 121,some 122,some 232,some 229,some 278,some 217,some 215,some 218,some 216,some 220,some 280,some 38,some 211,some 205,some 351,some 352,some 353,some 354,some 355,some 120,some 119,some 356,some 357,some 128,some 76,some 73,some 70,some 68,some 74,some 72,some 69,some 90,some 84,some 203,some 202,some 201,some 60,some 32,some 1,some 195,some 34,some 33,some 105,some 97,some 99,some 117,some 102,some 106,some 108,some 123,some 116,some 127,some 134,some 52,some 57,some 30,some 37,some 138,some 133,some 279,some 81,some 213,some 281,some 358,some 359,some 360,some 131,some 130,some 135,some 132,some 62,some 71,some 75,some 55,some 61,some 66,some 89,some 77,some 80,some 36,some 163,some 41,some 39,some 98,some 103,some 100,some 107,some 109,some 101,some 126,some 125,some 137,some 141,some 48,some 43,some 42,some 88,some 136,some 65,some 64,some 44,some 162,some 31,some 45,some 40,some 124,some 140,some 143,some 142,some 139,some 63,some 170,some 169,some 165,some 166,some 168,none,some 164,some 167]
def num(n:Nat):FuncId:=amA.getD n 0
def nameOf(f:FuncId):Option Nat:=ajK.getD f none
noncomputable def T(ro:List Nat):Tbl:={ P:=Tryz.prog,num:=num,name:=nameOf,ro:=ro }
end Go.Proofs.YtpfelekpckmccaaGreatDoor
namespace Go.PM
open Go
abbrev Rg:=List aS
abbrev Rd:=List (aS×Bool)
def aD.rs : aD→List Rg
 | .region r=>[r] | .seq a b=>a.rs++b.rs | .cond _ a b=>a.rs++b.rs | .block _ a=>a.rs | .loop a=>a.rs | _=>[]
def aD.ds : aD→List Rd
 | .draw r=>[r] | .seq a b=>a.ds++b.ds | .cond _ a b=>a.ds++b.ds | .block _ a=>a.ds | .loop a=>a.ds | _=>[]
theorem Qq (n:Nat) (h:n<2^8):UInt8.ofBitVec (BitVec.ofFin ⟨n,h⟩)=UInt8.ofNat n:=by
 apply UInt8.toNat_inj.1;have d:n<256:=h;simp [UInt8.toNat_ofNat'];omega
def cP(ro:List Nat)(f:Func)(x:{p:bH//(Go.Proofs.YtpfelekpckmccaaGreatDoor.T ro).func f=some p}:=by refine⟨?p,?h⟩;case h=>conv=>lhs;reduce):bH:=x.1
def aA(q:bH)(k:Nat)(x:{l:Rg//(q.body.rs).getD k []=l}:=by refine⟨?p,?h⟩;case h=>conv=>lhs;reduce;try simp only[Qq,UInt8.reduceOfNat,Int.reduceOfNat,Int.reduceNegSucc]):Rg:=x.1
def eE(q:bH)(k:Nat)(x:{l:Rd//(q.body.ds).getD k []=l}:=by refine⟨?p,?h⟩;case h=>conv=>lhs;reduce;try simp only[Qq,UInt8.reduceOfNat,Int.reduceOfNat,Int.reduceNegSucc]):Rd:=x.1
@[go_sem ↓] theorem asP(q:bH)(k:Nat)(l:Rg)(h:(q.body.rs).getD k []=l):aA q k ⟨l,h⟩=l:=(rfl)
@[go_sem ↓] theorem arZ(q:bH)(k:Nat)(l:Rd)(h:(q.body.ds).getD k []=l):eE q k ⟨l,h⟩=l:=(rfl)
def iM(d s:Nat):aS:=⟨some d,.mv (.tmp s),none⟩
def iI(d:Nat)(n:Int):aS:=⟨some d,.mv (.const (.int .i64 n)),none⟩
def iB(d:Nat)(o:BinOp)(x y:Nat):aS:=⟨some d,.bin o (.tmp x) (.tmp y),none⟩
def iC(d:Nat)(o:BinOp)(x:Nat)(n:Int):aS:=⟨some d,.bin o (.tmp x) (.const (.int .i64 n)),none⟩
def iL(d s:Nat):aS:=⟨some d,.load none (.tmp s),none⟩
def iX(d n x y:Nat):aS:=⟨some d,.avR n (.tmp x) (.tmp y),none⟩
def iN(d x:Nat):aS:=⟨some d,.len (.tmp x),none⟩
def iF(d n x:Nat):aS:=⟨some d,.awD n (.tmp x),none⟩
def iS(n p x:Nat):aS:=⟨none,.store n (.tmp p) (.tmp x),none⟩
def iA(d:Nat)(o:POp):aS:=⟨some d,o,none⟩
def iG(d:Nat)(o:POp)(g:Nat)(b:Bool):aS:=⟨some d,o,some (g,b)⟩
def iP(d a b:Nat):aS:=⟨some d,.pick (.tmp a) (.tmp b) (.const (.bool false)),none⟩
def iQ(d a b:Nat):aS:=⟨some d,.pick (.tmp a) (.const (.bool true)) (.tmp b),none⟩
def iO(d s a:Nat):aS:=⟨some d,.load (some s) (.tmp a),none⟩
def iE(d a n:Nat):aS:=⟨some d,.extract (.tmp a) n,none⟩
def iK(d f a:Nat):aS:=⟨some d,.call f [.tmp a],none⟩
def iK2(d f a b:Nat):aS:=⟨some d,.call f [.tmp a,.tmp b],none⟩
def iT(d:Nat)(b:Bool):aS:=⟨some d,.mv (.const (.bool b)),none⟩
def iZ(d:Nat):aS:=⟨some d,.mv (.const .aH),none⟩
def gM(d s g:Nat)(b:Bool):aS:=⟨some d,.mv (.tmp s),some (g,b)⟩
def gL(d s g:Nat)(b:Bool):aS:=⟨some d,.load none (.tmp s),some (g,b)⟩
def gF(d n s g:Nat)(b:Bool):aS:=⟨some d,.awD n (.tmp s),some (g,b)⟩
def gN(d s g:Nat)(b:Bool):aS:=⟨some d,.len (.tmp s),some (g,b)⟩
def gO(d n s g:Nat)(b:Bool):aS:=⟨some d,.load (some n) (.tmp s),some (g,b)⟩
def gK(d f a g:Nat)(b:Bool):aS:=⟨some d,.call f [.tmp a],some (g,b)⟩
def gK2(d f a c g:Nat)(b:Bool):aS:=⟨some d,.call f [.tmp a,.tmp c],some (g,b)⟩
def gC(d:Nat)(o:BinOp)(x:Nat)(n:Int)(g:Nat)(b:Bool):aS:=⟨some d,.bin o (.tmp x) (.const (.int .i64 n)),some (g,b)⟩
def gB(d:Nat)(o:BinOp)(x y g:Nat)(b:Bool):aS:=⟨some d,.bin o (.tmp x) (.tmp y),some (g,b)⟩
def zI:PV:=.int .i64 0
def zB:PV:=.bool false
def sq(r:Rg)(c:aD):aD:=.seq (.region r) c
def dq(r:Rd)(c:aD):aD:=.seq (.draw r) c
def Tm(n:Nat):aO:=.tmp n
def Ci(n:Int):aO:=.const (.int .i64 n)
@[go_sem] theorem auO(d s:Nat):iM d s=⟨some d,.mv (.tmp s),none⟩:=(rfl)
@[go_sem] theorem auL(d:Nat)(n:Int):iI d n=⟨some d,.mv (.const (.int .i64 n)),none⟩:=(rfl)
@[go_sem] theorem auG(d:Nat)(o:BinOp)(x y:Nat):iB d o x y=⟨some d,.bin o (.tmp x) (.tmp y),none⟩:=(rfl)
@[go_sem] theorem auH(d:Nat)(o:BinOp)(x:Nat)(n:Int):iC d o x n=⟨some d,.bin o (.tmp x) (.const (.int .i64 n)),none⟩:=(rfl)
@[go_sem] theorem auN(d s:Nat):iL d s=⟨some d,.load none (.tmp s),none⟩:=(rfl)
@[go_sem] theorem auV(d n x y:Nat):iX d n x y=⟨some d,.avR n (.tmp x) (.tmp y),none⟩:=(rfl)
@[go_sem] theorem auP(d x:Nat):iN d x=⟨some d,.len (.tmp x),none⟩:=(rfl)
@[go_sem] theorem auJ(d n x:Nat):iF d n x=⟨some d,.awD n (.tmp x),none⟩:=(rfl)
@[go_sem] theorem auT(n p x:Nat):iS n p x=⟨none,.store n (.tmp p) (.tmp x),none⟩:=(rfl)
@[go_sem] theorem auF(d:Nat)(o:POp):iA d o=⟨some d,o,none⟩:=(rfl)
@[go_sem] theorem auK(d:Nat)(o:POp)(g:Nat)(b:Bool):iG d o g b=⟨some d,o,some (g,b)⟩:=(rfl)
@[go_sem] theorem auR(d a b:Nat):iP d a b=⟨some d,.pick (.tmp a) (.tmp b) (.const (.bool false)),none⟩:=(rfl)
@[go_sem] theorem auS(d a b:Nat):iQ d a b=⟨some d,.pick (.tmp a) (.const (.bool true)) (.tmp b),none⟩:=(rfl)
@[go_sem] theorem auQ(d s a:Nat):iO d s a=⟨some d,.load (some s) (.tmp a),none⟩:=(rfl)
@[go_sem] theorem auI(d a n:Nat):iE d a n=⟨some d,.extract (.tmp a) n,none⟩:=(rfl)
@[go_sem] theorem auM(d f a:Nat):iK d f a=⟨some d,.call f [.tmp a],none⟩:=(rfl)
@[go_sem] theorem atS(d f a b:Nat):iK2 d f a b=⟨some d,.call f [.tmp a,.tmp b],none⟩:=(rfl)
@[go_sem] theorem auU(d:Nat)(b:Bool):iT d b=⟨some d,.mv (.const (.bool b)),none⟩:=(rfl)
@[go_sem] theorem auW(d:Nat):iZ d=⟨some d,.mv (.const .aH),none⟩:=(rfl)
@[go_sem] theorem auC(d s g:Nat)(b:Bool):gM d s g b=⟨some d,.mv (.tmp s),some (g,b)⟩:=(rfl)
@[go_sem] theorem auB(d s g:Nat)(b:Bool):gL d s g b=⟨some d,.load none (.tmp s),some (g,b)⟩:=(rfl)
@[go_sem] theorem atZ(d n s g:Nat)(b:Bool):gF d n s g b=⟨some d,.awD n (.tmp s),some (g,b)⟩:=(rfl)
@[go_sem] theorem auD(d s g:Nat)(b:Bool):gN d s g b=⟨some d,.len (.tmp s),some (g,b)⟩:=(rfl)
@[go_sem] theorem auE(d n s g:Nat)(b:Bool):gO d n s g b=⟨some d,.load (some n) (.tmp s),some (g,b)⟩:=(rfl)
@[go_sem] theorem auA(d f a g:Nat)(b:Bool):gK d f a g b=⟨some d,.call f [.tmp a],some (g,b)⟩:=(rfl)
@[go_sem] theorem atQ(d f a c g:Nat)(b:Bool):gK2 d f a c g b=⟨some d,.call f [.tmp a,.tmp c],some (g,b)⟩:=(rfl)
@[go_sem] theorem atY(d:Nat)(o:BinOp)(x:Nat)(n:Int)(g:Nat)(b:Bool):gC d o x n g b=⟨some d,.bin o (.tmp x) (.const (.int .i64 n)),some (g,b)⟩:=(rfl)
@[go_sem] theorem atX(d:Nat)(o:BinOp)(x y g:Nat)(b:Bool):gB d o x y g b=⟨some d,.bin o (.tmp x) (.tmp y),some (g,b)⟩:=(rfl)
@[go_sem] theorem auZ:zI=.int .i64 0:=(rfl)
@[go_sem] theorem auY:zB=.bool false:=(rfl)
@[go_sem] theorem auX(r:Rg)(c:aD):sq r c=.seq (.region r) c:=(rfl)
@[go_sem] theorem atW(r:Rd)(c:aD):dq r c=.seq (.draw r) c:=(rfl)
@[go_sem] theorem atV(n:Nat):Tm n=.tmp n:=(rfl)
@[go_sem] theorem atU(n:Int):Ci n=.const (.int .i64 n):=(rfl)
def fB(r:Rg)(t k:Nat)(s:Rg)(b:aD):aD:=sq r (.seq (.cond (Tm t) .skip (.exit k)) (.seq (.block (k+1) b) (.region s)))
@[go_sem] theorem asI(r:Rg)(t k:Nat)(s:Rg)(b:aD):fB r t k s b=sq r (.seq (.cond (Tm t) .skip (.exit k)) (.seq (.block (k+1) b) (.region s))):=(rfl)
def gW(r:Rg)(t k:Nat)(s:Rg)(b:aD):aD:=.seq (sq r (.cond (Tm t) .skip (.exit k))) (.seq (.block (k+1) b) (.region s))
@[go_sem] theorem asJ(r:Rg)(t k:Nat)(s:Rg)(b:aD):gW r t k s b=.seq (sq r (.cond (Tm t) .skip (.exit k))) (.seq (.block (k+1) b) (.region s)):=(rfl)
def eS(r:Rg)(n:Nat)(y:Rg)(b:aD):aD:=.seq (sq r (.cond (Tm n) (sq y .ret) .skip)) b
@[go_sem] theorem arO(r:Rg)(n:Nat)(y:Rg)(b:aD):eS r n y b=.seq (sq r (.cond (Tm n) (sq y .ret) .skip)) b:=(rfl)
def gE(r:Rg)(n:Nat)(a b:aD):aD:=.seq (sq r (.cond (Tm n) a .skip)) b
@[go_sem] theorem arN(r:Rg)(n:Nat)(a b:aD):gE r n a b=.seq (sq r (.cond (Tm n) a .skip)) b:=(rfl)
def dK(r:Rg)(k:Nat)(l:aD):aD:=sq r (.block k (.loop l))
@[go_sem] theorem atB(r:Rg)(k:Nat)(l:aD):dK r k l=sq r (.block k (.loop l)):=(rfl)
end Go.PM
namespace Go.PM
open Go
open Go
def qX:=cP [] Proofs.Tryz.f140
def KL:=aA qX 0
def KM:=aA qX 1
def KN:=aA qX 2
def KO:=aA qX 3
def KK:aD:=(.seq (sq KN (.cond (Tm 15) .skip (.exit 0))) (.block 1 (.region KO)))
def vH:=aA qX 4
def qW:aD:=(sq KL (sq KM (.seq (.block 0 (.loop KK)) (sq vH .ret))))
def GR:bH:=⟨1,19,qW,[.tmp 2]⟩
def VE:=cP [] Proofs.Tryz.f174
def t8:=aA VE 0
def uc:=aA VE 1
def EY:aD:=(sq t8 (sq uc .ret))
def F6:bH:=⟨1,6,EY,[.tmp 2]⟩
def sP:=cP [] Proofs.Tryz.f175
def ut:=aA sP 0
def uu:=aA sP 1
def uv:=aA sP 2
def uw:=aA sP 3
def ux:=aA sP 4
def FA:aD:=(sq ut (sq uu (eS uv 8 uw (sq ux .ret))))
def Gj:bH:=⟨1,13,FA,[.tmp 2,.tmp 3]⟩
def KQ:=cP [9] Proofs.Tryz.f152
def F7:=aA KQ 0
def F8:=aA KQ 1
def F9:=aA KQ 2
def KP:aD:=(sq F7 (sq F8 (sq F9 .ret)))
def Vk:bH:=⟨1,14,KP,[.tmp 2]⟩
def i8:=cP [] Proofs.Tryz.f151
def Gr:=aA i8 0
def Gs:=aA i8 1
def KR:aD:=(sq Gr (sq Gs .ret))
def Vm:bH:=⟨1,8,KR,[.tmp 2]⟩
def jJ:=cP [] Proofs.Tryz.f82
def Pf:=aA jJ 0
def Pg:=aA jJ 1
def Ph:=aA jJ 2
def Pi:=aA jJ 3
def Pj:=aA jJ 4
def Pk:=aA jJ 5
def Pl:=aA jJ 6
def Pm:=aA jJ 7
def Pn:=eE jJ 0
def Po:=aA jJ 8
def Fp:=eE jJ 1
def Fq:=aA jJ 9
def Ft:=aA jJ 10
def Fo:aD:=(gW Pm 23 1 Ft (.block 3 (dq Pn (.cond (Tm 26) (sq Po .ret) (dq Fp (.cond (Tm 36) (sq Fq .ret) .skip))))))
def Fu:=aA jJ 11
def PU:aD:=(sq Pf (sq Pg (.seq (.block 0 (sq Ph (.cond (Tm 12) (sq Pi .ret) (sq Pj (.cond (Tm 16) (sq Pk .ret) .skip))))) (.seq (dK Pl 1 Fo) (sq Fu .ret)))))
def aeH:bH:=⟨2,46,PU,[.tmp 4]⟩
def fL:=cP [] Proofs.Tryz.f134
def O9:=aA fL 0
def Pa:=aA fL 1
def mm:=aA fL 2
def Pb:=eE fL 0
def Pc:=aA fL 3
def Pd:=aA fL 4
def mo:=aA fL 5
def mp:=aA fL 6
def mq:=aA fL 7
def Pe:=aA fL 8
def E7:=aA fL 9
def E8:=aA fL 10
def E9:=aA fL 11
def Fa:=aA fL 12
def YW:=aA fL 13
def YX:=aA fL 14
def YY:=aA fL 15
def YV:aD:=(fB Pe 37 0 YY (sq E7 (sq E8 (gE E9 49 (.region Fa) (sq YW (.region YX))))))
def YZ:=aA fL 16
def ZA:=aA fL 17
def PT:aD:=(sq O9 (eS Pa 14 mm (dq Pb (gE Pc 27 (.region Pd) (sq mo (sq mp (.seq (dK mq 0 YV) (sq YZ (sq ZA .ret)))))))))
def aeE:bH:=⟨2,75,PT,[.tmp 4,.tmp 5]⟩
def fW:=cP [] Proofs.Tryz.f135
def P8:=aA fW 0
def P9:=aA fW 1
def nb:=aA fW 2
def Qa:=aA fW 3
def Qb:=aA fW 4
def Qc:=eE fW 0
def nc:=aA fW 5
def ni:=aA fW 6
def nj:=aA fW 7
def Qd:=aA fW 8
def Gk:=aA fW 9
def Gl:=aA fW 10
def Gm:=aA fW 11
def Gn:=aA fW 12
def ZJ:=aA fW 13
def ZK:=aA fW 14
def ZL:=aA fW 15
def ZI:aD:=(fB Qd 36 1 ZL (sq Gk (sq Gl (gE Gm 48 (.region Gn) (sq ZJ (.region ZK))))))
def ZM:=aA fW 16
def QE:aD:=(sq P8 (.seq (.block 0 (sq P9 (.cond (Tm 10) (sq nb .ret) (sq Qa (.cond (Tm 17) (sq Qb .ret) .skip))))) (dq Qc (sq nc (sq ni (.seq (dK nj 1 ZI) (sq ZM .ret)))))))
def aeO:bH:=⟨2,68,QE,[.tmp 4,.tmp 5]⟩
def fM:=cP [] Proofs.Tryz.f141
def P4:=aA fM 0
def P5:=aA fM 1
def mz:=aA fM 2
def P6:=eE fM 0
def m5:=aA fM 3
def m6:=aA fM 4
def P7:=aA fM 5
def m7:=aA fM 6
def m8:=aA fM 7
def m9:=aA fM 8
def Ga:=aA fM 9
def Gb:=aA fM 10
def Gc:=aA fM 11
def Gd:=aA fM 12
def Ge:=aA fM 13
def Gf:=aA fM 14
def ZC:aD:=(fB Ga 42 2 Gf (sq Gb (sq Gc (sq Gd (.region Ge)))))
def ZE:=aA fM 15
def Gg:=aA fM 16
def ZD:aD:=(fB P7 35 0 Gg (sq m7 (sq m8 (.seq (dK m9 2 ZC) (.region ZE)))))
def ZF:=aA fM 17
def QA:aD:=(sq P4 (eS P5 17 mz (dq P6 (sq m5 (.seq (dK m6 0 ZD) (sq ZF .ret))))))
def aeM:bH:=⟨2,84,QA,[.tmp 4,.tmp 5]⟩
def lD:=cP [] Proofs.Tryz.f106
def Fe:=aA lD 0
def Ff:=aA lD 1
def Fg:=aA lD 2
def Fh:=aA lD 3
def Fi:=aA lD 4
def Fj:=aA lD 5
def Fk:=aA lD 6
def Fl:=aA lD 7
def Fm:=aA lD 8
def Fc:aD:=(gW Fk 19 0 Fm (.region Fl))
def t6:=aA lD 9
def KG:aD:=(sq Fe (sq Ff (eS Fg 9 Fh (sq Fi (.seq (dK Fj 0 Fc) (sq t6 .ret))))))
def Vc:bH:=⟨1,25,KG,[.tmp 2]⟩
def pC:=cP [] Proofs.Tryz.f149
def Px:=aA pC 0
def Py:=aA pC 1
def my:=aA pC 2
def Pz:=aA pC 3
def P0:=aA pC 4
def P1:=aA pC 5
def P2:=aA pC 6
def Pw:aD:=(.seq (sq P0 (.cond (Tm 20) .skip (.exit 0))) (.block 1 (sq P1 (.region P2))))
def P3:=aA pC 7
def PZ:aD:=(sq Px (eS Py 13 my (sq Pz (.seq (.block 0 (.loop Pw)) (sq P3 .ret)))))
def aeK:bH:=⟨2,30,PZ,[.tmp 4,.tmp 5]⟩
def qU:=cP [] Proofs.Tryz.f150
def Pp:=aA qU 0
def Pq:=aA qU 1
def mu:=aA qU 2
def Ps:=aA qU 3
def Pt:=aA qU 4
def Pu:=eE qU 0
def Pv:=aA qU 5
def PX:aD:=(sq Pp (.seq (.block 0 (sq Pq (.cond (Tm 9) (sq mu .ret) (sq Ps (.cond (Tm 16) (sq Pt .ret) .skip))))) (dq Pu (sq Pv .ret))))
def aeI:bH:=⟨2,34,PX,[.tmp 4,.tmp 5,.tmp 6]⟩
def kG:=cP [] Proofs.Tryz.f189
def ug:=aA kG 0
def uh:=aA kG 1
def ui:=aA kG 2
def uj:=aA kG 3
def uk:=aA kG 4
def ul:=aA kG 5
def um:=aA kG 6
def uo:=aA kG 7
def uq:=aA kG 8
def ue:aD:=(gW uk 16 0 uq (sq ul (sq um (.region uo))))
def i6:=aA kG 9
def EZ:aD:=(sq ug (sq uh (sq ui (.seq (dK uj 0 ue) (sq i6 .ret)))))
def Gi:bH:=⟨2,45,EZ,[.tmp 4,.tmp 5]⟩
def lY:=cP [] Proofs.Tryz.f190
def Y4:=aA lY 0
def Y5:=aA lY 1
def Y6:=aA lY 2
def Y7:=aA lY 3
def Y8:=aA lY 4
def Y9:=aA lY 5
def Za:=aA lY 6
def Zb:=aA lY 7
def Zc:=aA lY 8
def Zd:=aA lY 9
def Qe:aD:=(fB Y8 16 0 Zd (sq Y9 (sq Za (sq Zb (.region Zc)))))
def Qf:=aA lY 10
def Qg:=aA lY 11
def ZO:aD:=(sq Y4 (sq Y5 (sq Y6 (.seq (dK Y7 0 Qe) (sq Qf (sq Qg .ret))))))
def nup:bH:=⟨2,41,ZO,[.tmp 4]⟩
def bZ:=cP [] Proofs.Tryz.f180
def iu:=aA bZ 0
def iv:=aA bZ 1
def iw:=aA bZ 2
def ix:=aA bZ 3
def iy:=aA bZ 4
def iz:=aA bZ 5
def i0:=aA bZ 6
def i4:=aA bZ 7
def i5:=aA bZ 8
def it:aD:=(.seq (sq i4 (.cond (Tm 50) .skip (.exit 0))) (.block 1 (.region i5)))
def UR:=eE bZ 0
def US:=aA bZ 9
def UT:=aA bZ 10
def UU:=eE bZ 1
def UV:=aA bZ 11
def UW:=aA bZ 12
def EO:=eE bZ 2
def EP:=eE bZ 3
def UX:=aA bZ 13
def EQ:=aA bZ 14
def ER:=aA bZ 15
def ES:=aA bZ 16
def xB:aD:=(.seq (sq UX (.cond (Tm 129) .skip (.exit 4))) (.block 5 (sq EQ (sq ER (sq ES (.cond (Tm 136) (.exit 4) .skip))))))
def ET:=aA bZ 17
def EU:=aA bZ 18
def EV:=aA bZ 19
def xC:=aA bZ 20
def UY:=aA bZ 21
def EM:aD:=(gW UW 85 2 UY (dq EO (dq EP (.seq (.block 4 (.loop xB)) (gE ET 146 (sq EU (.region EV)) (.region xC))))))
def EW:=aA bZ 22
def EX:=aA bZ 23
def UZ:=aA bZ 24
def VA:=aA bZ 25
def VB:=eE bZ 4
def VC:=aA bZ 26
def EN:aD:=(fB UZ 168 6 VC (sq VA (.draw VB)))
def VD:=eE bZ 5
def BN:aD:=(sq iu (eS iv 24 iw (gE ix 29 (sq iy (sq iz .ret)) (sq i0 (.seq (.block 0 (.loop it)) (dq UR (sq US (sq UT (dq UU (.seq (dK UV 2 EM) (sq EW (.seq (dK EX 6 EN) (dq VD .ret)))))))))))))
def mw:bH:=⟨2,198,BN,[.tmp 4,.tmp 5]⟩
def eM:=cP [] Proofs.Tryz.f191
def QG:=aA eM 0
def QH:=aA eM 1
def QI:=aA eM 2
def QJ:=aA eM 3
def QK:=aA eM 4
def QL:=aA eM 5
def QM:=aA eM 6
def QN:=aA eM 7
def QO:=aA eM 8
def QP:=aA eM 9
def MY:=aA eM 10
def MX:aD:=(fB QJ 16 0 MY (sq QK (sq QL (sq QM (sq QN (sq QO (.region QP)))))))
def MZ:=aA eM 11
def NA:=aA eM 12
def NB:=aA eM 13
def wP:aD:=(sq QG (sq QH (.seq (dK QI 0 MX) (sq MZ (sq NA (sq NB .ret))))))
def QF:bH:=⟨3,65,wP,[.tmp 6]⟩
def jQ:=cP [] Proofs.Tryz.f192
def VH:=aA jQ 0
def VI:=aA jQ 1
def VJ:=aA jQ 2
def VK:=aA jQ 3
def VL:=aA jQ 4
def VM:=aA jQ 5
def VN:=aA jQ 6
def VO:=aA jQ 7
def VG:aD:=(fB VJ 10 0 VO (sq VK (sq VL (sq VM (.region VN)))))
def VP:=aA jQ 8
def yL:aD:=(sq VH (.seq (dK VI 0 VG) (.region VP)))
def ZH:bH:=⟨2,41,yL,[]⟩
open Go Go.RowKit Go.ChangeShapes Go.WideShapes
inductive AT where
 |one (ct:CT)
 |struct (cts:List CT)
 deriving Inhabited
def R2(P:Program)(n:Nat)(t:TypeId):Option AT:=
 match P.underlying t with
 |some .bool=>some (.one .bool)
 |some (.int k)=>some (.one (.int k))
 |some .string=>some (.one .str)
 |some (.slice _)=>match jD P n t with
  |some [ct]=>some (.one ct)
  |_=>none
 |some (.struct _)=>(jD P n t).map .struct
 |_=>none
def GG(P:Program)(n:Nat):List TypeId→Option (List AT)
 |[]=>some []
 |t::ts=>match R2 P n t,GG P n ts with
  |some a,some d=>some (a::d)
  |_,_=>none
inductive AT.Ty:AT→PV→Prop
 |one {ct:CT} {pv:PV} (h:PV.Ty ct pv):AT.Ty (.one ct) pv
 |struct {cts:List CT} {pvs:List PV} (hl:Z' pvs=Z' cts) (h:∀(j:Nat) pv ct,pvs[j]?=some pv→cts[j]?=some ct→PV.Ty ct pv):AT.Ty (.struct cts) (.agg pvs)
def AT.TyL:List AT→List PV→Prop
 |[],[]=>True
 |a::d,p::ps=>AT.Ty a p∧AT.TyL d ps
 |_,_=>False
section
variable {H:Type} {enc:TypeId × Value→H} {P:Program} {W:World} {sp:Nat→Bool} {held:Bool}
theorem alI{r:Reach}{A:Nat}(num:Nat→FuncId){t:TypeId}{v:Value}{d:DataW H}{ps:List MemPlace}{n:Nat}{a:AT}
  (i:Value.okWide P W r A t v) (y:DataW.Trod enc P W 0 sp held t v d ps) (p:R2 P n t=some a):∃pv,aX (Env.of W num) pv v∧AT.Ty a pv:=by
 unfold R2 at p;cases n with
 |zero=>
  split at p
  ·rename_i l;cases p;obtain⟨b,rfl⟩:=okWide_bool l i;obtain⟨pv,u,w⟩:=wC (n:=1) (ct:=.bool) num (by simp[Value.cells]) y (by simp[jD,l]);exact⟨pv,u,.one w⟩
  ·rename_i k l;cases p;obtain⟨b,rfl⟩:=okWide_int l i;obtain⟨pv,u,w⟩:=wC (n:=1) (ct:=.int k) num (by simp[Value.cells]) y (by simp[jD,l]);exact⟨pv,u,.one w⟩
  ·rename_i l;cases p;obtain⟨b,rfl⟩:=okWide_string l i;obtain⟨pv,u,w⟩:=wC (n:=1) (ct:=.str) num (by simp[Value.cells]) y (by simp[jD,l]);exact⟨pv,u,.one w⟩
  ·simp[jD]at p
  ·simp[jD]at p
  ·cases p
 |succ n=>
  split at p
  ·rename_i l;cases p;obtain⟨b,rfl⟩:=okWide_bool l i;obtain⟨pv,u,w⟩:=wC (n:=n+1) (ct:=.bool) num (by simp[Value.cells]) y (by simp[jD,l]);exact⟨pv,u,.one w⟩
  ·rename_i k l;cases p;obtain⟨b,rfl⟩:=okWide_int l i;obtain⟨pv,u,w⟩:=wC (n:=n+1) (ct:=.int k) num (by simp[Value.cells]) y (by simp[jD,l]);exact⟨pv,u,.one w⟩
  ·rename_i l;cases p;obtain⟨b,rfl⟩:=okWide_string l i;obtain⟨pv,u,w⟩:=wC (n:=n+1) (ct:=.str) num (by simp[Value.cells]) y (by simp[jD,l]);exact⟨pv,u,.one w⟩
  ·rename_i e l;split at p
   ·rename_i ct B;cases p;obtain⟨x,len,cap,rfl⟩:=okWide_slice l i;obtain⟨pv,u,w⟩:=wC num (by simp[Value.cells]) y B;exact⟨pv,u,.one w⟩
   ·cases p
  ·rename_i J l;rw[awR]at p;obtain⟨cts,B,rfl⟩:=p;obtain⟨F,u,w,E⟩:=R3 num l i y B;exact⟨_,u,.struct w E⟩
  ·cases p
theorem Ln{r:Reach}{i:Nat}(num:Nat→FuncId){n:Nat}:∀{ts:List TypeId}{vs:List Value}{ds:List (DataW H)}{ps:List MemPlace}{l:List AT},DataW.TrodAll enc P W 0 sp held ts vs ds ps →
  (∀(j:Nat) t v,ts[j]?=some t→vs[j]?=some v→Value.okWide P W r i t v)→GG P n ts=some l→∃e,eW (Env.of W num) e vs∧AT.TyL l e
 |[],[],_,_,l,_,_,h=>by simp[GG]at h;subst h;exact⟨[],.nil,trivial⟩
 |[],_::_,_,_,_,h,_,_=>h.elim
 |_::_,[],[],_,_,h,_,_=>h.elim
 |_::_,[],_::_,_,_,h,_,_=>h.elim
 |_::_,_::_,[],_,_,h,_,_=>h.elim
 |t::ts,v::vs,d::ds,ps,l,h,w,u=>by
  obtain⟨p,q,A,B,rfl⟩:=h;simp only[GG]at u;split at u
  ·rename_i a x y e2;cases u;obtain⟨pv,r1,E⟩:=alI num (w 0 t v rfl rfl) A y;obtain⟨e,r2,F⟩:=Ln num B (λj t v a b=>w (j+1) t v (by simpa using a) (by simpa using b)) e2;exact⟨pv::e,.cons r1 r2,E,F⟩
  ·cases u
theorem TrodAll.length:∀{ts:List TypeId}{vs:List Value}{ds:List (DataW H)}{ps:List MemPlace},DataW.TrodAll enc P W 0 sp held ts vs ds ps→Z' ds=Z' ts
 |[],[],[],_,_=>rfl
 |[],[],_::_,_,h=>h.elim
 |[],_::_,_,_,h=>h.elim
 |_::_,[],[],_,h=>h.elim
 |_::_,[],_::_,_,h=>h.elim
 |_::_,_::_,[],_,h=>h.elim
 |t::ts,v::vs,d::ds,ps,h=>by obtain⟨p,q,i,e,rfl⟩:=h;simp[TrodAll.length e]
end
theorem y8{H:Type}{enc:TypeId × Value→H}{P:Program}{f:FuncId}{fn:Func}{s:ChangeSpec}{apart fresh d:Bool}{bt:TypeId}{num:Nat→FuncId}{name n:Nat}{ats:List AT}
  (U:laidOutB P=true) (K:fn.params.toList.all (λt=>P.readableRec t&&decide (t<P.types.size))=true) (F:fn.resultTypes=#[bt]) (E:P.underlying bt=some .bool) (O:s.vars=[])
  (X:∀ds:List (DataW H),Z' ds=Z' fn.params.toList→(s.fn H ds).results=[.lit (.bool true)]∧(s.fn H ds).args=ds∧(s.fn H ds).vars=[])
  (x:num name=f) (R:GG P n fn.params.toList=some ats) (h:∀l,AT.TyL ats l→aJ ⟨P,num⟩ name l PH.nil (aQ (.bool true)))
  {W:World} {u:Nat} {args:Array Value} {ds Q:List (DataW H)} {i:List MemPlace}
  (A:∀(j:Nat) t v,fn.params[j]?=some t→args[j]?=some v→Value.okWide P W .any u t v) (hW:DataW.Whole enc P fn.params.toList s.vars apart W args.toList ds Q i) :
  Calls P f args W λe M=>∃v,e=.returned v∧s.post enc P fn apart fresh d false W args v M:=by
 have y:∀t∈fn.params.toList,P.readableRec t=true∧t<P.types.size:=λt J=>by have:=axK.1 K t J;simpa using this
 have B:=hW;obtain⟨p,q,N,hV,rfl,hz,Z⟩:=hW;rw[O]at hV;obtain⟨rfl,rfl⟩:=trodVars_none hV;obtain⟨l,V,J⟩:=Ln num N (λj t v a b=>A j t v (by simpa using a) (by simpa using b)) R;have w:=TrodAll.length N;subst x;obtain⟨r1,r2,Y⟩:=X (ds++[]) (by simpa using w);refine(Yj (C:=⟨P,num⟩) (h l J) V).mono λe M S=>?_;obtain⟨rfl,hb⟩:=S;exact⟨_,rfl,Zq U B hb y F E O r1 (by rw[r2];simp) Y⟩
attribute [go_sem] nY fS setCells PV.cells PV.one bN storeAt cA loadCells dD bnd PV.slice PV.intOf PV.eqs PV.eq1 PV.un keyOf KS.of KS.ofs KS.sh List.all_cons List.all_nil aAG List.set_cons_succ axN azC awY ayE axK Bool.and_self
attribute [go_sem] Bool.bne_false Bool.bne_true Int.le_refl Int.lt_irrefl decide_true decide_false exists_eq_left exists_eq_left' awL List.length_replicate ayU Int.natCast_nonneg Option.isSome_some Option.isSome_none azV Option.getD_none decide_eq_true_eq decide_eq_false_iff_not axJ ayT awP Nat.sub_zero
def bC(xs:List Int):List (List PV):=xs.map λn=>[.int .i64 n]
theorem bO{a b:Int}(h:a≠b):(a==b)=false:=by simp[h]
theorem cH{a b:Int}(h:a=b):(a==b)=true:=by simp[h]
theorem fJ{a b:Int}(h:a≠b):(a != b)=true:=by simp[h]
theorem dO{a b:Int}(h:a=b):(a != b)=false:=by simp[h]
section
variable {H:PH}
@[go_sem] theorem PH.set_set(o:Nat)(x y:aR):(H.set o x).set o y=H.set o y:=PH.ext λq=>by
 simp only[aU];split<;>rfl
@[go_sem] theorem dA(o:Nat)(x:aR):(H.set o x) o=some x:=by simp only[aU,if_true]
end
section
variable {C:Ctx} {K:cJ} {F:PF} {H:PH}
theorem PH.rA(o:Nat)(x:aR):H.over .nil (PH.nil.set o x)=H.set o x:=PH.ext λq=>by
 rw[jM];simp only[aU,SX];split<;>simp_all
theorem PH.vK(o:Nat)(x y:aR):H.over (PH.nil.set o x) (PH.nil.set o y)=H.set o y:=PH.ext λq=>by
 rw[jM];simp only[aU,SX];split<;>simp_all
theorem oK{name:Nat}{vs:List PV}{e:PH}{R:PV→PH→Prop}{args:List aO}{d:Option Nat}{K:PF→PH→Prop}(h:aJ C name vs e R)(l:aO.evs F args=some vs)(i:e.le H)
  (p:∀r H',R r H'→nF H e H'→K (F.put d r) (H.over e H')):kN C name args [] d K F H:=
 .inl ⟨vs,e,R,by rw[l];simp,i,h,p⟩
theorem bF{res:List dJ}{R:PV→PH→Prop}{vs:List PV}{e:kZ}(y:e=.normal∨e=.ret)(d:PH)(h:dJ.evs F H res=some vs)(i:d.le H)(x:R (cR vs) d):bD res R e F H:=by
 have l:∃vs,dJ.evs F H res=some vs∧∃p w H2,iV (PF.nil.set 0 (cR vs)) H p w∧H2.le w∧∃u,p 0=some u∧R u H2:=
  ⟨vs,h,_,H,d,.refl _ _,i,cR vs,by rw[mG,aF rfl],x⟩
 rcases y with rfl|rfl<;>exact l
theorem afD{t o s k:Nat}{rs:List (List PV)}{R:PV→PH→Prop}{e:kZ}(w:e=.normal∨e=.ret)(h:F t=some (.osl o s 0 k))(x:H o=some (.rows s rs))(y:k≤Z' rs)(p:R (.sl s (rs.take k)) .nil) :
  bD [.tmp t] R e F H:=by
 have d:∃vs,dJ.evs F H [.tmp t]=some vs∧∃i l H2,iV (PF.nil.set 0 (cR vs)) H i l∧H2.le l∧∃u,i 0=some u∧R u H2:=by refine⟨[.osl o s 0 k],by rw[mA,oX,h,qA],_,_,.nil,.step o x (.refl _ _),a_,.sl s (rs.take k),?_,p⟩;have:0+k≤Z' rs:=Om;simp only[PF.frz,mG,if_true,cR,axF,PV.frz,PV.pL,PV.dB,true_and,aF this,axU]
 rcases w with rfl|rfl<;>exact d
def cV(v:PV)(r:PV)(H:PH):Prop:=Co r v∧H=PH.nil
theorem aJ.amN{name:Nat}{args:List PV}{H:PH}{v:PV}(h:aJ C name args H (cV v)):aJ C name args H (aQ v):=
 h.post λr H' ⟨d,e⟩=>⟨v,d,rfl,e⟩
theorem aQ.amN{v r:PV}{H:PH}(h:aQ v r H):cV v r H:=by
 obtain⟨rfl,rfl⟩:=h;exact⟨.refl _,rfl⟩
theorem wA{s b:Nat}{y:PV}{src:List (List PV)}{K:PV→PH→Prop}(l:dD H s y=some src)(i:roomFor 0 src.length b)(d:src=[]→K .aH H)
  (e:src≠[]→∀o,H o=none→K (.osl o s 0 src.length) (H.set o (.rows s src))):pQ H s b .aH y K:=⟨src,l,i,d,e⟩
theorem Jv{o s b len:Nat}{rs:List (List PV)}{y:PV}{src:List (List PV)}{K:PV→PH→Prop}(u:dD H s y=some src)(p:roomFor len src.length b)(l:H o=some (.rows s rs))(i:len≤Z' rs)
  (d:K (.osl o s 0 (len+Z' src)) (H.set o (.rows s (rs.take len++src))))
  (e:∀o',H o'=none→K (.osl o' s 0 (len+Z' src)) (H.set o' (.rows s (rs.take len++src)))):pQ H s b (.osl o s 0 len) y K:=
 ⟨src,u,rfl,rfl,p,rs,l,i,d,e⟩
end
def bX(H:PH)(s:Nat)(v:PV)(rows:List (List PV)):Prop:=
 (rows=[]∧v=.aH)∨∃q rs,v=.osl q s 0 rows.length∧H q=some (.rows s rs)∧Z' rows≤Z' rs∧rs.take rows.length=rows
def Seen(s:Nat)(v:PV)(rows:List (List PV)):Prop:=(rows=[]∧v=.aH)∨v=.sl s rows
section
variable {C:Ctx} {K:cJ} {F:PF} {H:PH} {s b:Nat} {v y:PV} {rows src:List (List PV)}
theorem bX.nil:bX H s .aH []:=.inl ⟨rfl,rfl⟩
theorem bX.view(h:bX H s v rows):dD H s v=some rows:=by
 rcases h with⟨rfl,rfl⟩|⟨q,rs,rfl,h1,h2,h3⟩
 ·rfl
 ·have:0+Z' rows≤Z' rs:=Om;simp only[dD,if_true,h1,true_and,aF this,axU,h3]
theorem Seen.view(h:Seen s v rows):dD H s v=some rows:=by
 rcases h with⟨rfl,rfl⟩|rfl
 ·rfl
 ·simp[dD]
theorem bX.ext{H':PH}(h:bX H s v rows)(d:∀o x,H o=some x→H' o=some x):bX H' s v rows:=by
 rcases h with h|⟨q,rs,h0,h1,h2,h3⟩
 ·exact .inl h
 ·exact .inr ⟨q,rs,h0,d q _ h1,h2,h3⟩
theorem jN{K:PV→PH→Prop}(h:bX H s v rows)(B:dD H s y=some src)(A:roomFor rows.length src.length b)
  (w:∀v' H',bX H' s v' (rows++src)→(∀o x,H o=some x→(∀l,v≠.osl o s 0 l)→H' o=some x)→K v' H'):pQ H s b v y K:=by
 rcases h with⟨rfl,rfl⟩|⟨q,rs,rfl,h1,h2,h3⟩
 ·refine⟨src,B,A,λe=>?_,λe o u=>?_⟩
  ·subst e;exact w _ _ (.inl ⟨rfl,rfl⟩) λo x u _=>u
  ·refine w _ _ (.inr ⟨o,src,rfl,by simp only[aU,if_true],awP _,by simp⟩) λo' x d _=>?_;have:o'≠o:=by rintro rfl;rw[u]at d;cases d
   simp only[aU,aC this,d]
 ·have i:(rows++src).length=Z' rows+Z' src:=awQ;refine⟨src,B,rfl,rfl,A,rs,h1,h2,?_,λo u=>?_⟩
  ·rw[h3];refine w _ _ (.inr ⟨q,rows++src,by rw[i],by simp only[aU,if_true],awP _,ayC⟩) λo' x d p=>?_;have:o'≠q:=by rintro rfl;exact p _ rfl
   simp only[aU,aC this,d]
  ·rw[h3];refine w _ _ (.inr ⟨o,rows++src,by rw[i],by simp only[aU,if_true],awP _,ayC⟩) λo' x d p=>?_;have E:o'≠o:=by rintro rfl;rw[u]at d;cases d
   simp only[aU,aC E,d]
def Pure(u:PV):Prop:=∀q s rs,PV.frz q s rs u=u
theorem bX.frz(h:bX H s v rows):∃e,Seen s e rows∧∀F:PF,∃d l,iV F H d l∧(∀t,F t=some v→d t=some e)∧∀i u,F i=some u→Pure u→d i=some u:=by
 rcases h with⟨rfl,rfl⟩|⟨q,rs,rfl,h1,h2,h3⟩
 ·exact⟨.aH,.inl ⟨rfl,rfl⟩,λF=>⟨F,H,.refl _ _,λt h=>h,λi u h _=>h⟩⟩
 ·refine⟨.sl s rows,.inr rfl,λF=>⟨_,_,.step q h1 (.refl _ _),λt p=>?_,λi u hi hp=>?_⟩⟩
  ·have:0+Z' rows≤Z' rs:=Om;simp only[PF.frz,p,axF,PV.frz,PV.pL,PV.dB,if_true,true_and,aF this,axU,h3]
  ·simp only[PF.frz,hi,axF];rw[hp]
theorem ji{t:Nat}{e:kZ}(d:e=.normal∨e=.ret)(h:bX H s v rows)(i:F t=some v):bD [.tmp t] (cV (.sl s rows)) e F H:=by
 rcases h with⟨rfl,rfl⟩|⟨q,rs,rfl,h1,h2,h3⟩
 ·exact bF (vs:=[.aH]) d .nil (by rw[mA,oX,i,qA]) a_ ⟨.nil s,rfl⟩
 ·exact afD d i h1 h2 ⟨by rw[h3];exact .refl _,rfl⟩
end
end Go.PM
namespace Go.PM
open Go
section
variable {C:Ctx} {F:PF} {H:PH}
@[go_sem] theorem sL(o s:Nat)(rs:List (List PV))(i:Nat):(F.frz o s rs) i=(F i).map (PV.frz o s rs):=(rfl)
theorem sB{name t o s k:Nat}{rs:List (List PV)}{v:PV}{d:Option Nat}{K:PF→PH→Prop}(h:aJ C name [.sl s (rs.take k)] .nil (aQ v))(l:F t=some (.osl o s 0 k))(i:H o=some (.rows s rs))(p:k≤Z' rs)
  (e:K ((F.frz o s rs).put d v) (H.frz o s rs)):kN C name [.tmp t] [] d K F H:=by
 refine .inr ⟨_,_,.step o i (.refl _ _),[.sl s (rs.take k)],.nil,aQ v,?_,a_,h,?_⟩
 ·have:0+k≤Z' rs:=Om;simp only[BB,SO,dt,sL,l,axF,PV.frz,PV.pL,PV.dB,if_true,true_and,aF this,axU,ayO]
 ·rintro r H' ⟨rfl,rfl⟩ -;rw[PH.BP];exact e
end
end Go.PM
namespace Go.Na
def val:List Nat→Nat
 |[]=>0
 |x::xs=>x+4294967296*val xs
def Lim(xs:List Nat):Prop:=∀x∈xs,x<4294967296
def aK(n:Nat):List Nat:=if h:n=0 then[]else(n%4294967296)::aK (n/4294967296)
termination_by n
decreasing_by exact Nat.div_lt_self (azI h) aV
def nl(n:Nat):Nat:=(aK n).length
theorem iD:aK 0=[]:=by rw[aK];simp
theorem tR{n:Nat}(h:n≠0):aK n=(n%4294967296)::aK (n/4294967296):=by rw[aK];simp[h]
theorem pX{n:Nat}(h:n≠0)(hb:n<4294967296):aK n=[n]:=by
 rw[tR h,axW hb,aAB hb,iD]
theorem bB(n:Nat):val (aK n)=n:=by
 induction n using Nat.strongRecOn with
 |_ n d=>
  by_cases h:n=0
  ·subst h;rw[iD];rfl
  ·rw[tR h,val,d _ (Nat.div_lt_self (azI h) aV)];exact Nat.mod_add_div n 4294967296
theorem bG(n:Nat):Lim (aK n):=by
 induction n using Nat.strongRecOn with
 |_ n d=>
  by_cases h:n=0
  ·subst h;rw[iD];intro x hx;cases hx
  ·rw[tR h];intro x hx;rw[awT]at hx;rcases hx with rfl|hx
   ·exact ayD _ aV
   ·exact d _ (Nat.div_lt_self (azI h) aV) x hx
theorem AM:nl 0=0:=by rw[nl,iD];rfl
theorem Yy{n:Nat}(h:n≠0):nl n=nl (n/4294967296)+1:=by rw[nl,tR h];rfl
theorem kC(n k:Nat):nl n≤k↔n<4294967296^k:=by
 induction k generalizing n with
 |zero=>
  by_cases h:n=0
  ·subst h;simp[AM]
  ·rw[Yy h];simp;omega
 |succ k d=>
  by_cases h:n=0
  ·subst h;simp[AM,azJ]
  ·rw[Yy h,Nat.succ_le_succ_iff,d,ayH,azR aV]
theorem mL{n:Nat}:nl n=0↔n=0:=by
 have:=kC n 0;simp at this;exact this
theorem iR(xs ys:List Nat):val (xs++ys)=val xs+4294967296^xs.length*val ys:=by
 induction xs with
 |nil=>simp[val]
 |cons x xs d =>simp only[List.cons_append,val,ayF,d,ayH];rw[awW,ayY,←axI,axM 4294967296 (4294967296^xs.length)]
theorem fQ{xs:List Nat}(h:Lim xs):val xs<4294967296^xs.length:=by
 induction xs with
 |nil=>simp[val]
 |cons x xs i =>have l:=h x aY;have d:=i λy e=>h y (by simp[e]);simp only[val,ayF,ayH];have:4294967296*(val xs+1)≤4294967296*4294967296^xs.length:=azA _ d;rw[awW,Nat.mul_one]at this;rw[axM (4294967296^xs.length)];omega
theorem Lim.app{xs ys:List Nat}(h:Lim xs)(k:Lim ys):Lim (xs++ys):=λx d=>by
 rw[ayA]at d;exact d.elim (h x) (k x)
theorem Lim.take{xs:List Nat}(h:Lim xs)(n:Nat):Lim (xs.take n):=λx d=>h x (List.mem_of_mem_take d)
theorem Lim.drop{xs:List Nat}(h:Lim xs)(n:Nat):Lim (xs.drop n):=λx d=>h x (List.mem_of_mem_drop d)
theorem Lim.set{xs:List Nat}(h:Lim xs)(i:Nat){v:Nat}(d:v<4294967296):Lim (xs.set i v):=λx e=>by
 rcases aAI e with h1|h1
 ·exact h x h1
 ·subst h1;exact d
theorem xU(n:Nat):Lim (awO n 0):=λx d=>by
 rw[List.mem_replicate]at d;rw[d.2];decide
theorem uE(n:Nat):val (awO n 0)=0:=by
 induction n with
 |zero=>rfl
 |succ n d=>simp[List.replicate_succ,val,d]
theorem Yn{xs:List Nat}(h:Lim xs)(u:∀x,xs.getLast?=some x→x≠0):aK (val xs)=xs:=by
 induction xs with
 |nil=>simp[val,iD]
 |cons x xs F=>
  have l:=h x aY;have p:Lim xs:=λy B=>h y (by simp[B]);cases xs with
  |nil =>have:=u x aY;simp only[val,Nat.mul_zero,ayT];exact pX this l
  |cons y ys=>
   have d:=F p λz E=>u z (by rw[List.getLast?_cons_cons];exact E);have A:val (y::ys)≠0:=λe=>by rw[e,iD]at d;cases d
   have i:x+4294967296*val (y::ys)≠0:=by have:0<4294967296*val (y::ys):=Nat.mul_pos aV (azI A);omega
   show aK (x+4294967296*val (y::ys))=_;rw[tR i];have w:(x+4294967296*val (y::ys))%4294967296=x:=by rw[Nat.add_mul_mod_self_left,axW l]
   have e2:(x+4294967296*val (y::ys))/4294967296=val (y::ys):=by rw[Nat.add_mul_div_left _ _ aV,aAB l,axJ]
   rw[w,e2,d]
theorem Jl{xs:List Nat}{n:Nat}(h:∀j x,n≤j→xs[j]?=some x→x=0):val (xs.take n)=val xs:=by
 have e:xs.drop n=awO (xs.drop n).length 0:=by apply azS aY;intro i d l;rw[List.getElem_replicate,List.getElem_drop];exact h (n+i) _ Om (awX _)
 conv=>rhs;rw[←azN n xs,iR,e,uE]
 simp
theorem LO{xs:List Nat}(p:Lim xs){n:Nat}(l:n≤Z' xs)(h:∀j x,n≤j→xs[j]?=some x→x=0)(i:∀x,0<n→xs[n-1]?=some x→x≠0):xs.take n=aK (val xs):=by
 rw[←Jl h,Yn (p.take n)];intro x d;rw[List.getLast?_eq_getElem?,axC,ayZ l]at d;rcases azE n with e|e
 ·subst e;simp at d
 ·rw[List.getElem?_take_of_lt Om]at d;exact i x e d
theorem Qp{xs:List Nat}(i:Lim xs){n:Nat}(e:n≤Z' xs)(h:∀j x,n≤j→xs[j]?=some x→x=0)(d:∀x,0<n→xs[n-1]?=some x→x≠0):nl (val xs)=n:=by
 rw[nl,←LO i e h d,axC];omega
theorem gP{xs:List Nat}(h:Lim xs):nl (val xs)≤Z' xs:=(kC _ _).2 (fQ h)
theorem mB {xs : List Nat} (h : Lim xs) : xs.take (nl (val xs)) = aK (val xs) := by
  have hl := gP h;have e : val (xs.take (nl (val xs)) ++ xs.drop (nl (val xs))) = val xs := by rw [azN]
  rw [iR, axC, ayZ hl] at e;have h1 := fQ (h.take (nl (val xs)));rw [axC, ayZ hl] at h1;have h2 := (kC (val xs) (nl (val xs))).1 (awP _);have hd : val (xs.drop (nl (val xs))) = 0 := by
    rcases azE (val (xs.drop (nl (val xs)))) with h | h
    · exact h
    · have := azA (4294967296 ^ nl (val xs)) h
      omega
  have hz : ∀ j x, nl (val xs) ≤ j → xs[j]? = some x → x = 0 := by
    have zero : ∀ ys : List Nat, val ys = 0 → ∀ y ∈ ys, y = 0 := by
      intro ys
      induction ys with
      | nil => intro _ y hy; cases hy
      | cons z zs ih =>
        intro hv y hy;simp only [val] at hv;rw [awT] at hy;rcases hy with rfl | hy
        · omega
        · exact ih (by have : 4294967296 * val zs = 0 := Om
                       rcases Nat.mul_eq_zero.1 this with h | h
                       · cases h
                       · exact h) y hy
    intro j x hj hx;refine zero _ hd x ?_;rw [List.mem_iff_getElem?];exact ⟨j - nl (val xs), by rw [aAF, Nat.add_sub_cancel' hj]; exact hx⟩
  refine LO h hl hz fun x hpos hx e => ?_;subst e;have hz2 : ∀ j x, nl (val xs) - 1 ≤ j → xs[j]? = some x → x = 0 := fun j y hj hy => by
    rcases axA j (nl (val xs)) with h3 | h3
    · have : j = nl (val xs) - 1 := Om
      subst this; rw [hx] at hy; cases hy; rfl
    · exact hz j y h3 hy
  have h3 := Jl hz2;have h4 := fQ (h.take (nl (val xs) - 1));rw [h3, axC, ayZ Om] at h4;have := (kC (val xs) (nl (val xs) - 1)).2 h4;omega
theorem Ia{xs:List Nat}(h:Lim xs){n:Nat}(p:nl (val xs)=n+1):∃x,xs[n]?=some x∧x≠0:=by
 have u:=gP h;refine⟨xs[n]'Om,awX _,λe=>?_⟩;have l:=mB h;have d:=bB (val xs);rw[←l,p,azH Om,e,iR]at d;simp only[val,Nat.mul_zero,ayT]at d;have i:=fQ (h.take n);rw[d,axC,ayZ Om]at i;have:=(kC (val xs) n).2 i;omega
theorem uB(xs:List Nat){k:Nat}(h:k<Z' xs):val xs=val (xs.take k)+4294967296^k*(xs[k]+4294967296*val (xs.drop (k+1))):=by
 conv=>lhs;rw[←azN k xs,iR,axC,ayZ Om,ayS h]
 rfl
theorem cj{xs ys:List Nat}(u:Lim xs){k:Nat}(d:k<Z' xs)(e:k<Z' ys)(p:xs.drop (k+1)=ys.drop (k+1))(h:xs[k]<ys[k]):val xs<val ys:=by
 rw[uB xs d,uB ys e,p];have i:=fQ (u.take k);rw[axC,ayZ Om]at i;have l:4294967296^k*(xs[k]+4294967296*val (ys.drop (k+1))+1)≤4294967296^k*(ys[k]+4294967296*val (ys.drop (k+1))):=azA _ Om;rw[awW _ _ 1,Nat.mul_one]at l;omega
def eT(a b:Nat):Int:=if a<b then -1 else if b<a then 1 else 0
theorem re{xs ys:List Nat}{k:Nat}(d:k<Z' xs)(e:k<Z' ys)(i:xs.drop (k+1)=ys.drop (k+1))(h:xs[k]=ys[k]):xs.drop k=ys.drop k:=by
 rw[ayS d,ayS e,i,h]
theorem kR{a b:Nat}(h:a≤b):nl a≤nl b:=(kC a _).2 (Nat.lt_of_le_of_lt h ((kC b _).1 (awP _)))
theorem yn{xs:List Nat}(h:Lim xs){j:Nat}(d:j<nl (val xs)):∃(i:j<Z' xs)(l:j<(aK (val xs)).length),xs[j]=(aK (val xs))[j]:=by
 have p:=gP h;refine⟨by omega,d,?_⟩;have e:=mB h;have:(xs.take (nl (val xs)))[j]?=(aK (val xs))[j]?:=by rw[e]
 rw[List.getElem?_take_of_lt d,awX Om,awX d]at this;exact axZ.inj this
def cS(n:Nat):Nat:=if h:n=0 then 0 else cS (n/2)+1
termination_by n
decreasing_by exact Nat.div_lt_self (azI h) aV
theorem mO:cS 0=0:=by rw[cS];simp
theorem sY{n:Nat}(h:n≠0):cS n=cS (n/2)+1:=by rw[cS];simp[h]
theorem nN(n k:Nat):cS n≤k↔n<2^k:=by
 induction k generalizing n with
 |zero=>
  by_cases h:n=0
  ·subst h;simp[mO]
  ·rw[sY h];simp;omega
 |succ k d=>
  by_cases h:n=0
  ·subst h;simp[mO,azJ]
  ·rw[sY h,Nat.succ_le_succ_iff,d,ayH,azR aV]
theorem lG{n:Nat}:cS n=0↔n=0:=by
 have:=nN n 0;simp at this;exact this
theorem yq{hi lo k:Nat}(l:lo<2^k)(e:hi≠0):cS (lo+2^k*hi)=k+cS hi:=by
 apply Nat.le_antisymm
 ·rw[nN,Nat.pow_add];have d:=(nN hi _).1 (awP _);have:2^k*(hi+1)≤2^k*2^cS hi:=azA _ d;rw[awW,Nat.mul_one]at this;omega
 ·obtain⟨b,hb⟩:∃b,cS hi=b+1:=⟨cS hi-1,by have:=mt lG.1 e;omega⟩;rw[hb];rcases axA (cS (lo+2^k*hi)) (k+(b+1))with h|h
  ·have d:=(nN (lo+2^k*hi) (k+b)).1 Om;rw[Nat.pow_add]at d;have i:¬hi<2^b:=λh=>by have:=(nN hi b).2 h;omega
   have:2^k*2^b≤2^k*hi:=azA _ Om;omega
  ·exact h
theorem zY(n k:Nat):cS n≤32*k↔nl n≤k:=by
 rw[nN,kC,Nat.pow_mul]
end Go.Na
namespace Go.PM
theorem Lq{F d:PF}(h:F.le d:=by(repeat' (first|exact d_|refine c_ ?_ ?_))<;>first|(simp only[go_sem]<;>rfl)|rfl|assumption):F.le d:=h
end Go.PM
namespace Go.PM
open Go Go.Na
abbrev aG(xs:List Nat):List (List PV):=xs.map λ(n:Nat)=>[PV.int .u32 (n:Int)]
abbrev aI(xs:List Nat):PV:=.sl 1 (xs.map λ(n:Nat)=>[PV.int .u32 (n:Int)])
theorem cD(xs:List Nat):(aG xs).length=Z' xs:=by simp
theorem bS(xs:List Nat){i:Nat}(h:i<Z' xs):(aG xs)[i]?=some [.int .u32 (xs[i]:Nat)]:=by simp[h]
theorem tz(xs:List Nat)(k:Nat):aI (xs.take k)=.sl 1 ((xs.map λ(n:Nat)=>[PV.int .u32 (n:Int)]).take k):=by rw[aI,azM]
theorem cN(n:Nat):IntKind.u32.wrap (n:Int)=((n%4294967296:Nat):Int):=by
 have e:IntKind.u32.wrap (n:Int)=(n:Int)%4294967296:=by simp[IntKind.wrap,IntKind.bits,IntKind.signed]
 rw[e];rfl
theorem yG{k:Nat}(h:k≤9223372036854775807)(d:0<k):IntKind.i64.wrap ((k:Int)-1)=((k-1:Nat):Int):=by
 rw[wrap_i64 Om Om];omega
def Vh(xs:List Nat)(n:Nat):PF:=((PF.nil.set 0 (aI xs)).set 3 (.int .i64 n))
theorem Vj{C:Ctx}(xs:List Nat)(w:Lim xs)(A:Z' xs≤35184372087808):qW.wp C (bD GR.res (aQ (.int .i64 (nl (val xs):Nat)))) (PF.args [aI xs]) .nil:=by
 simp only[go_sem,qW,KL,KM,GR];refine wp_loop (α:=Nat) (Vh xs) (λ_=>.nil) (λn=>n≤Z' xs∧∀j x,n≤j→xs[j]?=some x→x=0) (λn=>n) xs.length ⟨awP _,λj x h e=>by rw[axV h]at e;cases e⟩ ?_ a_ ?_
 ·unfold Vh;exact Lq
 rintro n ⟨u,p⟩;have out:(∀x,0<n→xs[n-1]?=some x→x≠0)→nl (val xs)=n:=λh=>Qp w u p h;simp only[go_sem,KK,KN,Vh];by_cases l:(n:Int)>0
 ·have hp:0<n:=Om;have hi:=bS xs (Om:n-1<Z' xs);simp only[go_sem,l,yG (Om:n≤9223372036854775807) hp,hi];by_cases i:xs[n-1]=0
  ·simp only[go_sem,cH (Om:((xs[n-1]:Nat):Int)=0),KO,yG (Om:n≤9223372036854775807) hp];refine aP (n-1) ⟨by omega,λj x y d=>?_⟩ Om ?_ a_
   ·rcases axA j n with h|h
    ·have:j=n-1:=Om;subst this;rw[awX Om]at d;cases d;exact i
    ·exact p j x h d
   ·exact Lq
  ·simp only[go_sem,bO (Om:((xs[n-1]:Nat):Int)≠0),vH];refine cY (.inr rfl) rfl ?_;rw[out λx _ d=>by rw[awX Om]at d;cases d;exact i];rfl
 ·simp only[go_sem,l,vH];refine cY (.inr rfl) rfl ?_;rw[out λx h=>by omega];rfl
theorem Yz{C:Ctx}(xs:List Nat)(d:aJ C 138 [aI xs] .nil (aQ (.int .i64 (nl (val xs):Nat)))):EY.wp C (bD F6.res (aQ (.bool (decide (nl (val xs)>512))))) (PF.args [aI xs]) .nil:=by
 simp only[go_sem,EY,t8,uc,F6];refine aB d rfl ?_;simp only[go_sem];refine cY (.inr rfl) rfl ?_;simp only[cR,PV.bool.injEq,decide_eq_decide];omega
def szL(n:Nat):List Nat:=if nl n>512 then[]else aK n
def szE(n:Nat):Int:=if nl n>512 then 2 else 0
def szV(n:Nat):PV:=.tup [aI (szL n),.int .i64 (szE n)]
theorem Y2{C:Ctx}(xs:List Nat)(l:Lim xs)(d:aJ C 138 [aI xs] .nil (aQ (.int .i64 (nl (val xs):Nat)))):FA.wp C (bD Gj.res (cV (szV (val xs)))) (PF.args [aI xs]) .nil:=by
 simp only[go_sem,FA,ut,uu,Gj];refine aB d rfl ?_;simp only[go_sem,uv];by_cases h:nl (val xs)>512
 ·have i:((nl (val xs):Nat):Int)>512:=Om;simp only[go_sem,i,uw];refine bF (vs:=[.aH,.int .i64 2]) (.inr rfl) .nil rfl a_ ⟨?_,rfl⟩;rw[szV,szL,szE,aF h,aF h];refine .tup rfl λj p q hp e=>?_
  match j with
  |0=>simp at hp e;subst hp;subst e;exact .nil 1
  |1=>simp at hp e;subst hp;subst e;exact .refl _
  |j+2=>simp at hp
 ·have i:¬((nl (val xs):Nat):Int)>512:=Om;have w:=gP l;have u:((nl (val xs):Nat):Int)≤(Z' xs:Nat):=Om;simp only[go_sem,i,ux,u,or_true,axU];refine bF (.inr rfl) .nil rfl a_ ⟨?_,rfl⟩;rw[szV,szL,szE,aC h,aC h,←mB l,tz];exact .refl _
theorem aeL{C:Ctx}(v:Nat)(F:v<18446744073709551616)(e:∀xs,Lim xs→Z' xs≤35184372087808→aJ C 138 [aI xs] .nil (aQ (.int .i64 (nl (val xs):Nat)))) :
  KP.wp C (bD Vk.res (aQ (aI (aK v)))) (PF.args [.int .u64 v]) .nil:=by
 have y:IntKind.u32.wrap ((v:Nat):Int)=((v%4294967296:Nat):Int):=cN v;have e2:Int.fdiv ((v:Nat):Int) 4294967296=((v/4294967296:Nat):Int):=by rw[Int.fdiv_eq_ediv_of_nonneg _ aV];rfl
 have p:v/4294967296<4294967296:=Om;have A:IntKind.u32.wrap ((v/4294967296:Nat):Int)=((v/4294967296:Nat):Int):=by rw[cN,axW p]
 have i:Lim [v%4294967296,v/4294967296]:=by
  intro x w;simp only[awT,List.mem_nil_iff,or_false]at w;rcases w with rfl|rfl
  ·exact ayD _ aV
  ·exact p
 have d:val [v%4294967296,v/4294967296]=v:=by simp only[val,Nat.mul_zero,ayT];exact Nat.mod_add_div v 4294967296
 have E:∀a b:Int,PV.bin .shr (.int .u64 a) (.int .u64 b)=shift .shr .u64 a b:=λ_ _=>rfl;have l:shift .shr .u64 (v:Int) 32=some (.int .u64 ((v/4294967296:Nat):Int)):=by
  unfold shift;rw[aC aV];simp only;have:min (Int.toNat 32) IntKind.u64.bits=32:=by decide
  rw[this];rw[show(2:Int)^32=4294967296 by decide,e2]
 simp only[go_sem,KP,F7,F8,Vk,y,l,A];have hb:(2:Nat)*1≤16777216:=by decide
 simp only[go_sem,F9];refine aB (e [v%4294967296,v/4294967296] i aY) rfl ?_;have u:=gP i;rw[d]at u ⊢;have B:((nl v:Nat):Int)≤((2:Nat):Int):=by simp at u;omega
 simp only[go_sem,B,or_true,axU];refine cY (.inr rfl) rfl ?_;have:=mB i;rw[d]at this;rw[←this,tz];rfl
theorem aeP{C:Ctx}(xs:List Nat)(e:Lim xs)(p:Z' xs≤35184372087808)(d:aJ C 138 [aI xs] .nil (aQ (.int .i64 (nl (val xs):Nat)))) :
  KR.wp C (bD Vm.res (cV (aI (aK (val xs))))) (PF.args [aI xs]) .nil:=by
 simp only[go_sem,KR,Gr,Gs,Vm];refine aB d rfl ?_;have u:=gP e;have i:((nl (val xs):Nat):Int)≤(Z' xs:Nat):=Om;simp only[go_sem,i,or_true,axU];refine jN (rows:=[]) (src:=aG (aK (val xs))) .nil ?_ ?_ λv H' l _=>?_
 ·simp only[go_sem];rw[←mB e,←azM]
 ·unfold roomFor;rw[cD];have:(aK (val xs)).length=nl (val xs):=rfl;simp only[azB,maxLen];omega
 ·exact ji (.inr rfl) (by simpa using l) rfl
end Go.PM
theorem Sq{p:Prop}(h:p:=by simp only[go_sem]):p:=h
theorem Ev{p:Prop}(h:p:=by simp only[go_sem]<;>rfl):p:=h
namespace Go.PM
open Go Go.Na
def Vd(xs ys:List Nat)(i:Int):PF:=(((PF.nil.set 0 (aI xs)).set 1 (aI ys)).set 7 (.int .i64 i))
theorem ajL{C:Ctx}(xs ys:List Nat)(J:Lim xs)(K:Lim ys)(lx:Z' xs≤35184372087808)(ly:Z' ys≤35184372087808)(x:aJ C 138 [aI xs] .nil (aQ (.int .i64 (nl (val xs):Nat))))(y:aJ C 138 [aI ys] .nil (aQ (.int .i64 (nl (val ys):Nat)))) :
  PU.wp C (bD aeH.res (aQ (.int .i64 (eT (val xs) (val ys))))) (PF.args [aI xs,aI ys]) .nil:=by
 simp only[go_sem,PU,Pf,Pg,aeH];refine aB x Ev ?_;simp only[go_sem];refine aB y Ev ?_;simp only[go_sem,Ph];have W:=gP J;have R:=gP K;by_cases X:nl (val xs)<nl (val ys)
 ·have d:((nl (val xs):Nat):Int)<(nl (val ys):Nat):=Om;simp only[go_sem,d,Pi];refine cY (.inr rfl) Ev ?_;have:val xs<val ys:=by
   rcases axA (val xs) (val ys)with h|h
   ·exact h
   ·have:=kR h;omega
  simp[cR,eT,this]
 have d:¬((nl (val xs):Nat):Int)<(nl (val ys):Nat):=Om;simp only[go_sem,d,Pj];by_cases Y:nl (val xs)>nl (val ys)
 ·have e:((nl (val xs):Nat):Int)>(nl (val ys):Nat):=Om;simp only[go_sem,e,Pk];refine cY (.inr rfl) Ev ?_;have:val ys<val xs:=by
   rcases axA (val ys) (val xs)with h|h
   ·exact h
   ·have:=kR h;omega
  have u:¬val xs<val ys:=Om;simp[cR,eT,this,u]
 have e:¬((nl (val xs):Nat):Int)>(nl (val ys):Nat):=Om;have V:nl (val xs)=nl (val ys):=Om;simp only[go_sem,e,Pl];have l:=bB (val xs);have p:=bB (val ys);have O:=bG (val xs);have Q:=bG (val ys);refine wp_loop (α:=Nat) (λk=>Vd xs ys ((k:Int)-1)) (λ_=>.nil) (λk=>k≤nl (val xs)∧(aK (val xs)).drop k=(aK (val ys)).drop k) (λk=>k) (nl (val xs)) ⟨awP _,?_⟩ ?_ a_ ?_
 ·rw[aAE (by rw[nl];exact awP _),aAE (by rw[V,nl];exact awP _)]
 ·unfold Vd
  (repeat' (first|exact d_|refine c_ ?_ ?_))<;>first|(simp only[go_sem,wrap_i64 (show -9223372036854775808≤((nl (val xs):Nat):Int)-1 by omega) (show((nl (val xs):Nat):Int)-1≤9223372036854775807 by omega)]<;>rfl)|rfl
 rintro k ⟨hk,i⟩;simp only[go_sem,Fo,Pm,Vd];by_cases Z:0<k
 ·obtain⟨m,rfl⟩:∃m,k=m+1:=⟨k-1,by omega⟩;have A:((m+1:Nat):Int)-1=(m:Int):=Om;have w:(m:Int)≥0:=Om;obtain⟨M,B,E⟩:=yn J (Om:m<nl (val xs));obtain⟨N,F,H⟩:=yn K (Om:m<nl (val ys));simp only[go_sem,A,w];refine dH .nil gX a_ ?_;simp only[go_sem,Pn,bS xs M,bS ys N];by_cases S:xs[m]<ys[m]
  ·simp only[go_sem,show((xs[m]:Nat):Int)<(ys[m]:Nat) by omega,Po];refine cY (.inr rfl) Ev ?_;have:=cj O B F i (by rw[←E,←H];exact S);rw[l,p]at this;simp[cR,eT,this]
  ·simp only[go_sem,show ¬((xs[m]:Nat):Int)<(ys[m]:Nat) by omega];refine dH .nil gX a_ ?_;simp only[go_sem,Fp,bS xs M,bS ys N];by_cases U:xs[m]>ys[m]
   ·simp only[go_sem,show((xs[m]:Nat):Int)>(ys[m]:Nat) by omega,Fq];refine cY (.inr rfl) Ev ?_;have:=cj Q F B i.symm (by rw[←E,←H];exact U);rw[l,p]at this;have u:¬val xs<val ys:=Om;simp[cR,eT,this,u]
   ·simp only[go_sem,show ¬((xs[m]:Nat):Int)>(ys[m]:Nat) by omega,Ft];refine aP m ⟨by omega,re B F i (by rw[←E,←H];omega)⟩ Om ?_ a_
    (repeat' (first|exact d_|refine c_ ?_ ?_))<;>first|(simp only[go_sem,wrap_i64 (Om:-9223372036854775808≤(m:Int)-1) (Om:(m:Int)-1≤9223372036854775807)]<;>rfl)|rfl
 ·have:k=0:=Om;subst this;have A:¬((0:Nat):Int)-1≥0:=by decide
  simp only[go_sem,A,Fu];refine cY (.inr rfl) Ev ?_;rw[axU,axU]at i;have:val xs=val ys:=by rw[←l,←p,i]
  simp[cR,eT,this]
def Fb(k:Nat)(v:Nat):PF:=((PF.nil.set 4 (.int .i64 k)).set 5 (.int .u32 v))
theorem aeG{C:Ctx}(xs:List Nat)(x:Lim xs)(S:Z' xs≤35184372087808)(y:aJ C 138 [aI xs] .nil (aQ (.int .i64 (nl (val xs):Nat)))) :
  KG.wp C (bD Vc.res (aQ (.int .i64 (cS (val xs):Nat)))) (PF.args [aI xs]) .nil:=by
 simp only[go_sem,KG,Fe,Ff,Vc];refine aB y Ev ?_;simp only[go_sem,Fg];have R:=gP x;by_cases M:nl (val xs)=0
 ·simp only[go_sem,cH (show((nl (val xs):Nat):Int)=0 by omega),Fh];refine cY (.inr rfl) Ev ?_;have:val xs=0:=mL.1 M;simp[cR,this,mO]
 obtain⟨n,K⟩:∃n,nl (val xs)=n+1:=⟨nl (val xs)-1,by omega⟩;obtain⟨t,u,A⟩:=Ia x K;have w:t<4294967296:=x t (ayN u);have d:n<Z' xs:=Om;have Q:val xs=val (xs.take n)+4294967296^n*t:=by
  have e:=mB x;have:=bB (val xs);have O:xs[n]=t:=by rw[awX d]at u;exact axZ.inj u
  rw[←e,K,azH d,O,iR,axC,ayZ Om]at this;simp only[val,Nat.mul_zero,ayT]at this;exact this.symm
 have hb:cS (val xs)=32*n+cS t:=by
  have F:=fQ (x.take n);rw[axC,ayZ Om]at F;rw[Q,show(4294967296:Nat)^n=2^(32*n) by rw[Nat.pow_mul]]at *
  exact yq F A
 have i:(aG xs)[n]?=some [.int .u32 (t:Nat)]:=by rw[bS xs d];rw[awX d]at u;rw[axZ.inj u]
 have N:IntKind.i64.wrap (((nl (val xs):Nat):Int)-1)=(n:Int):=by rw[wrap_i64 Om Om];omega
 have e2:IntKind.i64.wrap ((n:Int)*32)=((32*n:Nat):Int):=by rw[wrap_i64 Om Om];omega
 simp only[go_sem,bO (show((nl (val xs):Nat):Int)≠0 by omega),Fi,Fj,N,e2,i];refine wp_loop (α:=Nat × Nat) (λa=>Fb a.1 a.2) (λ_=>.nil) (λa=>a.1+cS a.2=32*n+cS t∧a.2<4294967296) (λa=>a.2) (32*n,t) ⟨rfl,w⟩ ?_ a_ ?_
 ·unfold Fb;exact Lq
 rintro⟨k,v⟩ ⟨H,hlt⟩;simp only at H hlt;have J:cS t≤32:=(nN t 32).2 w;simp only[go_sem,Fc,Fk,Fb];by_cases E:(v:Int)>0
 ·have B:v≠0:=Om;have l:PV.bin .shr (.int .u32 (v:Int)) (.int .u64 1)=some (.int .u32 ((v/2:Nat):Int)):=by
   show shift .shr .u32 (v:Int) 1=_;unfold shift;rw[aC aV];simp only;have:min (Int.toNat 1) IntKind.u32.bits=1:=by decide
   rw[this,show(2:Int)^1=2 by decide,Int.fdiv_eq_ediv_of_nonneg _ aV];rfl
  have p:shift .shr .u32 (v:Int) 1=some (.int .u32 ((v/2:Nat):Int)):=l;simp only[go_sem,E,Fl,Fm,l,p,wZz k];refine aP (k+1,v/2) ⟨?_,?_⟩ (Nat.div_lt_self Om aV) ?_ a_
  ·have:=sY B;simp only;omega
  ·simp only;omega
  ·exact Lq
 ·have:v=0:=Om;subst this;simp only[go_sem,E,t6];refine cY (.inr rfl) Ev ?_;rw[mO]at H;simp only[cR,PV.int.injEq,true_and];omega
structure sU(C:Ctx):Prop where
 length:∀xs,Lim xs→Z' xs≤35184372087808→aJ C 138 [aI xs] .nil (aQ (.int .i64 (nl (val xs):Nat)))
 large:∀xs,Lim xs→Z' xs≤35184372087808→aJ C 137 [aI xs] .nil (aQ (.bool (decide (nl (val xs)>512))))
 sized:∀xs,Lim xs→Z' xs≤35184372087808→aJ C 141 [aI xs] .nil (aQ (szV (val xs)))
 trim:∀xs,Lim xs→Z' xs≤35184372087808→aJ C 135 [aI xs] .nil (aQ (aI (aK (val xs))))
 make:∀v:Nat,v<18446744073709551616→aJ C 132 [.int .u64 v] .nil (aQ (aI (aK v)))
 cmp:∀xs ys,Lim xs→Lim ys→Z' xs≤35184372087808→Z' ys≤35184372087808→aJ C 129 [aI xs,aI ys] .nil (aQ (.int .i64 (eT (val xs) (val ys))))
def mX:PV→List Nat
 | .sl _ rows=>rows.map λr=>match r with|[.int _ n]=>n.toNat|_=>0
 |_=>[]
theorem fV(xs:List Nat):mX (aI xs)=xs:=by
 simp[mX,azL,Function.comp_def]
def Vb:Spec:=λname vs=>match name,vs with
 |138,[x]=>some ([],λ_=>aQ (.int .i64 (nl (val (mX x)):Nat)))
 |_,_=>none
theorem pY(xs:List Nat):Vb 138 [aI xs]=some ([],λ_=>aQ (.int .i64 (nl (val xs):Nat))):=by
 show some _=_;rw[fV]
theorem AP(P:List Nat)(k v:Nat):(P++awO (k+1) 0).set P.length v=(P++[v])++awO k 0:=by
 rw[azT _ _ (awP _),azP,List.replicate_succ,aAG,axX];rfl
theorem gQ(L:List Nat)(i v:Nat):(aG L).set i [.int .u32 (v:Int)]=aG (L.set i v):=by
 unfold aG;rw[List.map_set]
theorem kL(P:List Nat)(v:Nat):val (P++[v])=val P+4294967296^P.length*v:=by
 rw[iR];simp[val]
theorem cF(xs:List Nat){i:Nat}(h:i<Z' xs):val (xs.take (i+1))=val (xs.take i)+4294967296^i*xs[i]:=by
 rw[azH h,kL,axC,ayZ Om]
theorem zP{v:Nat}:shift .shr .u64 (v:Int) 32=some (.int .u64 ((v/4294967296:Nat):Int)):=by
 unfold shift;rw[aC aV];simp only;have:min (Int.toNat 32) IntKind.u64.bits=32:=by decide
 rw[this,show(2:Int)^32=4294967296 by decide,Int.fdiv_eq_ediv_of_nonneg _ aV];rfl
theorem fR{a b:Nat}(h:a+b<18446744073709551616):IntKind.u64.wrap ((a:Int)+(b:Int))=((a+b:Nat):Int):=by
 rw[wrap_u64 Om Om];omega
theorem bE{a:Nat}(h:a<18446744073709551616):IntKind.u64.wrap (a:Int)=(a:Int):=wrap_u64 Om Om
def iq(a b:List Nat)(o i c:Nat):PF:=(((((((PF.nil.set 0 (aI a)).set 1 (aI b)).set 6 (.osl o 1 0 (Z' a+1))).set 7 (.int .u64 c)).set 35 (.int .i64 (Z' a:Nat))).set 34 (aI a)).set 36 (.int .i64 i))
theorem tx{C:Ctx}(L:sU C)(a b:List Nat)(ha:Lim a)(hb:Lim b)(hl:Z' b≤Z' a)(h1:Z' a≤1000)(F:PF)(f0:F 0=some (aI a))(f1:F 1=some (aI b)) :
  aD.wp C (.seq (.region mo) (.seq (.region mp) (.seq (.seq (.region mq) (.block 0 (.loop YV))) (.seq (.region YZ) (.seq (.region ZA) .ret))))) (bD [.tmp 4,.tmp 5] (cV (szV (val a+val b)))) F .nil:=by
 have O:IntKind.i64.wrap ((Z' a:Int)+1)=((Z' a+1:Nat):Int):=dT Om;have η:((Z' a+1:Nat):Int)*((4:Nat):Int)≤140737488355328:=Om;have θ:((Z' a+1:Nat):Int)≤9223372036854775807:=Om;have hz:awO (Z' a+1) [PV.int .u32 0]=aG ([]++awO (Z' a+1) 0):=by simp[aG]
 simp only[go_sem,mo,f0,O,η,θ,hz];refine aW λo ho=>?_;simp only[go_sem,mp,mq,f0];refine wp_loop (α:=List Nat × Nat × Nat) (λs=>iq a b s.2.2 s.1.length s.2.1) (λs=>PH.nil.set s.2.2 (.rows 1 (aG (s.1++awO (Z' a+1-s.1.length) 0))))
  (λs=>s.1.length≤Z' a∧Lim s.1∧s.2.1≤1∧val s.1+4294967296^s.1.length*s.2.1=val (a.take s.1.length)+val (b.take s.1.length)) (λs=>Z' a-s.1.length) ([],0,o) ⟨by simp,by simp[Lim],by simp,by simp[val]⟩ ?_ ?_ ?_
 ·unfold iq;exact Lq
 ·exact PH.aN a_ (by simp only[go_sem,azB])
 rintro⟨P,c,q⟩ ⟨hP,d,hc,w⟩;simp only at hP d hc w;simp only[go_sem,YV,Pe,iq];by_cases V:Z' P<Z' a
 ·have A:(Z' P:Int)<(Z' a:Nat):=Om;have ι:=ha _ (awS V);obtain⟨k,S⟩:∃k,Z' a+1-Z' P=k+1:=⟨Z' a-Z' P,by omega⟩;have H:(aG (P++awO (k+1) 0))[Z' P]?=some [.int .u32 ((0:Nat):Int)]:=by rw[bS _ aY];simp
  have i:Z' a+1-(Z' P+1)=k:=Om;have B:(Z' P:Int)<((Z' a+1:Nat):Int):=Om;have fin:∀(t:Nat)(p:PF)(H':PH),t<2*4294967296→val P+4294967296^P.length*t=val (a.take (Z' P+1))+val (b.take (Z' P+1)) →
    p 0=some (aI a)→p 1=some (aI b)→p 6=some (.osl q 1 0 (Z' a+1))→p 7=some (.int .u64 (t:Nat))→p 8=some (.int .i64 P.length)→p 34=some (aI a)→p 35=some (.int .i64 (Z' a:Nat))→p 36=some (.int .i64 P.length) →
    H' q=some (.rows 1 (aG (P++awO (k+1) 0)))→∀K:cJ,(∀u y R H2,Z' u=Z' P+1→Lim u→y≤1→val u+4294967296^u.length*y=val (a.take (Z' P+1))+val (b.take (Z' P+1))→(iq a b q u.length y).le R→H2 q=some (.rows 1 (aG (u++awO k 0)))→K .normal R H2) →
    aD.wp C (.seq (.region YW) (.region YX)) (gU 1 (jT C (aD.wp C (.region YY)) K)) p H':=by
   intro t p H' ht hv g0 g1 g6 g7 g8 γ δ ε gH K hK;have l:(aG (P++awO (k+1) 0)).set P.length [.int .u32 ((t%4294967296:Nat):Int)]=aG ((P++[t%4294967296])++awO k 0):=by rw[gQ,AP]
   simp only[go_sem,YW,g6,g8,g7,cN,B,gH,H,l,YX,zP,YY,ε,dT (Om:Z' P<9223372036854775807)];refine hK (P++[t%4294967296]) (t/4294967296) _ _ aY (d.app λx U=>by simp at U;subst U;exact ayD _ aV) Om ?_ ?_ Sq
   ·rw[kL,awQ,awV,ayH,axI,ayY,←awW,Nat.mod_add_div];exact hv
   ·unfold iq;rw[awQ,awV];refine c_ (c_ (c_ (c_ (c_ (c_ (c_ d_ ?_) ?_) ?_) ?_) ?_) ?_) ?_<;>simp only[go_sem,g0,g1,g6,γ,δ]
  have Q:=cF a V;have ea:IntKind.u64.wrap ((a[Z' P]:Nat):Int)=((a[Z' P]:Nat):Int):=bE Om;have es:IntKind.u64.wrap ((c:Nat)+((a[Z' P]:Nat):Int))=((c+a[Z' P]:Nat):Int):=fR Om;simp only[go_sem,A,E7,E8,bS a V,ea,es,E9];by_cases W:Z' P<Z' b
  ·have E:(Z' P:Int)<(Z' b:Nat):=Om;have κ:=hb _ (awS W);have J:=cF b W;have eb:IntKind.u64.wrap ((b[Z' P]:Nat):Int)=((b[Z' P]:Nat):Int):=bE Om;have β:IntKind.u64.wrap (((c+a[Z' P]:Nat):Int)+((b[Z' P]:Nat):Int))=((c+a[Z' P]+b[Z' P]:Nat):Int):=fR Om;simp only[go_sem,E,Fa,bS b W,eb,β];refine fin (c+a[Z' P]+b[Z' P]) _ _ Om ?_ ?_ ?_ ?_ ?_ ?_ ?_ ?_ ?_ ?_ _ ?_
   ·rw[Q,J,awW,awW];omega
   any_goals simp only[go_sem,S]
   intro u y R H2 M e2 X N Y Z;rw[←M]at N;refine aP (u,y,q) ⟨by simp only;omega,e2,X,N⟩ (by simp only;omega) Y (PH.aN a_ ?_);simp only;rw[M,i];exact Z
  ·have E:¬(Z' P:Int)<(Z' b:Nat):=Om;have J:val (b.take (Z' P+1))=val (b.take P.length):=by rw[axE Om,axE Om]
   simp only[go_sem,E];refine fin (c+a[Z' P]) _ _ Om ?_ ?_ ?_ ?_ ?_ ?_ ?_ ?_ ?_ ?_ _ ?_
   ·rw[Q,J,awW];omega
   any_goals simp only[go_sem,S]
   intro u y R H2 M e2 X N Y Z;rw[←M]at N;refine aP (u,y,q) ⟨by simp only;omega,e2,X,N⟩ (by simp only;omega) Y (PH.aN a_ ?_);simp only;rw[M,i];exact Z
 ·have e:Z' P=Z' a:=Om;have A:¬(Z' P:Int)<(Z' a:Nat):=Om;have S:awO (Z' a+1-Z' P) 0=[0]:=by rw[show a.length+1-Z' P=1 by omega];rfl
  have H:(aG (P++[0]))[Z' a]?=some [.int .u32 ((0:Nat):Int)]:=by rw[bS _ (by simp;omega)];simp[e]
  have l:(aG (P++[0])).set a.length [.int .u32 ((c%4294967296:Nat):Int)]=aG (P++[c]):=by have:=AP P 0 (c%4294967296);simp only[List.replicate_zero,ayO,axJ,List.replicate_one]at this;rw[←e,gQ,this,axW Om]
  have B:(Z' a:Int)<((Z' a+1:Nat):Int):=Om;have hV:val (P++[c])=val a+val b:=by rw[kL,w,e,ayC,axE hl]
  have ζ:Lim (P++[c]):=d.app λx U=>by simp at U;omega
  simp only[go_sem,A,YZ,cN,S,H,B,l,ZA];have hs:=L.sized _ ζ (by simp;omega);rw[hV]at hs;refine sB (o:=q) (s:=1) (k:=Z' a+1) (rs:=aG (P++[c])) (v:=szV (val a+val b)) ?_ rfl Sq (by rw[cD];simp;omega) ?_
  ·rw[axE (by rw[cD];simp;omega)];exact hs
  ·simp only[go_sem,szV];exact bF (.inr rfl) .nil rfl a_ ⟨.refl _,rfl⟩
def opV(d:Bool)(n:Nat):PV:=if d then .tup [aI [],.int .i64 2]else szV n
def gA(a b:Nat):Bool:=decide (nl a>512)||decide (nl b>512)
theorem lM{res:List dJ}{F:PF}{H:PH}{e:Int}(h:dJ.evs F H res=some [.aH,.int .i64 e]):bD res (cV (.tup [aI [],.int .i64 e])) .ret F H:=by
 refine bF (.inr rfl) .nil h a_ ⟨?_,rfl⟩;refine .tup rfl λj p q hp d=>?_
 match j with
 |0=>simp at hp d;subst hp;subst d;exact .nil 1
 |1=>simp at hp d;subst hp;subst d;exact .refl _
 |j+2=>simp at hp
theorem bP(n:Nat):(aK n).length=nl n:=rfl
theorem kI{xs:List Nat}(h:Lim xs):(xs.map λ(n:Nat)=>[PV.int .u32 (n:Int)]).take (nl (val xs))=(aK (val xs)).map λ(n:Nat)=>[PV.int .u32 (n:Int)]:=by
 rw[←azM,mB h]
theorem ajJ{C:Ctx}(L:sU C)(a b:List Nat)(p:Lim a)(hb:Lim b)(x:Z' a≤35184372087808)(y:Z' b≤35184372087808) :
  PT.wp C (bD aeE.res (cV (opV (gA (val a) (val b)) (val a+val b)))) (PF.args [aI a,aI b]) .nil:=by
 simp only[go_sem,PT,O9,Pa,aeE];refine aB (L.large a p x) rfl ?_;by_cases i:nl (val a)>512
 ·simp only[go_sem,i,mm];rw[show opV (gA (val a) (val b)) (val a+val b)=.tup [aI [],.int .i64 2] by simp[opV,gA,i]];exact lM rfl
 simp only[go_sem,i];refine aB (L.large b hb y) rfl ?_;by_cases l:nl (val b)>512
 ·simp only[go_sem,l,mm];rw[show opV (gA (val a) (val b)) (val a+val b)=.tup [aI [],.int .i64 2] by simp[opV,gA,l]];exact lM rfl
 have e:opV (gA (val a) (val b)) (val a+val b)=szV (val a+val b):=by simp[opV,gA,i,l]
 rw[e];simp only[go_sem,l];refine dH .nil Vb a_ ?_;simp only[go_sem,Pb];have F:=gP p;have H:=gP hb;have u:((nl (val a):Nat):Int)≤(Z' a:Nat):=Om;have w:((nl (val b):Nat):Int)≤(Z' b:Nat):=Om;refine eI (pY a) (L.length a p x) rfl a_ ?_;simp only[go_sem,u,or_true,axU,kI p];refine eI (pY b) (L.length b hb y) rfl a_ ?_;simp only[go_sem,w,or_true,axU,kI hb,Pc,bP];have A:=bB (val a);have B:=bB (val b);by_cases E:nl (val a)<nl (val b)
 ·have d:((nl (val a):Nat):Int)<(nl (val b):Nat):=Om;simp only[go_sem,d,Pd];have:=tx L (aK (val b)) (aK (val a)) (bG _) (bG _) (by rw[bP,bP];omega) (by rw[bP];omega);rw[A,B,Nat.add_comm]at this;exact this _ rfl rfl
 ·have d:¬((nl (val a):Nat):Int)<(nl (val b):Nat):=Om;simp only[go_sem,d];have:=tx L (aK (val a)) (aK (val b)) (bG _) (bG _) (by rw[bP,bP];omega) (by rw[bP];omega);rw[A,B]at this;exact this _ rfl rfl
theorem gY(n:Int):IntKind.u64.wrap n=n%18446744073709551616:=by simp[IntKind.wrap,IntKind.bits,IntKind.signed]
theorem WM(n:Int):IntKind.u32.wrap n=n%4294967296:=by simp[IntKind.wrap,IntKind.bits,IntKind.signed]
theorem V5{v:Int}:shift .shr .u64 v 63=some (.int .u64 (v/9223372036854775808)):=by
 unfold shift;rw[aC aV];simp only;have:min (Int.toNat 63) IntKind.u64.bits=63:=by decide
 rw[this,show(2:Int)^63=9223372036854775808 by decide,Int.fdiv_eq_ediv_of_nonneg _ aV]
def RK(a bor b:Nat):Nat:=(a+4294967296-bor-b)%4294967296
def ZY(a bor b:Nat):Nat:=if a<bor+b then 1 else 0
theorem Hz{a bor b:Nat}(d:a<4294967296)(hb:b<4294967296)(e:bor≤1)(v:Int)(i:v=((a:Int)-bor-b)%18446744073709551616) :
  IntKind.u32.wrap v=((RK a bor b:Nat):Int)∧v/9223372036854775808=((ZY a bor b:Nat):Int)∧a+4294967296*ZY a bor b=RK a bor b+b+bor∧RK a bor b<4294967296:=by
 rw[WM];unfold RK ZY;split<;>omega
def i7(a b:List Nat)(o i c:Nat):PF:=(((((((PF.nil.set 0 (aI a)).set 1 (aI b)).set 6 (.osl o 1 0 a.length)).set 7 (.int .u64 c)).set 33 (aI a)).set 34 (.int .i64 (Z' a:Nat))).set 35 (.int .i64 i))
theorem Y3{C:Ctx}(L:sU C)(a b:List Nat)(ha:Lim a)(hb:Lim b)(ζ:val b≤val a)(hl:Z' b≤Z' a)(h1:Z' a≤1000)(F:PF)(f0:F 0=some (aI a))(f1:F 1=some (aI b)) :
  aD.wp C (.seq (.region nc) (.seq (.region ni) (.seq (.seq (.region nj) (.block 1 (.loop ZI))) (.seq (.region ZM) .ret)))) (bD [.tmp 4,.tmp 5] (cV (szV (val a-val b)))) F .nil:=by
 have γ:(Z' a:Int)*((4:Nat):Int)≤140737488355328:=Om;have δ:(Z' a:Int)≤9223372036854775807:=Om;have hz:awO a.length [PV.int .u32 0]=aG ([]++awO a.length 0):=by simp[aG]
 simp only[go_sem,nc,f0,γ,δ,hz];refine aW λo ho=>?_;simp only[go_sem,ni,nj,f0];refine wp_loop (α:=List Nat × Nat × Nat) (λs=>i7 a b s.2.2 s.1.length s.2.1) (λs=>PH.nil.set s.2.2 (.rows 1 (aG (s.1++awO (Z' a-s.1.length) 0))))
  (λs=>s.1.length≤Z' a∧Lim s.1∧s.2.1≤1∧val (a.take s.1.length)+4294967296^s.1.length*s.2.1=val s.1+val (b.take s.1.length)) (λs=>Z' a-s.1.length) ([],0,o) ⟨by simp,by simp[Lim],by simp,by simp[val]⟩ ?_ ?_ ?_
 ·unfold i7;exact Lq
 ·exact PH.aN a_ (by simp only[go_sem,azB])
 rintro⟨P,c,q⟩ ⟨hP,d,hc,y⟩;simp only at hP d hc y;simp only[go_sem,ZI,Qd,i7];by_cases Q:Z' P<Z' a
 ·have w:(Z' P:Int)<(Z' a:Nat):=Om;have Y:=ha _ (awS Q);obtain⟨k,O⟩:∃k,Z' a-Z' P=k+1:=⟨Z' a-Z' P-1,by omega⟩;have β:(aG (P++awO (k+1) 0))[Z' P]?=some [.int .u32 ((0:Nat):Int)]:=by rw[bS _ aY];simp
  have i:Z' a-(Z' P+1)=k:=Om;have ε:=cF a Q;have fin:∀(t:Nat)(v:Int)(p:PF)(H':PH),t<4294967296→v=((a[Z' P]:Int)-c-t)%18446744073709551616→val (b.take (Z' P+1))=val (b.take P.length)+4294967296^P.length*t →
    p 0=some (aI a)→p 1=some (aI b)→p 6=some (.osl q 1 0 a.length)→p 9=some (.int .u64 v)→p 8=some (.int .i64 P.length)→p 33=some (aI a)→p 34=some (.int .i64 (Z' a:Nat))→p 35=some (.int .i64 P.length) →
    H' q=some (.rows 1 (aG (P++awO (k+1) 0)))→∀K:cJ,(∀u A N H2,Z' u=Z' P+1→Lim u→A≤1→val (a.take (Z' P+1))+4294967296^u.length*A=val u+val (b.take (Z' P+1))→(i7 a b q u.length A).le N→H2 q=some (.rows 1 (aG (u++awO k 0)))→K .normal N H2) →
    aD.wp C (.seq (.region ZJ) (.region ZK)) (gU 2 (jT C (aD.wp C (.region ZL)) K)) p H':=by
   intro t v p H' ht hv l g0 g1 g6 g9 g8 V W X gH K hK;obtain⟨E,e2,J,H⟩:=Hz Y ht hc v hv;have M:(aG (P++awO (k+1) 0)).set P.length [.int .u32 ((RK a[Z' P] c t:Nat):Int)]=aG ((P++[RK a[Z' P] c t])++awO k 0):=by rw[gQ,AP]
   simp only[go_sem,ZJ,g6,g8,g9,E,w,gH,β,M,ZK,V5,e2,ZL,X,dT (Om:Z' P<9223372036854775807)];refine hK (P++[RK a[Z' P] c t]) (ZY a[Z' P] c t) _ _ aY (d.app λx hx=>by simp at hx;subst hx;exact H) (by unfold ZY;split<;>omega) ?_ ?_ Sq
   ·rw[kL,awQ,awV,ayH,axI,ε,l,ayY,←awW,J,awW,awW];omega
   ·unfold i7;rw[awQ,awV];refine c_ (c_ (c_ (c_ (c_ (c_ (c_ d_ ?_) ?_) ?_) ?_) ?_) ?_) ?_<;>simp only[go_sem,g0,g1,g6,V,W]
  have ea:IntKind.u64.wrap ((a[Z' P]:Nat):Int)=((a[Z' P]:Nat):Int):=bE Om;simp only[go_sem,w,Gk,Gl,bS a Q,ea,Gm];by_cases R:Z' P<Z' b
  ·have B:(Z' P:Int)<(Z' b:Nat):=Om;have Z:=hb _ (awS R);have l:=cF b R;have eb:IntKind.u64.wrap ((b[Z' P]:Nat):Int)=((b[Z' P]:Nat):Int):=bE Om;simp only[go_sem,B,Gn,bS b R,eb];refine fin b[Z' P] (IntKind.u64.wrap (IntKind.u64.wrap ((a[Z' P]:Int)-(c:Int))-(b[Z' P]:Int))) _ _ Z (by rw[gY,gY];omega) l ?_ ?_ ?_ ?_ ?_ ?_ ?_ ?_ ?_ _ ?_
   any_goals simp only[go_sem,O]
   intro u A N H2 E e2 J H S U;rw[←E]at H;refine aP (u,A,q) ⟨by simp only;omega,e2,J,H⟩ (by simp only;omega) S (PH.aN a_ ?_);simp only;rw[E,i];exact U
  ·have B:¬(Z' P:Int)<(Z' b:Nat):=Om;have l:val (b.take (Z' P+1))=val (b.take P.length)+4294967296^P.length*0:=by rw[axE Om,axE Om];simp
   simp only[go_sem,B];refine fin 0 (IntKind.u64.wrap ((a[Z' P]:Int)-(c:Int))) _ _ aV (by rw[gY];omega) l ?_ ?_ ?_ ?_ ?_ ?_ ?_ ?_ ?_ _ ?_
   any_goals simp only[go_sem,O]
   intro u A N H2 E e2 J H S U;rw[←E]at H;refine aP (u,A,q) ⟨by simp only;omega,e2,J,H⟩ (by simp only;omega) S (PH.aN a_ ?_);simp only;rw[E,i];exact U
 ·have e:Z' P=Z' a:=Om;have w:¬(Z' P:Int)<(Z' a:Nat):=Om;have O:awO (Z' a-Z' P) 0=[]:=by rw[show a.length-Z' P=0 by omega];rfl
  have hV:val P=val a-val b:=by
   rw[e,ayC,axE hl]at y;have hlt:=fQ d;rw[e]at hlt;rcases azE c with h|h
   ·subst h;omega
   ·have:c=1:=Om;subst this;omega
  simp only[go_sem,w,O,ayO,ZM];have hs:=L.sized _ d Om;rw[hV]at hs;refine sB (o:=q) (s:=1) (k:=Z' a) (rs:=aG P) (v:=szV (val a-val b)) ?_ rfl Sq (by rw[cD];omega) ?_
  ·rw[axE (by rw[cD];omega)];exact hs
  ·simp only[go_sem,szV];exact bF (.inr rfl) .nil rfl a_ ⟨.refl _,rfl⟩
def BY(a b:Nat):PV:=if gA a b then .tup [aI [],.int .i64 2]else if a<b then .tup [aI [],.int .i64 4]else szV (a-b)
theorem ajQ{C:Ctx}(L:sU C)(a b:List Nat)(i:Lim a)(hb:Lim b)(x:Z' a≤35184372087808)(y:Z' b≤35184372087808) :
  QE.wp C (bD aeO.res (cV (BY (val a) (val b)))) (PF.args [aI a,aI b]) .nil:=by
 simp only[go_sem,QE,P8,P9,aeO];refine aB (L.large a i x) rfl ?_;by_cases d:nl (val a)>512
 ·simp only[go_sem,d,nb];rw[show BY (val a) (val b)=.tup [aI [],.int .i64 2] by simp[BY,gA,d]];exact lM rfl
 simp only[go_sem,d];refine aB (L.large b hb y) rfl ?_;by_cases e:nl (val b)>512
 ·simp only[go_sem,e,nb];rw[show BY (val a) (val b)=.tup [aI [],.int .i64 2] by simp[BY,gA,e]];exact lM rfl
 simp only[go_sem,e,Qa];refine aB (L.cmp a b i hb x y) rfl ?_;by_cases l:val a<val b
 ·have w:eT (val a) (val b)<0:=by simp[eT,l]
  simp only[go_sem,w,Qb];rw[show BY (val a) (val b)=.tup [aI [],.int .i64 4] by simp[BY,gA,d,e,l]];exact lM rfl
 have w:¬eT (val a) (val b)<0:=by unfold eT;rw[aC l];split<;>decide
 rw[show BY (val a) (val b)=szV (val a-val b) by simp[BY,gA,d,e,l]];simp only[go_sem,w];refine dH .nil Vb a_ ?_;simp only[go_sem,Qc];have E:=gP i;have F:=gP hb;have p:((nl (val a):Nat):Int)≤(Z' a:Nat):=Om;have u:((nl (val b):Nat):Int)≤(Z' b:Nat):=Om;refine eI (pY a) (L.length a i x) rfl a_ ?_;simp only[go_sem,p,or_true,axU,kI i];refine eI (pY b) (L.length b hb y) rfl a_ ?_;simp only[go_sem,u,or_true,axU,kI hb];have A:=bB (val a);have B:=bB (val b);have H:=kR (Om:val b≤val a);have:=Y3 L (aK (val a)) (aK (val b)) (bG _) (bG _) Om (by rw[bP,bP];omega) (by rw[bP];omega);rw[A,B]at this;exact this _ rfl rfl
end Go.PM
namespace Go.Na
def eG:Nat→Nat→List Nat
 |0,_=>[]
 |k+1,n=>(n%4294967296)::eG k (n/4294967296)
theorem mY:∀k n,(eG k n).length=k
 |0,_=>rfl
 |k+1,n=>by simp[eG,mY k]
theorem IC{xs:List Nat}(h:Lim xs):eG xs.length (val xs)=xs:=by
 induction xs with
 |nil=>rfl
 |cons x xs i =>have l:=h x aY;have d:(x+4294967296*val xs)%4294967296=x:=Om;have e2:(x+4294967296*val xs)/4294967296=val xs:=Om;simp only[ayF,eG,val];rw[d,e2,i λy e=>h y (by simp[e])]
theorem oM:∀k n,Lim (eG k n)
 |0,_=>λx hx=>by cases hx
 |k+1,n=>λx hx=>by
  simp only[eG,awT]at hx;rcases hx with rfl|hx
  ·exact ayD _ aV
  ·exact oM k _ x hx
theorem CB:∀k n,val (eG k n)=n%4294967296^k
 |0,n=>by simp[eG,val,Nat.mod_one]
 |k+1,n=>by simp only[eG,val,CB k];rw[ayH,axM (4294967296^k) 4294967296,Nat.mod_mul]
theorem qC{k n:Nat}(h:n<4294967296^k):val (eG k n)=n:=by rw[CB,axW h]
end Go.Na
namespace Go.PM
open Go Go.Na
theorem aoP{a b:Nat}(d:a<18446744073709551616)(hb:b<18446744073709551616):(BitVec.ofInt 64 (a:Int) ||| BitVec.ofInt 64 (b:Int)).toNat=a ||| b:=by
 rw[BitVec.ofInt_natCast,BitVec.ofInt_natCast,BitVec.toNat_or,BitVec.toNat_ofNat,BitVec.toNat_ofNat,axW (by simpa using d),axW (by simpa using hb)]
theorem G1{c x s:Nat}(d:c<2^s)(h:c+2^s*x<18446744073709551616):c ||| (2^s*x)=c+2^s*x:=by
 rw[Nat.or_comm,←Nat.two_pow_add_eq_or_of_lt d,Nat.add_comm]
theorem orI{a b n:Nat}(d:a<18446744073709551616)(hb:b<18446744073709551616)(h:a ||| b=n)(e:n<18446744073709551616):mE .or .u64 (a:Int) (b:Int)=some (.int .u64 (n:Int)):=by
 show some (PV.int .u64 (IntKind.u64.wrap (((BitVec.ofInt 64 (a:Int) ||| BitVec.ofInt 64 (b:Int)).toNat:Nat):Int)))=_;rw[aoP d hb,h,bE e]
theorem LL{x s:Nat}(d:s≤64)(h:x*2^s<18446744073709551616):shift .shl .u64 (x:Int) (s:Int)=some (.int .u64 ((2^s*x:Nat):Int)):=by
 unfold shift;rw[aC Om];simp only;have:min (Int.toNat (s:Int)) IntKind.u64.bits=s:=by rw[show IntKind.u64.bits=64 from rfl];omega
 rw[this,show(x:Int)*2^s=((x*2^s:Nat):Int) by simp,bE h,axM]
def aeQ(a:List Nat)(s o i c:Nat):PF:=(((((((PF.nil.set 0 (aI a)).set 1 (.int .u64 s)).set 5 (.osl o 1 0 (Z' a+1))).set 6 (.int .u64 c)).set 13 (aI a)).set 14 (.int .i64 (Z' a:Nat))).set 15 (.int .i64 i))
def upR(a:List Nat)(s:Nat)(r:PV)(H:PH):Prop:=∃o,r=.osl o 1 0 (Z' a+1)∧H=PH.nil.set o (.rows 1 (aG (eG (Z' a+1) (val a*2^s))))
theorem amB{C:Ctx}(a:List Nat)(s:Nat)(ha:Lim a)(hs:s<32)(h1:Z' a≤1000):ZO.wp C (bD nup.res (upR a s)) (PF.args [aI a,.int .u64 s]) .nil:=by
 have F:IntKind.i64.wrap ((Z' a:Int)+1)=((Z' a+1:Nat):Int):=dT Om;have S:((Z' a+1:Nat):Int)*((4:Nat):Int)≤140737488355328:=Om;have U:((Z' a+1:Nat):Int)≤9223372036854775807:=Om;have hz:awO (Z' a+1) [PV.int .u32 0]=aG ([]++awO (Z' a+1) 0):=by simp[aG]
 have N:2^s≤2147483648:=Nat.pow_le_pow_right (show 0<2 by decide) (Om:s≤31);have B:0<2^s:=azJ aV;simp only[go_sem,ZO,Y4,Y5,nup,F,S,U,hz];refine aW λo ho=>?_;simp only[go_sem,Y6,Y7];refine wp_loop (α:=List Nat × Nat × Nat) (λt=>aeQ a s t.2.2 t.1.length t.2.1) (λt=>PH.nil.set t.2.2 (.rows 1 (aG (t.1++awO (Z' a+1-t.1.length) 0))))
  (λt=>t.1.length≤Z' a∧Lim t.1∧t.2.1<2^s∧val t.1+4294967296^t.1.length*t.2.1=val (a.take t.1.length)*2^s) (λt=>Z' a-t.1.length) ([],0,o) ⟨by simp,by simp[Lim],B,by simp[val]⟩ ?_ ?_ ?_
 ·unfold aeQ;exact Lq
 ·exact PH.aN a_ (by simp only[go_sem,azB])
 rintro⟨P,c,q⟩ ⟨hP,d,X,l⟩;simp only at hP d X l;simp only[go_sem,Qe,Y8,aeQ];by_cases J:Z' P<Z' a
 ·have p:(Z' P:Int)<(Z' a:Nat):=Om;have β:=ha _ (awS J);obtain⟨k,R⟩:∃k,Z' a+1-Z' P=k+1:=⟨Z' a-Z' P,by omega⟩;have w:(aG (P++awO (k+1) 0))[Z' P]?=some [.int .u32 ((0:Nat):Int)]:=by rw[bS _ aY];simp
  have A:Z' a+1-(Z' P+1)=k:=Om;have u:(Z' P:Int)<((Z' a+1:Nat):Int):=Om;have V:=cF a J;generalize W:a[Z' P]=x at *
  have γ:x*2^s≤4294967295*2147483648:=azY Om N;have Z:IntKind.u64.wrap ((x:Nat):Int)=((x:Nat):Int):=bE Om;have H:2^s*x=x*2^s:=axM _ _;have M:shift .shl .u64 (x:Int) (s:Int)=some (.int .u64 ((2^s*x:Nat):Int)):=LL Om Om;have K:=orI (a:=c) (b:=2^s*x) (n:=c+2^s*x) Om Om (G1 X Om) Om;have E:(c+2^s*x)/4294967296<2^s:=by rw[azR aV];have:2^s*(x+1)≤2^s*4294967296:=azA _ Om;rw[awW,Nat.mul_one]at this;omega
  have i:(aG (P++awO (k+1) 0)).set P.length [.int .u32 (((c+2^s*x)%4294967296:Nat):Int)]=aG ((P++[(c+2^s*x)%4294967296])++awO k 0):=by rw[gQ,AP]
  have Q:(aG a)[Z' P]?=some [.int .u32 ((x:Nat):Int)]:=by rw[bS a J,W]
  simp only[go_sem,p,Y9,Za,Q,Z,M,K,Zb,cN,R,u,w,i,Zc,zP,Zd,dT (Om:Z' P<9223372036854775807)];refine aP (P++[(c+2^s*x)%4294967296],(c+2^s*x)/4294967296,q) ⟨by simp;omega,d.app λy Y=>by simp at Y;subst Y;exact ayD _ aV,E,?_⟩ (by simp;omega) ?_ (PH.aN a_ ?_)
  ·simp only;rw[kL,awQ,awV,ayH,axI,ayY,←awW,Nat.mod_add_div,V,awW,axR,←ayY,l,H,axI]
  ·simp only;rw[awQ,awV];exact Lq
  ·simp only;rw[awQ,awV,A];simp only[go_sem]
 ·have e:Z' P=Z' a:=Om;have p:¬(Z' P:Int)<(Z' a:Nat):=Om;have R:awO (Z' a+1-Z' P) 0=[0]:=by rw[show a.length+1-Z' P=1 by omega];rfl
  have w:(aG (P++[0]))[Z' a]?=some [.int .u32 ((0:Nat):Int)]:=by rw[bS _ (by simp;omega)];simp[e]
  have i:(aG (P++[0])).set a.length [.int .u32 ((c%4294967296:Nat):Int)]=aG (P++[c]):=by have:=AP P 0 (c%4294967296);simp only[List.replicate_zero,ayO,axJ,List.replicate_one]at this;rw[←e,gQ,this,axW Om]
  have u:(Z' a:Int)<((Z' a+1:Nat):Int):=Om;have hV:val (P++[c])=val a*2^s:=by rw[kL,l,e,ayC]
  have O:Lim (P++[c]):=d.app λx W=>by simp at W;omega
  have hD:eG (Z' a+1) (val a*2^s)=P++[c]:=by have:=IC O;rw[hV,awQ,awV,e]at this;exact this
  simp only[go_sem,p,Qf,cN,R,w,u,i,Qg];exact bF (vs:=[.osl q 1 0 (Z' a+1)]) (.inr rfl) (PH.nil.set q (.rows 1 (aG (P++[c])))) Ev (PH.aN a_ Sq) ⟨q,rfl,by rw[hD]⟩
def na(a:List Nat)(d o k r:Nat):PF:=(((((PF.nil.set 0 (aI a)).set 1 (.int .u32 d)).set 6 (.osl o 1 0 a.length)).set 7 (.int .u64 r)).set 8 (.int .i64 ((k:Int)-1)))
theorem Y1{C:Ctx}(L:sU C)(a:List Nat)(d:Nat)(ha:Lim a)(l:0<d)(hd:d<4294967296)(h1:Z' a≤1000) :
  EZ.wp C (bD Gi.res (aQ (.tup [aI (aK (val a/d)),.int .u32 ((val a%d:Nat):Int)]))) (PF.args [aI a,.int .u32 d]) .nil:=by
 have X:(Z' a:Int)*((4:Nat):Int)≤140737488355328:=Om;have Y:(Z' a:Int)≤9223372036854775807:=Om;have hz:awO a.length [PV.int .u32 0]=aG (awO a.length 0++[]):=by simp[aG]
 simp only[go_sem,EZ,ug,uh,Gi,X,Y,hz];refine aW λo ho=>?_;simp only[go_sem,ui,uj];refine wp_loop (α:=Nat × List Nat × Nat × Nat) (λt=>na a d t.2.2.2 t.1 t.2.2.1) (λt=>PH.nil.set t.2.2.2 (.rows 1 (aG (awO t.1 0++t.2.1))))
  (λt=>t.1+t.2.1.length=Z' a∧Lim t.2.1∧t.2.2.1<d∧val t.2.1*d+t.2.2.1=val (a.drop t.1)) (λt=>t.1) (Z' a,[],0,o) ⟨by simp,by simp[Lim],l,by simp[val]⟩ ?_ ?_ ?_
 ·unfold na
  (repeat' (first|exact d_|refine c_ ?_ ?_))<;>first|(simp only[go_sem,wrap_i64 (Om:-9223372036854775808≤(Z' a:Int)-1) (Om:(Z' a:Int)-1≤9223372036854775807)]<;>rfl)|rfl
 ·exact PH.aN a_ Sq
 rintro⟨k,S,r,q⟩ ⟨hk,e,M,i⟩;simp only at hk e M i;simp only[go_sem,ue,uk,na];by_cases h0:0<k
 ·obtain⟨m,rfl⟩:∃m,k=m+1:=⟨k-1,by omega⟩;have w:((m+1:Nat):Int)-1=(m:Int):=Om;have V:(m:Int)≥0:=Om;have u:m<Z' a:=Om;have hlt:(m:Int)<(Z' a:Nat):=Om;have β:=ha _ (awS u);have p:val (a.drop m)=a[m]+4294967296*val (a.drop (m+1)):=by rw[ayS u];rfl
  generalize hx:a[m]=x at *
  have O:(aG a)[m]?=some [.int .u32 ((x:Nat):Int)]:=by rw[bS a u,hx]
  have ex:IntKind.u64.wrap ((x:Nat):Int)=((x:Nat):Int):=bE Om;have ed:IntKind.u64.wrap ((d:Nat):Int)=((d:Nat):Int):=bE Om;have F:shift .shl .u64 (r:Int) 32=some (.int .u64 ((2^32*r:Nat):Int)):=LL (s:=32) Om Om;have N:(2:Nat)^32=4294967296:=by decide
  have A:=orI (a:=2^32*r) (b:=x) (n:=2^32*r+x) Om Om (Nat.two_pow_add_eq_or_of_lt Om r).symm Om;rw[N]at F A;have K:(4294967296*r+x)/d<4294967296:=by rw[azR l];have:4294967296*(r+1)≤4294967296*d:=azA _ M;omega
  have Q:¬((d:Nat):Int)=0:=Om;have B:IntKind.u64.wrap (Int.tdiv ((4294967296*r+x:Nat):Int) ((d:Nat):Int))=(((4294967296*r+x)/d:Nat):Int):=by rw[show Int.tdiv ((4294967296*r+x:Nat):Int) ((d:Nat):Int)=(((4294967296*r+x)/d:Nat):Int)from rfl];exact bE Om
  have E:Int.tmod ((4294967296*r+x:Nat):Int) ((d:Nat):Int)=(((4294967296*r+x)%d:Nat):Int):=rfl;have ec:IntKind.u32.wrap (((4294967296*r+x)/d:Nat):Int)=(((4294967296*r+x)/d:Nat):Int):=by rw[cN,axW K]
  have H:awO (m+1) 0++S=awO m 0++(0::S):=by rw[List.replicate_succ',axX];rfl
  have W:(aG (awO m 0++(0::S)))[m]?=some [.int .u32 ((0:Nat):Int)]:=by rw[bS _ aY];simp
  have J:(aG (awO m 0++(0::S))).set m [.int .u32 (((4294967296*r+x)/d:Nat):Int)]=aG (awO m 0++(((4294967296*r+x)/d)::S)):=by rw[gQ,azT _ _ aY];simp
  simp only[go_sem,w,V,ul,F,O,ex,A,um,ed,Q,B,ec,hlt,H,W,J,uo,E,uq];refine aP (m,((4294967296*r+x)/d)::S,(4294967296*r+x)%d,q) ⟨by simp only[ayF];omega,λy hy=>?_,ayD _ l,?_⟩ (by simp only;omega) ?_ (PH.aN a_ Sq)
  ·rw[awT]at hy;rcases hy with rfl|hy
   ·exact K
   ·exact e y hy
  ·simp only[val];rw[p,←i,axR,awW,axI];have:=aAA (4294967296*r+x) d;rw[axM d]at this;omega
  ·(repeat' (first|exact d_|refine c_ ?_ ?_))<;>first|(simp only[go_sem,wrap_i64 (Om:-9223372036854775808≤(m:Int)-1) (Om:(m:Int)-1≤9223372036854775807)]<;>rfl)|rfl
 ·have:k=0:=Om;subst this;have w:¬((0:Nat):Int)-1≥0:=by decide
  rw[axU]at i;have hS:Z' S=Z' a:=Om;have K:val S=val a/d:=by rw[←i,axM,Nat.mul_add_div l,aAB M,ayT]
  have Z:r=val a%d:=by rw[←i,axM,Nat.mul_add_mod,axW M]
  have γ:awO 0 0++S=S:=by simp
  simp only[go_sem,w,i6,List.nil_append];have hl:=L.length S e Om;have δ:=gP e;have hc:((nl (val S):Nat):Int)≤(Z' S:Nat):=Om;refine sB (o:=q) (s:=1) (k:=Z' a) (rs:=aG S) (v:=.int .i64 (nl (val S):Nat)) ?_ Sq Sq (by rw[cD];omega) ?_
  ·rw[axE (by rw[cD];omega)];exact hl
  ·have U:PV.frz q 1 (aG S) (.osl q 1 0 a.length)=aI S:=by
    have:0+Z' a≤(aG S).length:=by rw[cD];omega
    simp only[PV.frz,PV.pL,PV.dB,if_true,true_and,aF this,axU];rw[axE (by rw[cD];omega)]
   have R:∀n:Int,∀k,PV.frz q 1 (aG S) (.int k n)=.int k n:=λ_ _=>rfl;have er:IntKind.u32.wrap ((r:Nat):Int)=((r:Nat):Int):=by rw[cN,axW Om]
   simp only[go_sem,U,R,hc,or_true,axU,kI e,er];refine bF (vs:=[aI (aK (val S)),.int .u32 ((r:Nat):Int)]) (.inr rfl) .nil Ev a_ ⟨?_,rfl⟩;simp only[cR,←K,←Z]
end Go.PM
namespace Go.Na
theorem GZ{L:List Nat}{i:Nat}(h:i<Z' L)(v:Nat):val (L.set i v)+4294967296^i*L[i]=val L+4294967296^i*v:=by
 have d:i<(L.set i v).length:=by rw[ayM];exact h
 rw[uB L h,uB (L.set i v) d,List.getElem_set_self,List.take_set_of_le (awP _),List.drop_set_of_lt Om,awW,awW];omega
theorem kr{L:List Nat}{i:Nat}(h:∀(j x:Nat),i≤j→L[j]?=some x→x=0)(k v:Nat)(l:k<i):∀(j x:Nat),i≤j→(L.set k v)[j]?=some x→x=0:=λj x e d=>by
 rw[List.getElem?_set_ne Om]at d;exact h j x e d
end Go.Na
namespace Go.PM
open Go Go.Na
def mM(a b:List Nat)(o i:Nat):PF:=((((((PF.nil.set 0 (aI a)).set 1 (aI b)).set 6 (.osl o 1 0 (Z' a+Z' b))).set 32 (aI a)).set 33 (.int .i64 (Z' a:Nat))).set 34 (.int .i64 i))
def Vl(a b:List Nat)(o i x c j:Nat):PF:=((((((((((((PF.nil.set 0 (aI a)).set 1 (aI b)).set 6 (.osl o 1 0 (Z' a+Z' b))).set 32 (aI a)).set 33 (.int .i64 (Z' a:Nat))).set 34 (.int .i64 i)).set 7 (.int .i64 i)).set 8 (.int .u32 x)).set 9 (.int .u64 c)).set 39 (aI b)).set 40 (.int .i64 (Z' b:Nat))).set 41 (.int .i64 j))
structure GC(a b L:List Nat)(i:Nat):Prop where
 len:Z' L=Z' a+Z' b
 lim:Lim L
 v:val L=val (a.take i)*val b
 z:∀j x,i+Z' b≤j→L[j]?=some x→x=0
theorem O8{x y:Nat}(d:x<4294967296)(e:y<4294967296):IntKind.u64.wrap ((x:Int)*(y:Int))=((x*y:Nat):Int):=by
 have:x*y≤4294967295*4294967295:=azY Om Om;rw[show(x:Int)*(y:Int)=((x*y:Nat):Int) by simp];exact bE Om
theorem jC{a b:Nat}(h:a+b≤9223372036854775807):IntKind.i64.wrap ((a:Int)+(b:Int))=((a+b:Nat):Int):=by
 rw[wrap_i64 Om Om];omega
theorem aeN{C:Ctx}(a b:List Nat)(ha:Lim a)(hb:Lim b)(h1:Z' a≤1000)(h2:Z' b≤1000)(L:List Nat)(i:Nat)(hi:i<Z' a)(N:GC a b L i)(q:Nat)(K:cJ)(F:PF)(H:PH)(J:(mM a b q i).le F)(hH:H q=some (.rows 1 (aG L)))
  (hK:∀L' F' H',GC a b L' (i+1)→(mM a b q i).le F'→H' q=some (.rows 1 (aG L'))→K .normal F' H') :
  aD.wp C (.block 1 (.seq (.region m7) (.seq (.region m8) (.seq (.seq (.region m9) (.block 2 (.loop ZC))) (.region ZE))))) K F H:=by
 have f0:=J 0 _ (by unfold mM;simp only[go_sem];rfl);have f1:=J 1 _ (by unfold mM;simp only[go_sem];rfl);have f6:=J 6 _ (by unfold mM;simp only[go_sem];rfl);have S:=J 32 _ (by unfold mM;simp only[go_sem];rfl);have η:=J 33 _ (by unfold mM;simp only[go_sem];rfl);have U:=J 34 _ (by unfold mM;simp only[go_sem];rfl);have hx:=ha _ (awS hi);have β:=cF a hi;generalize δ:a[i]=x at *
 have X:(aG a)[i]?=some [.int .u32 ((x:Nat):Int)]:=by rw[bS a hi,δ]
 simp only[go_sem,m7,m8,m9,S,U,f1,X];refine wp_loop (α:=List Nat × Nat × Nat) (λt=>Vl a b q i x t.2.1 t.2.2) (λt=>PH.nil.set q (.rows 1 (aG t.1)))
  (λt=>t.2.2≤Z' b∧t.1.length=Z' a+Z' b∧Lim t.1∧t.2.1<4294967296∧val t.1+4294967296^(i+t.2.2)*t.2.1=val (a.take i)*val b+4294967296^i*(x*val (b.take t.2.2))∧∀j y,i+Z' b≤j→t.1[j]?=some y→y=0) (λt=>Z' b-t.2.2) (L,0,0)
  ⟨by simp,N.len,N.lim,by simp,by simp[val,N.v],N.z⟩ ?_ (PH.aN a_ hH) ?_
 ·unfold Vl;exact Lq
 rintro⟨M,c,j⟩ ⟨hj,W,e,Z,u,Q⟩;simp only at hj W e Z u Q;simp only[go_sem,ZC,Ga,Vl];by_cases R:j<Z' b
 ·have w:(j:Int)<(Z' b:Nat):=Om;have O:=hb _ (awS R);have γ:=cF b R;generalize ε:b[j]=y at *
  have Y:(aG b)[j]?=some [.int .u32 ((y:Nat):Int)]:=by rw[bS b R,ε]
  have d:i+j<Z' M:=Om;have E:=e _ (awS d);have p:=GZ d;generalize ζ:M[i+j]=z at *
  have B:(aG M)[i+j]?=some [.int .u32 ((z:Nat):Int)]:=by rw[bS M d,ζ]
  have ex:IntKind.u64.wrap ((x:Nat):Int)=((x:Nat):Int):=bE Om;have ey:IntKind.u64.wrap ((y:Nat):Int)=((y:Nat):Int):=bE Om;have ez:IntKind.u64.wrap ((z:Nat):Int)=((z:Nat):Int):=bE Om;have em:=O8 hx O;have ι:x*y≤4294967295*4294967295:=azY Om Om;have e1:IntKind.u64.wrap (((x*y:Nat):Int)+(z:Int))=((x*y+z:Nat):Int):=fR Om;have e2:IntKind.u64.wrap ((c:Int)+((x*y+z:Nat):Int))=((c+(x*y+z):Nat):Int):=fR Om;have A:IntKind.i64.wrap ((i:Int)+(j:Int))=((i+j:Nat):Int):=jC Om;have hlt:((i+j:Nat):Int)<((Z' a+Z' b:Nat):Int):=Om;generalize ht:c+(x*y+z)=t at *
  have θ:t<4294967296*4294967296:=Om;have l:(aG M).set (i+j) [.int .u32 ((t%4294967296:Nat):Int)]=aG (M.set (i+j) (t%4294967296)):=gQ M (i+j) _;simp only[go_sem,w,Gb,Y,Gc,ex,ey,em,A,hlt,B,ez,e1,e2,Gd,cN,l,Ge,zP,Gf,wZz j];refine aP (M.set (i+j) (t%4294967296),t/4294967296,j+1) ⟨by simp only;omega,by simp only[ayM];exact W,e.set _ (ayD _ aV),by simp only;omega,?_,kr Q _ _ Om⟩ (by simp only;omega) ?_ (PH.aN a_ Sq)
  ·simp only;have V:=p (t%4294967296);have h4:4294967296^(i+(j+1))*(t/4294967296)+4294967296^(i+j)*(t%4294967296)=4294967296^(i+j)*t:=by rw[←ayY,ayH,axI,←awW,aAA]
   have h5:4294967296^(i+j)*t=4294967296^(i+j)*c+(4294967296^(i+j)*(x*y)+4294967296^(i+j)*z):=by rw[←ht,awW,awW]
   have h6:4294967296^i*(x*val (b.take (j+1)))=4294967296^i*(x*val (b.take j))+4294967296^(i+j)*(x*y):=by rw[γ,awW,awW,Nat.pow_add];congr 1;rw[Nat.mul_left_comm x,axI]
   omega
  ·exact Lq
 ·have he:j=Z' b:=Om;have w:¬(j:Int)<(Z' b:Nat):=Om;subst he;have d:i+Z' b<Z' M:=Om;have E:M[i+Z' b]=0:=Q _ _ (awP _) (awX d);have p:=GZ d;have B:(aG M)[i+Z' b]?=some [.int .u32 ((0:Nat):Int)]:=by rw[bS M d,E]
  have A:IntKind.i64.wrap ((i:Int)+(Z' b:Int))=((i+Z' b:Nat):Int):=jC Om;have hlt:((i+Z' b:Nat):Int)<((Z' a+Z' b:Nat):Int):=Om;have l:(aG M).set (i+Z' b) [.int .u32 ((c%4294967296:Nat):Int)]=aG (M.set (i+Z' b) c):=by rw[axW Z];exact gQ M _ _
  simp only[go_sem,w,ZE,A,cN,hlt,B,l];refine hK (M.set (i+Z' b) c) _ _ ⟨by rw[ayM];exact W,e.set _ Z,?_,λj y hj O=>?_⟩ (by unfold mM;exact Lq) Sq
  ·have V:=p c;rw[E,Nat.mul_zero,ayT]at V;rw[V,u,ayC,β,axR,axI]
  ·rw[List.getElem?_set_ne Om]at O;exact Q j y Om O
theorem Y0{C:Ctx}(L:sU C)(a b:List Nat)(S:Lim a)(hb:Lim b)(Q:Z' a≤1000)(R:Z' b≤1000)(F:PF)(f0:F 0=some (aI a))(f1:F 1=some (aI b)) :
  aD.wp C (.seq (.region m5) (.seq (.seq (.region m6) (.block 0 (.loop ZD))) (.seq (.region ZF) .ret))) (bD [.tmp 4,.tmp 5] (cV (szV (val a*val b)))) F .nil:=by
 have p:IntKind.i64.wrap ((Z' a:Int)+(Z' b:Int))=((Z' a+Z' b:Nat):Int):=jC Om;have B:((Z' a+Z' b:Nat):Int)*((4:Nat):Int)≤140737488355328:=Om;have E:((Z' a+Z' b:Nat):Int)≤9223372036854775807:=Om;have V:awO (Z' a+Z' b) [PV.int .u32 0]=aG (awO (Z' a+Z' b) 0):=by simp[aG]
 simp only[go_sem,m5,f0,f1,p,B,E,V];refine aW λo Y=>?_;simp only[go_sem,m6,f0];refine wp_loop (α:=List Nat × Nat) (λt=>mM a b o t.2) (λt=>PH.nil.set o (.rows 1 (aG t.1))) (λt=>t.2≤Z' a∧GC a b t.1 t.2) (λt=>Z' a-t.2) (awO (Z' a+Z' b) 0,0)
  ⟨by simp,by simp,xU _,by simp[val,uE],λj x _ J=>by rw[List.getElem?_replicate]at J;split at J<;>simp_all⟩ ?_ (PH.aN a_ Sq) ?_
 ·unfold mM;exact Lq
 rintro⟨M,i⟩ ⟨hi,e⟩;simp only at hi e;simp only[go_sem,ZD,P7,mM];by_cases K:i<Z' a
 ·have l:(i:Int)<(Z' a:Nat):=Om;have u:=aeN (C:=C) a b S hb Q R M i K e o;simp only[go_sem]at u;simp only[go_sem,l];refine u _ _ _ (by unfold mM;exact Lq) Sq ?_;intro L' W H' A d y;have w:=d 34 _ (by unfold mM;simp only[go_sem];rfl);have g0:=d 0 _ (by unfold mM;simp only[go_sem];rfl);have g1:=d 1 _ (by unfold mM;simp only[go_sem];rfl);have X:=d 6 _ (by unfold mM;simp only[go_sem];rfl);have N:=d 32 _ (by unfold mM;simp only[go_sem];rfl);have O:=d 33 _ (by unfold mM;simp only[go_sem];rfl);simp only[go_sem,Gg,w,wZz i];refine aP (L',i+1) ⟨by simp only;omega,A⟩ (by simp only;omega) ?_ (PH.aN a_ y);exact Lq
 ·have U:i=Z' a:=Om;subst U;have l:¬(Z' a:Int)<(Z' a:Nat):=Om;have hV:val M=val a*val b:=by rw[e.v,ayC]
  simp only[go_sem,ZF];have H:=L.sized _ e.lim (by rw[e.len];omega);rw[hV]at H;refine sB (o:=o) (s:=1) (k:=Z' a+Z' b) (rs:=aG M) (v:=szV (val a*val b)) ?_ rfl Sq (by rw[cD,e.len];exact awP _) ?_
  ·rw[axE (by rw[cD,e.len];exact awP _)];exact H
  ·simp only[go_sem,szV];exact bF (.inr rfl) .nil rfl a_ ⟨.refl _,rfl⟩
theorem ajP{C:Ctx}(L:sU C)(a b:List Nat)(l:Lim a)(hb:Lim b)(w:Z' a≤35184372087808)(x:Z' b≤35184372087808) :
  QA.wp C (bD aeM.res (cV (opV (gA (val a) (val b)) (val a*val b)))) (PF.args [aI a,aI b]) .nil:=by
 simp only[go_sem,QA,P4,P5,aeM];refine aB (L.large a l w) rfl ?_;by_cases d:nl (val a)>512
 ·simp only[go_sem,d,mz];rw[show opV (gA (val a) (val b)) (val a*val b)=.tup [aI [],.int .i64 2] by simp[opV,gA,d]];exact lM rfl
 simp only[go_sem,d];refine aB (L.large b hb x) rfl ?_;by_cases i:nl (val b)>512
 ·simp only[go_sem,i,mz];rw[show opV (gA (val a) (val b)) (val a*val b)=.tup [aI [],.int .i64 2] by simp[opV,gA,i]];exact lM rfl
 have e:opV (gA (val a) (val b)) (val a*val b)=szV (val a*val b):=by simp[opV,gA,d,i]
 rw[e];simp only[go_sem,i];refine dH .nil Vb a_ ?_;simp only[go_sem,P6];have B:=gP l;have E:=gP hb;have p:((nl (val a):Nat):Int)≤(Z' a:Nat):=Om;have u:((nl (val b):Nat):Int)≤(Z' b:Nat):=Om;refine eI (pY a) (L.length a l w) rfl a_ ?_;simp only[go_sem,p,or_true,axU,kI l];refine eI (pY b) (L.length b hb x) rfl a_ ?_;simp only[go_sem,u,or_true,axU,kI hb];have y:=bB (val a);have A:=bB (val b);have:=Y0 L (aK (val a)) (aK (val b)) (bG _) (bG _) (by rw[bP];omega) (by rw[bP];omega);rw[y,A]at this;have:=λF f0 f1=>this F f0 f1;simp only[go_sem]at this;exact this _ rfl rfl
open Go Go.Na
theorem jm{A P W Z:List Nat}{i:Nat}(e:Z' P=i)(hi:i<Z' W):(aG (A++(P++W.drop i)++Z))[Z' A+i]?=some [.int .u32 ((W[i]:Nat):Int)]:=by
 have d:Z' A+i<(A++(P++W.drop i)++Z).length:=by simp;omega
 rw[bS _ d];congr 4;rw[List.getElem_append_left (by simp;omega),aAH Om,aAH Om,List.getElem_drop];congr 1;omega
theorem GX{A P W Z:List Nat}{i:Nat}(d:Z' P=i)(hi:i<Z' W)(v:Nat):(aG (A++(P++W.drop i)++Z)).set (Z' A+i) [.int .u32 (v:Int)]=aG (A++((P++[v])++W.drop (i+1))++Z):=by
 rw[gQ];congr 1;rw[List.set_append_left _ _ (by simp;omega),azT _ _ Om,azT _ _ Om,ayS hi];rw[show A.length+i-Z' A-Z' P=0 by omega,aAG];simp
theorem abE{t:Nat}(h:t<18446744073709551616):mE .and .u64 (t:Int) 4294967295=some (.int .u64 ((t%4294967296:Nat):Int)):=by
 show some (PV.int .u64 (IntKind.u64.wrap (((BitVec.ofInt 64 (t:Int) &&& BitVec.ofInt 64 (4294967295:Int)).toNat:Nat):Int)))=_;have e:BitVec.ofInt 64 (4294967295:Int)=BitVec.ofNat 64 4294967295:=by rfl
 rw[e,BitVec.ofInt_natCast,BitVec.toNat_and,BitVec.toNat_ofNat,BitVec.toNat_ofNat,axW (by simpa using h)];have e2:(4294967295:Nat)%2^64=2^32-1:=by decide
 rw[e2,Nat.and_two_pow_sub_one_eq_mod];rw[bE (Nat.lt_of_lt_of_le (ayD _ aV) aV)]
theorem abJ{c f x:Nat}(e:c<4294967296)(d:f≤4294967296)(i:x<4294967296):c+f*x<18446744073709551616∧(c+f*x)/4294967296<4294967296∧f*x≤4294967296*4294967295:=by
 have:f*x≤4294967296*4294967295:=azY d Om;refine⟨by omega,?_,this⟩;omega
def Gp(v:List Nat)(j o i c b:Nat)(f:Nat):PF:=((((((((PF.nil.set 0 (.osl o 1 j (Z' v+1))).set 1 (aI v)).set 2 (.int .u64 f)).set 7 (.int .u64 c)).set 8 (.int .u64 b)).set 13 (aI v)).set 14 (.int .i64 (Z' v:Nat))).set 15 (.int .i64 i))
def LN(n w m:Nat):Nat:=if w<m then w+4294967296^n-m else w-m
theorem Gq{C:Ctx}(A W Z v:List Nat)(f:Nat)(hW:Lim W)(hv:Lim v)(hl:Z' W=Z' v+1)(h1:Z' A+Z' v≤100000)(hf:f≤4294967296)(ν:val v*f≤val W+4294967296^(Z' v+1))(o:Nat) :
  wP.wp C (bD QF.res (λr H'=>r=.bool (decide (val W<val v*f))∧H'=PH.nil.set o (.rows 1 (aG (A++eG (Z' v+1) (LN (Z' v+1) (val W) (val v*f))++Z)))))
   (PF.args [.osl o 1 A.length (Z' v+1),aI v,.int .u64 f]) (PH.nil.set o (.rows 1 (aG (A++W++Z)))):=by
 simp only[go_sem,wP,QG,QH,QI,QF];refine wp_loop (α:=List Nat × Nat × Nat) (λt=>Gp v A.length o t.1.length t.2.1 t.2.2 f) (λt=>PH.nil.set o (.rows 1 (aG (A++(t.1++W.drop t.1.length)++Z))))
  (λt=>t.1.length≤Z' v∧Lim t.1∧t.2.1<4294967296∧t.2.2≤1∧val (W.take t.1.length)+4294967296^t.1.length*t.2.2+4294967296^t.1.length*t.2.1=val t.1+val (v.take t.1.length)*f) (λt=>Z' v-t.1.length) ([],0,0)
  ⟨by simp,by simp[Lim],by simp,by simp,by simp[val]⟩ ?_ (PH.aN a_ (by simp only[go_sem,azB,axU,List.nil_append])) ?_
 ·unfold Gp;exact Lq
 rintro⟨P,c,b⟩ ⟨hP,i,hc,hb,u⟩;simp only at hP i hc hb u;simp only[go_sem,MX,QJ,Gp];by_cases X:Z' P<Z' v
 ·have F:(Z' P:Int)<(Z' v:Nat):=Om;have B:Z' P<Z' W:=Om;have H:(Z' P:Int)<((Z' v+1:Nat):Int):=Om;have hx:=hv _ (awS X);have hw:=hW _ (awS B);have η:=cF v X;have E:=cF W B;have K:=jm (A:=A) (Z:=Z) (P:=P) rfl B;have p:=GX (A:=A) (Z:=Z) (P:=P) rfl B;generalize μ:v[Z' P]=x at *
  generalize κ:W[Z' P]=y at *
  have ι:(aG v)[Z' P]?=some [.int .u32 ((x:Nat):Int)]:=by rw[bS v X,μ]
  obtain⟨k1,k2,k3⟩:=abJ hc hf hx;have ex:IntKind.u64.wrap ((x:Nat):Int)=((x:Nat):Int):=bE Om;have Y:IntKind.u64.wrap ((y:Nat):Int)=((y:Nat):Int):=bE Om;have em:IntKind.u64.wrap ((f:Int)*(x:Int))=((f*x:Nat):Int):=by rw[show(f:Int)*(x:Int)=((f*x:Nat):Int) by simp];exact bE Om
  have l:c+f*x<18446744073709551616:=k1;have ea:IntKind.u64.wrap ((c:Int)+((f*x:Nat):Int))=((c+f*x:Nat):Int):=fR l;have Q:=abE l;have θ:val (v.take (Z' P+1))*f=val (v.take P.length)*f+4294967296^P.length*(f*x):=by rw[η,axR,axI,axM x f]
  generalize f*x=w at *
  have S:(c+w)%4294967296<4294967296:=ayD _ aV;obtain⟨s1,s2,s3,s4⟩:=Hz (a:=y) (bor:=b) (b:=(c+w)%4294967296) hw S hb (IntKind.u64.wrap (IntKind.u64.wrap ((y:Int)-(((c+w)%4294967296:Nat):Int))-(b:Int))) (by rw[gY,gY];omega);generalize hd:RK y b ((c+w)%4294967296)=d at *
  generalize δ:ZY y b ((c+w)%4294967296)=V at *
  have γ:V≤1:=by rw[←δ];unfold ZY;split<;>omega
  have hs:=p d;simp only[go_sem,F,QK,ι,QL,ex,em,ea,QM,H,K,Y,Q,QN,s1,hs,QO,V5,s2,QP,zP,MY,dT (Om:Z' P<9223372036854775807)];refine aP (P++[d],(c+w)/4294967296,V) ⟨by simp;omega,i.app λz hz=>by simp at hz;omega,k2,γ,?_⟩ (by simp;omega) ?_ (PH.aN a_ ?_)
  ·simp only;rw[awQ,awV,kL,E,θ,ayH,axI,axI];have h4:4294967296^P.length*y+4294967296^P.length*(4294967296*V)=4294967296^P.length*d+4294967296^P.length*((c+w)%4294967296)+4294967296^P.length*b:=by rw[←awW,s3,awW,awW]
   have h5:4294967296^P.length*(4294967296*((c+w)/4294967296))+4294967296^P.length*((c+w)%4294967296)=4294967296^P.length*c+4294967296^P.length*w:=by rw[←awW,aAA,awW]
   omega
  ·simp only;rw[awQ,awV];exact Lq
  ·simp only;rw[awQ,awV];simp only[go_sem]
 ·have e:Z' P=Z' v:=Om;have F:¬(Z' P:Int)<(Z' v:Nat):=Om;have B:Z' v<Z' W:=Om;have H:(Z' v:Int)<((Z' v+1:Nat):Int):=Om;have hw:=hW _ (awS B);have E:=cF W B;have K:=jm (A:=A) (Z:=Z) (P:=P) e B;have p:=GX (A:=A) (Z:=Z) (P:=P) e B;have J:val (W.take (Z' v+1))=val W:=by rw[axE Om]
  generalize κ:W[Z' v]=y at *
  have Y:IntKind.u64.wrap ((y:Nat):Int)=((y:Nat):Int):=bE Om;have β:=fQ i;rw[e]at u β;rw[ayC]at u;rw[J]at E;have U:4294967296^(Z' v+1)=4294967296^v.length*4294967296:=ayH _ _;have ο:val W+4294967296^v.length*(b+c)=val P+val v*f+4294967296^v.length*y:=by rw[E,awW];omega
  have ξ:b+c≤y+4294967296:=by
   rcases axA (y+4294967296) (b+c)with h|h
   ·exfalso;have:4294967296^v.length*(y+4294967296+1)≤4294967296^v.length*(b+c):=azA _ h;rw[awW,awW,Nat.mul_one]at this;omega
   ·exact h
  have N:∃d k:Nat,d<4294967296∧k≤1∧y+4294967296*k=d+(b+c)∧IntKind.u32.wrap (IntKind.u64.wrap (IntKind.u64.wrap ((y:Int)-(c:Int))-(b:Int)))=(d:Int)∧((IntKind.u64.wrap (IntKind.u64.wrap ((y:Int)-(c:Int))-(b:Int))/9223372036854775808==1)=decide (k=1)):=by
   rw[WM,gY,gY];by_cases h:y<b+c
   ·refine⟨y+4294967296-(b+c),1,by omega,by omega,by omega,by omega,?_⟩;simp only[decide_true];exact cH Om
   ·refine⟨y-(b+c),0,by omega,by omega,by omega,by omega,?_⟩;exact bO Om
  obtain⟨d,k,hd,hk,hy,w1,w2⟩:=N;have hs:=p d;have hN:val (P++[d])+val v*f=val W+4294967296^(Z' v+1)*k:=by
   have:4294967296^v.length*y+4294967296^v.length*(4294967296*k)=4294967296^v.length*d+4294967296^v.length*(b+c):=by rw[←awW,hy,awW]
   rw[kL,e,U,axI];omega
  have R:Lim (P++[d]):=i.app λz hz=>by simp at hz;omega
  have ε:=fQ R;rw[awQ,awV,e]at ε;have M:decide (k=1)=decide (val W<val v*f):=by
   congr 1;apply propext;constructor
   ·intro h;subst h;omega
   ·intro h;rcases azE k with h0|h0
    ·subst h0;omega
    ·omega
  have O:LN (Z' v+1) (val W) (val v*f)=val (P++[d]):=by
   unfold LN;split
   ·rename_i h;have:k=1:=by simpa[h]using M
    subst this;omega
   ·rename_i h;have:k=0:=by
     have:¬k=1:=by simpa[h]using M
     omega
    subst this;omega
  have hD:eG (Z' v+1) (LN (Z' v+1) (val W) (val v*f))=P++[d]:=by have:=IC R;rw[awQ,awV,e]at this;rw[O,this]
  have ζ:W.drop (Z' v+1)=[]:=aAE Om;simp only[go_sem,F,MZ,e,H,K,Y,NA,w1,hs,NB,V5,w2,M];refine bF (vs:=[.bool (decide (val W<val v*f))]) (.inr rfl) (PH.nil.set o (.rows 1 (aG (A++(P++[d]++W.drop (Z' v+1))++Z)))) rfl (PH.aN a_ Sq) ⟨rfl,?_⟩;rw[hD,ζ,ayO]
end Go.PM
namespace Go.Na
theorem Of{xs ys:List Nat}(i:Lim xs)(l:Lim ys)(d:Z' xs=Z' ys)(e:val xs=val ys):xs=ys:=by
 rw[←IC i,←IC l,d,e]
theorem ahR{k n:Nat}{xs:List Nat}(i:Lim xs)(d:Z' xs=k)(e:val xs=n%4294967296^k):eG k n=xs:=
 Of (oM k n) i (by rw[mY,d]) (by rw[CB,e])
end Go.Na
namespace Go.PM
open Go Go.Na
def Gh(v:List Nat)(j o i c:Nat):PF:=((((((PF.nil.set 0 (.osl o 1 j (Z' v+1))).set 1 (aI v)).set 4 (.int .u64 c)).set 7 (aI v)).set 8 (.int .i64 (Z' v:Nat))).set 9 (.int .i64 i))
theorem Kx{C:Ctx}(A W Z v:List Nat)(hW:Lim W)(hv:Lim v)(hl:Z' W=Z' v+1)(h1:Z' A+Z' v≤100000)(o:Nat) :
  yL.wp C (bD ZH.res (λr H'=>r=.tup []∧H'=PH.nil.set o (.rows 1 (aG (A++eG (Z' v+1) (val W+val v)++Z)))))
   (PF.args [.osl o 1 A.length (Z' v+1),aI v]) (PH.nil.set o (.rows 1 (aG (A++W++Z)))):=by
 simp only[go_sem,yL,VH,VI,ZH];refine wp_loop (α:=List Nat × Nat) (λt=>Gh v A.length o t.1.length t.2) (λt=>PH.nil.set o (.rows 1 (aG (A++(t.1++W.drop t.1.length)++Z))))
  (λt=>t.1.length≤Z' v∧Lim t.1∧t.2≤1∧val (W.take t.1.length)+val (v.take t.1.length)=val t.1+4294967296^t.1.length*t.2) (λt=>Z' v-t.1.length) ([],0)
  ⟨by simp,by simp[Lim],by simp,by simp[val]⟩ ?_ (PH.aN a_ (by simp only[go_sem,azB,axU,List.nil_append])) ?_
 ·unfold Gh;exact Lq
 rintro⟨P,c⟩ ⟨hP,d,hc,l⟩;simp only at hP d hc l;simp only[go_sem,VG,VJ,Gh];by_cases M:Z' P<Z' v
 ·have u:(Z' P:Int)<(Z' v:Nat):=Om;have p:Z' P<Z' W:=Om;have w:(Z' P:Int)<((Z' v+1:Nat):Int):=Om;have hx:=hv _ (awS M);have hw:=hW _ (awS p);have S:=cF v M;have F:=cF W p;have E:=jm (A:=A) (Z:=Z) (P:=P) rfl p;have i:=GX (A:=A) (Z:=Z) (P:=P) rfl p;generalize X:v[Z' P]=x at *
  generalize V:W[Z' P]=y at *
  have U:(aG v)[Z' P]?=some [.int .u32 ((x:Nat):Int)]:=by rw[bS v M,X]
  have ex:IntKind.u64.wrap ((x:Nat):Int)=((x:Nat):Int):=bE Om;have N:IntKind.u64.wrap ((y:Nat):Int)=((y:Nat):Int):=bE Om;have Y:IntKind.u64.wrap ((y:Int)+(x:Int))=((y+x:Nat):Int):=fR Om;have e2:IntKind.u64.wrap ((c:Int)+((y+x:Nat):Int))=((c+(y+x):Nat):Int):=fR Om;have R:=i ((c+(y+x))%4294967296);simp only[go_sem,u,VK,U,VL,w,E,ex,N,Y,e2,VM,cN,R,VN,zP,VO,dT (Om:Z' P<9223372036854775807)];refine aP (P++[(c+(y+x))%4294967296],(c+(y+x))/4294967296) ⟨by simp;omega,d.app λz K=>by simp at K;subst K;exact ayD _ aV,by simp only;omega,?_⟩ (by simp;omega) ?_ (PH.aN a_ ?_)
  ·simp only;rw[awQ,awV,kL,F,S,ayH,axI];have h5:4294967296^P.length*(4294967296*((c+(y+x))/4294967296))+4294967296^P.length*((c+(y+x))%4294967296)=4294967296^P.length*c+(4294967296^P.length*y+4294967296^P.length*x):=by rw[←awW,aAA,awW,awW]
   omega
  ·simp only;rw[awQ,awV];exact Lq
  ·simp only;rw[awQ,awV];simp only[go_sem]
 ·have e:Z' P=Z' v:=Om;have u:¬(Z' P:Int)<(Z' v:Nat):=Om;have p:Z' v<Z' W:=Om;have w:(Z' v:Int)<((Z' v+1:Nat):Int):=Om;have hw:=hW _ (awS p);have F:=cF W p;have E:=jm (A:=A) (Z:=Z) (P:=P) e p;have i:=GX (A:=A) (Z:=Z) (P:=P) e p;have B:val (W.take (Z' v+1))=val W:=by rw[axE Om]
  generalize V:W[Z' v]=y at *
  have O:=fQ d;rw[e]at l O;rw[ayC]at l;rw[B]at F;have ec:IntKind.u32.wrap ((c:Nat):Int)=((c:Nat):Int):=by rw[cN,axW Om]
  have N:IntKind.u32.wrap ((y:Int)+(c:Int))=(((y+c)%4294967296:Nat):Int):=by rw[show(y:Int)+(c:Int)=((y+c:Nat):Int) by omega,cN]
  have R:=i ((y+c)%4294967296);have H:Lim (P++[(y+c)%4294967296]):=d.app λz K=>by simp at K;subst K;exact ayD _ aV
  have J:=fQ H;rw[awQ,awV,e]at J;have hD:eG (Z' v+1) (val W+val v)=P++[(y+c)%4294967296]:=by
   refine ahR H (by rw[awQ,awV,e]) ?_;have:val W+val v=val (P++[(y+c)%4294967296])+4294967296^(Z' v+1)*((y+c)/4294967296):=by rw[kL,e,ayH,axI,ayY,←awW,Nat.mod_add_div,awW];omega
   rw[this,Nat.add_mul_mod_self_left,axW J]
  have Q:W.drop (Z' v+1)=[]:=aAE Om;simp only[go_sem,u,VP,e,w,E,ec,N,R];refine bF (vs:=[]) (.inl rfl) (PH.nil.set o (.rows 1 (aG (A++(P++[(y+c)%4294967296]++W.drop (Z' v+1))++Z)))) rfl (PH.aN a_ Sq) ⟨rfl,?_⟩;rw[hD,Q,ayO]
def Vi(o n:Nat)(len:Nat):PF:=((PF.nil.set 0 (.osl o 1 0 len)).set 3 (.int .i64 n))
theorem Kw{C:Ctx}(xs:List Nat)(w:Lim xs)(A:Z' xs≤35184372087808)(o:Nat):qW.wp C (bD GR.res (λr H'=>r=.int .i64 (nl (val xs):Nat)∧H'=PH.nil.set o (.rows 1 (aG xs)))) (PF.args [.osl o 1 0 xs.length]) (PH.nil.set o (.rows 1 (aG xs))):=by
 simp only[go_sem,qW,KL,KM,GR];refine wp_loop (α:=Nat) (λn=>Vi o n xs.length) (λ_=>PH.nil.set o (.rows 1 (aG xs))) (λn=>n≤Z' xs∧∀j x,n≤j→xs[j]?=some x→x=0) (λn=>n) xs.length ⟨awP _,λj x h e=>by rw[axV h]at e;cases e⟩ ?_ b_ ?_
 ·unfold Vi;exact Lq
 rintro n ⟨u,p⟩;have out:(∀x,0<n→xs[n-1]?=some x→x≠0)→nl (val xs)=n:=λh=>Qp w u p h;simp only[go_sem,KK,KN,Vi];by_cases l:(n:Int)>0
 ·have hp:0<n:=Om;have hi:=bS xs (Om:n-1<Z' xs);have hlt:((n-1:Nat):Int)<(Z' xs:Nat):=Om;simp only[go_sem,l,yG (Om:n≤9223372036854775807) hp,hi,hlt];by_cases i:xs[n-1]=0
  ·simp only[go_sem,cH (Om:((xs[n-1]:Nat):Int)=0),KO,yG (Om:n≤9223372036854775807) hp];refine aP (n-1) ⟨by omega,λj x y d=>?_⟩ Om ?_ b_
   ·rcases axA j n with h|h
    ·have:j=n-1:=Om;subst this;rw[awX Om]at d;cases d;exact i
    ·exact p j x h d
   ·exact Lq
  ·simp only[go_sem,bO (Om:((xs[n-1]:Nat):Int)≠0),vH];refine bF (.inr rfl) _ rfl b_ ⟨?_,rfl⟩;rw[out λx _ d=>by rw[awX Om]at d;cases d;exact i];rfl
 ·simp only[go_sem,l,vH];refine bF (.inr rfl) _ rfl b_ ⟨?_,rfl⟩;rw[out λx h=>by omega];rfl
end Go.PM
namespace Go.Na
structure Kn(V W top next Vr head u2 Wr p:Nat):Prop where
 hV:V=top*(4294967296*p)+next*p+Vr
 hW:W=head*(4294967296*p)+u2*p+Wr
 hVr:Vr<p
 hWr:Wr<p
 htop:2147483648≤top
 avW:next<4294967296
 hu2:u2<4294967296
 hlt:W<V*4294967296
section
variable {V W top next Vr head u2 Wr p:Nat}
theorem Kn.low(K:Kn V W top next Vr head u2 Wr p):next*p+Vr<4294967296*p∧u2*p+Wr<4294967296*p:=by
 have d:(next+1)*p≤4294967296*p:=axS _ K.avW;have e:(u2+1)*p≤4294967296*p:=axS _ K.hu2;rw[axR,Nat.one_mul]at d e;have:=K.hVr;have:=K.hWr;omega
theorem Kn.yf(K:Kn V W top next Vr head u2 Wr p):0<V∧4294967296*p≤V∧0<p:=by
 have:=K.hVr;have h:1*(4294967296*p)≤top*(4294967296*p):=axS _ (by have:=K.htop;omega);have:=K.hV;omega
theorem Kn.amH(K:Kn V W top next Vr head u2 Wr p):W/V<4294967296:=by
 rw[azR K.yf.1,axM];exact K.hlt
theorem Kn.g0(K:Kn V W top next Vr head u2 Wr p):W/V≤head/top:=by
 have d:0<top:=by have:=K.htop;omega
 rw[Nat.le_div_iff_mul_le d];have e:W/V*V≤W:=Nat.div_mul_le_self W V;have i:W/V*(top*(4294967296*p))≤W/V*V:=azA _ (by have:=K.hV;omega);have l:=K.low.2;have u:=K.hW;have h5:(W/V*top)*(4294967296*p)<(head+1)*(4294967296*p):=by rw[axI,axR,Nat.one_mul];omega
 have:=Nat.lt_of_mul_lt_mul_right h5;omega
theorem Kn.g1(K:Kn V W top next Vr head u2 Wr p){g r:Nat}(l:g*top+r=head)(B:W/V≤g)(h:g≥4294967296∨g*next>r*4294967296+u2):1≤g∧W/V≤g-1:=by
 have w:=K.amH;have d:=Nat.div_mul_le_self W V;generalize W/V=Q at *
 rcases h with h|h
 ·omega
 ·have u:Q≠g:=by
   intro e;have x:g*V≤W:=by rw[←e];exact d
   have y:g*V=g*top*(4294967296*p)+g*next*p+g*Vr:=by rw[K.hV,awW,awW,axI,axI]
   have i:(r*4294967296+u2+1)*p≤g*next*p:=axS _ h
   rw[axR,axR,Nat.one_mul,axI r]at i;have A:g*top*(4294967296*p)+r*(4294967296*p)=head*(4294967296*p):=by rw[←axR,l]
   have:=K.hW;have:=K.hWr;omega
  omega
theorem Kn.g2(K:Kn V W top next Vr head u2 Wr p){g r:Nat}(u:g*top+r=head)(w:g≤4294967296)(h:g*next≤r*4294967296+u2):g≤W/V+1:=by
 rcases azE g with e|e
 ·rw[e];exact axB _
 have i:g*V=g*top*(4294967296*p)+g*next*p+g*Vr:=by rw[K.hV,awW,awW,axI,axI]
 have d:g*next*p≤(r*4294967296+u2)*p:=axS _ h
 rw[axR,axI r]at d;have l:g*top*(4294967296*p)+r*(4294967296*p)=head*(4294967296*p):=by rw[←axR,u]
 have h5:g*Vr≤4294967296*Vr:=axS _ w;have x:4294967296*(Vr+1)≤4294967296*p:=azA _ K.hVr;have hV:=K.yf;have hW:=K.hW;have h7:(g-1)*V≤W:=by
  have:g*V=(g-1)*V+V:=by obtain⟨k,rfl⟩:∃k,g=k+1:=⟨g-1,by omega⟩;rw[axR,Nat.one_mul];rfl
  omega
 have:=(Nat.le_div_iff_mul_le hV.1).2 h7;generalize W/V=Q at *
 clear i d l h5 h7;omega
theorem Kn.g3(K:Kn V W top next Vr head u2 Wr p){g r:Nat}(u:g*top+r=head)(w:g≤4294967296)(x:4294967296≤r):g≤W/V+1:=by
 have d:=K.low.1;have hV:=K.yf;have e:g*V=g*top*(4294967296*p)+g*(next*p+Vr):=by rw[K.hV,ayY,awW,axI]
 have i:g*(next*p+Vr)≤4294967296*(4294967296*p):=azY w Om;have l:g*top*(4294967296*p)+r*(4294967296*p)=head*(4294967296*p):=by rw[←axR,u]
 have h5:4294967296*(4294967296*p)≤r*(4294967296*p):=axS _ x;have hW:=K.hW;have h7:g*V≤W:=Om;have:=(Nat.le_div_iff_mul_le hV.1).2 h7;generalize W/V=Q at *
 clear e i l h5 h7;omega
theorem Kn.g4(K:Kn V W top next Vr head u2 Wr p):head/top≤4294967296+1:=by
 have d:=K.low.1;have hV:=K.yf;have hW:=K.hW;have hlt:=K.hlt;have w:=K.htop;have l:head<(top+1)*4294967296:=by
  have e:V<(top+1)*(4294967296*p):=by rw[K.hV,axR,Nat.one_mul];omega
  have u:V*4294967296≤(top+1)*(4294967296*p)*4294967296:=axS _ (Nat.le_of_lt e);have i:head*(4294967296*p)<(top+1)*4294967296*(4294967296*p):=by
   have:(top+1)*(4294967296*p)*4294967296=(top+1)*4294967296*(4294967296*p):=by rw[axI,axM (4294967296*p) 4294967296,←axI]
   omega
  exact Nat.lt_of_mul_lt_mul_right i
 have h5:head/top<4294967296+2:=by rw[azR Om];omega
 omega
end
theorem xO:∀(k n:Nat),eG (k+1) n=eG k n++[n/4294967296^k%4294967296]
 |0,n=>by simp[eG]
 |k+1,n=>by show(n%4294967296)::eG (k+1) (n/4294967296)=(n%4294967296)::eG k (n/4294967296)++[n/4294967296^(k+1)%4294967296];rw[xO k (n/4294967296),Nat.div_div_eq_div_mul,ayH,axM 4294967296];rfl
theorem wV{xs:List Nat}(h:Lim xs):∀{k:Nat},k≤Z' xs→val (xs.drop k)=val xs/4294967296^k:=by
 intro k d;have e:val xs=val (xs.take k)+4294967296^k*val (xs.drop k):=by
  conv=>lhs;rw[←azN k xs,iR,axC,ayZ d]
 have i:=fQ (h.take k);rw[axC,ayZ d]at i;rw[e,Nat.add_mul_div_left _ _ (azJ aV),aAB i,axJ]
theorem VS{R s i d l X:Nat}(u:s<32)(h:R/4294967296^i=d+4294967296*(l+4294967296*X)):(R/2^s)/4294967296^i%4294967296=(4294967296*l+d)/2^s%4294967296:=by
 rw[Nat.div_div_eq_div_mul,axM (2^s),←Nat.div_div_eq_div_mul,h];have hp:4294967296*4294967296=2^s*(2^(32-s)*4294967296):=by rw[←axI,←Nat.pow_add,show s+(32-s)=32 by omega]
 have e:d+4294967296*(l+4294967296*X)=(4294967296*l+d)+2^s*(2^(32-s)*X*4294967296):=by
  have:4294967296*(4294967296*X)=2^s*(2^(32-s)*X*4294967296):=by rw[←axI,hp,axI,axI,axI,axM 4294967296 X]
  rw[awW,this];omega
 rw[e,Nat.add_mul_div_left _ _ (azJ aV),Nat.add_mul_mod_self_right]
end Go.Na
namespace Go.PM
open Go Go.Na
theorem akE{A W Z:List Nat}{i:Nat}(hi:i<Z' W):(aG (A++W++Z))[Z' A+i]?=some [.int .u32 ((W[i]:Nat):Int)]:=by
 have d:Z' A+i<(A++W++Z).length:=by simp;omega
 rw[bS _ d];congr 4;rw[List.getElem_append_left (by simp;omega),aAH Om];congr 1;omega
def dF(u v:PV)(n:Nat)(q:PV)(top next j s:Nat):PF:=((((((((PF.nil.set 8 (.int .u64 s)).set 9 (u)).set 10 (v)).set 11 (.int .i64 n)).set 12 (q)).set 13 (.int .u64 top)).set 14 (.int .u64 next)).set 15 (.int .i64 j))
def dG(u v:PV)(n:Nat)(q:PV)(top next j s g r:Nat):PF:=((((((((((PF.nil.set 8 (.int .u64 s)).set 9 (u)).set 10 (v)).set 11 (.int .i64 n)).set 12 (q)).set 13 (.int .u64 top)).set 14 (.int .u64 next)).set 15 (.int .i64 j)).set 17 (.int .u64 g)).set 18 (.int .u64 r))
theorem wq{C:Ctx}{V y top next Z head e Wr p:Nat}(i:Kn V y top next Z head e Wr p)(htop:top<4294967296)(o l m j s:Nat)(v q:PV)(ζ:j+m+2<l)(η:l≤100000)(U:List Nat)(hU:(aG U)[j+m]?=some [.int .u32 (e:Nat)])(K:cJ)(F:PF)(H:PH)
  (hF:(dG (.osl o 1 0 l) v (m+2) q top next j s (head/top) (head%top)).le F) (hH:H o=some (.rows 1 (aG U)))
  (Y:∀g r x,y/V≤g→g≤y/V+1→g≤4294967296→(dG (.osl o 1 0 l) v (m+2) q top next j s g r).le x→K .normal x H) :
  aD.wp C (.block 4 (.loop xB)) K F H:=by
 have X:0<top:=by have:=i.htop;omega
 have hn:=i.avW;have hu2:=i.hu2;simp only[go_sem];refine wp_loop (α:=Nat × Nat) (λt=>dG (.osl o 1 0 l) v (m+2) q top next j s t.1 t.2) (λ_=>H) (λt=>t.1*top+t.2=head∧y/V≤t.1∧t.1≤4294967296+1∧t.2<4294967296) (λt=>t.1) (head/top,head%top)
  ⟨by simp only;rw[axM];exact aAA head top,i.g0,i.g4,Nat.lt_trans (ayD _ X) htop⟩ hF b_ ?_
 rintro⟨g,r⟩ ⟨J,W,S,hr⟩;simp only at J W S hr;have e1:IntKind.i64.wrap ((j:Int)+((m+2:Nat):Int))=((j+(m+2):Nat):Int):=jC Om;have e2:IntKind.i64.wrap (((j+(m+2):Nat):Int)-2)=((j+m:Nat):Int):=by rw[wrap_i64 Om Om];omega
 have hlt:((j+m:Nat):Int)<(l:Nat):=Om;have O:IntKind.u64.wrap ((e:Nat):Int)=((e:Nat):Int):=bE Om;have B:shift .shl .u64 (r:Int) 32=some (.int .u64 ((2^32*r:Nat):Int)):=LL (s:=32) Om Om;have N:(2:Nat)^32=4294967296:=by decide
 have A:=orI (a:=2^32*r) (b:=e) (n:=2^32*r+e) Om Om (Nat.two_pow_add_eq_or_of_lt Om r).symm Om;rw[N]at B A;have more:(g≥4294967296∨g*next>r*4294967296+e)→∀x:PF,(dG (.osl o 1 0 l) v (m+2) q top next j s g r).le x→aD.wp C (.block 5 (.seq (.region EQ) (.seq (.region ER) (.seq (.region ES) (.cond (.tmp 136) (.exit 4) .skip)))))
   (lO (λt:Nat × Nat=>dG (.osl o 1 0 l) v (m+2) q top next j s t.1 t.2) (λ_=>H) (λt=>t.1*top+t.2=head∧y/V≤t.1∧t.1≤4294967296+1∧t.2<4294967296) (λt=>t.1) g (gU 4 K)) x H:=by
  intro hc x d;obtain⟨g1,g2⟩:=i.g1 J W hc;have f8:=d 8 _ (by unfold dG;simp only[go_sem];rfl);have f9:=d 9 _ (by unfold dG;simp only[go_sem];rfl);have β:=d 10 _ (by unfold dG;simp only[go_sem];rfl);have f11:=d 11 _ (by unfold dG;simp only[go_sem];rfl);have γ:=d 12 _ (by unfold dG;simp only[go_sem];rfl);have f13:=d 13 _ (by unfold dG;simp only[go_sem];rfl);have f14:=d 14 _ (by unfold dG;simp only[go_sem];rfl);have δ:=d 15 _ (by unfold dG;simp only[go_sem];rfl);have Q:=d 17 _ (by unfold dG;simp only[go_sem];rfl);have R:=d 18 _ (by unfold dG;simp only[go_sem];rfl);have w1:IntKind.u64.wrap ((g:Int)-1)=((g-1:Nat):Int):=by rw[wrap_u64 Om Om];omega
  have w2:IntKind.u64.wrap ((r:Int)+(top:Int))=((r+top:Nat):Int):=fR Om;have E:(g-1)*top+(r+top)=head:=by obtain⟨k,rfl⟩:∃k,g=k+1:=⟨g-1,by omega⟩;rw[axR,Nat.one_mul]at J;simp only[Nat.add_sub_cancel];omega
  simp only[go_sem,EQ,ER,ES,Q,R,f13,w1,w2];by_cases c:r+top≥4294967296
  ·have M:((r+top:Nat):Int)≥4294967296:=Om;simp only[go_sem,M];refine Y (g-1) (r+top) _ g2 (i.g3 E Om c) Om ?_;unfold dG;exact Lq
  ·have M:¬((r+top:Nat):Int)≥4294967296:=Om;simp only[go_sem,M];refine aP (g-1,r+top) ⟨E,g2,by simp only;omega,by simp only;omega⟩ (by simp only;omega) ?_ b_;unfold dG;exact Lq
 simp only[go_sem,xB,UX,dG];by_cases c1:g≥4294967296
 ·have u:(g:Int)≥4294967296:=Om;simp only[go_sem,u];have:=more (.inl c1);simp only[go_sem,dG]at this;refine this _ ?_;exact Lq
 ·have u:¬(g:Int)≥4294967296:=Om;have ε:g*next≤4294967295*4294967295:=azY Om Om
  have em:IntKind.u64.wrap ((g:Int)*(next:Int))=((g*next:Nat):Int):=by rw[show(g:Int)*(next:Int)=((g*next:Nat):Int) by simp];exact bE Om
  simp only[go_sem,u,em,B,e1,e2,hlt,hH,hU,O,A];by_cases c2:g*next>r*4294967296+e
  ·have w:((g*next:Nat):Int)>((4294967296*r+e:Nat):Int):=Om;simp only[go_sem,w];have:=more (.inr c2);simp only[go_sem,dG]at this;refine this _ ?_;exact Lq
  ·have w:¬((g*next:Nat):Int)>((4294967296*r+e:Nat):Int):=Om;simp only[go_sem,w];refine Y g r _ W (i.g2 J Om Om) Om ?_;unfold dG;exact Lq
end Go.PM
namespace Go.Na
theorem apH{W v:List Nat}{m:Nat}(hW:Lim W)(d:Lim v)(u:Z' v=m+2)(p:Z' W=m+3)(w:2147483648≤v[m+1])(hlt:val W<val v*4294967296) :
  Kn (val v) (val W) (v[m+1]) (v[m]) (val (v.take m)) (W[m+2]*4294967296+W[m+1]) (W[m]) (val (W.take m)) (4294967296^m):=by
 have l:val v=val (v.take m)+4294967296^m*(v[m]+4294967296*v[m+1]):=by
  rw[uB v (Om:m<Z' v)];congr 4;have:v.drop (m+1)=[v[m+1]]:=by rw[ayS Om,aAE Om]
  rw[this];simp[val]
 have e2:val W=val (W.take m)+4294967296^m*(W[m]+4294967296*(W[m+1]+4294967296*W[m+2])):=by
  rw[uB W (Om:m<Z' W)];congr 4;have:W.drop (m+1)=[W[m+1],W[m+2]]:=by rw[ayS Om,ayS Om,aAE Om]
  rw[this];simp[val]
 have e:=fQ (d.take m);have i:=fQ (hW.take m);rw[axC,ayZ Om]at e i;refine⟨?_,?_,e,i,w,d _ (awS _),hW _ (awS _),hlt⟩
 ·rw[l,awW,axM (4294967296^m) (v[m]),←axI (4294967296^m),axM (4294967296^m*4294967296),axM (4294967296^m) 4294967296];omega
 ·rw[e2,awW,axM (4294967296^m) (W[m]),←axI (4294967296^m),axM (4294967296^m*4294967296),axM (4294967296^m) 4294967296,axM (W[m+2]),Nat.add_comm (4294967296*W[m+2])];omega
end Go.Na
namespace Go.PM
open Go Go.Na
structure xd(C:Ctx):Prop where
 subtract:∀(A W Z v:List Nat)(f o:Nat),Lim W→Lim v→Z' W=Z' v+1→Z' A+Z' v≤100000→f≤4294967296→val v*f≤val W+4294967296^(Z' v+1) →
  aJ C 142 [.osl o 1 A.length (Z' v+1),aI v,.int .u64 f] (PH.nil.set o (.rows 1 (aG (A++W++Z)))) (λr H'=>r=.bool (decide (val W<val v*f))∧H'=PH.nil.set o (.rows 1 (aG (A++eG (Z' v+1) (LN (Z' v+1) (val W) (val v*f))++Z))))
 restore:∀(A W Z v:List Nat)(o:Nat),Lim W→Lim v→Z' W=Z' v+1→Z' A+Z' v≤100000 →
  aJ C 139 [.osl o 1 A.length (Z' v+1),aI v] (PH.nil.set o (.rows 1 (aG (A++W++Z)))) (λr H'=>r=.tup []∧H'=PH.nil.set o (.rows 1 (aG (A++eG (Z' v+1) (val W+val v)++Z))))
theorem Ab(k n:Nat):eG k (n%4294967296^k)=eG k n:=
 Of (oM _ _) (oM _ _) (by rw[mY,mY]) (by rw[CB,CB,Nat.mod_mod])
theorem wn{C:Ctx}(D:xd C)(A W Z v Q:List Nat)(m o O N s:Nat)(Y:O≠o)(hW:Lim W)(hv:Lim v)(ν:Z' v=m+2)(μ:Z' W=m+3)(ht:2147483648≤v[m+1])(hlt:val W<val v*4294967296)
  (n':N=Z' A+(m+3)+Z' Z) (i':N≤10000) (Ψ:Z' A<Z' Q) (K:cJ) (F:PF) (H:PH) (R:(dF (.osl o 1 0 N) (aI v) (m+2) (.osl O 1 0 Q.length) (v[m+1]) (v[m]) A.length s).le F)
  (hH:H o=some (.rows 1 (aG (A++W++Z)))) (θ:H O=some (.rows 1 (aG Q)))
  (hK:∀F' H',(dF (.osl o 1 0 N) (aI v) (m+2) (.osl O 1 0 Q.length) (v[m+1]) (v[m]) A.length s).le F'→H' o=some (.rows 1 (aG (A++eG (m+3) (val W%val v)++Z)))→H' O=some (.rows 1 (aG (Q.set A.length (val W/val v))))→K .normal F' H') :
  aD.wp C (.block 3 (.seq (.draw EO) (.seq (.draw EP) (.seq (.block 4 (.loop xB)) (.seq (.seq (.region ET) (.cond (.tmp 146) (.seq (.region EU) (.region EV)) .skip)) (.region xC)))))) K F H:=by
 have Kk:=apH hW hv ν μ ht hlt;have p:∀i (h:i<Z' W),(aG (A++W++Z))[Z' A+i]?=some [.int .u32 ((W[i]:Nat):Int)]:=λi h=>akE h;have g0:=p (m+2) Om;have g1:=p (m+1) Om;have g2:=p m Om;have hq:=Kk.amH;have htop:v[m+1]<4294967296:=hv _ (awS _);have r':=hW _ (awS (Om:m+2<Z' W));have s':=hW _ (awS (Om:m+1<Z' W));have X:=Kk.yf.1;generalize q':v[m+1]=top at *
 generalize o':v[m]=next at *
 generalize t':W[m+2]=y at *
 generalize u':W[m+1]=u1 at *
 generalize v':W[m]=u2 at *
 have f8:=R 8 _ (by unfold dF;simp only[go_sem];rfl);have f9:=R 9 _ (by unfold dF;simp only[go_sem];rfl);have Γ:=R 10 _ (by unfold dF;simp only[go_sem];rfl);have f11:=R 11 _ (by unfold dF;simp only[go_sem];rfl);have Δ:=R 12 _ (by unfold dF;simp only[go_sem];rfl);have f13:=R 13 _ (by unfold dF;simp only[go_sem];rfl);have f14:=R 14 _ (by unfold dF;simp only[go_sem];rfl);have δ:=R 15 _ (by unfold dF;simp only[go_sem];rfl);have e1:IntKind.i64.wrap ((Z' A:Int)+((m+2:Nat):Int))=((Z' A+(m+2):Nat):Int):=jC Om;have e2:IntKind.i64.wrap (((Z' A+(m+2):Nat):Int)-1)=((Z' A+(m+1):Nat):Int):=by rw[wrap_i64 Om Om];omega
 have c0:((Z' A+(m+2):Nat):Int)<(N:Nat):=Om;have c1:((Z' A+(m+1):Nat):Int)<(N:Nat):=Om;have ψ:IntKind.u64.wrap ((y:Nat):Int)=((y:Nat):Int):=bE Om;have ω:IntKind.u64.wrap ((u1:Nat):Int)=((u1:Nat):Int):=bE Om;have γ:shift .shl .u64 (y:Int) 32=some (.int .u64 ((2^32*y:Nat):Int)):=LL (s:=32) Om Om;have χ:(2:Nat)^32=4294967296:=by decide
 have U:=orI (a:=2^32*y) (b:=u1) (n:=2^32*y+u1) Om Om (Nat.two_pow_add_eq_or_of_lt Om y).symm Om;rw[χ]at γ U;have Λ:4294967296*y+u1=y*4294967296+u1:=Om;rw[Λ]at U;simp only[go_sem];refine dH H gX b_ ?_;simp only[go_sem,EO,f9,δ,f11,e1,e2,c0,c1,hH,g0,g1,ψ,ω,γ,U];refine dH H gX b_ ?_;have p':0<top:=Om;have c':¬((top:Nat):Int)=0:=Om;generalize m':y*4294967296+u1=head at *
 have α:IntKind.u64.wrap (Int.tdiv ((head:Nat):Int) ((top:Nat):Int))=((head/top:Nat):Int):=by rw[show Int.tdiv ((head:Nat):Int) ((top:Nat):Int)=((head/top:Nat):Int)from rfl];exact bE (by have:=Kk.g4;omega)
 have β:Int.tmod ((head:Nat):Int) ((top:Nat):Int)=((head%top:Nat):Int):=rfl;simp only[go_sem,EP,f13,c',α,β];have l:=wq (C:=C) Kk htop o N m A.length s (aI v) (.osl O 1 0 Q.length) Om Om (A++W++Z) g2;simp only[go_sem]at l;refine l _ _ H ?_ hH ?_
 ·unfold dG;refine c_ (c_ (c_ (c_ (c_ (c_ (c_ (c_ (c_ (c_ d_ ?_) ?_) ?_) ?_) ?_) ?_) ?_) ?_) ?_) ?_<;>simp only[go_sem,f8,f9,Γ,f11,Δ,f13,f14,δ]
 clear l;intro g r F' q1 q2 q3 d;have h8:=d 8 _ (by unfold dG;simp only[go_sem];rfl);have h9:=d 9 _ (by unfold dG;simp only[go_sem];rfl);have B:=d 10 _ (by unfold dG;simp only[go_sem];rfl);have E:=d 11 _ (by unfold dG;simp only[go_sem];rfl);have ε:=d 12 _ (by unfold dG;simp only[go_sem];rfl);have ζ:=d 13 _ (by unfold dG;simp only[go_sem];rfl);have η:=d 14 _ (by unfold dG;simp only[go_sem];rfl);have J:=d 15 _ (by unfold dG;simp only[go_sem];rfl);have V:=d 17 _ (by unfold dG;simp only[go_sem];rfl);have e3:IntKind.i64.wrap (((Z' A+(m+2):Nat):Int)+1)=((Z' A+(m+3):Nat):Int):=by rw[wrap_i64 Om Om];omega
 have c3:(Z' A:Int)≤((Z' A+(m+3):Nat):Int):=Om;have c4:((Z' A+(m+3):Nat):Int)≤(N:Nat):=Om;have e4:Z' A+(m+3)-Z' A=Z' v+1:=Om;have w:Z' v+1=m+3:=Om;have l':val v*(val W/val v)+val W%val v=val W:=aAA _ _;have ι:=fQ hW;rw[μ]at ι;have φ:val W%val v<val v:=ayD _ X;have σ:=fQ hv;rw[ν]at σ;have ο:4294967296^(m+3)=4294967296^(m+2)*4294967296:=ayH _ _;generalize j':val W/val v=x at *
 generalize k':val W%val v=rd at *
 have S:∀(u:PF)(H2:PH),u 8=some (.int .u64 s)→u 9=some (.osl o 1 0 N)→u 10=some (aI v)→u 11=some (.int .i64 ((m+2:Nat):Int))→u 12=some (.osl O 1 0 Q.length)→u 13=some (.int .u64 top)→u 14=some (.int .u64 next)→u 15=some (.int .i64 A.length)→u 17=some (.int .u64 x) →
   H2 o=some (.rows 1 (aG (A++eG (m+3) rd++Z)))→H2 O=some (.rows 1 (aG Q))→aD.wp C (.region xC) (gU 3 K) u H2:=by
  intro u H2 k8 k9 d' e' τ f' g' υ h' kH kQ;have b':(aG Q)[Z' A]?=some [.int .u32 ((Q[Z' A]:Nat):Int)]:=bS Q Ψ;have a':(Z' A:Int)<(Z' Q:Nat):=Om;have eq:IntKind.u32.wrap ((x:Nat):Int)=((x:Nat):Int):=by rw[cN,axW hq]
  have ρ:=gQ Q A.length x;have ξ:¬o=O:=λh=>Y h.symm;simp only[go_sem,xC,τ,υ,h',eq,a',kQ,b',ρ];refine hK _ _ ?_ (by simp only[go_sem,ξ,kH]) Sq;unfold dF;refine c_ (c_ (c_ (c_ (c_ (c_ (c_ (c_ d_ ?_) ?_) ?_) ?_) ?_) ?_) ?_) ?_<;>simp only[go_sem,k8,k9,d',e',τ,f',g',υ]
 have Ω:(PH.nil.set o (.rows 1 (aG (A++W++Z)))).le H:=PH.aN a_ hH;have κ:val v*g≤val W+4294967296^(Z' v+1):=by have:val v*g≤val v*(x+1):=azA _ q2;rw[awW,Nat.mul_one]at this;rw[w,ο];omega
 simp only[go_sem,ET,h9,J,E,e1,e3,c3,c4,e4,B,V];refine oK (D.subtract A W Z v g o hW hv Om Om q3 κ) rfl Ω ?_;rintro rr H' ⟨rfl,rfl⟩ -;rw[PH.vK];by_cases Φ:g=x
 ·subst Φ;have e:¬val W<val v*g:=Om;have hN:LN (Z' v+1) (val W) (val v*g)=rd:=by unfold LN;rw[aC e];omega
  rw[hN,w];simp only[go_sem,e];have:=S;simp only[go_sem]at this;refine this _ _ ?_ ?_ ?_ ?_ ?_ ?_ ?_ ?_ ?_ ?_ ?_<;>simp only[go_sem,h8,h9,B,E,ε,ζ,η,J,V,Y,θ]
 ·have Ξ:g=x+1:=Om;subst Ξ;rw[awW,Nat.mul_one];have e:val W<val v*x+val v:=Om;have hN:LN (Z' v+1) (val W) (val v*x+val v)=rd+4294967296^(m+3)-val v:=by unfold LN;rw[aF e,w];omega
  rw[hN];have w1:IntKind.u64.wrap (((x+1:Nat):Int)-1)=((x:Nat):Int):=by rw[wrap_u64 Om Om];omega
  simp only[go_sem,e,EU,V,w1,EV,h9,J,E,e1,e3,c3,c4,e4,B];have Θ:val (eG (Z' v+1) (rd+4294967296^(m+3)-val v))=rd+4294967296^(m+3)-val v:=qC (by rw[w];omega);refine oK (D.restore A (eG (Z' v+1) (rd+4294967296^(m+3)-val v)) Z v o (oM _ _) hv (mY _ _) Om) rfl (PH.aN a_ Sq) ?_;rintro rr H' ⟨rfl,rfl⟩ -;rw[PH.vK,PH.set_set,Θ];have M:eG (Z' v+1) (rd+4294967296^(m+3)-val v+val v)=eG (m+3) rd:=by rw[w,←Ab (m+3) (rd+4294967296^(m+3)-val v+val v)];rw[show rd+4294967296^(m+3)-val v+val v=rd+4294967296^(m+3) by omega,Nat.add_mod_right,Ab]
  rw[M];simp only[go_sem];have:=S;simp only[go_sem]at this;refine this _ _ ?_ ?_ ?_ ?_ ?_ ?_ ?_ ?_ ?_ ?_ ?_<;>simp only[go_sem,h8,h9,B,E,ε,ζ,η,J,Y,θ]
open Go
section
variable {C:Ctx} {K:cJ} {F:PF} {H Hs:PH} {S:Spec}
theorem Ma{name:Nat}{vs:List PV}{R:PV→PH→Prop}{args:List aO}{st:Bool}{d:Option Nat}{K:PF→PH→Prop}(u:S name vs=some ([],λ_=>R))(h:aJ C name vs .nil R)(e:aO.evs F args=some vs)
  (i:∀G:PH,∃r H',R r H'∧nF G .nil H') (w:∀r H',R r H'→nF H .nil H'→Hs.le (H.over .nil H')∧K (F.put d r) (H.over .nil H')):dOp C Hs S st (.call name args) d K F H:=by
 refine⟨vs,[],λ_=>R,e,u,λo y=>by simp at y,by rw[KU];exact h,λG=>?_,λr H' A e=>?_⟩
 ·obtain⟨r,H',l,p⟩:=i G;exact⟨r,H',l,λo x B E=>p o x B (by simp[PH.nil])⟩
 ·rw[KU]at e ⊢;exact w r H' A e
theorem PH.over_self(d:PH)(h:d.le H):H.over d d=H:=PH.ext λq=>by
 rw[jM];cases e:d q with
 |none=>rfl
 |some x=>exact(h q x e).symm
theorem ZS{o:Nat}{x:aR}(h:H o=some x):H.only [o]=PH.nil.set o x:=PH.ext λq=>by
 rw[tU,aU];by_cases e:q=o
 ·subst e;simp[h]
 ·simp[e,SX]
theorem WW{name o:Nat}{x:aR}{vs:List PV}{v:PV}{R:PH→PV→PH→Prop}{args:List aO}{st:Bool}{d:Option Nat}{K:PF→PH→Prop}(E:S name vs=some ([o],R))(A:H o=some x)
  (h:aJ C name vs (PH.nil.set o x) (λr H'=>r=v∧H'=PH.nil.set o x)) (i:R (PH.nil.set o x) v (PH.nil.set o x)) (p:∀r H',R (PH.nil.set o x) r H'→r=v∧H'=PH.nil.set o x) (J:aO.evs F args=some vs) (u:Hs.le H) (M:K (F.put d v) H) :
  dOp C Hs S st (.call name args) d K F H:=by
 have e:=ZS A;refine⟨vs,[o],_,J,E,λq B=>?_,?_,λG=>⟨v,_,by rw[e];exact i,λq y N w=>?_⟩,λr H' l _=>?_⟩
 ·simp at B;subst B;exact⟨x,A⟩
 ·rw[e];exact h.post λr H' l=>⟨r,.refl _,by rw[l.1,l.2];exact i⟩
 ·rw[e]at w;rw[N]at w;cases w
 ·rw[e]at l;obtain⟨rfl,rfl⟩:=p r H' l;rw[e,PH.over_self _ (by rw[←e];exact TL H [o])];exact⟨u,M⟩
theorem Lj{c:aD}{α:Type}(d:α→PF)(Hs:α→PH)(e:α→Prop)(m:α→Nat)(i:α)(o:Nat){s:Nat}{rs:List (List PV)}(w:H o=some (.rows s rs))(l:e i)(p:(d i).le (F.frz o s rs))(u:(Hs i).le (H.frz o s rs))
  (hb:∀a,e a→c.wp C (lO d Hs e m (m a) K) (d a) (Hs a)):aD.wp C (.loop c) K F H:=
 ⟨α,d,Hs,e,m,i,_,_,.step o w (.refl _ _),l,p,u,hb⟩
@[go_sem] theorem AI(o s:Nat)(rs:List (List PV))(q:Nat):(H.frz o s rs) q=if q=o then none else(H q).map (aR.frz o s rs):=(rfl)
theorem Zu{t u o1 o2 s1 s2 k1 k2:Nat}{rs1 rs2:List (List PV)}{R:PV→PH→Prop}{e:kZ}(N:e=.normal∨e=.ret)(i:o1≠o2)(E:F t=some (.osl o1 s1 0 k1))(J:F u=some (.osl o2 s2 0 k2))(l:H o1=some (.rows s1 rs1))(p:H o2=some (.rows s2 rs2))
  (O:k1≤Z' rs1) (Q:k2≤Z' rs2) (x:rs2.map (λr=>r.map (PV.dB o1 s1 rs1))=rs2) (U:(rs1.take k1)=rs1.take k1) (M:R (.tup [.sl s1 (rs1.take k1),.sl s2 (rs2.take k2)]) .nil):bD [.tmp t,.tmp u] R e F H:=by
 have y:∃vs,dJ.evs F H [.tmp t,.tmp u]=some vs∧∃A B H2,iV (PF.nil.set 0 (cR vs)) H A B∧H2.le B∧∃w,A 0=some w∧R w H2:=by
  have d:o2≠o1:=λh=>i h.symm;have e2:(H.frz o1 s1 rs1) o2=some (.rows s2 rs2):=by rw[AI,aC d,p];simp only[axF,aR.frz,x]
  refine⟨[.osl o1 s1 0 k1,.osl o2 s2 0 k2],by rw[mA,oX,E,mA,oX,J,qA],_,_,.nil,.step o1 l (.step o2 e2 (.refl _ _)),a_,_,?_,M⟩;have a1:0+k1≤Z' rs1:=Om;have a2:0+k2≤Z' rs2:=Om;simp only[PF.frz,mG,if_true,cR,axF,PV.frz,PV.pL,PV.dB,axL,ayI,true_and,aF a1,aF a2,axU,aC d]
 rcases N with rfl|rfl<;>exact y
end
end Go.PM
namespace Go.Na
structure qM(U0 V n lu lq:Nat)(k:Nat)(U Q:List Nat):Prop where
 lu':Z' U=lu
 lq':Z' Q=lq
 limU:Lim U
 limQ:Lim Q
 v:val U+val Q*V=U0
 r:val (U.drop k)<V
 z:∀i x,i<k→Q[i]?=some x→x=0
theorem Ac{K V n J w j:Nat}{U Q:List Nat}(h:qM K V n J w (j+1) U Q)(hV:V<4294967296^n)(hj:j<w)(hl:J=w+n) :
  val ((U.drop j).take (n+1))<V*4294967296∧qM K V n J w j (U.take j++eG (n+1) (val ((U.drop j).take (n+1))%V)++U.drop (j+(n+1))) (Q.set j (val ((U.drop j).take (n+1))/V)):=by
 have S:=h.lu';have F:=h.lq';have d:0<V:=by have:=h.r;omega
 have l:j<Z' U:=Om;have X:val (U.drop j)=U[j]+4294967296*val (U.drop (j+1)):=by rw[ayS l];rfl
 have O:=h.limU _ (awS l);have hlt:val (U.drop j)<V*4294967296:=by have:=h.r;omega
 have E:((U.drop j).take (n+1)).length=n+1:=by rw[axC,ayL];omega
 have e2:val (U.drop j)=val ((U.drop j).take (n+1))+4294967296^(n+1)*val (U.drop (j+(n+1))):=by
  conv=>lhs;rw[←azN (n+1) (U.drop j),iR,E,List.drop_drop]
 have M:4294967296^(n+1)=4294967296^n*4294967296:=ayH _ _;have R:V*4294967296≤4294967296^n*4294967296:=axS _ (Nat.le_of_lt hV);have A:val (U.drop (j+(n+1)))=0:=by
  rcases azE (val (U.drop (j+(n+1))))with h0|h0
  ·exact h0
  ·have:=azA (4294967296^(n+1)) h0;omega
 rw[A,Nat.mul_zero,ayT]at e2;generalize hW:val ((U.drop j).take (n+1))=W at *
 have Y:val U=val (U.take j)+4294967296^j*W:=by
  conv=>lhs;rw[←azN j U,iR,axC,ayZ Om,e2]
 have u:W%V<V:=ayD _ d;have B:V*(W/V)+W%V=W:=aAA _ _;have H:W/V<4294967296:=by rw[azR d,axM];omega
 have hD:val (eG (n+1) (W%V))=W%V:=qC Om;have y:Q[j]=0:=h.z j _ Om (awX Om);have e:=GZ (Om:j<Z' Q) (W/V);rw[y,Nat.mul_zero,ayT]at e;have p:(U.take j).length=j:=by rw[axC];omega
 refine⟨by omega,?_,?_,?_,?_,?_,?_,?_⟩
 ·simp only[awQ,mY,ayL,axC];omega
 ·rw[ayM];exact F
 ·exact((h.limU.take j).app (oM _ _)).app (h.limU.drop _)
 ·exact h.limQ.set _ H
 ·rw[axX,iR,iR,p,hD,mY,A,Nat.mul_zero,ayT,e];have:=h.v;have h5:(val Q+4294967296^j*(W/V))*V=val Q*V+4294967296^j*(V*(W/V)):=by rw[axR,axI,axM (W/V) V]
  have Z:4294967296^j*W=4294967296^j*(V*(W/V))+4294967296^j*(W%V):=by rw[←awW,B]
  omega
 ·rw[axX,List.drop_append_of_le_length Om,aAE Om,List.nil_append,iR,hD,A,Nat.mul_zero,ayT];exact u
 ·intro i x hi N;rw[List.getElem?_set_ne Om]at N;exact h.z i x Om N
end Go.Na
namespace Go.PM
open Go Go.Na
def dI(u v:PV)(n:Nat)(q:PV)(top next s:Nat)(j:Int):PF:=((((((((PF.nil.set 8 (.int .u64 s)).set 9 (u)).set 10 (v)).set 11 (.int .i64 n)).set 12 (q)).set 13 (.int .u64 top)).set 14 (.int .u64 next)).set 15 (.int .i64 j))
theorem tQ(o s:Nat)(rs:List (List PV))(L:List Nat):(aG L).map (λr=>r.map (PV.dB o s rs))=aG L:=by
 unfold aG;rw[azL];rfl
theorem Fw{C:Ctx}(D:xd C)(V m u i o o2 p s:Nat)(v d:List Nat)(h2:o2≠o)(h3:p≠o)(h4:p≠o2)(hv:Lim v)(N:Z' v=m+2)(ω:(aG d).take (m+2)=aG v)(Γ:m+2≤Z' d)(ht:2147483648≤v[m+1])
  (ψ:u=i+(m+2)) (O:u≤10000) (U:List Nat) (y:qM V (val v) (m+2) u i i U (awO i 0)) (K:cJ) (F:PF) (H:PH)
  (x:(dI (.osl o 1 0 u) (.osl o2 1 0 (m+2)) (m+2) (.osl p 1 0 i) (v[m+1]) (v[m]) s ((i:Int)-1)).le F) (hH:H o=some (.rows 1 (aG U))) (κ:H o2=some (.rows 1 (aG d))) (ι:H p=some (.rows 1 (aG (awO i 0))))
  (hK:∀U' Q' S,qM V (val v) (m+2) u i 0 U' Q'→(dI (.osl o 1 0 u) (aI v) (m+2) (.osl p 1 0 i) (v[m+1]) (v[m]) s (-1)).le S→K .normal S ((PH.nil.set o (.rows 1 (aG U'))).set p (.rows 1 (aG Q')))) :
  aD.wp C (.block 2 (.loop EM)) K F H:=by
 have f8:=x 8 _ (by unfold dI;simp only[go_sem];rfl);have f9:=x 9 _ (by unfold dI;simp only[go_sem];rfl);have X:=x 10 _ (by unfold dI;simp only[go_sem];rfl);have f11:=x 11 _ (by unfold dI;simp only[go_sem];rfl);have Y:=x 12 _ (by unfold dI;simp only[go_sem];rfl);have f13:=x 13 _ (by unfold dI;simp only[go_sem];rfl);have f14:=x 14 _ (by unfold dI;simp only[go_sem];rfl);have Z:=x 15 _ (by unfold dI;simp only[go_sem];rfl);have A:¬o=o2:=λh=>h2 h.symm;have B:¬p=o2:=h4;have R:¬o=p:=λh=>h3 h.symm;have σ:∀(k:IntKind)(n:Int),PV.frz o2 1 (aG d) (.int k n)=.int k n:=λ_ _=>rfl;have υ:∀l,PV.frz o2 1 (aG d) (.osl o 1 0 l)=.osl o 1 0 l:=λl=>by simp only[PV.frz,PV.pL,PV.dB,aC A]
 have τ:∀l,PV.frz o2 1 (aG d) (.osl p 1 0 l)=.osl p 1 0 l:=λl=>by simp only[PV.frz,PV.pL,PV.dB,aC B]
 have φ:PV.frz o2 1 (aG d) (.osl o2 1 0 (m+2))=aI v:=by
  have:0+(m+2)≤(aG d).length:=by rw[cD];omega
  simp only[PV.frz,PV.pL,PV.dB,if_true,true_and,aF this,axU,ω]
 simp only[go_sem];refine Lj (α:=Nat × List Nat × List Nat) (λt=>dI (.osl o 1 0 u) (aI v) (m+2) (.osl p 1 0 i) (v[m+1]) (v[m]) s ((t.1:Int)-1)) (λt=>(PH.nil.set o (.rows 1 (aG t.2.1))).set p (.rows 1 (aG t.2.2)))
  (λt=>t.1≤i∧qM V (val v) (m+2) u i t.1 t.2.1 t.2.2) (λt=>t.1) (i,U,awO i 0) o2 κ ⟨awP _,y⟩ ?_ ?_ ?_
 ·unfold dI;refine c_ (c_ (c_ (c_ (c_ (c_ (c_ (c_ d_ ?_) ?_) ?_) ?_) ?_) ?_) ?_) ?_<;>simp only[go_sem,f8,f9,X,f11,Y,f13,f14,Z,σ,υ,τ,φ]
 ·refine PH.aN (PH.aN a_ ?_) ?_
  ·simp only[go_sem,A,hH,aR.frz,tQ]
  ·simp only[go_sem,B,ι,aR.frz,tQ]
 rintro⟨k,U,Q⟩ ⟨hk,y⟩;simp only at hk y;simp only[go_sem,EM,UW,dI];by_cases h0:0<k
 ·obtain⟨j,rfl⟩:∃j,k=j+1:=⟨k-1,by omega⟩;have hz:((j+1:Nat):Int)-1=(j:Int):=Om;have χ:(j:Int)≥0:=Om;have M:val v<4294967296^(m+2):=by have:=fQ hv;rw[N]at this;exact this
  obtain⟨hlt,μ⟩:=Ac y M Om ψ;have ξ:=y.lu';have ν:=y.lq';have hA:(U.take j).length=j:=by rw[axC];omega
  have ο:((U.drop j).take (m+3)).length=m+3:=by rw[axC,ayL];omega
  have w:U.take j++(U.drop j).take (m+3)++U.drop (j+(m+3))=U:=by rw[axX,←List.drop_drop,azN,azN]
  have ρ:(U.drop (j+(m+3))).length=u-(j+(m+3)):=by rw[ayL,ξ]
  have E:=wn (C:=C) D (U.take j) ((U.drop j).take (m+3)) (U.drop (j+(m+3))) v Q m o p u s h3 ((y.limU.drop _).take _) hv N ο ht hlt (by rw[hA,ρ];omega) O (by rw[hA];omega);rw[hA,w,ν]at E;have W:IntKind.i64.wrap ((j:Int)-1)=(j:Int)-1:=wrap_i64 Om Om;simp only[go_sem,hz,χ];simp only[go_sem]at E;refine E _ _ _ ?_ (by simp only[go_sem,R]) Sq ?_
  ·unfold dF;exact Lq
  ·intro S H' e θ J;have g8:=e 8 _ (by unfold dF;simp only[go_sem];rfl);have g9:=e 9 _ (by unfold dF;simp only[go_sem];rfl);have β:=e 10 _ (by unfold dF;simp only[go_sem];rfl);have γ:=e 11 _ (by unfold dF;simp only[go_sem];rfl);have δ:=e 12 _ (by unfold dF;simp only[go_sem];rfl);have ε:=e 13 _ (by unfold dF;simp only[go_sem];rfl);have ζ:=e 14 _ (by unfold dF;simp only[go_sem];rfl);have η:=e 15 _ (by unfold dF;simp only[go_sem];rfl);simp only[go_sem,UY,η,W];refine aP (j,_,_) ⟨by simp only;omega,μ⟩ (by simp only;omega) ?_ (PH.aN (PH.aN a_ θ) J);refine c_ (c_ (c_ (c_ (c_ (c_ (c_ (c_ d_ ?_) ?_) ?_) ?_) ?_) ?_) ?_) ?_<;>simp only[go_sem,g8,g9,β,γ,δ,ε,ζ]
 ·have:k=0:=Om;subst this;have hz:¬((0:Nat):Int)-1≥0:=by decide
  simp only[go_sem,hz];refine hK U Q _ y ?_;unfold dI
  (repeat' (first|exact d_|refine c_ ?_ ?_))<;>first|(simp only[go_sem,show((0:Nat):Int)-1=-1 from rfl]<;>rfl)|rfl
open Go Go.Na
def rFr(o e l d or n s i:Nat):PF:=((((((PF.nil.set 8 (.int .u64 s)).set 9 (.osl o 1 0 e)).set 12 (.osl l 1 0 d)).set 19 (.osl or 1 0 n)).set 166 (.int .i64 n)).set 167 (.int .i64 i))
theorem amS{x s:Nat}(d:s≤64):shift .shr .u64 (x:Int) (s:Int)=some (.int .u64 ((x/2^s:Nat):Int)):=by
 unfold shift;rw[aC Om];simp only;have:min (Int.toNat (s:Int)) IntKind.u64.bits=s:=by rw[show IntKind.u64.bits=64 from rfl];omega
 rw[this,Int.fdiv_eq_ediv_of_nonneg _ (by exact_mod_cast axB _)]
 norm_cast
theorem Fy{C:Ctx}(o p d lq n s:Nat)(U Q:List Nat)(hs:s<32)(h3:d≠o)(X:Lim U)(hl:Z' U=p)(hn:n<p)(γ:p≤10000)(K:cJ)(F:PF)
  (f8:F 8=some (.int .u64 s)) (f9:F 9=some (.osl o 1 0 p)) (f11:F 11=some (.int .i64 n)) (δ:F 12=some (.osl d 1 0 lq))
  (hK:∀or F' H',or≠o→or≠d→(rFr o p d lq or n s n).le F'→H' d=some (.rows 1 (aG Q))→H' or=some (.rows 1 (aG (eG n (val U/2^s))))→K .normal F' H') :
  aD.wp C (.seq (.region EW) (.seq (.region EX) (.block 6 (.loop EN)))) K F ((PH.nil.set o (.rows 1 (aG U))).set d (.rows 1 (aG Q))):=by
 have Z:((n:Nat):Int)*((4:Nat):Int)≤140737488355328:=Om;have β:((n:Nat):Int)≤9223372036854775807:=Om;have hz:awO n [PV.int .u32 0]=aG ([]++awO n 0):=by simp[aG]
 simp only[go_sem,EW,f11,Z,β,hz];refine aW λor M=>?_;have n1:¬or=d:=(iW.1 M).1;have n2:¬or=o:=(iW.1 (iW.1 M).2).1;have w:¬d=or:=λh=>n1 h.symm;have y:¬o=or:=λh=>n2 h.symm;have n3:¬d=o:=h3;have A:¬o=d:=λh=>n3 h.symm;simp only[go_sem,EX];refine wp_loop (α:=List Nat) (λP=>rFr o p d lq or n s P.length) (λP=>((PH.nil.set o (.rows 1 (aG U))).set d (.rows 1 (aG Q))).set or (.rows 1 (aG (P++awO (n-Z' P) 0)))) (λP=>Z' P≤n∧P=eG P.length (val U/2^s)) (λP=>n-Z' P) []
  ⟨by simp,rfl⟩ ?_ ?_ ?_
 ·unfold rFr;exact Lq
 ·refine PH.aN (PH.aN (PH.aN a_ ?_) ?_) ?_<;>simp only[go_sem,n1,w,n2,y,n3,A,azB]
 rintro P ⟨hP,hD⟩;simp only[go_sem,EN,UZ,rFr];by_cases c1:Z' P<n
 ·have l:(Z' P:Int)<(n:Nat):=Om;obtain⟨k,hk⟩:∃k,n-Z' P=k+1:=⟨n-Z' P-1,by omega⟩;have Y:(aG (P++awO (k+1) 0))[Z' P]?=some [.int .u32 ((0:Nat):Int)]:=by rw[bS _ aY];simp
  have R:Z' P<Z' U:=Om;have a1:Z' P+1<Z' U:=Om;have b0:(Z' P:Int)<(p:Nat):=Om;have b1:((Z' P+1:Nat):Int)<(p:Nat):=Om;have ε:=X _ (awS R);have ζ:=X _ (awS a1);have e:val U/4294967296^P.length=U[Z' P]+4294967296*(U[Z' P+1]+4294967296*val (U.drop (Z' P+2))):=by rw[←wV X Om,ayS R,ayS a1];rfl
  have J:=VS hs e;have g0:=bS U R;have g1:=bS U a1;generalize η:U[Z' P]=u at *
  generalize θ:U[Z' P+1]=i at *
  have e1:IntKind.i64.wrap ((Z' P:Int)+1)=((Z' P+1:Nat):Int):=dT Om;have V:IntKind.u64.wrap ((u:Nat):Int)=((u:Nat):Int):=bE Om;have W:IntKind.u64.wrap ((i:Nat):Int)=((i:Nat):Int):=bE Om;have E:shift .shl .u64 (i:Int) 32=some (.int .u64 ((2^32*i:Nat):Int)):=LL (s:=32) Om Om;have S:(2:Nat)^32=4294967296:=by decide
  have B:=orI (a:=2^32*i) (b:=u) (n:=2^32*i+u) Om Om (Nat.two_pow_add_eq_or_of_lt Om i).symm Om;rw[S]at E B;have H:=amS (x:=4294967296*i+u) (s:=s) Om;have O:(aG (P++awO (k+1) 0)).set P.length [.int .u32 (((4294967296*i+u)/2^s%4294967296:Nat):Int)]=aG ((P++[(4294967296*i+u)/2^s%4294967296])++awO k 0):=by rw[gQ,AP]
  simp only[go_sem,l,VA];refine dH .nil gX a_ ?_;simp only[go_sem,VB,l,e1,b0,b1,y,A,g0,g1,V,W,E,B,H,cN,hk,Y,O];refine⟨a_,?_⟩;simp only[go_sem,VC,e1];refine aP (P++[(4294967296*i+u)/2^s%4294967296]) ⟨by simp;omega,?_⟩ (by simp;omega) ?_ (PH.aN (PH.aN (PH.aN a_ ?_) ?_) ?_)
  ·rw[awQ,awV,xO,←hD,J]
  ·rw[awQ,awV];exact Lq
  ·simp only[go_sem,y,A]
  ·simp only[go_sem,w]
  ·rw[awQ,awV,show n-(Z' P+1)=k by omega];simp only[go_sem]
 ·have e:Z' P=n:=Om;have l:¬(Z' P:Int)<(n:Nat):=Om;have N:awO (n-Z' P) 0=[]:=by rw[show n-Z' P=0 by omega];rfl
  rw[e]at hD;simp only[go_sem,l,N,ayO];refine hK or _ _ n2 n1 ?_ (by simp only[go_sem,w]) (by simp only[go_sem];rw[←hD]);unfold rFr;rw[e];exact Lq
structure ya(C:Ctx):Prop where
 L:sU C
 D:xd C
 up:∀(a:List Nat)(s:Nat),Lim a→s<32→Z' a≤1000→aJ C 143 [aI a,.int .u64 s] .nil (upR a s)
 short:∀(a:List Nat)(d:Nat),Lim a→0<d→d<4294967296→Z' a≤1000→aJ C 140 [aI a,.int .u32 d] .nil (aQ (.tup [aI (aK (val a/d)),.int .u32 ((val a%d:Nat):Int)]))
 lengthO:∀(xs:List Nat)(o:Nat),Lim xs→Z' xs≤35184372087808→aJ C 138 [.osl o 1 0 xs.length] (PH.nil.set o (.rows 1 (aG xs))) (λr H'=>r=.int .i64 (nl (val xs):Nat)∧H'=PH.nil.set o (.rows 1 (aG xs)))
def acA:Spec:=λname vs=>match name,vs with
 |143,[x,.int _ s]=>some ([],λ_=>upR (mX x) s.toNat)
 |138,[.osl q _ _ _]=>some ([q],λd r H'=>H'=d∧∀xs,Lim xs→d q=some (.rows 1 (aG xs))→r=.int .i64 (nl (val xs):Nat))
 |_,_=>none
theorem Mb(a:List Nat)(s:Nat):acA 143 [aI a,.int .u64 s]=some ([],λ_=>upR a s):=by
 show some _=_;rw[fV,ayU]
theorem I7(a:List Nat)(s:Nat):∀G:PH,∃r H',upR a s r H'∧nF G .nil H':=λG=>by
 obtain⟨o,i⟩:=G.fresh;refine⟨_,_,⟨o,rfl,rfl⟩,λq x d _=>?_⟩;rw[aU]at d;split at d
 ·rename_i e;subst e;exact i
 ·cases d
theorem QD{xs ys:List Nat}(h:aG xs=aG ys):xs=ys:=by
 have:=congrArg mX (show aI xs=aI ys by show PV.sl 1 (aG xs)=PV.sl 1 (aG ys);rw[h])
 rwa[fV,fV]at this
theorem va(q:Nat)(L:List Nat):(PH.nil.set q (.rows 1 (aG L)))=(PH.nil.set q (.rows 1 (aG L)))∧∀xs,Lim xs→(PH.nil.set q (.rows 1 (aG L))) q=some (.rows 1 (aG xs))→(PV.int .i64 (nl (val L):Nat))=.int .i64 (nl (val xs):Nat):=by
 refine⟨rfl,λxs d e=>?_⟩;rw[dA]at e;have:aG L=aG xs:=(aR.rows.inj (axZ.inj e)).2;rw[QD this]
def sD(A B:Nat):PV:=.tup [aI (aK (A/B)),aI (aK (A%B))]
def Ve(a b:List Nat)(s:Nat):PF:=(((PF.nil.set 0 (aI a)).set 1 (aI b)).set 8 (.int .u64 s))
theorem akH{x s:Nat}(d:s≤31)(h:x*2^s<4294967296):shift .shl .u32 (x:Int) (s:Int)=some (.int .u32 ((x*2^s:Nat):Int)):=by
 unfold shift;rw[aC Om];simp only;have:min (Int.toNat (s:Int)) IntKind.u32.bits=s:=by rw[show IntKind.u32.bits=32 from rfl];omega
 rw[this,show(x:Int)*2^s=((x*2^s:Nat):Int) by simp,cN,axW h]
theorem Jy{n i x:Nat}(d:(awO n 0)[i]?=some x):x=0:=by
 have:=ayN d;rw[List.mem_replicate]at this;exact this.2
theorem Vg{C:Ctx}(H:ya C)(A B:Nat)(hB:B≠0)(hA:nl A≤900)(j':nl B≤900) :
  BN.wp C (bD mw.res (cV (sD A B))) (PF.args [aI (aK A),aI (aK B)]) .nil:=by
 have LA:=bG A;have Z:=bG B;have vA:=bB A;have vB:=bB B;have lA:(aK A).length=nl A:=rfl;have lB:(aK B).length=nl B:=rfl;simp only[go_sem,BN,iu,iv,mw];refine aB (H.L.cmp _ _ LA Z Om Om) rfl ?_;rw[vA,vB];by_cases c1:A<B
 ·have hc:eT A B<0:=by simp[eT,c1]
  simp only[go_sem,hc,iw];refine aB (H.L.trim _ LA Om) rfl ?_;rw[vA];simp only[go_sem];refine bF (vs:=[.aH,aI (aK A)]) (.inr rfl) .nil rfl a_ ⟨?_,rfl⟩;rw[sD,aAB c1,axW c1,iD];refine .tup rfl λj p q hp hq=>?_
  match j with
  |0=>simp at hp hq;subst hp;subst hq;exact .nil 1
  |1=>simp at hp hq;subst hp;subst hq;exact .refl _
  |j+2=>simp at hp
 have hc:¬eT A B<0:=by unfold eT;rw[aC c1];split<;>decide
 have S:0<B:=azI hB;have m':nl B≠0:=λh=>hB (mL.1 h);simp only[go_sem,hc,ix];by_cases c2:nl B=1
 ·have δ:B<4294967296:=by have:=(kC B 1).1 Om;simpa using this
  have Φ:aK B=[B]:=pX hB δ;have Y:A%B<B:=ayD _ S;have ew:IntKind.u64.wrap ((A%B:Nat):Int)=((A%B:Nat):Int):=bE Om;rw[Φ];have ο:=H.short (aK A) B LA S δ Om;rw[vA]at ο;simp only[go_sem,show(((1:Nat):Int)==1)=true from rfl,iy];refine aB ο rfl ?_;simp only[go_sem,iz,ew];refine aB (H.L.make (A%B) Om) rfl ?_;simp only[go_sem];exact bF (vs:=[aI (aK (A/B)),aI (aK (A%B))]) (.inr rfl) .nil rfl a_ ⟨.refl _,rfl⟩
 obtain⟨m,hm⟩:∃m,nl B=m+2:=⟨nl B-2,by omega⟩;have i':nl B≤nl A:=kR Om;obtain⟨bt,w,f'⟩:=Ia Z (n:=m+1) (by rw[vB];exact hm);have M:m+1<(aK B).length:=Om;have κ:bt<4294967296:=Z bt (ayN w);have k':B=val ((aK B).take (m+1))+4294967296^(m+1)*bt:=by have l:=cF (aK B) M;rw[axE Om,vB]at l;rw[awX M]at w;rw[axZ.inj w]at l;exact l
 have U:=fQ (Z.take (m+1));rw[axC,ayZ Om]at U;have ξ:(aG (aK B))[m+1]?=some [.int .u32 ((bt:Nat):Int)]:=by rw[bS _ M];rw[awX M]at w;rw[axZ.inj w]
 have i1:IntKind.i64.wrap ((((aK B).length:Nat):Int)-1)=((m+1:Nat):Int):=by rw[wrap_i64 Om Om];omega
 have μ:¬(((aK B).length:Nat):Int)=1:=Om;simp only[go_sem,bO μ,i0];refine wp_loop (α:=Nat) (λs=>Ve (aK A) (aK B) s) (λ_=>.nil) (λs=>s≤31∧bt*2^s<4294967296) (λs=>32-s) 0 ⟨by omega,by simpa using κ⟩ ?_ a_ ?_
 ·unfold Ve;exact Lq
 rintro s ⟨hs,Λ⟩;have φ:=akH hs Λ;simp only[go_sem,it,i4,Ve,i1,ξ,φ];refine abR ?_ ?_
 ·intro c3;have υ:=of_decide_eq_true c3;have g':s<31:=by
   rcases axA s 31 with h|h
   ·exact h
   ·exfalso;have l:2147483648≤2^s:=Nat.pow_le_pow_right (show 0<2 by decide) h;have J:1*2^s≤bt*2^s:=axS _ Om;omega
  have es:IntKind.u64.wrap ((s:Int)+1)=((s+1:Nat):Int):=by rw[wrap_u64 Om Om];omega
  simp only[go_sem,i5,es];refine aP (s+1) ⟨by omega,by rw[ayH,←axI];omega⟩ Om ?_ a_;exact Lq
 intro c3;have υ:=of_decide_eq_false c3;have E:s<32:=Om;have y:0<2^s:=azJ aV;have Q:2147483648*4294967296^(m+1)≤B*2^s:=by
  have l:2147483648*4294967296^(m+1)≤(bt*2^s)*4294967296^(m+1):=axS _ Om;have J:(4294967296^(m+1)*bt)*2^s≤B*2^s:=axS _ Om;have h3:(4294967296^(m+1)*bt)*2^s=(bt*2^s)*4294967296^(m+1):=by rw[axI,axM]
  omega
 have ι:B*2^s<4294967296^(m+2):=by
  have h0:(bt+1)*2^s≤4294967296:=by
   have h':(4294967296:Nat)=2^(32-s)*2^s:=by rw[←Nat.pow_add,show 32-s+s=32 by omega]
   have:bt<2^(32-s):=by
    rcases axA bt (2^(32-s))with h|h
    ·exact h
    ·have:=axS (2^s) h;omega
   have:=axS (2^s) (show bt+1≤2^(32-s)from this);omega
  have l:B<(bt+1)*4294967296^(m+1):=by rw[axR,Nat.one_mul,axM bt];omega
  have J:B*2^s<(bt+1)*4294967296^(m+1)*2^s:=Nat.mul_lt_mul_of_pos_right l y;have h3:(bt+1)*4294967296^(m+1)*2^s=(bt+1)*2^s*4294967296^(m+1):=Nat.mul_right_comm _ _ _;have h4:(bt+1)*2^s*4294967296^(m+1)≤4294967296*4294967296^(m+1):=axS _ h0;have h5:4294967296^(m+2)=4294967296*4294967296^(m+1):=by rw[ayH,axM]
  omega
 have O:A<4294967296^nl A:=(kC A _).1 (awP _);simp only[go_sem];refine dH .nil acA a_ ?_;simp only[go_sem,UR];have ua:=H.up (aK A) s LA E Om;have ub:=H.up (aK B) s Z E Om;refine Ma (Mb (aK A) s) ua rfl (I7 _ _) ?_;rintro r H' ⟨o,rfl,rfl⟩ -;rw[PH.rA,lA,vA];refine⟨a_,?_⟩;simp only[go_sem];refine Ma (Mb (aK B) s) ub rfl (I7 _ _) ?_;rintro r H' ⟨o2,rfl,rfl⟩ Θ;rw[PH.rA,lB,vB,hm];refine⟨a_,?_⟩;have Ξ:=Θ o2 _ (by rw[aU,aF rfl]) (by rfl);have σ:¬o2=o:=(iW.1 Ξ).1;have d':¬o=o2:=λh=>σ h.symm;have k1:((m+2:Nat):Int)≤((m+2+1:Nat):Int):=Om;have k2:IntKind.i64.wrap (((nl A+1:Nat):Int)-((m+2:Nat):Int))=((nl A+1-(m+2):Nat):Int):=by rw[wrap_i64 Om Om];omega
 obtain⟨d,Ψ⟩:∃d,nl A+1-(m+2)=d:=⟨_,rfl⟩;have Ω:nl A+1=d+(m+2):=Om;rw[Ψ]at k2;have k3:((d:Nat):Int)*((4:Nat):Int)≤140737488355328:=Om;have k4:((d:Nat):Int)≤9223372036854775807:=Om;have hz:awO d [PV.int .u32 0]=aG (awO d 0):=by simp[aG]
 have k5:m+2-0=m+2:=Om;simp only[go_sem,lB,hm,k1,k5,US,UT,k2,k3,k4,hz];refine aW λF ν=>?_;have q2:¬F=o2:=(iW.1 ν).1;have q1:¬F=o:=(iW.1 (iW.1 ν).2).1;have τ:¬o2=F:=λh=>q2 h.symm;have e':¬o=F:=λh=>q1 h.symm;have a':eG (m+2+1) (B*2^s)=eG (m+2) (B*2^s)++[B*2^s/4294967296^(m+2)%4294967296]:=xO _ _;have Lv:=oM (m+2) (B*2^s);have lv:=mY (m+2) (B*2^s);have vv:val (eG (m+2) (B*2^s))=B*2^s:=qC ι;have ρ:(aG (eG (m+2+1) (B*2^s))).take (m+2)=aG (eG (m+2) (B*2^s)):=by unfold aG;rw[←azM,a',List.take_append_of_le_length Om,axE Om]
 generalize p':eG (m+2) (B*2^s)=v at *
 have q':(eG (m+2+1) (B*2^s)).length=m+2+1:=mY _ _;have N:∀i (h:i<Z' v),(aG (eG (m+2+1) (B*2^s)))[i]?=some [.int .u32 ((v[i]:Nat):Int)]:=by intro i h;have l:(aG v)[i]?=some [.int .u32 ((v[i]:Nat):Int)]:=bS v h;rw[←ρ,List.getElem?_take_of_lt Om]at l;exact l
 have g1:=N (m+1) Om;have g0:=N m Om;have htop:2147483648≤v[m+1]:=by
  have l:=cF v (Om:m+1<Z' v);rw[axE Om,vv]at l;have J:=fQ (Lv.take (m+1));rw[axC,ayZ Om]at J;rcases axA v[m+1] 2147483648 with h|h
  ·exfalso;have h3:4294967296^(m+1)*(v[m+1]+1)≤4294967296^(m+1)*2147483648:=azA _ h;rw[awW,Nat.mul_one]at h3;rw[axM 2147483648]at Q;omega
  ·exact h
 have o':=Lv _ (awS (Om:m+1<Z' v));have n':=Lv _ (awS (Om:m<Z' v));have w1:IntKind.u64.wrap ((v[m+1]:Nat):Int)=((v[m+1]:Nat):Int):=bE Om;have w0:IntKind.u64.wrap ((v[m]:Nat):Int)=((v[m]:Nat):Int):=bE Om;have j1:IntKind.i64.wrap (((m+2:Nat):Int)-1)=((m+1:Nat):Int):=by rw[wrap_i64 Om Om];omega
 have j0:IntKind.i64.wrap (((m+2:Nat):Int)-2)=((m:Nat):Int):=by rw[wrap_i64 Om Om];omega
 have d1:((m+1:Nat):Int)<((m+2:Nat):Int):=Om;have d0:((m:Nat):Int)<((m+2:Nat):Int):=Om;have jq:IntKind.i64.wrap ((d:Int)-1)=(d:Int)-1:=wrap_i64 Om Om;simp only[go_sem];refine dH .nil gX a_ ?_;simp only[go_sem,UU,j1,j0,d1,d0,τ,g1,g0,w1,w0,UV,jq];have θ:A*2^s<4294967296^(nl A+1):=by
  have h0:2^s≤4294967296:=by have:(2:Nat)^s≤2^32:=Nat.pow_le_pow_right aV Om;simpa using this
  have l:A*2^s<4294967296^nl A*2^s:=Nat.mul_lt_mul_of_pos_right O y;have J:4294967296^nl A*2^s≤4294967296^nl A*4294967296:=azA _ h0;rw[ayH];omega
 have LU:=oM (nl A+1) (A*2^s);have lU:=mY (nl A+1) (A*2^s);have vU:val (eG (nl A+1) (A*2^s))=A*2^s:=qC θ;have hI:qM (A*2^s) (val v) (m+2) (nl A+1) d d (eG (nl A+1) (A*2^s)) (awO d 0):=by
  refine⟨lU,List.length_replicate,LU,xU _,by rw[vU,uE];omega,?_,λi x _ hx=>Jy hx⟩
  ·rw[wV LU Om,vU,vv,azR (azJ aV)];have l:A*2^s<4294967296^nl A*2^s:=Nat.mul_lt_mul_of_pos_right O y;have hx:nl A=m+1+d:=Om;have J:4294967296^nl A=4294967296^(m+1)*4294967296^d:=by rw[hx,Nat.pow_add]
   have h3:2^s≤2147483648:=by have:(2:Nat)^s≤2^31:=Nat.pow_le_pow_right aV hs;simpa using this
   have h4:4294967296^nl A*2^s≤(2147483648*4294967296^(m+1))*4294967296^d:=by rw[J,axM (4294967296^(m+1)*4294967296^d),←axI];exact axS _ (axS _ h3)
   have h5:(2147483648*4294967296^(m+1))*4294967296^d≤B*2^s*4294967296^d:=axS _ Q;omega
 have X:=Fw (C:=C) H.D (A*2^s) m (nl A+1) d o o2 F s v (eG (m+2+1) (B*2^s)) σ q1 q2 Lv lv ρ Om htop Ω Om _ hI;simp only[go_sem]at X;refine X _ _ _ ?_ (by simp only[go_sem,d',e']) (by simp only[go_sem,τ]) Sq ?_
 ·unfold dI;exact Lq
 clear X;intro U' u F' e K;have hu:val U'<val v:=by have:=e.r;rwa[axU]at this
 have W:=e.v;rw[vv]at hu W;have Δ:0<B*2^s:=Om;have ω:val u=A/B:=by
  have:A*2^s/(B*2^s)=val u:=by rw[←W,Nat.add_mul_div_right _ _ Δ,aAB hu,axJ]
  rw[←this,Nat.mul_div_mul_right _ _ y]
 have Γ:val U'/2^s=A%B:=by
  have:A*2^s%(B*2^s)=val U':=by rw[←W,Nat.add_mul_mod_self_right,axW hu]
  rw[←this,Nat.mul_mod_mul_right,Nat.mul_div_cancel _ y]
 have g8:=K 8 _ (by unfold dI;simp only[go_sem];rfl);have g9:=K 9 _ (by unfold dI;simp only[go_sem];rfl);have χ:=K 11 _ (by unfold dI;simp only[go_sem];rfl);have ψ:=K 12 _ (by unfold dI;simp only[go_sem];rfl);have rest:=Fy (C:=C) o (nl A+1) F d (m+2) s U' u E q1 e.limU e.lu' Om Om;simp only[go_sem]at rest;simp only[go_sem];refine rest _ _ g8 g9 χ ψ ?_;clear rest;intro or F2 H2 r1 r2 ε ζ V;rw[Γ]at V;have b':=ε 12 _ (by unfold rFr;simp only[go_sem];rfl);have c':=ε 19 _ (by unfold rFr;simp only[go_sem];rfl);have η:A%B<4294967296^(m+2):=by have l:A%B<B:=ayD _ S;have J:B<4294967296^nl B:=(kC B _).1 (awP _);rw[hm]at J;omega
 have LR:=oM (m+2) (A%B);have lR:=mY (m+2) (A%B);have vR:val (eG (m+2) (A%B))=A%B:=qC η;have nQ:=gP e.limQ;have nR:=gP LR;have e1:=e.lq';generalize l':eG (m+2) (A%B)=R at *
 simp only[go_sem];refine dH .nil acA a_ ?_;simp only[go_sem,VD,b'];have β:=H.lengthO u F e.limQ Om;rw[e1]at β;have γ:=H.lengthO R or LR Om;rw[lR]at γ;refine WW (o:=F) (x:=.rows 1 (aG u)) (v:=.int .i64 (nl (val u):Nat)) rfl ζ β (va F u) (λr H' Y=>⟨Y.2 u e.limQ (by rw[dA]),Y.1⟩) rfl a_ ?_;have c4:((nl (val u):Nat):Int)≤(d:Nat):=Om;simp only[go_sem,c4,c',Nat.sub_zero];refine WW (o:=or) (x:=.rows 1 (aG R)) (v:=.int .i64 (nl (val R):Nat)) rfl V γ (va or R) (λr H' Y=>⟨Y.2 R LR (by rw[dA]),Y.1⟩) rfl a_ ?_;have c5:((nl (val R):Nat):Int)≤((m+2:Nat):Int):=Om;simp only[go_sem,c5];refine Zu (o1:=F) (o2:=or) (s1:=1) (s2:=1) (k1:=nl (val u)) (k2:=nl (val R)) (rs1:=aG u) (rs2:=aG R) (.inr rfl) (λh=>r2 h.symm) rfl rfl ζ V (by rw[cD];exact nQ) (by rw[cD];exact nR) (tQ _ _ _ _) rfl ⟨?_,rfl⟩;have t1:(aG u).take (nl (val u))=aG (aK (A/B)):=by have:=kI e.limQ;rw[ω]at this ⊢;exact this
 have t2:(aG R).take (nl (val R))=aG (aK (A%B)):=by have:=kI LR;rw[vR]at this ⊢;exact this
 rw[t1,t2];exact .refl _
def acR(a b:Nat):PF:=((PF.nil.set 0 (aI (aK a))).set 1 (aI (aK b)))
theorem ajO{C:Ctx}(L:sU C)(d:∀A B:Nat,B≠0→nl A≤900→nl B≤900→aJ C 136 [aI (aK A),aI (aK B)] .nil (aQ (sD A B)))(a b:List Nat)(u:Lim a)(hb:Lim b)(E:Z' a≤35184372087808)(F:Z' b≤35184372087808) :
  PZ.wp C (bD aeK.res (cV (if gA (val a) (val b)then .tup [aI [],.int .i64 2]else .tup [aI (aK (awM (val a) (val b))),.int .i64 0]))) (PF.args [aI a,aI b]) .nil:=by
 simp only[go_sem,PZ,Px,Py,aeK];refine aB (L.large a u E) rfl ?_;by_cases e:nl (val a)>512
 ·simp only[go_sem,e,my];rw[aF (by simp[gA,e])];exact lM rfl
 simp only[go_sem,e];refine aB (L.large b hb F) rfl ?_;by_cases i:nl (val b)>512
 ·simp only[go_sem,i,my];rw[aF (by simp[gA,i])];exact lM rfl
 rw[aC (by simp[gA,e,i])];simp only[go_sem,i,Pz];refine aB (L.trim a u E) rfl ?_;simp only[go_sem];refine aB (L.trim b hb F) rfl ?_;simp only[go_sem];refine wp_loop (α:=Nat × Nat) (λt=>acR t.1 t.2) (λ_=>.nil) (λt=>awM t.1 t.2=awM (val a) (val b)∧nl t.1≤512∧nl t.2≤512) (λt=>t.2) (val a,val b) ⟨rfl,by simp only;omega,by simp only;omega⟩ ?_ a_ ?_
 ·unfold acR;exact Lq
 rintro⟨x,y⟩ ⟨p,H,w⟩;simp only at p H w;simp only[go_sem,Pw,P0,acR,bP];by_cases l:y=0
 ·subst l;have:¬((nl 0:Nat):Int)>0:=by rw[AM];decide
  simp only[go_sem,this,P3];refine bF (vs:=[aI (aK x),.int .i64 0]) (.inr rfl) .nil rfl a_ ⟨?_,rfl⟩;rw[←p,Nat.gcd_zero_right];exact .refl _
 ·have J:nl y≠0:=λh=>l (mL.1 h);have:((nl y:Nat):Int)>0:=Om;simp only[go_sem,this,P1];refine aB (d x y l Om Om) rfl ?_;simp only[go_sem,sD,P2];have hlt:x%y<y:=ayD _ (azI l);refine aP (y,x%y) ⟨?_,w,?_⟩ hlt ?_ a_
  ·simp only;rw[←p,Nat.gcd_comm y,←Nat.gcd_rec y x,Nat.gcd_comm]
  ·have:=kR (Nat.le_of_lt hlt);simp only;omega
  ·exact Lq
def oO(A B:Nat):PV:=if gA A B then .tup [aI [],aI [],.int .i64 2]else if B=0 then .tup [aI [],aI [],.int .i64 3]else .tup [aI (aK (A/B)),aI (aK (A%B)),.int .i64 0]
def Vf:Spec:=λname vs=>match name,vs with
 |138,[x]=>some ([],λ_=>aQ (.int .i64 (nl (val (mX x)):Nat)))
 |136,[x,y]=>some ([],λ_=>aQ (sD (val (mX x)) (val (mX y))))
 |_,_=>none
theorem PW(xs:List Nat):Vf 138 [aI xs]=some ([],λ_=>aQ (.int .i64 (nl (val xs):Nat))):=by
 show some _=_;rw[fV]
theorem Fv(A B:Nat):Vf 136 [aI (aK A),aI (aK B)]=some ([],λ_=>aQ (sD A B)):=by
 show some _=_;rw[fV,fV,bB,bB]
theorem tT{res:List dJ}{F:PF}{H:PH}{e:Int}(h:dJ.evs F H res=some [.aH,.aH,.int .i64 e]):bD res (cV (.tup [aI [],aI [],.int .i64 e])) .ret F H:=by
 refine bF (.inr rfl) .nil h a_ ⟨?_,rfl⟩;refine .tup rfl λj p q hp d=>?_
 match j with
 |0=>simp at hp d;subst hp;subst d;exact .nil 1
 |1=>simp at hp d;subst hp;subst d;exact .nil 1
 |2=>simp at hp d;subst hp;subst d;exact .refl _
 |j+3=>simp at hp
theorem ajM{C:Ctx}(L:sU C)(i:∀A B:Nat,B≠0→nl A≤900→nl B≤900→aJ C 136 [aI (aK A),aI (aK B)] .nil (aQ (sD A B)))(a b:List Nat)(p:Lim a)(hb:Lim b)(y:Z' a≤35184372087808)(x:Z' b≤35184372087808) :
  PX.wp C (bD aeI.res (cV (oO (val a) (val b)))) (PF.args [aI a,aI b]) .nil:=by
 simp only[go_sem,PX,Pp,Pq,aeI];refine aB (L.large a p y) rfl ?_;by_cases d:nl (val a)>512
 ·simp only[go_sem,d,mu];rw[show oO (val a) (val b)=.tup [aI [],aI [],.int .i64 2] by simp[oO,gA,d]];exact tT rfl
 simp only[go_sem,d];refine aB (L.large b hb x) rfl ?_;by_cases l:nl (val b)>512
 ·simp only[go_sem,l,mu];rw[show oO (val a) (val b)=.tup [aI [],aI [],.int .i64 2] by simp[oO,gA,l]];exact tT rfl
 simp only[go_sem,l,Ps];refine aB (L.length b hb x) rfl ?_;by_cases e:val b=0
 ·have:((nl (val b):Nat):Int)=0:=by rw[e,AM];rfl
  simp only[go_sem,cH this,Pt];rw[show oO (val a) (val b)=.tup [aI [],aI [],.int .i64 3] by simp[oO,gA,d,e,AM]];exact tT rfl
 have E:nl (val b)≠0:=λh=>e (mL.1 h);rw[show oO (val a) (val b)=.tup [aI (aK (val a/val b)),aI (aK (val a%val b)),.int .i64 0] by simp[oO,gA,d,l,e]];simp only[go_sem,bO (show((nl (val b):Nat):Int)≠0 by omega)];refine dH .nil Vf a_ ?_;simp only[go_sem,Pu];have F:=gP p;have H:=gP hb;have u:((nl (val a):Nat):Int)≤(Z' a:Nat):=Om;have w:((nl (val b):Nat):Int)≤(Z' b:Nat):=Om;refine eI (PW a) (L.length a p y) rfl a_ ?_;simp only[go_sem,u,or_true,axU,kI p];refine eI (PW b) (L.length b hb x) rfl a_ ?_;simp only[go_sem,w,or_true,axU,kI hb];refine eI (Fv (val a) (val b)) (i _ _ e Om Om) rfl a_ ?_;simp only[go_sem,sD,Pv];exact bF (.inr rfl) .nil rfl a_ ⟨.refl _,rfl⟩
def lJ:=cP [] Proofs.Tryz.f102
def dx:=aA lJ 0
def dy:=aA lJ 1
def dz:=aA lJ 2
def d3:=aA lJ 3
def d6:=aA lJ 4
def IH:=aA lJ 5
def yV:=aA lJ 6
def II:=aA lJ 7
def BD:aD:=(sq dx (.seq (sq dy (sq dz (.cond (Tm 18) (sq d3 (.region d6)) .skip))) (eS IH 40 yV (sq II .ret))))
def wG:bH:=⟨3,53,BD,[.cell 6 (some 3),.tmp 7]⟩
def EB:=cP [] Proofs.Tryz.f83
def rp:=aA EB 0
def rt:=aA EB 1
def ru:=aA EB 2
def EA:aD:=(sq rp (sq rt (sq ru .ret)))
def A0:bH:=⟨2,14,EA,[.tmp 4]⟩
def fe:=cP [1] Proofs.Tryz.f84
def A2:=aA fe 0
def A3:=aA fe 1
def IM:aD:=(sq A2 (sq A3 .ret))
def T5:bH:=⟨1,7,IM,[.tmp 2]⟩
def yW:=cP [] Proofs.Tryz.f53
def Aq:=aA yW 0
def Ar:=aA yW 1
def As:=aA yW 2
def Au:=aA yW 3
def IJ:aD:=(sq Aq (eS Ar 7 As (sq Au .ret)))
def xh:bH:=⟨2,21,IJ,[.cell 4 (some 3),.tmp 5]⟩
def CK:=cP [] Proofs.Tryz.f103
def Mh:=aA CK 0
def Mi:=aA CK 1
def Mj:=aA CK 2
def Mk:=aA CK 3
def OL:aD:=(sq Mh (eS Mi 4 Mj (sq Mk .ret)))
def acJ:bH:=⟨1,12,OL,[.tmp 2]⟩
def ED:=cP [1] Proofs.Tryz.f56
def rx:=aA ED 0
def ry:=aA ED 1
def CM:=aA ED 2
def EC:aD:=(sq rx (sq ry (sq CM .ret)))
def A1:bH:=⟨1,19,EC,[.tmp 2]⟩
def uW:=cP [1] Proofs.Tryz.f133
def d7:=aA uW 0
def d8:=aA uW 1
def d9:=aA uW 2
def ef:=aA uW 3
def BE:aD:=(sq d7 (eS d8 6 d9 (sq ef .ret)))
def SS:bH:=⟨1,17,BE,[.cell 2 (some 3),.tmp 3]⟩
def kT:=cP [2,3] Proofs.Tryz.f39
def Mu:=aA kT 0
def Mv:=aA kT 1
def lh:=aA kT 2
def Mw:=eE kT 0
def Mx:=eE kT 1
def AB:=aA kT 3
def lj:=aA kT 4
def GM:=aA kT 5
def lk:=aA kT 6
def SP:=aA kT 7
def WZ:=aA kT 8
def XA:=aA kT 9
def ON:aD:=(sq Mu (eS Mv 16 lh (dq Mw (dq Mx (.seq (.block 0 (sq AB (.cond (Tm 42) (sq lj .ret) (sq GM (.cond (Tm 49) (sq lk .ret) (sq SP (.cond (Tm 51) (sq WZ .ret) .skip))))))) (sq XA .ret))))))
def acK:bH:=⟨2,54,ON,[.tmp 4,.tmp 5]⟩
def kS:=cP [2,3] Proofs.Tryz.f77
def Ml:=aA kS 0
def Mm:=aA kS 1
def lg:=aA kS 2
def Mn:=eE kS 0
def Mo:=aA kS 3
def Mp:=aA kS 4
def Mq:=aA kS 5
def Mr:=aA kS 6
def Ms:=aA kS 7
def Mt:=aA kS 8
def Ai:=aA kS 9
def Aj:=aA kS 10
def OM:aD:=(sq Ml (eS Mm 22 lg (dq Mn (gE Mo 43 (sq Mp (sq Mq .ret)) (gE Mr 60 (sq Ms (sq Mt .ret)) (sq Ai (sq Aj .ret)))))))
def lf:bH:=⟨2,87,OM,[.cell 4 (some 3),.tmp 5]⟩
def lK:=cP [] Proofs.Tryz.f128
def Mz:=aA lK 0
def M0:=aA lK 1
def M1:=aA lK 2
def M2:=aA lK 3
def M3:=aA lK 4
def M4:=aA lK 5
def lm:=aA lK 6
def M5:=aA lK 7
def M6:=aA lK 8
def M7:=aA lK 9
def Az:aD:=(fB M2 14 0 M7 (sq M3 (sq M4 (eS lm 24 M5 (.region M6)))))
def XD:=aA lK 10
def OR:aD:=(sq Mz (sq M0 (.seq (dK M1 0 Az) (sq XD .ret))))
def Ay:bH:=⟨1,30,OR,[.cell 2 (some 3),.tmp 3]⟩
theorem CoL.nil:CoL [] []:=.refl _
theorem CoL.cons{p q:PV}{ps i:List PV}(h:Co p q)(e:CoL ps i):CoL (p::ps) (q::i):=
 ⟨by simp[e.len],λj a b d hb=>by
  cases j with
  |zero=>simp at d hb;subst d;subst hb;exact h
  |succ j=>exact e.at_ j a b (by simpa using d) (by simpa using hb)⟩
theorem CoL.agg{ps d:List PV}(h:CoL ps d):Co (.agg ps) (.agg d):=.agg h.len h.at_
theorem CoL.tup{ps d:List PV}(h:CoL ps d):Co (.tup ps) (.tup d):=.tup h.len h.at_
structure uJ(C:Ctx):Prop extends sU C where
 bits:∀xs,Lim xs→Z' xs≤35184372087808→aJ C 128 [aI xs] .nil (aQ (.int .i64 (cS (val xs):Nat)))
 add:∀xs ys,Lim xs→Lim ys→Z' xs≤35184372087808→Z' ys≤35184372087808→aJ C 127 [aI xs,aI ys] .nil (aQ (opV (gA (val xs) (val ys)) (val xs+val ys)))
 sub:∀xs ys,Lim xs→Lim ys→Z' xs≤35184372087808→Z' ys≤35184372087808→aJ C 134 [aI xs,aI ys] .nil (aQ (BY (val xs) (val ys)))
 mul:∀xs ys,Lim xs→Lim ys→Z' xs≤35184372087808→Z' ys≤35184372087808→aJ C 133 [aI xs,aI ys] .nil (aQ (opV (gA (val xs) (val ys)) (val xs*val ys)))
 gcd:∀xs ys,Lim xs→Lim ys→Z' xs≤35184372087808→Z' ys≤35184372087808→aJ C 131 [aI xs,aI ys] .nil (aQ (if gA (val xs) (val ys)then .tup [aI [],.int .i64 2]else .tup [aI (aK (awM (val xs) (val ys))),.int .i64 0]))
 div:∀xs ys,Lim xs→Lim ys→Z' xs≤35184372087808→Z' ys≤35184372087808→aJ C 130 [aI xs,aI ys] .nil (aQ (oO (val xs) (val ys)))
theorem mJ{a b:Nat}(d:nl a≤512)(hb:nl b≤512):gA a b=false:=by
 simp[gA];omega
theorem xY{a b m n:Nat}(d:nl a≤m)(hb:nl b≤n):nl (a*b)≤m+n:=by
 rw[kC]at d hb ⊢;rw[Nat.pow_add];by_cases h:b=0
 ·subst h;exact Nat.mul_pos (azJ aV) (azJ aV)
 ·calc a*b<4294967296^m*b:=Nat.mul_lt_mul_of_pos_right d (azI h)
   _≤4294967296^m*4294967296^n:=azA _ (Nat.le_of_lt hb)
theorem H9{n:Nat}(h:nl n≤512):szV n=.tup [aI (aK n),.int .i64 0]:=by
 have:¬nl n>512:=Om;simp[szV,szL,szE,this]
theorem Yc{C:Ctx}(L:uJ C)(a b:List Nat)(d:Lim a)(hb:Lim b)(e:Z' a≤35184372087808)(i:Z' b≤35184372087808)(l:nl (val a)≤256)(p:nl (val b)≤256) :
  EA.wp C (bD A0.res (aQ (aI (aK (val a*val b))))) (PF.args [aI a,aI b]) .nil:=by
 simp only[go_sem,EA,rp,rt,A0];refine aB (L.mul a b d hb e i) rfl ?_;have:=xY l p;rw[mJ Om Om,opV,H9 Om];simp only[go_sem,ru];refine cY (.inr rfl) rfl ?_;rfl
abbrev hL(neg:Bool)(a b:List Nat):List PV:=[.bool neg,aI a,aI b]
theorem acN{C:Ctx}(L:uJ C)(neg:Bool)(a b:List Nat)(d:Lim a)(e:Z' a≤35184372087808) :
  IM.wp C (bD T5.res (aQ (.bool (decide (val a=0))))) (PF.args [.agg (hL neg a b)]) .nil:=by
 simp only[go_sem,IM,A2,A3,T5];refine aB (L.bits a d e) rfl ?_;simp only[go_sem];refine cY (.inr rfl) rfl ?_;have:=@lG (val a);by_cases c:val a=0
 ·rw[cH Om,bQ c];rfl
 ·rw[bO Om,cU c];rfl
def eO(a b:Nat):Bool:=decide (0<cS b)&&decide (cS b≤4096)&&decide (cS a≤4096)
theorem Yd{C:Ctx}(L:uJ C)(neg:Bool)(a b:List Nat)(p:Lim a)(hb:Lim b)(u:Z' a≤35184372087808)(w:Z' b≤35184372087808) :
  EC.wp C (bD A1.res (aQ (.bool (eO (val a) (val b))))) (PF.args [.agg (hL neg a b)]) .nil:=by
 simp only[go_sem,EC,rx,ry,A1];refine aB (L.bits b hb w) rfl ?_;by_cases i:0<cS (val b)
 ·have d:((cS (val b):Nat):Int)>0:=Om;by_cases l:cS (val b)≤4096
  ·have e:((cS (val b):Nat):Int)≤4096:=Om;simp only[go_sem,CM,d,e];refine aB (L.bits a p u) rfl ?_;simp only[go_sem];refine cY (.inr rfl) rfl ?_;show PV.bool (decide _)=_;rw[eO,bQ i,bQ l,axN,axN];congr 1;rw[decide_eq_decide];omega
  ·have e:¬((cS (val b):Nat):Int)≤4096:=Om;simp only[go_sem,CM,d,e];refine cY (.inr rfl) rfl ?_;show PV.bool _=_;simp[eO,i,l]
 ·have d:¬((cS (val b):Nat):Int)>0:=Om;simp only[go_sem,CM,d];refine cY (.inr rfl) rfl ?_;show PV.bool _=_;simp[eO,i]
theorem ahX{C:Ctx}(L:uJ C)(v:Int)(d:-9223372036854775808≤v)(i:v≤9223372036854775807) :
  OL.wp C (bD acJ.res (aQ (aI (aK v.natAbs)))) (PF.args [.int .i64 v]) .nil:=by
 simp only[go_sem,OL,Mh,Mi,acJ];by_cases c:v<0
 ·have e:IntKind.u64.wrap (0-IntKind.u64.wrap v)=(v.natAbs:Int):=by rw[gY,gY];omega
  simp only[go_sem,c,Mj,e];refine aB (L.make v.natAbs Om) rfl ?_;simp only[go_sem];refine cY (.inr rfl) rfl ?_;rfl
 ·have e:IntKind.u64.wrap v=(v.natAbs:Int):=by rw[gY];omega
  simp only[go_sem,c,Mk,e];refine aB (L.make v.natAbs Om) rfl ?_;simp only[go_sem];refine cY (.inr rfl) rfl ?_;rfl
abbrev CL(e:Int):PV:=.tup [.agg (hL false [] []),.int .i64 e]
abbrev T3(neg:Bool)(a b:Nat):PV:=.tup [.agg (hL neg (aK a) (aK b)),.int .i64 0]
def EJ(neg:Bool)(a b:Nat):PV:=
 if cS (a/awM a b)>4096∨cS (b/awM a b)>4096 then CL 2 else T3 (neg&&decide (a/awM a b≠0)) (a/awM a b) (b/awM a b)
theorem pK{res:List dJ}{F:PF}{H:PH}{e:Int}(h:dJ.evs F H res=some [.agg [.bool false,.aH,.aH],.int .i64 e]):bD res (cV (CL e)) .ret F H:=
 bF (.inr rfl) .nil h a_ ⟨CoL.tup (.cons (CoL.agg (.cons (.refl _) (.cons (.nil 1) (.cons (.nil 1) .nil)))) (.cons (.refl _) .nil)),rfl⟩
theorem yr{n:Nat}:cS n>1↔n>1:=by
 have:=nN n 1;omega
theorem Yx{a n:Nat}(g:Nat)(h:nl a≤n):nl (a/g)≤n:=axT (kR (azO _ _)) h
theorem OQ{C:Ctx}(L:uJ C)(neg:Bool)(a b:List Nat)(p:Lim a)(hb:Lim b)(u:Z' a≤35184372087808)(w:Z' b≤35184372087808)(o:Nat)(F:PF)(H:PH)
  (f0:F 0=some (.bool neg)) (f1:F 1=some (aI a)) (f2:F 2=some (aI b)) (f6:F 6=some (.ptr o 3 0 0)) (f7:F 7=some (.int .i64 0)) (d:H o=some (.rows 3 [[.bool false,.aH,.aH]])) :
  aD.wp C (.seq (.seq (.region IH) (.cond (.tmp 40) (.seq (.region yV) .ret) .skip)) (.seq (.region II) .ret)) (bD wG.res (cV (if cS (val a)>4096∨cS (val b)>4096 then CL 2 else T3 (neg&&decide (val a≠0)) (val a) (val b)))) F H:=by
 have fin:∀(r:List (List PV)) F H,F 6=some (.ptr o 3 0 0)→F 7=some (.int .i64 2)→H o=some (.rows 3 [[.bool false,.aH,.aH]])→bD wG.res (cV (CL 2)) .ret F H:=by intro r F H A h7 h;refine pK ?_;simp only[go_sem,wG,A,h7,h]
 simp only[go_sem,IH,f1];refine aB (L.bits a p u) rfl ?_;by_cases x:cS (val a)>4096
 ·have i:((cS (val a):Nat):Int)>4096:=Om;rw[aF (.inl x)];simp only[go_sem,i,yV,f6,d];exact fin [] _ _ (by simp only[go_sem,f6]) rfl Sq
 ·have i:¬((cS (val a):Nat):Int)>4096:=Om;simp only[go_sem,i,f2];refine aB (L.bits b hb w) rfl ?_;by_cases y:cS (val b)>4096
  ·have l:((cS (val b):Nat):Int)>4096:=Om;rw[aF (.inr y)];simp only[go_sem,l,yV,f6,d];exact fin [] _ _ (by simp only[go_sem,f6]) rfl Sq
  ·have l:¬((cS (val b):Nat):Int)>4096:=Om;rw[aC Om];have last:∀F:PF,F 1=some (aI a)→F 2=some (aI b)→F 6=some (.ptr o 3 0 0)→∀(q:Bool),q=(neg&&decide (val a≠0))→F 47=some (.bool q) →
     True:=λ_ _ _ _ _ _ _=>trivial
   simp only[go_sem,l,II,f0,f1,f2,f6,d];cases neg with
   |false =>simp only[go_sem,f0,f1,f2,f6,d];refine aB (L.trim a p u) rfl ?_;simp only[go_sem,f0,f1,f2,f6,d];refine aB (L.trim b hb w) rfl ?_;simp only[go_sem,f0,f1,f2,f6,d,awY];refine bF (.inr rfl) .nil (vs:=[.agg (hL false (aK (val a)) (aK (val b))),.int .i64 0]) ?_ a_ ⟨.refl _,rfl⟩;simp only[go_sem,wG,f6,d]
   |true=>
    simp only[go_sem,f0,f1,f2,f6,d];refine aB (L.bits a p u) rfl ?_;have e:decide (((cS (val a):Nat):Int)>0)=decide (val a≠0):=by have:=@lG (val a);rw[decide_eq_decide];omega
    simp only[go_sem,f0,f1,f2,f6,d,e];refine aB (L.trim a p u) rfl ?_;simp only[go_sem,f0,f1,f2,f6,d];refine aB (L.trim b hb w) rfl ?_;simp only[go_sem,f0,f1,f2,f6,d,axN];refine bF (.inr rfl) .nil (vs:=[.agg (hL (decide (val a≠0)) (aK (val a)) (aK (val b))),.int .i64 0]) ?_ a_ ⟨.refl _,rfl⟩;simp only[go_sem,wG,f6,d]
theorem T0{C:Ctx}(L:uJ C)(neg:Bool)(a b:List Nat)(u:Lim a)(hb:Lim b)(w:Z' a≤35184372087808)(x:Z' b≤35184372087808)(y:nl (val a)≤512)(l:nl (val b)≤512)(A:val b≠0) :
  BD.wp C (bD wG.res (cV (EJ neg (val a) (val b)))) (PF.args [.bool neg,aI a,aI b]) .nil:=by
 simp only[go_sem,BD,dx,dy];refine aW λo E=>?_;simp only[go_sem];refine aB (L.gcd a b u hb w x) rfl ?_;rw[mJ y l];simp only[go_sem,dz];have e:awM (val a) (val b)≠0:=by intro h;exact A (Nat.gcd_eq_zero_iff.1 h).2
 have i:nl (awM (val a) (val b))≤512:=axT (kR (Nat.gcd_le_right _ (azI A))) l;have d:(aK (awM (val a) (val b))).length≤35184372087808:=by rw[bP];omega
 refine aB (L.bits _ (bG _) d) rfl ?_;rw[bB];by_cases c:awM (val a) (val b)>1
 ·have p:((cS (awM (val a) (val b)):Nat):Int)>1:=by have:=yr.2 c;omega
  simp only[go_sem,p,d3];refine aB (L.div a _ u (bG _) w d) rfl ?_;rw[bB,oO,mJ y i,aC aV,aC e];simp only[go_sem,d6];refine aB (L.div b _ hb (bG _) x d) rfl ?_;rw[bB,oO,mJ l i,aC aV,aC e];simp only[go_sem];have:=OQ L neg (aK (val a/awM (val a) (val b))) (aK (val b/awM (val a) (val b))) (bG _) (bG _) (by rw[bP];have:=Yx (awM (val a) (val b)) y;omega) (by rw[bP];have:=Yx (awM (val a) (val b)) l;omega) o;rw[bB,bB]at this;have:=λF H=>this F H;simp only[aD.wp,go_sem]at this;exact this _ _ rfl rfl rfl rfl rfl Sq
 ·have p:¬((cS (awM (val a) (val b)):Nat):Int)>1:=by have:=(@yr (awM (val a) (val b)));omega
  have B:awM (val a) (val b)=1:=Om;simp only[go_sem,p];rw[EJ,B,Nat.div_one,Nat.div_one];have:=OQ L neg a b u hb w x o;simp only[aD.wp,go_sem]at this;exact this _ _ rfl rfl rfl rfl rfl Sq
structure HE(C:Ctx):Prop extends uJ C where
 times:∀a b,Lim a→Lim b→Z' a≤35184372087808→Z' b≤35184372087808→nl (val a)≤256→nl (val b)≤256→aJ C 121 [aI a,aI b] .nil (aQ (aI (aK (val a*val b))))
 zero:∀neg a b,Lim a→Z' a≤35184372087808→aJ C 122 [.agg (hL neg a b)] .nil (aQ (.bool (decide (val a=0))))
 valid:∀neg a b,Lim a→Lim b→Z' a≤35184372087808→Z' b≤35184372087808→aJ C 118 [.agg (hL neg a b)] .nil (aQ (.bool (eO (val a) (val b))))
 abs:∀v:Int,-9223372036854775808≤v→v≤9223372036854775807→aJ C 119 [.int .i64 v] .nil (aQ (aI (aK v.natAbs)))
 lowest:∀neg a b,Lim a→Lim b→Z' a≤35184372087808→Z' b≤35184372087808→nl (val a)≤512→nl (val b)≤512→val b≠0→aJ C 120 [.bool neg,aI a,aI b] .nil (aQ (EJ neg (val a) (val b)))
def TE(n d:Int):PV:=if d=0 then CL 3 else EJ (decide (n<0) != decide (d<0)) n.natAbs d.natAbs
theorem qV{n k:Nat}(h:n<4294967296^k):nl n≤k:=(kC _ _).2 h
theorem D1(neg:Bool)(a b:Nat):∃d x y e,EJ neg a b=.tup [.agg (hL d x y),.int .i64 e]:=by
 unfold EJ;split
 ·exact⟨_,_,_,_,rfl⟩
 ·exact⟨_,_,_,_,rfl⟩
theorem acM{C:Ctx}(L:HE C)(n d:Int)(l:-9223372036854775808≤n)(p:n≤9223372036854775807)(u:-9223372036854775808≤d)(w:d≤9223372036854775807) :
  IJ.wp C (bD xh.res (cV (TE n d))) (PF.args [.int .i64 n,.int .i64 d]) .nil:=by
 simp only[go_sem,IJ,Aq,Ar];refine aW λo B=>?_;unfold TE;by_cases c:d=0
 ·subst c;simp only[go_sem,As];refine pK ?_;simp only[go_sem,xh]
 ·rw[aC c];simp only[go_sem,bO c,Au];refine aB (L.abs n l p) rfl ?_;simp only[go_sem];refine aB (L.abs d u w) rfl ?_;simp only[go_sem];have E:nl n.natAbs≤2:=qV Om;have F:nl d.natAbs≤2:=qV Om;have low:=L.lowest (decide (n<0) != decide (d<0)) (aK n.natAbs) (aK d.natAbs) (bG _) (bG _) (by rw[bP];omega) (by rw[bP];omega);rw[bB,bB]at low;have low:=low Om Om Om;refine aB low rfl ?_;obtain⟨i,x,y,e,A⟩:=D1 (decide (n<0) != decide (d<0)) n.natAbs d.natAbs;rw[A];simp only[go_sem];exact bF (.inr rfl) .nil (vs:=[.agg (hL i x y),.int .i64 e]) (by simp only[go_sem,xh]) a_ ⟨.refl _,rfl⟩
theorem pP{a b:Nat}:eO a b=true↔b≠0∧nl b≤128∧nl a≤128:=by
 have d:=zY b 128;have e:=zY a 128;have i:=@lG b;simp only[eO,awN,decide_eq_true_eq];omega
def TO(neg:Bool)(a b:Nat):PV:=if eO a b then EJ neg a b else CL 1
theorem T2{C:Ctx}(L:HE C)(neg:Bool)(a b:List Nat)(i:Lim a)(hb:Lim b)(l:Z' a≤35184372087808)(p:Z' b≤35184372087808) :
  BE.wp C (bD SS.res (cV (TO neg (val a) (val b)))) (PF.args [.agg (hL neg a b)]) .nil:=by
 simp only[go_sem,BE,d7,d8];refine aW λo B=>?_;simp only[go_sem];refine aB (L.valid neg a b i hb l p) rfl ?_;unfold TO;cases w:eO (val a) (val b)with
 |false =>simp only[go_sem,d9,axP];refine pK ?_;simp only[go_sem,SS]
 |true =>obtain⟨A,E,F⟩:=pP.1 w;simp only[go_sem,ef,awZ];refine aB (L.lowest neg a b i hb l p Om Om A) rfl ?_;obtain⟨d,x,y,e,u⟩:=D1 neg (val a) (val b);rw[u];simp only[go_sem];exact bF (.inr rfl) .nil (vs:=[.agg (hL d x y),.int .i64 e]) (by simp only[go_sem,SS]) a_ ⟨.refl _,rfl⟩
def BO(d:Bool)(a1 b1:Nat)(e:Bool)(a2 b2:Nat):Int:=
 match d&&decide (a1≠0),e&&decide (a2≠0)with
 |true,true=>- eT (a1*b2) (a2*b1)
 |true,false=>-1
 |false,true=>1
 |false,false=>eT (a1*b2) (a2*b1)
def yU(d:Bool)(a1 b1:Nat)(e:Bool)(a2 b2:Nat):PV:=
 if eO a1 b1&&eO a2 b2 then .tup [.int .i64 (BO d a1 b1 e a2 b2),.int .i64 0]else .tup [.int .i64 0,.int .i64 1]
def fr1:PV→List Nat
 | .agg [_,a,_]=>mX a
 |_=>[]
def frS:Spec:=λname vs=>match name,vs with
 |121,[x,y]=>some ([],λ_=>aQ (aI (aK (val (mX x)*val (mX y)))))
 |129,[x,y]=>some ([],λ_=>aQ (.int .i64 (eT (val (mX x)) (val (mX y)))))
 |122,[x]=>some ([],λ_=>aQ (.bool (decide (val (fr1 x)=0))))
 |_,_=>none
theorem xP(a b:List Nat):frS 121 [aI a,aI b]=some ([],λ_=>aQ (aI (aK (val a*val b)))):=by
 show some _=_;rw[fV,fV]
theorem aiB(a b:List Nat):frS 129 [aI a,aI b]=some ([],λ_=>aQ (.int .i64 (eT (val a) (val b)))):=by
 show some _=_;rw[fV,fV]
theorem XB(neg:Bool)(a b:List Nat):frS 122 [.agg (hL neg a b)]=some ([],λ_=>aQ (.bool (decide (val a=0)))):=by
 show some _=_;rw[fr1,fV]
theorem abO(a b:Nat):IntKind.i64.wrap (0-eT a b)=- eT a b:=by
 unfold eT;split
 ·rfl
 ·split<;>rfl
theorem ahZ{C:Ctx}(L:HE C)(u p:Bool)(a1 b1 a2 b2:List Nat)(i:Lim a1)(w:Lim b1)(d:Lim a2)(x:Lim b2)
  (l:Z' a1≤35184372087808) (y:Z' b1≤35184372087808) (e:Z' a2≤35184372087808) (E:Z' b2≤35184372087808) :
  ON.wp C (bD acK.res (cV (yU u (val a1) (val b1) p (val a2) (val b2)))) (PF.args [.agg (hL u a1 b1),.agg (hL p a2 b2)]) .nil:=by
 simp only[go_sem,ON,Mu,Mv];refine aB (L.valid u a1 b1 i w l y) rfl ?_;unfold yU;cases O:eO (val a1) (val b1)with
 |false =>simp only[go_sem,axP,lh,awY];exact bF (.inr rfl) .nil (vs:=[.int .i64 0,.int .i64 1]) rfl a_ ⟨.refl _,rfl⟩
 |true=>
  obtain⟨Z,R,S⟩:=pP.1 O;simp only[go_sem,awZ];refine aB (L.valid p a2 b2 d x e E) rfl ?_;cases Q:eO (val a2) (val b2)with
  |false =>simp only[go_sem,axP,lh,ayE];exact bF (.inr rfl) .nil (vs:=[.int .i64 0,.int .i64 1]) rfl a_ ⟨.refl _,rfl⟩
  |true=>
   obtain⟨w1,U,V⟩:=pP.1 Q;simp only[go_sem,awZ,azC];refine dH .nil frS a_ ?_;simp only[go_sem,Mw];refine eI (xP a1 b2) (L.times a1 b2 i x l E Om Om) rfl a_ ?_;simp only[go_sem];refine eI (xP a2 b1) (L.times a2 b1 d w e y Om Om) rfl a_ ?_;simp only[go_sem];have X:=xY S U;have Y:=xY V R;have J:=L.cmp (aK (val a1*val b2)) (aK (val a2*val b1)) (bG _) (bG _) (by rw[bP];omega) (by rw[bP];omega);have K:=aiB (aK (val a1*val b2)) (aK (val a2*val b1));rw[bB,bB]at J K;refine eI K J rfl a_ ?_;simp only[go_sem];refine dH .nil frS a_ ?_;have W:(!decide (val a1=0))=decide (val a1≠0):=by by_cases h:val a1=0<;>simp[h]
   have M:(!decide (val a2=0))=decide (val a2≠0):=by by_cases h:val a2=0<;>simp[h]
   have fin:∀(F:PF)(A B:Bool),F 6=some (.int .i64 (eT (val a1*val b2) (val a2*val b1)))→F 7=some (.bool A)→F 8=some (.bool B)→A=(u&&decide (val a1≠0))→B=(p&&decide (val a2≠0)) →
     aD.wp C (.seq (.block 0 (.seq (.region AB) (.cond (.tmp 42) (.seq (.region lj) .ret) (.seq (.region GM) (.cond (.tmp 49) (.seq (.region lk) .ret) (.seq (.region SP) (.cond (.tmp 51) (.seq (.region WZ) .ret) .skip))))))) (.seq (.region XA) .ret)) (bD acK.res (cV (.tup [.int .i64 (BO u (val a1) (val b1) p (val a2) (val b2)),.int .i64 0]))) F .nil:=by
    intro F A B f6 f7 H N hB;rw[BO,←N,←hB];cases A<;>cases B
    ·simp only[go_sem,AB,GM,SP,XA,f6,f7,H];exact bF (.inr rfl) .nil rfl a_ ⟨.refl _,rfl⟩
    ·simp only[go_sem,AB,GM,SP,WZ,f6,f7,H];exact bF (.inr rfl) .nil rfl a_ ⟨.refl _,rfl⟩
    ·simp only[go_sem,AB,GM,lk,f6,f7,H];exact bF (.inr rfl) .nil rfl a_ ⟨.refl _,rfl⟩
    ·simp only[go_sem,AB,lj,f6,f7,H,abO];exact bF (.inr rfl) .nil rfl a_ ⟨.refl _,rfl⟩
   simp only[aD.wp,go_sem]at fin;simp only[go_sem,Mx];cases u with
   |false=>
    simp only[go_sem];cases p with
    |false =>simp only[go_sem];exact fin _ false false rfl rfl rfl rfl rfl
    |true =>simp only[go_sem];refine eI (XB true a2 b2) (L.zero true a2 b2 d e) rfl a_ ?_;simp only[go_sem,M];exact fin _ false (decide (val a2≠0)) rfl rfl rfl rfl (by rw[axN])
   |true=>
    simp only[go_sem];refine eI (XB true a1 b1) (L.zero true a1 b1 i l) rfl a_ ?_;simp only[go_sem,W];cases p with
    |false =>simp only[go_sem];exact fin _ (decide (val a1≠0)) false rfl rfl rfl (by rw[axN]) rfl
    |true =>simp only[go_sem];refine eI (XB true a2 b2) (L.zero true a2 b2 d e) rfl a_ ?_;simp only[go_sem,M];exact fin _ (decide (val a1≠0)) (decide (val a2≠0)) rfl rfl rfl (by rw[axN]) (by rw[axN])
abbrev FV:=Bool × Nat × Nat
abbrev FR:=Except Int FV
def nM(neg:Bool)(a b:Nat):FR:=
 if cS (a/awM a b)>4096∨cS (b/awM a b)>4096 then .error 2 else .ok (neg&&decide (a/awM a b≠0),a/awM a b,b/awM a b)
def frV:FR→PV
 | .ok (n,a,b)=>T3 n a b
 | .error e=>CL e
theorem me(neg:Bool)(a b:Nat):EJ neg a b=frV (nM neg a b):=by
 unfold EJ nM;split<;>rfl
def lW:FV→FV→FR
 |(d,a1,b1),(e,a2,b2)=>if eO a1 b1&&eO a2 b2 then
   (if d=e then nM d (a1*b2+a2*b1) (b1*b2)else if a2*b1≤a1*b2 then nM d (a1*b2-a2*b1) (b1*b2)else nM e (a2*b1-a1*b2) (b1*b2))
  else .error 1
theorem alY{a b m:Nat}(d:nl a≤m)(hb:nl b≤m):nl (a+b)≤m+1:=by
 rw[kC]at d hb ⊢;rw[ayH];omega
theorem L9(a b:Nat):(eT a b≥0)↔b≤a:=by
 unfold eT;split
 ·constructor
  ·intro h;exact absurd h aV
  ·intro h;omega
 ·split
  ·constructor
   ·intro h;omega
   ·intro h;decide
  ·constructor
   ·intro h;omega
   ·intro h;decide
theorem SR(r:FR):∃d x y e,frV r=.tup [.agg (hL d x y),.int .i64 e]:=by
 rcases r with e|⟨n,a,b⟩
 ·exact⟨_,_,_,_,rfl⟩
 ·exact⟨_,_,_,_,rfl⟩
theorem ahY{C:Ctx}(L:HE C)(i p:Bool)(a1 b1 a2 b2:List Nat)(N:Lim a1)(E:Lim b1)(O:Lim a2)(J:Lim b2)
  (Q:Z' a1≤35184372087808) (K:Z' b1≤35184372087808) (R:Z' a2≤35184372087808) (M:Z' b2≤35184372087808) :
  OM.wp C (bD lf.res (cV (frV (lW (i,val a1,val b1) (p,val a2,val b2))))) (PF.args [.agg (hL i a1 b1),.agg (hL p a2 b2)]) .nil:=by
 simp only[go_sem,OM,Ml];refine aW λo ho=>?_;simp only[go_sem,Mm];refine aB (L.valid i a1 b1 N E Q K) rfl ?_;simp only[lW];cases hv:eO (val a1) (val b1)with
 |false =>simp only[go_sem,axP,lg,awY];refine pK ?_;simp only[go_sem,lf]
 |true=>
  obtain⟨v1,v2,v3⟩:=pP.1 hv;simp only[go_sem,awZ];refine aB (L.valid p a2 b2 O J R M) rfl ?_;cases hw:eO (val a2) (val b2)with
  |false =>simp only[go_sem,axP,lg,ayE];refine pK ?_;simp only[go_sem,lf]
  |true=>
   obtain⟨w1,w2,w3⟩:=pP.1 hw;simp only[go_sem,awZ,azC];refine dH .nil frS a_ ?_;simp only[go_sem,Mn];refine eI (xP a1 b2) (L.times a1 b2 N J Q M Om Om) rfl a_ ?_;simp only[go_sem];refine eI (xP a2 b1) (L.times a2 b1 O E R K Om Om) rfl a_ ?_;simp only[go_sem];refine eI (xP b1 b2) (L.times b1 b2 E J K M Om Om) rfl a_ ?_;simp only[go_sem];have m1:=xY v3 w2;have m2:=xY w3 v2;have m3:=xY v2 w2;have d0:val b1*val b2≠0:=Nat.mul_ne_zero v1 w1;generalize hA:val a1*val b2=A at *
   generalize hB:val a2*val b1=B at *
   generalize hD:val b1*val b2=D at *
   have fin:∀(F:PF)(H:PH)(r:FR),(∃d x y e,frV r=.tup [.agg (hL d x y),.int .i64 e]∧F 4=some (.ptr o 3 0 0)∧F 5=some (.int .i64 e)∧H o=some (.rows 3 [hL d x y]))→bD lf.res (cV (frV r)) .ret F H:=by rintro F H r ⟨d,x,y,e,he,f4,f5,hH⟩;rw[he];exact bF (.inr rfl) .nil (vs:=[.agg (hL d x y),.int .i64 e]) (by simp only[go_sem,lf,f4,f5,hH]) a_ ⟨.refl _,rfl⟩
   have V:(i==p)=decide (i=p):=by cases i<;>cases p<;>rfl
   have low:∀neg x,nl x≤257→aJ C 120 [.bool neg,aI (aK x),aI (aK D)] .nil (aQ (frV (nM neg x D))):=by
    intro neg x hx;have W:(aK x).length≤35184372087808:=by rw[bP];omega
    have Z:(aK D).length≤35184372087808:=by rw[bP];omega
    have:=L.lowest neg (aK x) (aK D) (bG _) (bG _) W Z;rw[bB,bB,me]at this;exact this Om Om d0
   have lA:(aK A).length≤35184372087808:=by rw[bP];omega
   have lB:(aK B).length≤35184372087808:=by rw[bP];omega
   simp only[go_sem,Mo];by_cases c:i=p
   ·rw[aF c];have S:(i==p)=true:=by rw[V,bQ c]
    simp only[go_sem,S,Mp];have u:=L.add (aK A) (aK B) (bG _) (bG _) lA lB;have α:=alY m1 m2;rw[bB,bB,mJ Om Om,opV,H9 Om]at u;refine aB u rfl ?_;simp only[go_sem,Mq];refine aB (low i _ Om) rfl ?_;obtain⟨d,x,y,e,l⟩:=SR (nM i (A+B) D);rw[l];simp only[go_sem];rw[←l];exact fin _ _ _ ⟨d,x,y,e,l,by simp only[go_sem],by simp only[go_sem],by simp only[go_sem]⟩
   ·rw[aC c];have S:(i==p)=false:=by rw[V,cU c]
    simp only[go_sem,S,Mr];have hc:=L.cmp (aK A) (aK B) (bG _) (bG _) lA lB;rw[bB,bB]at hc;refine aB hc rfl ?_;have w:∀X Y:Nat,nl X≤256→nl Y≤256→Y≤X→aJ C 134 [aI (aK X),aI (aK Y)] .nil (aQ (.tup [aI (aK (X-Y)),.int .i64 0])):=by intro X Y W Z h;have:=L.sub (aK X) (aK Y) (bG _) (bG _) (by rw[bP];omega) (by rw[bP];omega);have h3:=kR (Om:X-Y≤X);rw[bB,bB,BY,mJ Om Om,aC aV,aC Om,H9 Om]at this;exact this
    by_cases g:B≤A
    ·have U:eT A B≥0:=(L9 A B).2 g;rw[aF g];simp only[go_sem,U,Ms];refine aB (w A B Om Om g) rfl ?_;simp only[go_sem,Mt];have h3:=kR (Om:A-B≤A);refine aB (low i (A-B) Om) rfl ?_;obtain⟨d,x,y,e,l⟩:=SR (nM i (A-B) D);rw[l];simp only[go_sem];rw[←l];exact fin _ _ _ ⟨d,x,y,e,l,by simp only[go_sem],by simp only[go_sem],by simp only[go_sem]⟩
    ·have U:¬eT A B≥0:=λh=>g ((L9 A B).1 h);rw[aC g];simp only[go_sem,U,Ai];refine aB (w B A Om Om Om) rfl ?_;simp only[go_sem,Aj];have h3:=kR (Om:B-A≤B);refine aB (low p (B-A) Om) rfl ?_;obtain⟨d,x,y,e,l⟩:=SR (nM p (B-A) D);rw[l];simp only[go_sem];rw[←l];exact fin _ _ _ ⟨d,x,y,e,l,by simp only[go_sem],by simp only[go_sem],by simp only[go_sem]⟩
structure RF where
 neg:Bool
 num:List Nat
 den:List Nat
abbrev RF.cells(x:RF):List PV:=hL x.neg x.num x.den
def RF.Ok(x:RF):Prop:=Lim x.num∧Lim x.den∧Z' x.num≤35184372087808∧Z' x.den≤35184372087808
def RF.v(x:RF):FV:=(x.neg,val x.num,val x.den)
abbrev frs(l:List RF):PV:=.sl 3 (l.map RF.cells)
def FV.rf:FV→RF
 |(n,a,b)=>⟨n,aK a,aK b⟩
def FV.Small:FV→Prop
 |(_,a,b)=>nl a≤900000∧nl b≤900000
theorem FV.asO(x:FV):x.rf.v=x:=by
 obtain⟨n,a,b⟩:=x;show(n,val (aK a),val (aK b))=_;rw[bB,bB]
def tJ(l:List FV):FR:=l.foldlM lW (false,0,1)
theorem uZ{neg:Bool}{a b:Nat}{r:FV}(h:nM neg a b=.ok r):r.Small∧r.rf.Ok:=by
 unfold nM at h;split at h
 ·cases h
 ·rename_i i;have d:=(zY (a/awM a b) 128).1 Om;have e:=(zY (b/awM a b) 128).1 Om;injection h with h
  subst h;refine⟨⟨by omega,by omega⟩,bG _,bG _,?_,?_⟩
  ·show(aK _).length≤_;rw[bP];omega
  ·show(aK _).length≤_;rw[bP];omega
theorem Lm{x y r:FV}(h:lW x y=.ok r):r.rf.Ok:=by
 obtain⟨d,a1,b1⟩:=x;obtain⟨e,a2,b2⟩:=y;simp only[lW]at h;split at h
 ·split at h
  ·exact(uZ h).2
  ·split at h
   ·exact(uZ h).2
   ·exact(uZ h).2
 ·cases h
theorem Km{α β:Type}{f:β→α→Except Int β}(l:List α)(b:β){k:Nat}(h:k<Z' l):(l.take (k+1)).foldlM f b=((l.take k).foldlM f b).bind λx=>f x l[k]:=by
 rw[azH h,List.foldlM_append];cases(l.take k).foldlM f b with
 |error e=>rfl
 |ok x =>show([l[k]]:List α).foldlM f x=f x l[k];rw[List.foldlM_cons];cases f x l[k]<;>rfl
theorem T1{α β:Type}{f:β→α→Except Int β}(l:List α)(b:β){k:Nat}{e:Int}(h:(l.take k).foldlM f b=.error e):l.foldlM f b=.error e:=by
 conv=>lhs;rw[←azN k l,List.foldlM_append,h]
 rfl
def afL(l:List RF)(o2 o4:Nat)(k:Nat):PF:=((((((PF.nil.set 2 (.ptr o2 3 0 0)).set 3 (.int .i64 0)).set 4 (.ptr o4 3 0 0)).set 11 (frs l)).set 12 (.int .i64 (Z' l:Nat))).set 13 (.int .i64 k))
def aa(o2 o4:Nat)(c:List PV):PH:=(PH.nil.set o2 (.rows 3 [[.bool false,.aH,.aH]])).set o4 (.rows 3 [c])
theorem aiE{C:Ctx}(L:HE C)(R:∀x y:RF,x.Ok→y.Ok→aJ C 113 [.agg x.cells,.agg y.cells] .nil (aQ (frV (lW x.v y.v))))(l:List RF)(hl:∀x∈l,x.Ok)(Z:Z' l≤9223372036854775807) :
  OR.wp C (bD Ay.res (cV (frV (tJ (l.map RF.v))))) (PF.args [frs l]) .nil:=by
 simp only[go_sem,OR,Mz];refine aW λo2 β=>?_;simp only[go_sem,M0];refine aB (L.make 1 aV) rfl ?_;simp only[go_sem];refine aW λo4 S=>?_;have p:o4≠o2:=by rintro rfl;simp only[aU,if_true]at S;cases S
 have d:o2≠o4:=Ne.symm p;simp only[go_sem,M1];refine wp_loop (α:=Nat × FV × PV) (λt=>afL l o2 o4 t.1) (λt=>aa o2 o4 [.bool t.2.1.1,t.2.2,aI (aK t.2.1.2.2)]) (λt=>t.1≤Z' l∧((l.map RF.v).take t.1).foldlM lW (false,0,1)=.ok t.2.1∧(t.2.2=.aH∧t.2.1.2.1=0∨t.2.2=aI (aK t.2.1.2.1))∧(FV.rf t.2.1).Ok) (λt=>Z' l-t.1)
  (0,(false,0,1),.aH) ⟨axB _,rfl,.inl ⟨rfl,rfl⟩,⟨bG _,bG _,?_,?_⟩⟩ ?_ ?_ ?_
 ·show(aK 0).length≤_;rw[iD];simp
 ·show(aK 1).length≤_;rw[pX aV aV];simp
 ·unfold afL
  (repeat' (first|exact d_|refine c_ ?_ ?_))<;>first|(simp only[go_sem,awL]<;>rfl)|rfl
 ·unfold aa;exact PH.aN (PH.aN a_ (by simp only[go_sem,d,p])) (by simp only[go_sem,d,p])
 rintro⟨k,⟨Q,U,O⟩,Y⟩ ⟨hk,W,N,J⟩;simp only at hk W N J ⊢;have K:CoL [.bool Q,Y,aI (aK O)] (FV.rf (Q,U,O)).cells:=by
  refine .cons (.refl _) (.cons ?_ (.cons (.refl _) .nil));rcases N with⟨rfl,rfl⟩|rfl
  ·show Co .aH (aI (aK 0));rw[iD];exact .nil 1
  ·exact .refl _
 simp only[go_sem,Az,M2,afL];by_cases hlt:k<Z' l
 ·have A:(k:Int)<(Z' l:Nat):=Om;have hr:(l.map RF.cells)[k]?=some (l[k]).cells:=by simp[hlt]
  simp only[go_sem,A,M3,hr];refine aW λo6 F=>?_;have B:o4≠o6:=by rintro rfl;simp only[aa,aU,if_true]at F;cases F
  have w:o2≠o6:=by rintro rfl;simp only[aa,aU,if_true,aC d]at F;cases F
  simp only[go_sem,M4,aa,B,w,p,d];refine aB ((R (FV.rf (Q,U,O)) l[k] J (hl _ (awS hlt))).args (.cons (CoL.agg K) (.cons (.refl _) .nil))) rfl ?_;rw[FV.asO];have i:=Km (f:=lW) (l.map RF.v) (false,0,1) (k:=k) (by simpa using hlt);rw[W]at i;simp only[Except.bind,ayR]at i;cases V:lW (Q,U,O) (l[k]).v with
  |error e=>
   simp only[go_sem,frV];refine aW λo7 u=>?_;have X:e≠0:=by
    revert V;obtain⟨n2,a2,b2⟩:=(l[k]).v;simp only[lW,nM]
    repeat' split
    all_goals (intro h;first|(injection h with h;subst h;decide)|cases h)
   have E:o2≠o7:=by rintro rfl;simp only[aU,w,d,if_true,if_false]at u;cases u
   simp only[go_sem,lm,fJ X,M5,E,w,d];rw[V]at i;rw[tJ,T1 _ _ i];refine pK ?_;simp only[go_sem,Ay]
  |ok r=>
   obtain⟨rn,ra,rb⟩:=r;simp only[go_sem,frV];refine aW λo7 u=>?_;have H:o4≠o7:=by rintro rfl;simp only[aU,B,if_true,if_false]at u;cases u
   have E:o2≠o7:=by rintro rfl;simp only[aU,w,d,if_true,if_false]at u;cases u
   simp only[go_sem,lm,M6,H,E,B,w,p,d,Ne.symm H,M7,wZz k];rw[V]at i;refine aP (k+1,(rn,ra,rb),aI (aK ra)) ⟨hlt,i,.inr rfl,Lm V⟩ (by simp only;omega) ?_ ?_
   ·exact Lq
   ·refine PH.aN (PH.aN a_ ?_) ?_
    ·simp only[go_sem,d,p,H,E,B,w]
    ·simp only[go_sem,d,p,H,E,B,w]
 ·have A:¬(k:Int)<(Z' l:Nat):=Om;have:k=Z' l:=Om;subst this;rw[axE aY]at W;rw[tJ,W];have M:cV (frV (.ok (Q,U,O))) (cR [.agg [.bool Q,Y,aI (aK O)],.int .i64 0]) .nil:=⟨CoL.tup (.cons (CoL.agg K) (.cons (.refl _) .nil)),rfl⟩;rcases N with⟨rfl,rfl⟩|rfl
  ·simp only[go_sem,A,XD,aa,p,d];refine bF (.inr rfl) .nil ?_ a_ M;simp only[go_sem,Ay,p,d]
  ·simp only[go_sem,A,XD,aa,p,d];refine bF (.inr rfl) .nil ?_ a_ M;simp only[go_sem,Ay,p,d]
def PI:=cP [] Proofs.Tryz.f172
def rR:=aA PI 0
def rS:=aA PI 1
def nB:aD:=(sq rR (sq rS .ret))
def TD:bH:=⟨1,17,nB,[.tmp 2]⟩
def UK:=cP [] Proofs.Tryz.f188
def CU:=aA UK 0
def CV:=aA UK 1
def sO:aD:=(sq CU (sq CV .ret))
def fv:bH:=⟨1,9,sO,[.tmp 2]⟩
def UL:=cP [] Proofs.Tryz.f173
def sy:=aA UL 0
def s7:=aA UL 1
def EH:aD:=(sq sy (sq s7 .ret))
def gf:bH:=⟨1,17,EH,[.tmp 2]⟩
def mK:=cP [] Proofs.Tryz.f132
def JH:=aA mK 0
def JI:=aA mK 1
def JJ:=aA mK 2
def Ds:=aA mK 3
def Dt:=aA mK 4
def Du:=aA mK 5
def Dv:=aA mK 6
def Dw:=aA mK 7
def Dr:aD:=(gW Dt 20 0 Dw (sq Du (.cond (Tm 27) (sq Dv .ret) .skip)))
def Dx:=aA mK 8
def uY:aD:=(sq JH (eS JI 16 JJ (.seq (dK Ds 0 Dr) (sq Dx .ret))))
def xk:bH:=⟨1,28,uY,[.tmp 2]⟩
def Cb:=cP [] Proofs.Tryz.f70
def ff:=aA Cb 0
def fg:=aA Cb 1
def BF:aD:=(sq ff (sq fg .ret))
def gin:bH:=⟨3,15,BF,[.tmp 6]⟩
def UF:=cP [1] Proofs.Tryz.f126
def rz:=aA UF 0
def r8:=aA UF 1
def EE:aD:=(sq rz (sq r8 .ret))
def A4:bH:=⟨1,7,EE,[.tmp 2]⟩
def OX:=cP [1] Proofs.Tryz.f125
def No:=aA OX 0
def Np:=aA OX 1
def SV:=aA OX 2
def OW:aD:=(sq No (sq Np (sq SV .ret)))
def acU:bH:=⟨1,29,OW,[.tmp 2]⟩
def CS:=cP [1] Proofs.Tryz.f171
def Nt:=aA CS 0
def Nu:=aA CS 1
def Nv:=aA CS 2
def l2:=aA CS 3
def OZ:aD:=(sq Nt (sq Nu (sq Nv (sq l2 .ret))))
def gone:bH:=⟨1,23,OZ,[.tmp 2]⟩
def oE:=cP [] Proofs.Tryz.f127
def Bg:=aA oE 0
def Bh:=aA oE 1
def Bi:=aA oE 2
def Bj:=aA oE 3
def Bk:=aA oE 4
def Bl:=aA oE 5
def Bm:=aA oE 6
def Bf:aD:=(fB Bi 10 0 Bm (sq Bj (sq Bk (.cond (Tm 16) (sq Bl .ret) .skip))))
def Bn:=aA oE 7
def IP:aD:=(sq Bg (.seq (dK Bh 0 Bf) (sq Bn .ret)))
def T8:bH:=⟨2,18,IP,[.tmp 4]⟩
def oF:=cP [] Proofs.Tryz.f168
def Bp:=aA oF 0
def Bq:=aA oF 1
def Br:=aA oF 2
def Bs:=aA oF 3
def Bt:=aA oF 4
def Bu:=aA oF 5
def Bv:=aA oF 6
def Bo:aD:=(fB Br 10 0 Bv (sq Bs (sq Bt (.cond (Tm 16) (sq Bu .ret) .skip))))
def Bw:=aA oF 7
def IQ:aD:=(sq Bp (.seq (dK Bq 0 Bo) (sq Bw .ret)))
def T9:bH:=⟨2,18,IQ,[.tmp 4]⟩
def oC:=cP [] Proofs.Tryz.f166
def A6:=aA oC 0
def A7:=aA oC 1
def A8:=aA oC 2
def A9:=aA oC 3
def Ba:=aA oC 4
def Bb:=aA oC 5
def Bc:=aA oC 6
def A5:aD:=(fB A8 10 0 Bc (sq A9 (sq Ba (.cond (Tm 16) (sq Bb .ret) .skip))))
def Be:=aA oC 7
def IN:aD:=(sq A6 (.seq (dK A7 0 A5) (sq Be .ret)))
def T7:bH:=⟨2,18,IN,[.tmp 4]⟩
def UG:=cP [] Proofs.Tryz.f167
def r9:=aA UG 0
def sa:=aA UG 1
def EF:aD:=(sq r9 (sq sa .ret))
def B0:bH:=⟨1,4,EF,[.tmp 2]⟩
def fY:=cP [1] Proofs.Tryz.f129
def B1:=aA fY 0
def B5:=aA fY 1
def B6:=aA fY 2
def B7:=aA fY 3
def B8:=aA fY 4
def XE:=aA fY 5
def B9:=aA fY 6
def XF:=aA fY 7
def XG:=aA fY 8
def Ca:=aA fY 9
def sd:=aA fY 10
def OT:=aA fY 11
def CQ:=aA fY 12
def CO:aD:=(fB Ca 45 4 CQ (sq sd (.region OT)))
def OU:=aA fY 13
def CP:aD:=(fB XE 21 2 OU (sq B9 (sq XF (dK XG 4 CO))))
def se:=aA fY 14
def sb:aD:=(gW B7 15 0 se (dK B8 2 CP))
def sf:=aA fY 15
def IR:aD:=(sq B1 (sq B5 (.seq (dK B6 0 sb) (sq sf .ret))))
def Ud:bH:=⟨1,70,IR,[.tmp 2]⟩
def jI:=cP [1] Proofs.Tryz.f72
def Ng:=aA jI 0
def Nh:=aA jI 1
def Ni:=aA jI 2
def AG:=aA jI 3
def Nj:=aA jI 4
def Nk:=aA jI 5
def Nl:=aA jI 6
def Nm:=aA jI 7
def SU:=aA jI 8
def Nn:=aA jI 9
def Cc:aD:=(fB Nk 48 0 Nn (sq Nl (sq Nm (.cond (Tm 67) (sq SU .ret) .skip))))
def XH:=aA jI 10
def IS:=aA jI 11
def IT:=aA jI 12
def wK:=aA jI 13
def OV:aD:=(sq Ng (sq Nh (eS Ni 43 AG (.seq (dK Nj 0 Cc) (sq XH (sq IS (sq IT (sq wK .ret))))))))
def acT:bH:=⟨1,95,OV,[.tmp 2]⟩
def lC:=cP [] Proofs.Tryz.f74
def Cs:=aA lC 0
def Ct:=aA lC 1
def Cu:=aA lC 2
def Cv:=aA lC 3
def Cw:=aA lC 4
def Cx:=aA lC 5
def XM:=aA lC 6
def Cy:=aA lC 7
def Cz:=aA lC 8
def Cr:aD:=(fB Cv 10 0 Cz (sq Cw (eS Cx 20 XM (.region Cy))))
def sk:=aA lC 9
def IW:aD:=(sq Cs (sq Ct (.seq (dK Cu 0 Cr) (sq sk .ret))))
def Ui:bH:=⟨1,24,IW,[.tmp 2]⟩
def jW:=cP [1] Proofs.Tryz.f71
def ln:=aA jW 0
def lz:=aA jW 1
def M8:=aA jW 2
def M9:=aA jW 3
def AF:=aA jW 4
def wJ:=aA jW 5
def Nb:=aA jW 6
def Nc:=aA jW 7
def Nd:=aA jW 8
def Nf:=eE jW 0
def wI:=aA jW 9
def By:=aA jW 10
def Bx:aD:=(fB Nc 48 0 By (sq Nd (dq Nf (.cond (Tm 87) (sq wI .ret) .skip))))
def Bz:=aA jW 11
def CN:aD:=(sq ln (eS lz 9 M8 (sq M9 (eS AF 42 wJ (.seq (dK Nb 0 Bx) (sq Bz .ret))))))
def Ub:bH:=⟨1,89,CN,[.tmp 2]⟩
def fh:=cP [] Proofs.Tryz.f169
def Cd:=aA fh 0
def Ce:=aA fh 1
def IU:aD:=(sq Cd (sq Ce .ret))
def Ue:bH:=⟨1,5,IU,[.tmp 2]⟩
def CR:=cP [7] Proofs.Tryz.f130
def Nq:=aA CR 0
def Nr:=aA CR 1
def AH:=aA CR 2
def Ns:=aA CR 3
def OY:aD:=(sq Nq (eS Nr 36 AH (sq Ns .ret)))
def acV:bH:=⟨4,39,OY,[.tmp 8]⟩
def UH:=cP [1] Proofs.Tryz.f170
def sg:=aA UH 0
def sj:=aA UH 1
def EG:aD:=(sq sg (sq sj .ret))
def Cj:bH:=⟨1,9,EG,[.tmp 2]⟩
def fi:=cP [6,7] Proofs.Tryz.f131
def Ck:=aA fi 0
def Cl:=aA fi 1
def IV:aD:=(sq Ck (sq Cl .ret))
def Uf:bH:=⟨4,30,IV,[.tmp 8]⟩
def kU:=cP [2] Proofs.Tryz.f73
def Nw:=aA kU 0
def Nx:=aA kU 1
def SW:=aA kU 2
def Ny:=aA kU 3
def Nz:=aA kU 4
def N0:=aA kU 5
def N1:=aA kU 6
def N2:=aA kU 7
def l3:=aA kU 8
def N3:=aA kU 9
def Cg:=aA kU 10
def Cf:aD:=(fB N0 42 0 Cg (sq N1 (eS N2 55 l3 (.region N3))))
def Ch:=aA kU 11
def PA:aD:=(sq Nw (eS Nx 35 SW (sq Ny (.seq (dK Nz 0 Cf) (sq Ch .ret)))))
def acX:bH:=⟨2,60,PA,[.tmp 4]⟩
def cC:=cP [1,76,94,128,141,183,204] Proofs.Tryz.f28
def N4:=aA cC 0
def N5:=aA cC 1
def rP:=aA cC 2
def N6:=aA cC 3
def N7:=aA cC 4
def l4:=aA cC 5
def N8:=aA cC 6
def N9:=aA cC 7
def Oa:=aA cC 8
def l5:=aA cC 9
def XN:=aA cC 10
def IX:aD:=(fB N8 70 0 XN (sq N9 (sq Oa (.region l5))))
def XO:=aA cC 11
def C0:=aA cC 12
def C1:=aA cC 13
def C2:=aA cC 14
def XP:=aA cC 15
def BI:=aA cC 16
def IY:aD:=(fB C0 88 2 BI (sq C1 (sq C2 (.region XP))))
def XQ:=aA cC 17
def C3:=aA cC 18
def C4:=aA cC 19
def C5:=aA cC 20
def C6:=aA cC 21
def IZ:aD:=(fB C3 122 4 C6 (sq C4 (.region C5)))
def XR:=aA cC 22
def C7:=aA cC 23
def C8:=aA cC 24
def C9:=aA cC 25
def XS:=aA cC 26
def wL:=aA cC 27
def JA:aD:=(fB C7 135 6 wL (sq C8 (sq C9 (.region XS))))
def XT:=aA cC 28
def Da:=aA cC 29
def Db:=aA cC 30
def Dc:=aA cC 31
def XU:=aA cC 32
def XV:=aA cC 33
def JB:aD:=(fB Da 177 8 XV (sq Db (sq Dc (.region XU))))
def XW:=aA cC 34
def Dd:=aA cC 35
def De:=aA cC 36
def Df:=aA cC 37
def XY:=aA cC 38
def XZ:=aA cC 39
def JC:aD:=(fB Dd 198 10 XZ (sq De (sq Df (.region XY))))
def BJ:=aA cC 40
def pM:=aA cC 41
def JD:=aA cC 42
def PB:aD:=(sq N4 (eS N5 65 rP (sq N6 (sq N7 (.seq (dK l4 0 IX) (.seq (dK XO 2 IY) (.seq (dK XQ 4 IZ) (.seq (dK XR 6 JA) (.seq (dK XT 8 JB) (.seq (dK XW 10 JC) (eS BJ 243 pM (sq JD .ret))))))))))))
def adD:bH:=⟨1,244,PB,[.tmp 2]⟩
@[go_sem] theorem aoM(a b:List UInt8):GH .eql a b=some (.bool (a==b)):=(rfl)
@[go_sem] theorem aoN(a b:List UInt8):GH .neq a b=some (.bool !(a==b)):=(rfl)
@[go_sem] theorem R6(a b:List UInt8):GH .add a b=if((Z' a+Z' b:Nat):Int)>9223372036854775807 then none else some (.str (a++b)):=(rfl)
@[go_sem] theorem akW:(([]:List UInt8)==[])=true:=(rfl)
@[go_sem] theorem ahJ(c:UInt8)(t:List UInt8):((c::t)==[])=false:=(rfl)
theorem rK{a b:List UInt8}(h:a=b):(a==b)=true:=by simp[h]
theorem bu{a b:List UInt8}(h:a≠b):(a==b)=false:=by simp[h]
section
variable {C:Ctx} {F:PF} {H:PH}
theorem sS{name o s:Nat}{rs:List (List PV)}{vs:List PV}{v:PV}{args:List aO}{d:Option Nat}{K:PF→PH→Prop}(h:aJ C name vs .nil (aQ v))(l:H o=some (.rows s rs))
  (i:aO.evs (F.frz o s rs) args=some vs) (e:K ((F.frz o s rs).put d v) (H.frz o s rs)):kN C name args [] d K F H:=by
 refine .inr ⟨_,_,.step o l (.refl _ _),vs,.nil,aQ v,?_,a_,h,?_⟩
 ·rw[i];simp
 ·rintro r H' ⟨rfl,rfl⟩ -;rw[PH.BP];exact e
theorem iV.trans{d e i:PF}{l H2 p:PH}(h:iV d l e H2)(k:iV e H2 i p):iV d l i p:=by
 induction h with
 |refl=>exact k
 |step o u h w=>exact .step o u (w k)
theorem sC{c:aD}{K:cJ}{s:Nat}{v:PV}{rows:List (List PV)}(M:bX H s v rows)
  (h:∀e,Seen s e rows→∀d l,(∀t,F t=some v→d t=some e)→(∀i u,F i=some u→Pure u→d i=some u)→aD.wp C (.loop c) K d l):aD.wp C (.loop c) K F H:=by
 obtain⟨e,N,J⟩:=M.frz;obtain⟨d,l,O,B,E⟩:=J F;obtain⟨α,x,Hs,y,m,A,w,H2,p,rest⟩:=h e N d l B E;exact⟨α,x,Hs,y,m,A,w,H2,O.trans p,rest⟩
theorem aJ.V4{name s:Nat}{v:PV}{rows:List (List PV)}{d:PH}{R:PV→PH→Prop}(h:aJ C name [.sl s rows] d R)(i:Seen s v rows):aJ C name [v] d R:=by
 rcases i with⟨rfl,rfl⟩|rfl
 ·refine h.args ⟨rfl,λj p q hp e=>?_⟩;cases j with
  |zero=>simp at hp e;subst hp;subst e;exact .nil s
  |succ j=>simp at hp
 ·exact h
theorem bX.fresh{s:Nat}{v:PV}{rows:List (List PV)}{o:Nat}(h:bX H s v rows)(p:H o=none)(x:aR):bX (H.set o x) s v rows∧∀l,v≠.osl o s 0 l:=by
 refine⟨h.ext λq y i=>?_,λl e=>?_⟩
 ·have:q≠o:=by rintro rfl;rw[p]at i;cases i
  simp only[aU,aC this,i]
 ·rcases h with⟨_,d⟩|⟨q,rs,h1,d,_⟩
  ·rw[d]at e;cases e
  ·rw[h1]at e;injection e with u
   subst u;rw[p]at d;cases d
theorem oT{s b:Nat}{v:PV}{rows:List (List PV)}{r:List PV}{o:Nat}{x:aR}{K:PV→PH→Prop}(h:bX H s v rows)(p:H o=none)(u:roomFor rows.length 1 b)
  (l:∀v' H',bX H' s v' (rows++[r])→H' o=some x→K v' H'):pQ (H.set o x) s b v (.sl s [r]) K:=by
 obtain⟨d,e⟩:=h.fresh p x;refine jN (src:=[r]) d (by simp[dD]) u λv' H' i hp=>l v' H' i (hp o x (by simp only[aU,if_true]) e)
theorem AE{o s k:Nat}{rs:List (List PV)}(d:k≤Z' rs):PV.frz o s rs (.osl o s 0 k)=.sl s (rs.take k):=by
 have:0+k≤Z' rs:=Om;simp only[PV.frz,PV.pL,PV.dB,if_true,true_and,aF this,axU]
end
def jZ(n:Nat):Bool:=decide (97≤n)&&decide (n≤122)||decide (65≤n)&&decide (n≤90)
def uQ(n:Nat):Bool:=decide (48≤n)&&decide (n≤57)
def jY(n:Nat):Bool:=jZ n||uQ n||decide (n=45)||decide (n=46)
theorem Uz{C:Ctx}(n:Nat):nB.wp C (bD TD.res (aQ (.bool (jZ n)))) (PF.args [.int .u8 n]) .nil:=by
 have fin:∀(F:PF)(b:Bool),F 2=some (.bool b)→b=jZ n→bD TD.res (aQ (.bool (jZ n))) .ret F .nil:=by intro F b h e;subst e;refine cY (.inr rfl) (vs:=[.bool (jZ n)]) (by simp only[go_sem,TD,h]) rfl
 unfold jZ at *
 by_cases a:97≤n
 ·have i:(n:Int)≥97:=Om;by_cases b:n≤122
  ·have p:(n:Int)≤122:=Om;simp only[go_sem,nB,rR,rS,i,p];exact fin _ _ rfl (by simp[a,b])
  ·have p:¬(n:Int)≤122:=Om;by_cases c:65≤n
   ·have l:(n:Int)≥65:=Om;have d:¬(n:Int)≤90:=Om;simp only[go_sem,nB,rR,rS,i,p,l,d];exact fin _ _ rfl (by simp[a,b,c];omega)
   ·omega
 ·have i:¬(n:Int)≥97:=Om;by_cases c:65≤n
  ·have l:(n:Int)≥65:=Om;by_cases d:n≤90
   ·have u:(n:Int)≤90:=Om;simp only[go_sem,nB,rR,rS,i,l,u];exact fin _ _ rfl (by simp[a,c,d])
   ·have u:¬(n:Int)≤90:=Om;simp only[go_sem,nB,rR,rS,i,l,u];exact fin _ _ rfl (by simp[a,c,d])
  ·have l:¬(n:Int)≥65:=Om;simp only[go_sem,nB,rR,rS,i,l];exact fin _ _ rfl (by simp[a,c])
theorem Yk{C:Ctx}(n:Nat):sO.wp C (bD fv.res (aQ (.bool (uQ n)))) (PF.args [.int .u8 n]) .nil:=by
 have fin:∀(F:PF)(b:Bool),F 2=some (.bool b)→b=uQ n→bD fv.res (aQ (.bool (uQ n))) .ret F .nil:=by intro F b h e;subst e;refine cY (.inr rfl) (vs:=[.bool (uQ n)]) (by simp only[go_sem,fv,h]) rfl
 unfold uQ at *
 by_cases a:48≤n
 ·have d:(n:Int)≥48:=Om;by_cases b:n≤57
  ·have i:(n:Int)≤57:=Om;simp only[go_sem,sO,CU,CV,d,i];exact fin _ _ rfl (by simp[a,b])
  ·have i:¬(n:Int)≤57:=Om;simp only[go_sem,sO,CU,CV,d,i];exact fin _ _ rfl (by simp[a,b])
 ·have d:¬(n:Int)≥48:=Om;simp only[go_sem,sO,CU,CV,d];exact fin _ _ rfl (by simp[a])
theorem Yo{C:Ctx}(p:∀n:Nat,aJ C 126 [.int .u8 n] .nil (aQ (.bool (jZ n))))(u:∀n:Nat,aJ C 124 [.int .u8 n] .nil (aQ (.bool (uQ n))))(n:Nat) :
  EH.wp C (bD gf.res (aQ (.bool (jY n)))) (PF.args [.int .u8 n]) .nil:=by
 have fin:∀(F:PF)(b:Bool),F 2=some (.bool b)→b=jY n→bD gf.res (aQ (.bool (jY n))) .ret F .nil:=by intro F b h e;subst e;refine cY (.inr rfl) (vs:=[.bool (jY n)]) (by simp only[go_sem,gf,h]) rfl
 simp only[go_sem,EH,sy,s7];refine aB (p n) rfl ?_;cases l:jZ n with
 |true =>simp only[go_sem];exact fin _ _ rfl (by simp[jY,l])
 |false=>
  simp only[go_sem];refine aB (u n) rfl ?_;cases i:uQ n with
  |true =>simp only[go_sem];exact fin _ _ rfl (by simp[jY,i])
  |false=>
   by_cases c:n=45
   ·simp only[go_sem,cH (Om:(n:Int)=45)];exact fin _ _ rfl (by simp[jY,c])
   ·by_cases d:n=46
    ·simp only[go_sem,bO (Om:(n:Int)≠45),cH (Om:(n:Int)=46)];exact fin _ _ rfl (by simp[jY,d])
    ·simp only[go_sem,bO (Om:(n:Int)≠45),bO (Om:(n:Int)≠46)];exact fin _ _ rfl (by simp[jY,c,d,l,i])
def isName(s:List UInt8):Bool:=match s with
 |[]=>false
 |c::_=>decide (Z' s≤16)&&jZ c.toNat&&s.all λc=>jY c.toNat
theorem HH{α:Type}{p:α→Bool}{l:List α}{k:Nat}(d:k<Z' l)(h:(l.take k).all p=true)(hp:p l[k]=true):(l.take (k+1)).all p=true:=by
 rw[azH d,List.all_append,h];simp[hp]
theorem HI{α:Type}{p:α→Bool}{l:List α}{k:Nat}(d:k<Z' l)(hp:p l[k]=false):l.all p=false:=by
 rw[List.all_eq_false];exact⟨l[k],awS d,by simp[hp]⟩
def Dq(s:List UInt8)(k:Nat):PF:=((PF.nil.set 0 (.str s)).set 3 (.int .i64 k))
theorem adO{C:Ctx}(y:∀n:Nat,aJ C 126 [.int .u8 n] .nil (aQ (.bool (jZ n))))(A:∀n:Nat,aJ C 125 [.int .u8 n] .nil (aQ (.bool (jY n))))(s:List UInt8) :
  uY.wp C (bD xk.res (aQ (.bool (isName s)))) (PF.args [.str s]) .nil:=by
 have fin:∀(F:PF)(b:Bool),F 2=some (.bool b)→b=isName s→bD xk.res (aQ (.bool (isName s))) .ret F .nil:=by intro F b h e;subst e;refine cY (.inr rfl) (vs:=[.bool (isName s)]) (by simp only[go_sem,xk,h]) rfl
 cases s with
 |nil =>simp only[go_sem,uY,JH,JI,JJ];exact fin _ _ rfl rfl
 |cons c t=>
  have E:(c::t)[0]?=some c:=rfl;have p:(c::t==[])=false:=rfl;have l:isName (c::t)=(decide ((c::t).length≤16)&&jZ c.toNat&&(c::t).all λc=>jY c.toNat):=rfl;generalize c::t=s at *
  by_cases x:Z' s≤16
  ·have i:¬(Z' s:Int)>16:=Om;rw[bQ x,axN]at l;simp only[go_sem,uY,JH,JI,p,i,E,axF];refine aB (y c.toNat) rfl ?_;cases w:jZ c.toNat with
   |false =>simp only[go_sem,axP,JJ];exact fin _ _ rfl (by rw[l,w];rfl)
   |true=>
    rw[w,axN]at l;simp only[go_sem,awZ,Ds];refine wp_loop (α:=Nat) (λk=>Dq s k) (λ_=>.nil) (λk=>k≤Z' s∧(s.take k).all (λc=>jY c.toNat)=true) (λk=>Z' s-k) 0 ⟨axB _,rfl⟩ ?_ a_ ?_
    ·unfold Dq;exact Lq
    rintro k ⟨H,u⟩;simp only[go_sem,Dr,Dt,Dq];by_cases hlt:k<Z' s
    ·have d:(k:Int)<(Z' s:Nat):=Om;have B:s[k]?=some s[k]:=awX hlt;simp only[go_sem,d,Du,B,axF];refine aB (A (s[k]).toNat) rfl ?_;cases hi:jY (s[k]).toNat with
     |false =>simp only[go_sem,axP,Dv];refine fin _ false rfl ?_;rw[l,HI hlt hi]
     |true =>simp only[go_sem,awZ,Dw,wZz k];refine aP (k+1) ⟨hlt,axK.1 (HH hlt u hi)⟩ Om ?_ a_;exact Lq
    ·have d:¬(k:Int)<(Z' s:Nat):=Om;simp only[go_sem,d,Dx];have:k=Z' s:=Om;subst this;rw[axE (awP _)]at u;exact fin _ true rfl (by rw[l,u])
  ·have i:(Z' s:Int)>16:=Om;simp only[go_sem,uY,JH,JI,JJ,p,i];exact fin _ _ rfl (by rw[l,cU x];rfl)
abbrev dX(x:Int):Prop:=-9223372036854775808≤x∧x≤9223372036854775807
structure dE where
 name:List UInt8
 start:List RF
 avF:List (List RF)
 exit:List RF
structure eF where
 name:List UInt8
 avQ:Int
 port:Int
 law:Int
structure cX where
 name:List UInt8
 level:Int
 parent:Int
 avU:Int
 avP:RF
structure dQ where
 name:List UInt8
 model:Int
 machine:Int
structure cO where
 name:List UInt8
 k:Int
 m:Int
 avY:Int
 s0:Int
 s1:Int
 s2:Int
 s3:Int
 s4:Int
 avB:List Int
 repair:List RF
 target:RF
 avK:RF
structure kD where
 name:List UInt8
 avM:Int
structure aM where
 awE:Int
 avH:List dE
 avB:List eF
 avD:List cX
 avA:List dQ
 avE:List cO
 avC:List kD
abbrev I(x:Int):PV:=.int .i64 x
abbrev V0(l:List (List RF)):PV:=.sl 1 (l.map λr=>[frs r])
abbrev dE.cells(x:dE):List PV:=[.str x.name,frs x.start,V0 x.avF,frs x.exit]
abbrev eF.cells(x:eF):List PV:=[.str x.name,.int .i64 x.avQ,.int .i64 x.port,.int .i64 x.law]
abbrev cX.cells(x:cX):List PV:=[.str x.name,.int .i64 x.level,.int .i64 x.parent,.int .i64 x.avU,.bool x.avP.neg,aI x.avP.num,aI x.avP.den]
abbrev dQ.cells(x:dQ):List PV:=[.str x.name,.int .i64 x.model,.int .i64 x.machine]
abbrev cO.cells(x:cO):List PV:=[.str x.name,.int .i64 x.k,.int .i64 x.m,.int .i64 x.avY,.int .i64 x.s0,.int .i64 x.s1,.int .i64 x.s2,.int .i64 x.s3,.int .i64 x.s4,ints x.avB,frs x.repair,
 .bool x.target.neg,aI x.target.num,aI x.target.den,.bool x.avK.neg,aI x.avK.num,aI x.avK.den]
abbrev kD.cells(x:kD):List PV:=[.str x.name,.int .i64 x.avM]
abbrev aM.cells(f:aM):List PV:=[.int .i64 f.awE,.sl 4 (f.avH.map dE.cells),.sl 4 (f.avB.map eF.cells),.sl 7 (f.avD.map cX.cells),.sl 3 (f.avA.map dQ.cells),.sl 17 (f.avE.map cO.cells),.sl 2 (f.avC.map kD.cells)]
def cO.spread(p:cO)(level:Nat):Int:=match level with
 |0=>p.s0
 |1=>p.s1
 |2=>p.s2
 |3=>p.s3
 |_=>p.s4
abbrev Fits{α:Type}(l:List α):Prop:=Z' l≤9223372036854775807
structure tL(l:List RF):Prop where
 fits:Fits l
 all:∀x∈l,x.Ok
structure dE.Ok(x:dE):Prop where
 start:tL x.start
 exit:tL x.exit
 avF:Fits x.avF
 row:∀r∈x.avF,tL r
structure cO.Ok(x:cO):Prop where
 k:dX x.k
 m:dX x.m
 avY:dX x.avY
 avB:Fits x.avB
 each:∀m∈x.avB,dX m
 repair:tL x.repair
 target:x.target.Ok
 avK:x.avK.Ok
structure aM.Ok(f:aM):Prop where
 avH:Fits f.avH
 avB:Fits f.avB
 avD:Fits f.avD
 avA:Fits f.avA
 avE:Fits f.avE
 avC:Fits f.avC
 law:∀x∈f.avH,x.Ok
 dom:∀x∈f.avD,x.avP.Ok∧dX x.level∧dX x.parent
 drive:∀x∈f.avA,dX x.model∧dX x.machine
 avM:∀x∈f.avE,x.Ok
 volume:∀x∈f.avC,dX x.avM
def BS(x:RF):FR:=if eO (val x.num) (val x.den)then nM x.neg (val x.num) (val x.den)else .error 1
theorem Vy(x:RF):TO x.neg (val x.num) (val x.den)=frV (BS x):=by
 unfold TO BS;split
 ·exact me _ _ _
 ·rfl
def jA(x:RF):Bool:=match BS x with
 | .ok (n,a,b)=>!n&&(decide (cS a≤32)&&decide (cS b≤32))
 | .error _=>false
def cE(x:RF):Bool:=decide (val x.num≠0)
def ZR(x:RF):Bool:=eO (val x.num) (val x.den)&&decide (BO x.neg (val x.num) (val x.den) false 1 1≤0)
def within(n lo hi:Int):Bool:=decide (lo≤n)&&decide (n≤hi)
def eJ(R:List Bool)(i:Nat)(row:List RF):Nat→List Bool
 |0=>R
 |k+1=>let d:=eJ R i row k
  d.set i (d.getD i false||(row.map cE).getD k false&&d.getD k false)
def nE(l:dE)(R:List Bool)(i:Nat):List Bool:=
 eJ (R.set i (R.getD i false||(l.exit.map cE).getD i false)) i (l.avF.getD i []) (l.avF.getD i []).length
def fN(l:dE)(R:List Bool):Nat→List Bool
 |0=>R
 |i+1=>nE l (fN l R i) i
def jG(l:dE):Nat→List Bool
 |0=>awO l.exit.length false
 |r+1=>fN l (jG l r) l.exit.length
def uU(l:dE):Bool:=(jG l (Z' l.exit+1)).all id
def tE(l:dE):Bool:=
 within l.start.length 1 4&&decide (Z' l.exit=Z' l.start)&&decide (Z' l.avF=Z' l.start)&&l.start.all jA&&l.exit.all jA
 && (awU l.avF.length).all (λi=>decide ((l.avF.getD i []).length=Z' l.start)&&(l.avF.getD i []).all jA&&!((l.avF.getD i []).map cE).getD i false)
 && (match tJ (l.start.map RF.v)with
  | .ok (n,a,b)=>decide (BO n a b false 1 1=0)
  | .error _=>false)&&uU l
def distinct(l:List (List UInt8)):Bool:=(awU l.length).all λi=>isName (l.getD i [])&&!(l.take i).contains (l.getD i [])
def WY(f:aM)(i:Nat)(d:cX):Bool:=
 within d.parent 0 i&&decide ((f.avD.map cX.level).getD d.parent.toNat 0=IntKind.i64.wrap (d.level-1))&&within d.level 1 4&&within d.avU 1 64&&jA d.avP
def SL(f:aM)(r:cX)(t:List cX):Bool:=
 decide (r.name=[])&&decide (r.level=0)&&decide (r.parent=-1)&&decide (r.avU=0)&&jA r.avP&&!cE r.avP
  && (awU t.length).all λi=>match t[i]? with
   |some d=>WY f i d
   |none=>false
def qG(f:aM):Bool:=match f.avD with
 |[]=>false
 |r::t=>SL f r t
def ZN(p:cO):Bool:=
 within p.k 1 6&&within p.m 0 4&&decide (p.k+p.m≤8)&&within p.avY p.k (p.k+p.m)&&decide (p.s0=0)&&([p.s0,p.s1,p.s2,p.s3,p.s4].all λn=>within n 0 8)
def TN(p:cO):Bool:=
 decide ((Z' p.repair:Int)=max p.m 1)&&(p.repair.all λx=>jA x&&cE x)&&jA p.target&&ZR p.target&&jA p.avK
def lZ(avB:Nat)(p:cO):Bool:=
 ZN p&&decide (Z' p.avB≠0)&&TN p&&(awU p.avB.length).all λj=>within (p.avB.getD j 0) 0 ((avB:Int)-1)&&!(p.avB.take j).contains (p.avB.getD j 0)
def oI(f:aM)(m:eF):Bool:=within m.avQ 1 16&&within m.port 1 64&&within m.law 0 ((Z' f.avH:Int)-1)
def mF(f:aM)(d:dQ):Bool:=within d.model 0 ((Z' f.avB:Int)-1)&&within d.machine 0 ((Z' f.avD:Int)-1)&&decide ((f.avD.map cX.level).getD d.machine.toNat 0=4)
def rD(f:aM)(v:kD):Bool:=within v.avM 0 ((Z' f.avE:Int)-1)
def sR(f:aM):Bool:=within f.awE 1 4&&decide (Z' f.avH≤4)&&decide (Z' f.avB≤4)&&decide (Z' f.avD≤40)&&decide (Z' f.avA≤24)&&decide (Z' f.avE≤4)&&decide (Z' f.avC≤12)
def lI(f:aM):Bool:=
 sR f&&qG f&&(f.avH.all tE&&f.avB.all (oI f)&&f.avA.all (mF f)&&f.avE.all (lZ f.avB.length)&&f.avC.all (rD f))
 && (distinct (f.avH.map dE.name)&&distinct (f.avB.map eF.name)&&distinct ((f.avD.drop 1).map cX.name++f.avA.map dQ.name)&&distinct (f.avE.map cO.name)&&distinct (f.avC.map kD.name))
theorem bA{t:Nat}{b d:Bool}{F:PF}{H:PH}(h:F t=some (.bool b))(e:b=d):bD [.tmp t] (cV (.bool d)) .ret F H:=by
 subst e;exact bF (.inr rfl) .nil (vs:=[.bool b]) (by rw[mA,oX,h,qA]) a_ ⟨.refl _,rfl⟩
theorem alO{C:Ctx}(n lo hi:Int):BF.wp C (bD gin.res (cV (.bool (within n lo hi)))) (PF.args [.int .i64 n,.int .i64 lo,.int .i64 hi]) .nil:=by
 by_cases a:lo≤n
 ·by_cases b:n≤hi
  ·simp only[go_sem,BF,ff,fg,gin,show n≥lo from a,b];exact bA Ev (by simp[within,a,b])
  ·simp only[go_sem,BF,ff,fg,gin,show n≥lo from a,b];exact bA Ev (by simp[within,a,b])
 ·have d:¬n≥lo:=a;simp only[go_sem,BF,ff,fg,gin,d];exact bA Ev (by simp[within,a])
theorem Ye{C:Ctx}(L:uJ C)(x:RF)(d:x.Ok):EE.wp C (bD A4.res (cV (.bool (cE x)))) (PF.args [.agg x.cells]) .nil:=by
 simp only[go_sem,EE,rz,r8,A4];refine aB (L.bits x.num d.1 d.2.2.1) Ev ?_;simp only[go_sem];refine bA Ev ?_;have:=@lG (val x.num);rw[cE,decide_eq_decide];omega
structure bc(C:Ctx):Prop extends HE C where
 frac:∀n d:Int,dX n→dX d→aJ C 115 [.int .i64 n,.int .i64 d] .nil (aQ (TE n d))
 red:∀x:RF,x.Ok→aJ C 116 [.agg x.cells] .nil (aQ (frV (BS x)))
 ord:∀x y:RF,x.Ok→y.Ok→aJ C 114 [.agg x.cells,.agg y.cells] .nil (aQ (yU x.neg (val x.num) (val x.den) y.neg (val y.num) (val y.den)))
 plus:∀x y:RF,x.Ok→y.Ok→aJ C 113 [.agg x.cells,.agg y.cells] .nil (aQ (frV (lW x.v y.v)))
 tot:∀l:List RF,tL l→aJ C 117 [frs l] .nil (aQ (frV (tJ (l.map RF.v))))
theorem JL{neg:Bool}{a b:Nat}{e:Int}(h:nM neg a b=.error e):e=2:=by
 unfold nM at h;split at h
 ·injection h with h;exact h.symm
 ·cases h
theorem afC{x:RF}{e:Int}(h:BS x=.error e):e≠0:=by
 unfold BS at h;split at h
 ·rw[JL h];decide
 ·injection h with h;subst h;decide
theorem ajZ{x:RF}{r:FV}(h:BS x=.ok r):r.rf.Ok:=by
 unfold BS at h;split at h
 ·exact(uZ h).2
 ·cases h
theorem aiH{C:Ctx}(L:bc C)(x:RF)(u:x.Ok):OW.wp C (bD acU.res (cV (.bool (jA x)))) (PF.args [.agg x.cells]) .nil:=by
 simp only[go_sem,OW,No,Np,acU];refine aB (L.red x u) Ev ?_;unfold jA;cases l:BS x with
 |error e =>have:=bO (afC l);simp only[go_sem,frV];refine aW λo p=>?_;simp only[go_sem,SV,this];exact bA Ev rfl
 |ok r=>
  obtain⟨n,a,b⟩:=r;obtain⟨w,y,A,B⟩:=ajZ l;simp only[go_sem,frV];refine aW λo p=>?_;cases n with
  |true =>simp only[go_sem,SV];exact bA Ev rfl
  |false=>
   simp only[go_sem,SV];refine aB (L.bits _ w A) Ev ?_;rw[show val (FV.rf (false,a,b)).num=a from bB a];by_cases i:cS a≤32
   ·have d:((cS a:Nat):Int)≤32:=Om;simp only[go_sem,d];refine aB (L.bits _ y B) Ev ?_;rw[show val (FV.rf (false,a,b)).den=b from bB b];simp only[go_sem];refine bA Ev ?_;rw[bQ i];simp;omega
   ·have d:¬((cS a:Nat):Int)≤32:=Om;simp only[go_sem,d];refine bA Ev ?_;rw[cU i];rfl
theorem D0:nM false 1 1=.ok (false,1,1):=by
 have:cS 1=1:=by rw[sY aV,mO]
 simp[nM,this]
theorem D3:TE 1 1=frV (.ok (false,1,1)):=by
 rw[TE,aC aV,me];show frV (nM false 1 1)=_;rw[D0]
theorem Zl:(FV.rf (false,1,1)).Ok:=(uZ D0).2
theorem wh:eO 1 1=true:=by
 have:cS 1=1:=by rw[sY aV,mO]
 simp[eO,this]
theorem aiJ{C:Ctx}(L:bc C)(x:RF)(d:x.Ok):OZ.wp C (bD gone.res (cV (.bool (ZR x)))) (PF.args [.agg x.cells]) .nil:=by
 simp only[go_sem,OZ,Nt,Nu,gone];refine aB (L.frac 1 1 aV aV) Ev ?_;rw[D3];simp only[go_sem,frV];refine aW λo e=>?_;simp only[go_sem,Nv];refine aB (L.ord x (FV.rf (false,1,1)) d Zl) Ev ?_;rw[show val (FV.rf (false,1,1)).num=1 from bB 1,show val (FV.rf (false,1,1)).den=1 from bB 1,show(FV.rf (false,1,1)).neg=false from rfl];unfold yU ZR;rw[wh,azC];cases i:eO (val x.num) (val x.den)with
 |false =>simp only[go_sem,l2];exact bA Ev rfl
 |true =>simp only[go_sem,l2];exact bA Ev rfl
theorem acP{C:Ctx}(p:RF→Bool)(fn:Nat)(l:List RF)(u:Fits l)(h:∀x∈l,aJ C fn [.agg x.cells] .nil (aQ (.bool (p x)))) :
  IP.wp C (bD T8.res (cV (.bool (l.all p)))) (PF.args [frs l,.fn fn []]) .nil:=by
 simp only[go_sem,IP,Bg,Bh,T8];refine wp_loop (α:=Nat) (λk=>((((PF.nil.set 1 (.fn fn [])).set 7 (frs l)).set 8 (.int .i64 (Z' l:Nat))).set 9 (.int .i64 k))) (λ_=>.nil) (λk=>k≤Z' l∧(l.take k).all p=true) (λk=>Z' l-k) 0 ⟨axB _,rfl⟩ ?_ a_ ?_
 ·(repeat' (first|exact d_|refine c_ ?_ ?_))<;>first|(simp only[go_sem,awL]<;>rfl)|rfl
 rintro k ⟨w,e⟩;simp only[go_sem,Bf,Bi];by_cases hlt:k<Z' l
 ·have d:(k:Int)<(Z' l:Nat):=Om;have i:(l.map RF.cells)[k]?=some (l[k]).cells:=by simp[hlt]
  simp only[go_sem,d,Bj,i];refine aW λo y=>?_;simp only[go_sem,Bk];refine aB (h _ (awS hlt)) Ev ?_;cases hp:p l[k]with
  |false =>simp only[go_sem,Bl];exact bA (b:=false) Ev (HI (p:=p) hlt hp).symm
  |true =>simp only[go_sem,Bm,wZz k];refine aP (k+1) ⟨hlt,axK.1 (HH hlt e hp)⟩ Om ?_ a_;exact Lq
 ·have d:¬(k:Int)<(Z' l:Nat):=Om;simp only[go_sem,d,Bn];have:k=Z' l:=Om;subst this;rw[axE (awP _)]at e;exact bA Ev e.symm
theorem acQ{C:Ctx}(p:Int→Bool)(fn:Nat)(l:List Int)(u:Fits l)(h:∀x∈l,aJ C fn [.int .i64 x] .nil (aQ (.bool (p x)))) :
  IQ.wp C (bD T9.res (cV (.bool (l.all p)))) (PF.args [ints l,.fn fn []]) .nil:=by
 simp only[go_sem,IQ,Bp,Bq,T9];refine wp_loop (α:=Nat) (λk=>((((PF.nil.set 1 (.fn fn [])).set 7 (ints l)).set 8 (.int .i64 (Z' l:Nat))).set 9 (.int .i64 k))) (λ_=>.nil) (λk=>k≤Z' l∧(l.take k).all p=true) (λk=>Z' l-k) 0 ⟨axB _,rfl⟩ ?_ a_ ?_
 ·(repeat' (first|exact d_|refine c_ ?_ ?_))<;>first|(simp only[go_sem,awL]<;>rfl)|rfl
 rintro k ⟨w,e⟩;simp only[go_sem,Bo,Br];by_cases hlt:k<Z' l
 ·have d:(k:Int)<(Z' l:Nat):=Om;have i:(l.map λn=>[PV.int .i64 n])[k]?=some [.int .i64 l[k]]:=by simp[hlt]
  simp only[go_sem,d,Bs,i,Bt];refine aB (h _ (awS hlt)) Ev ?_;cases hp:p l[k]with
  |false =>simp only[go_sem,Bu];exact bA (b:=false) Ev (HI (p:=p) hlt hp).symm
  |true =>simp only[go_sem,Bv,wZz k];refine aP (k+1) ⟨hlt,axK.1 (HH hlt e hp)⟩ Om ?_ a_;exact Lq
 ·have d:¬(k:Int)<(Z' l:Nat):=Om;simp only[go_sem,d,Bw];have:k=Z' l:=Om;subst this;rw[axE (awP _)]at e;exact bA Ev e.symm
abbrev R7(l:List Bool):PV:=.sl 1 (l.map λb=>[PV.bool b])
theorem acO{C:Ctx}(p:Bool→Bool)(fn:Nat)(l:List Bool)(u:Fits l)(h:∀x∈l,aJ C fn [.bool x] .nil (aQ (.bool (p x)))) :
  IN.wp C (bD T7.res (cV (.bool (l.all p)))) (PF.args [R7 l,.fn fn []]) .nil:=by
 simp only[go_sem,IN,A6,A7,T7];refine wp_loop (α:=Nat) (λk=>((((PF.nil.set 1 (.fn fn [])).set 7 (R7 l)).set 8 (.int .i64 (Z' l:Nat))).set 9 (.int .i64 k))) (λ_=>.nil) (λk=>k≤Z' l∧(l.take k).all p=true) (λk=>Z' l-k) 0 ⟨axB _,rfl⟩ ?_ a_ ?_
 ·(repeat' (first|exact d_|refine c_ ?_ ?_))<;>first|(simp only[go_sem,awL]<;>rfl)|rfl
 rintro k ⟨w,e⟩;simp only[go_sem,A5,A8];by_cases hlt:k<Z' l
 ·have d:(k:Int)<(Z' l:Nat):=Om;have i:(l.map λb=>[PV.bool b])[k]?=some [.bool l[k]]:=by simp[hlt]
  simp only[go_sem,d,A9,i,Ba];refine aB (h _ (awS hlt)) Ev ?_;cases hp:p l[k]with
  |false =>simp only[go_sem,Bb];exact bA (b:=false) Ev (HI (p:=p) hlt hp).symm
  |true =>simp only[go_sem,Bc,wZz k];refine aP (k+1) ⟨hlt,axK.1 (HH hlt e hp)⟩ Om ?_ a_;exact Lq
 ·have d:¬(k:Int)<(Z' l:Nat):=Om;simp only[go_sem,d,Be];have:k=Z' l:=Om;subst this;rw[axE (awP _)]at e;exact bA Ev e.symm
theorem Yf{C:Ctx}(b:Bool):EF.wp C (bD B0.res (cV (.bool b))) (PF.args [.bool b]) .nil:=by
 simp only[go_sem,EF,r9,sa,B0];exact bA Ev rfl
theorem acW{C:Ctx}(d:∀n lo hi:Int,aJ C 104 [.int .i64 n,.int .i64 lo,.int .i64 hi] .nil (aQ (.bool (within n lo hi))))(n:Int):IU.wp C (bD Ue.res (cV (.bool (within n 0 8)))) (PF.args [.int .i64 n]) .nil:=by
 simp only[go_sem,IU,Cd,Ce,Ue];refine aB (d n 0 8) Ev ?_;simp only[go_sem];exact bA Ev rfl
theorem Yh{C:Ctx}(e:∀x:RF,x.Ok→aJ C 105 [.agg x.cells] .nil (aQ (.bool (jA x))))(i:∀x:RF,x.Ok→aJ C 97 [.agg x.cells] .nil (aQ (.bool (cE x))))(x:RF)(d:x.Ok) :
  EG.wp C (bD Cj.res (cV (.bool (jA x&&cE x)))) (PF.args [.agg x.cells]) .nil:=by
 simp only[go_sem,EG,sg,sj,Cj];refine aB (e x d) Ev ?_;cases l:jA x with
 |false =>simp only[go_sem];exact bA Ev rfl
 |true =>simp only[go_sem];refine aB (i x d) Ev ?_;simp only[go_sem];exact bA Ev rfl
structure uG(C:Ctx):Prop extends bc C where
 inn:∀n lo hi:Int,aJ C 104 [.int .i64 n,.int .i64 lo,.int .i64 hi] .nil (aQ (.bool (within n lo hi)))
 wW:∀x:RF,x.Ok→aJ C 97 [.agg x.cells] .nil (aQ (.bool (cE x)))
 lim:∀x:RF,x.Ok→aJ C 105 [.agg x.cells] .nil (aQ (.bool (jA x)))
 one:∀x:RF,x.Ok→aJ C 101 [.agg x.cells] .nil (aQ (.bool (ZR x)))
 allf:∀(p:RF→Bool)(fn:Nat)(l:List RF),Fits l→(∀x∈l,aJ C fn [.agg x.cells] .nil (aQ (.bool (p x))))→aJ C 99 [frs l,.fn fn []] .nil (aQ (.bool (l.all p)))
 alli:∀(p:Int→Bool)(fn:Nat)(l:List Int),Fits l→(∀x∈l,aJ C fn [.int .i64 x] .nil (aQ (.bool (p x))))→aJ C 100 [ints l,.fn fn []] .nil (aQ (.bool (l.all p)))
 allb:∀(p:Bool→Bool)(fn:Nat)(l:List Bool),Fits l→(∀x∈l,aJ C fn [.bool x] .nil (aQ (.bool (p x))))→aJ C 98 [R7 l,.fn fn []] .nil (aQ (.bool (l.all p)))
 ends1:∀b:Bool,aJ C 103 [.bool b] .nil (aQ (.bool b))
 num1:∀n:Int,aJ C 107 [.int .i64 n] .nil (aQ (.bool (within n 0 8)))
 rate1:∀x:RF,x.Ok→aJ C 109 [.agg x.cells] .nil (aQ (.bool (jA x&&cE x)))
 name:∀s:List UInt8,aJ C 123 [.str s] .nil (aQ (.bool (isName s)))
theorem uG.adN{C:Ctx}(L:uG C)(l:List RF)(h:tL l):aJ C 99 [frs l,.fn 105 []] .nil (aQ (.bool (l.all jA))):=
 L.allf jA 105 l h.fits λx d=>L.lim x (h.all x d)
theorem within_iff{n lo hi:Int}:within n lo hi=true↔lo≤n∧n≤hi:=by simp[within]
theorem aiI{C:Ctx}(L:uG C)(p:cO)(hp:p.Ok) :
  OY.wp C (bD acV.res (cV (.bool (ZN p)))) (PF.args [.int .i64 p.k,.int .i64 p.m,.int .i64 p.avY,.agg [.int .i64 p.s0,.int .i64 p.s1,.int .i64 p.s2,.int .i64 p.s3,.int .i64 p.s4]]) .nil:=by
 simp only[go_sem,OY,Nq,Nr,acV];refine aB (L.inn p.k 1 6) rfl ?_;unfold ZN;cases w:within p.k 1 6 with
 |false =>simp only[go_sem,axP,AH];exact bA rfl (by simp only[awY])
 |true=>
  obtain⟨k1,k2⟩:=within_iff.1 w;simp only[go_sem,awZ];refine aB (L.inn p.m 0 4) rfl ?_;cases y:within p.m 0 4 with
  |false =>simp only[go_sem,axP,AH];exact bA rfl (by simp only[awY,ayE])
  |true=>
   obtain⟨E,F⟩:=within_iff.1 y;have u:IntKind.i64.wrap (p.k+p.m)=p.k+p.m:=wrap_i64 Om Om;by_cases l:p.k+p.m≤8
   ·have d:¬p.k+p.m>8:=Om;simp only[go_sem,awZ,u,d];refine aB (L.inn p.avY p.k (p.k+p.m)) rfl ?_;cases B:within p.avY p.k (p.k+p.m)with
    |false =>simp only[go_sem,axP,AH];exact bA rfl (by simp only[awY,ayE])
    |true=>
     have e:(0:Int)<((5:Nat):Int):=by decide
     by_cases h5:p.s0=0
     ·have i:chunks 1 5 [PV.int .i64 p.s0,.int .i64 p.s1,.int .i64 p.s2,.int .i64 p.s3,.int .i64 p.s4]=([p.s0,p.s1,p.s2,p.s3,p.s4].map λn=>[PV.int .i64 n]):=rfl;have A:5≤maxLen:=by decide
      simp only[go_sem,awZ,e,dO h5,Ns,i,A];refine aB (L.alli (λn=>within n 0 8) 107 [p.s0,p.s1,p.s2,p.s3,p.s4] (show 5≤9223372036854775807 by decide) λx _=>L.num1 x) rfl ?_;simp only[go_sem];exact bA rfl (by rw[bQ l,bQ h5];simp only[axN])
     ·simp only[go_sem,awZ,e,fJ h5,AH];exact bA rfl (by rw[cU h5];simp only[awY,ayE])
   ·have d:p.k+p.m>8:=Om;simp only[go_sem,awZ,u,d,AH];exact bA rfl (by rw[cU l];simp only[awY,ayE])
theorem max_eq(a b:Int):(if a<b then b else a)=max a b:=by
 rw[Int.max_def];by_cases h:a<b
 ·rw[aF h,aF Om]
 ·by_cases d:a≤b
  ·rw[aC h,aF d];omega
  ·rw[aC h,aC d]
theorem acY{C:Ctx}(L:uG C)(p:cO)(hp:p.Ok) :
  IV.wp C (bD Uf.res (cV (.bool (TN p)))) (PF.args [.int .i64 p.m,frs p.repair,.agg p.target.cells,.agg p.avK.cells]) .nil:=by
 simp only[go_sem,IV,Ck,Cl,Uf,max_eq,awL];unfold TN;by_cases d:(Z' p.repair:Int)=max p.m 1
 ·simp only[go_sem,cH d];refine aB (L.allf (λx=>jA x&&cE x) 109 p.repair hp.repair.fits λx e=>L.rate1 x (hp.repair.all x e)) rfl ?_;rw[bQ d,axN];cases i:p.repair.all λx=>jA x&&cE x with
  |false =>simp only[go_sem];exact bA rfl rfl
  |true=>
   simp only[go_sem];refine aB (L.lim _ hp.target) rfl ?_;cases l:jA p.target with
   |false =>simp only[go_sem];exact bA rfl rfl
   |true=>
    simp only[go_sem];refine aB (L.one _ hp.target) rfl ?_;cases u:ZR p.target with
    |false =>simp only[go_sem];exact bA rfl rfl
    |true =>simp only[go_sem];refine aB (L.lim _ hp.avK) rfl ?_;simp only[go_sem];exact bA rfl rfl
 ·simp only[go_sem,bO d];exact bA rfl (by rw[cU d];rfl)
def rY(l:List (List UInt8))(k:List KS):Option PV:=match k with
 |[.str s]=>if l.contains s then some (.bool true)else none
 |_=>none
theorem Z3(l:List (List UInt8))(s:List UInt8):(λk=>if k=[KS.str s]then some (PV.bool true)else rY l k)=rY (l++[s]):=by
 funext k
 match k with
 |[]=>rfl
 |[.int a b]=>simp[rY]
 |[.bool a]=>simp[rY]
 |[.str t]=>
  by_cases h:t=s
  ·subst h;simp[rY]
  ·simp[rY,h]
 |a::b::c=>simp[rY]
abbrev texts(l:List (List UInt8)):PV:=.sl 1 (l.map λs=>[PV.str s])
theorem Z2:rY []=(λ_=>none:gZ):=by
 funext k
 match k with
 |[]=>rfl
 |[.int a b]=>rfl
 |[.bool a]=>rfl
 |[.str t]=>rfl
 |a::b::c=>cases a<;>rfl
theorem Z4(l:List (List UInt8))(s:List UInt8):gZ.upd (rY l) [KS.str s] (.bool true)=rY (l++[s]):=Z3 l s
theorem Ho(l:List (List UInt8))(s:List UInt8):(rY l [KS.str s]).getD (.bool false)=.bool (l.contains s):=by
 show(if l.contains s then some (PV.bool true)else none).getD (.bool false)=_;cases l.contains s<;>rfl
theorem np{p:Nat→Bool}{k:Nat}(h:(awU k).all p=true)(hp:p k=true):(awU (k+1)).all p=true:=by
 rw[List.range_succ,List.all_append,h];simp[hp]
theorem fG{p:Nat→Bool}{n k:Nat}(d:k<n)(hp:p k=false):(awU n).all p=false:=by
 rw[List.all_eq_false];exact⟨k,ayB.2 d,by simp[hp]⟩
def sT(p:Nat→Bool)(k:Nat):Prop:=(awU k).all p=true
theorem sT.zero{p:Nat→Bool}:sT p 0:=rfl
theorem sT.step{p:Nat→Bool}{k:Nat}(h:sT p k)(hp:p k=true):sT p (k+1):=np h hp
def Wm(l:List (List UInt8))(o k:Nat):PF:=((((PF.nil.set 3 (.map o)).set 7 (texts l)).set 8 (.int .i64 (Z' l:Nat))).set 9 (.int .i64 k))
theorem adC{C:Ctx}(L:uG C)(l:List (List UInt8))(E:Fits l):IW.wp C (bD Ui.res (cV (.bool (distinct l)))) (PF.args [texts l]) .nil:=by
 simp only[go_sem,IW,Cs,Ct,Ui];refine aW λo H=>?_;simp only[go_sem,Cu];have A:(PH.nil.set o (.map (false,[.str]) (λ_=>none)))=PH.nil.set o (.map (false,[.str]) (rY (l.take 0))):=by rw[List.take_zero,Z2]
 unfold distinct;generalize hp:(λi=>isName (l.getD i [])&&!(l.take i).contains (l.getD i []))=p;have w:∀k (h:k<Z' l),p k=(isName l[k]&&!(l.take k).contains l[k]):=by intro k h;rw[←hp];simp only[axY,awX h,azV]
 refine wp_loop (α:=Nat) (λk=>Wm l o k) (λk=>PH.nil.set o (.map (false,[.str]) (rY (l.take k)))) (λk=>k≤Z' l∧sT p k) (λk=>Z' l-k) 0 ⟨axB _,.zero⟩ ?_ ?_ ?_
 ·unfold Wm
  (repeat' (first|exact d_|refine c_ ?_ ?_))<;>first|(simp only[go_sem,awL]<;>rfl)|rfl
 ·rw[A];exact b_
 rintro k ⟨F,y⟩;simp only[go_sem,Cr,Cv,Wm];by_cases hlt:k<Z' l
 ·have e:(k:Int)<(Z' l:Nat):=Om;have B:(l.map λs=>[PV.str s])[k]?=some [.str l[k]]:=by simp[hlt]
  simp only[go_sem,e,Cw,B,Cx];refine aB (L.name l[k]) rfl ?_;have d:=w k hlt;cases x:isName l[k]with
  |false =>rw[x,awY]at d;simp only[go_sem,axP,XM];exact bA (b:=false) rfl (fG hlt d).symm
  |true=>
   rw[x,axN]at d;cases u:(l.take k).contains l[k]with
   |true =>rw[u]at d;simp only[go_sem,awZ,Ho,u,XM];exact bA (b:=false) rfl (fG hlt d).symm
   |false=>
    rw[u]at d;simp only[go_sem,awZ,Ho,u,Cy,Z4,Cz,wZz k];refine aP (k+1) ⟨hlt,y.step d⟩ Om ?_ ?_
    ·exact Lq
    ·rw[azH hlt];exact PH.aN a_ Sq
 ·have e:¬(k:Int)<(Z' l:Nat):=Om;simp only[go_sem,e,sk];have:k=Z' l:=Om;subst this;exact bA (b:=true) rfl (show sT p l.length from y).symm
def marks(n:Nat)(l:List Int):List Bool:=(awU n).map λ(i:Nat)=>l.contains (i:Int)
theorem PJ(n:Nat)(l:List Int):(marks n l).length=n:=by simp[marks]
theorem te(n:Nat):marks n []=awO n false:=by
 refine azS (by simp[marks]) λi d e=>by simp[marks]
theorem BM{n:Nat}{l:List Int}{m:Int}(d:0≤m)(e:m<n):(marks n l)[m.toNat]?=some (l.contains m):=by
 have:m.toNat<n:=Om;simp only[marks,axH,List.getElem?_range this,axF];rw[Int.toNat_of_nonneg d]
theorem PK{n:Nat}{l:List Int}{m:Int}(e:0≤m)(p:m<n):(marks n l).set m.toNat true=marks n (l++[m]):=by
 refine azS (by simp[marks]) λi u w=>?_;simp only[marks,ayR,List.getElem_range,List.getElem_set,List.contains_append];by_cases h:m.toNat=i
 ·subst h;rw[aF rfl,Int.toNat_of_nonneg e];simp
 ·have d:((i:Nat):Int)≠m:=Om;rw[aC h];simp[d]
abbrev dY(l:List Bool):List (List PV):=l.map λb=>[PV.bool b]
theorem tO(l:List Bool)(i:Nat)(b:Bool):(dY l).set i [.bool b]=dY (l.set i b):=by unfold dY;rw[List.map_set]
structure x5(C:Ctx):Prop extends uG C where
 num:∀p:cO,p.Ok→aJ C 106 [.int .i64 p.k,.int .i64 p.m,.int .i64 p.avY,.agg [.int .i64 p.s0,.int .i64 p.s1,.int .i64 p.s2,.int .i64 p.s3,.int .i64 p.s4]] .nil (aQ (.bool (ZN p)))
 rate:∀p:cO,p.Ok→aJ C 108 [.int .i64 p.m,frs p.repair,.agg p.target.cells,.agg p.avK.cells] .nil (aQ (.bool (TN p)))
 uniq:∀l:List (List UInt8),Fits l→aJ C 110 [texts l] .nil (aQ (.bool (distinct l)))
def aeU(p:cO)(avB:Nat)(o k:Nat):PF:=(((((PF.nil.set 1 (.int .i64 avB)).set 5 (.osl o 1 0 avB)).set 39 (ints p.avB)).set 40 (.int .i64 (Z' p.avB:Nat))).set 41 (.int .i64 k))
theorem aiK{C:Ctx}(L:x5 C)(p:cO)(hp:p.Ok)(avB:Nat)(R:avB≤4):PA.wp C (bD acX.res (cV (.bool (lZ avB p)))) (PF.args [.agg p.cells,.int .i64 avB]) .nil:=by
 simp only[go_sem,PA,Nw,Nx,acX];refine aB (L.num p hp) rfl ?_;unfold lZ;cases u:ZN p with
 |false =>simp only[go_sem,axP,SW];exact bA rfl (by simp only[awY])
 |true=>
  by_cases l:Z' p.avB=0
  ·simp only[go_sem,awZ,awL,cH (Om:(Z' p.avB:Int)=0),SW];refine bA rfl ?_;have:decide (Z' p.avB≠0)=false:=by simp[l]
   rw[this];simp only[awY,ayE]
  ·have y:decide (Z' p.avB≠0)=true:=by simp[l]
   simp only[go_sem,awZ,awL,bO (Om:(Z' p.avB:Int)≠0)];refine aB (L.rate p hp) rfl ?_;rw[y];cases O:TN p with
   |false =>simp only[go_sem,axP,SW];exact bA rfl (by simp only[awY,ayE])
   |true=>
    have A:((avB:Nat):Int)*((1:Nat):Int)≤140737488355328:=Om;have B:((avB:Nat):Int)≤9223372036854775807:=Om;simp only[axN];simp only[go_sem,awZ,Ny,A,B];refine aW λo S=>?_;simp only[go_sem,Nz];have J:awO avB [PV.bool false]=dY (marks avB (p.avB.take 0)):=by rw[List.take_zero,te];simp[dY]
    rw[J];generalize K:(λj=>within (p.avB.getD j 0) 0 ((avB:Int)-1)&&!(p.avB.take j).contains (p.avB.getD j 0))=q;have E:∀k (h:k<Z' p.avB),q k=(within p.avB[k] 0 ((avB:Int)-1)&&!(p.avB.take k).contains p.avB[k]):=by intro k h;rw[←K];simp only[axY,awX h,azV]
    refine wp_loop (α:=Nat) (λk=>aeU p avB o k) (λk=>PH.nil.set o (.rows 1 (dY (marks avB (p.avB.take k))))) (λk=>k≤Z' p.avB∧sT q k) (λk=>Z' p.avB-k) 0 ⟨axB _,.zero⟩ ?_ (b_) ?_
    ·unfold aeU
     (repeat' (first|exact d_|refine c_ ?_ ?_))<;>first|(simp only[go_sem,awL]<;>rfl)|rfl
    rintro k ⟨Q,F⟩;simp only[go_sem,Cf,N0,aeU];have H:=hp.avB;by_cases hlt:k<Z' p.avB
    ·have e:(k:Int)<(Z' p.avB:Nat):=Om;have M:(p.avB.map λn=>[PV.int .i64 n])[k]?=some [.int .i64 p.avB[k]]:=by simp[hlt]
     have N:IntKind.i64.wrap ((avB:Int)-1)=(avB:Int)-1:=wrap_i64 Om Om;simp only[go_sem,e,N1,M,N2,N];refine aB (L.inn p.avB[k] 0 ((avB:Int)-1)) rfl ?_;have d:=E k hlt;cases u:within p.avB[k] 0 ((avB:Int)-1)with
     |false =>rw[u,awY]at d;simp only[go_sem,axP,l3];exact bA (b:=false) rfl (fG hlt d).symm
     |true=>
      rw[u,axN]at d;obtain⟨w,U⟩:=within_iff.1 u;have x:p.avB[k]<(avB:Nat):=Om;have i:(dY (marks avB (p.avB.take k)))[p.avB[k].toNat]?=some [.bool ((p.avB.take k).contains p.avB[k])]:=by unfold dY;rw[axH,BM w x];rfl
      cases l:(p.avB.take k).contains p.avB[k]with
      |true =>rw[l]at d i;simp only[go_sem,awZ,w,x,axJ,i,l3];exact bA (b:=false) rfl (fG hlt d).symm
      |false=>
       rw[l]at d i;simp only[go_sem,awZ,w,x,axJ,i,N3,tO,PK w x,Cg,wZz k];refine aP (k+1) ⟨hlt,F.step d⟩ Om ?_ ?_
       ·exact Lq
       ·rw[azH hlt];exact PH.aN a_ Sq
    ·have e:¬(k:Int)<(Z' p.avB:Nat):=Om;simp only[go_sem,e,Ch];have:k=Z' p.avB:=Om;subst this;exact bA (b:=true) rfl (show sT q p.avB.length from F).symm
def abZ:PV→RF
 | .agg [.bool n,a,b]=>⟨n,mX a,mX b⟩
 |_=>⟨false,[],[]⟩
theorem Tq(x:RF):abZ (.agg x.cells)=x:=by
 show(⟨x.neg,mX (aI x.num),mX (aI x.den)⟩:RF)=x;rw[fV,fV]
def flS:Spec:=λname vs=>match name,vs with
 |104,[.int _ n,.int _ lo,.int _ hi]=>some ([],λ_=>aQ (.bool (within n lo hi)))
 |105,[x]=>some ([],λ_=>aQ (.bool (jA (abZ x))))
 |97,[x]=>some ([],λ_=>aQ (.bool (cE (abZ x))))
 |_,_=>none
theorem An(n lo hi:Int):flS 104 [.int .i64 n,.int .i64 lo,.int .i64 hi]=some ([],λ_=>aQ (.bool (within n lo hi))):=rfl
theorem aiA(x:RF):flS 105 [.agg x.cells]=some ([],λ_=>aQ (.bool (jA x))):=by
 show some _=_;rw[Tq]
def Uc(f:aM)(t:List cX)(k:Nat):PF:=((((PF.nil.set 1 (.cT f.cells)).set 45 (.sl 7 (t.map cX.cells))).set 46 (.int .i64 (Z' t:Nat))).set 47 (.int .i64 k))
theorem aiF{C:Ctx}(L:uG C)(f:aM)(Y:f.Ok):CN.wp C (bD Ub.res (cV (.bool (qG f)))) (PF.args [.agg f.cells]) .nil:=by
 obtain⟨awE,avH,avB,avD,avA,avE,avC⟩:=f;cases avD with
 |nil =>rw[show qG ⟨awE,avH,avB,[],avA,avE,avC⟩=false from rfl];simp only[go_sem,CN,ln,lz,Ub,ayI,azB];have:(((0:Nat):Int)==0)=true:=rfl;simp only[go_sem,this,M8];exact bA rfl rfl
 |cons r t=>
  generalize hF:(⟨awE,avH,avB,r::t,avA,avE,avC⟩:aM)=f at *
  have B:f.avD=r::t:=by rw[←hF]
  have hP:qG f=SL f r t:=by unfold qG;rw[B]
  rw[hP];unfold SL;have l:Z' f.avD=Z' t+1:=by rw[B];rfl
  have Z:=Y.avD;have J:(f.avD.map cX.cells)[0]?=some r.cells:=by rw[B];rfl
  have β:(f.avD.map cX.cells)[Int.toNat 0]?=some r.cells:=J;have F:=Y.dom;have w:=F r (by rw[B];exact List.mem_cons_self ..);simp only[go_sem,CN,ln,lz,Ub,awL,l,bO (Om:((Z' t+1:Nat):Int)≠0),M9,J];refine aW λo ho=>?_;by_cases x:r.name=[]
  ·rw[bQ x];by_cases A:r.level=0
   ·rw[bQ A];by_cases E:r.parent=-1
    ·rw[bQ E];by_cases K:r.avU=0
     ·rw[bQ K];simp only[go_sem,AF,rK x,awZ,dO A,dO E,dO K];refine aB (L.lim r.avP w.1) rfl ?_;cases c5:jA r.avP with
      |false =>simp only[go_sem,axP,wJ];exact bA rfl (by simp only[ayE,awY])
      |true=>
       simp only[go_sem,awZ];refine aB (L.wW r.avP w.1) rfl ?_;cases c6:cE r.avP with
       |true =>simp only[go_sem,wJ];exact bA rfl (by simp only[awZ,ayE,awY])
       |false=>
        have S:(0:Int)≤1∧(1:Int)≤((Z' t+1:Nat):Int):=Om;have y:((f.avD.map cX.cells).take (Z' t+1)).drop (Int.toNat 1)=t.map cX.cells:=by rw[axE (by simp[l]),B];rfl
        have u:((f.avD.map cX.cells).take (Z' t+1)).drop 1=t.map cX.cells:=y;simp only[go_sem,Nb,awL,l,S,u,ayU];generalize hq:(λi=>match t[i]? with|some d=>WY f i d|none=>false)=q;have Q:∀k (h:k<Z' t),q k=WY f k t[k]:=by intro k h;rw[←hq];simp only[awX h]
        refine wp_loop (α:=Nat) (λk=>Uc f t k) (λk=>.nil) (λk=>k≤Z' t∧sT q k) (λk=>Z' t-k) 0 ⟨axB _,.zero⟩ ?_ a_ ?_
        ·unfold Uc
         (repeat' (first|exact d_|refine c_ ?_ ?_))<;>first|(simp only[go_sem,awL]<;>rfl)|rfl
        rintro k ⟨hk,X⟩;simp only[go_sem,Bx,Nc,Uc];by_cases hlt:k<Z' t
        ·have p:(k:Int)<(Z' t:Nat):=Om;have R:(t.map cX.cells)[k]?=some (t[k]).cells:=by simp[hlt]
         have N:=F t[k] (by rw[B];exact List.mem_cons_of_mem _ (awS hlt));have e:=Q k hlt;unfold WY at e;simp only[go_sem,p,Nd,R];refine aW λo2 γ=>?_;simp only[go_sem];refine dH .nil flS a_ ?_;simp only[go_sem,Nf];refine eI (An _ 0 k) (L.inn (t[k]).parent 0 k) rfl a_ ?_;cases M:within (t[k]).parent 0 k with
         |false =>simp only[M,awY]at e;simp only[go_sem,axP,wI];exact bA (b:=false) rfl (fG hlt e).symm
         |true=>
          obtain⟨i1,i2⟩:=within_iff.1 M;have i3:(t[k]).parent.toNat<Z' f.avD:=Om;have H:(f.avD.map cX.cells)[(t[k]).parent.toNat]?=some (f.avD[(t[k]).parent.toNat]).cells:=by simp[i3]
          have O:(f.avD.map cX.level).getD (t[k]).parent.toNat 0=(f.avD[(t[k]).parent.toNat]).level:=by simp[i3]
          rw[O,M,axN]at e;by_cases e2:(f.avD[(t[k]).parent.toNat]).level=IntKind.i64.wrap ((t[k]).level-1)
          ·rw[bQ e2,axN]at e;simp only[go_sem,awZ,i1,H,dO e2];refine eI (An _ 1 4) (L.inn (t[k]).level 1 4) rfl a_ ?_;cases U:within (t[k]).level 1 4 with
           |false =>simp only[U,awY]at e;simp only[go_sem,axP,wI];exact bA (b:=false) rfl (fG hlt e).symm
           |true=>
            rw[U,axN]at e;simp only[go_sem,awZ];refine eI (An _ 1 64) (L.inn (t[k]).avU 1 64) rfl a_ ?_;cases V:within (t[k]).avU 1 64 with
            |false =>simp only[V,awY]at e;simp only[go_sem,axP,wI];exact bA (b:=false) rfl (fG hlt e).symm
            |true=>
             rw[V,axN]at e;simp only[go_sem,awZ];refine eI (aiA (t[k]).avP) (L.lim _ N.1) rfl a_ ?_;cases W:jA (t[k]).avP with
             |false =>rw[W]at e;simp only[go_sem,axP,wI];exact bA (b:=false) rfl (fG hlt e).symm
             |true =>rw[W]at e;simp only[go_sem,awZ,By,wZz k];refine aP (k+1) ⟨hlt,X.step e⟩ Om ?_ a_;exact Lq
          ·simp only[cU e2,awY]at e;simp only[go_sem,awZ,i1,H,fJ e2,wI];exact bA (b:=false) rfl (fG hlt e).symm
        ·have p:¬(k:Int)<(Z' t:Nat):=Om;simp only[go_sem,p,Bz];have:k=Z' t:=Om;subst this;exact bA (b:=true) rfl (show sT q t.length from X).symm
     ·simp only[go_sem,AF,rK x,awZ,dO A,dO E,fJ K,wJ];exact bA rfl (by rw[cU K];simp only[ayE,awY])
    ·simp only[go_sem,AF,rK x,awZ,dO A,fJ E,wJ];exact bA rfl (by rw[cU E];simp only[ayE,awY])
   ·simp only[go_sem,AF,rK x,awZ,fJ A,wJ];exact bA rfl (by rw[cU A];simp only[ayE,awY])
  ·simp only[go_sem,AF,bu x,axP,wJ];exact bA rfl (by rw[cU x];simp only[ayE,awY])
theorem BR(R:List Bool)(i:Nat)(row:List RF):∀k,(eJ R i row k).length=Z' R
 |0=>rfl
 |k+1=>by simp only[eJ,ayM,BR R i row k]
theorem Hf(l:dE)(R:List Bool)(i:Nat):(nE l R i).length=Z' R:=by
 unfold nE;rw[BR,ayM]
theorem wQ(l:dE)(R:List Bool):∀i,(fN l R i).length=Z' R
 |0=>rfl
 |i+1=>by simp only[fN,Hf,wQ l R i]
theorem je(l:dE):∀r,(jG l r).length=Z' l.exit
 |0=>by simp[jG]
 |r+1=>by simp only[jG,wQ,je l r]
theorem WQ{R:List Bool}{i:Nat}(h:i<Z' R):(dY R)[i]?=some [.bool (R.getD i false)]:=by
 unfold dY;rw[axH,awX h,axY,awX h];rfl
theorem CG(R:List Bool):(dY R).length=Z' R:=by simp[dY]
def SN(l:dE)(o r:Nat):PF:=(((PF.nil.set 1 (.cT l.cells)).set 3 (.osl o 1 0 l.exit.length)).set 4 (.int .i64 r))
def ID(l:dE)(o r i:Nat):PF:=(((((PF.nil.set 1 (.cT l.cells)).set 3 (.osl o 1 0 l.exit.length)).set 4 (.int .i64 r)).set 19 (.int .i64 (Z' l.exit:Nat))).set 20 (.int .i64 i))
def uS(l:dE)(o r i:Nat)(row:List RF)(k:Nat):PF:=(((((((((PF.nil.set 1 (.cT l.cells)).set 3 (.osl o 1 0 l.exit.length)).set 4 (.int .i64 r)).set 19 (.int .i64 (Z' l.exit:Nat))).set 20 (.int .i64 i)).set 5 (.int .i64 i)).set 42 (frs row)).set 43 (.int .i64 (Z' row:Nat))).set 44 (.int .i64 k))
def uT(o:Nat)(R:List Bool):PH:=PH.nil.set o (.rows 1 (dY R))
theorem Ko{C:Ctx}(L:uG C)(l:dE)(o r i:Nat)(row:List RF)(E:tL row)(V:Z' row=Z' l.exit)(hi:i<Z' l.exit)(Z:Z' l.exit≤4)(d:List Bool)(W:Z' d=Z' l.exit)(K:cJ)(F:PF)(H:PH)
  (N:(uS l o r i row 0).le F) (J:(uT o d).le H)
  (S:∀F H,(uS l o r i row row.length).le F→(uT o (eJ d i row row.length)).le H→K .normal F H) :
  aD.wp C (.block 4 (.loop CO)) K F H:=by
 simp only[go_sem];refine wp_loop (α:=Nat) (λk=>uS l o r i row k) (λk=>uT o (eJ d i row k)) (λk=>k≤Z' row) (λk=>Z' row-k) 0 (axB _) N J ?_;intro k Y;simp only[go_sem,CO,Ca,uS,uT];have O:=BR d i row k;by_cases hlt:k<Z' row
 ·have e:(k:Int)<(Z' row:Nat):=Om;have U:(row.map RF.cells)[k]?=some (row[k]).cells:=by simp[hlt]
  simp only[go_sem,e,sd,U];refine aW λo7 B=>?_;have M:o≠o7:=by rintro rfl;simp only[aU,if_true]at B;cases B
  have u:(i:Int)<(Z' l.exit:Nat):=Om;have y:(k:Int)<(Z' l.exit:Nat):=Om;have p:=WQ (R:=eJ d i row k) (i:=i) Om;have w:=WQ (R:=eJ d i row k) (i:=k) Om;have x:eJ d i row (k+1)=(eJ d i row k).set i ((eJ d i row k).getD i false||cE row[k]&&(eJ d i row k).getD k false):=by simp only[eJ,axY,axH,awX hlt,axF,azV]
  have fin:∀(b:Bool)(F:PF)(H:PH),b=((eJ d i row k).getD i false||cE row[k]&&(eJ d i row k).getD k false)→(uS l o r i row (k+1)).le F→H o=some (.rows 1 ((dY (eJ d i row k)).set i [.bool b])) →
    lO (λk=>uS l o r i row k) (λk=>uT o (eJ d i row k)) (λk=>k≤Z' row) (λk=>Z' row-k) (Z' row-k) (gU 4 K) .normal F H:=by
   intro b F H hb N J;refine aP (k+1) hlt Om N ?_;rw[tO,hb,←x]at J;exact PH.aN a_ J
  unfold uS uT at fin;generalize hb:(eJ d i row k).getD i false=b at *
  generalize X:(eJ d i row k).getD k false=c at *
  generalize Q:cE row[k]=A at *
  cases b with
  |true =>simp only[go_sem,OT,M,u,axJ,p,CQ,wZz k];exact fin true _ _ aY Lq Sq
  |false=>
   simp only[go_sem,OT,M,u,axJ,p];refine aB (L.wW _ (E.all _ (awS hlt))) rfl ?_;rw[Q];cases A with
   |false =>simp only[go_sem,u,y,M,axJ,p,w,CQ,wZz k];exact fin false _ _ aY Lq Sq
   |true =>simp only[go_sem,u,y,M,axJ,p,w,CQ,wZz k];exact fin c _ _ aY Lq Sq
 ·have e:¬(k:Int)<(Z' row:Nat):=Om;simp only[go_sem,e];have:k=Z' row:=Om;subst this;exact S _ _ (by unfold uS;exact Lq) (b_)
structure ba(l:dE):Prop where
 n:Z' l.exit≤4
 avF:Z' l.avF=Z' l.exit
 row:∀r∈l.avF,Z' r=Z' l.exit
theorem Kp{C:Ctx}(L:uG C)(l:dE)(S:l.Ok)(O:ba l)(o r:Nat)(R:List Bool)(hR:Z' R=Z' l.exit)(K:cJ)(F:PF)(H:PH)
  (u:(ID l o r 0).le F) (M:(uT o R).le H)
  (hK:∀F H,(SN l o r).le F→(uT o (fN l R l.exit.length)).le H→K .normal F H) :
  aD.wp C (.block 2 (.loop CP)) K F H:=by
 simp only[go_sem];refine wp_loop (α:=Nat) (λi=>ID l o r i) (λi=>uT o (fN l R i)) (λi=>i≤Z' l.exit) (λi=>Z' l.exit-i) 0 (axB _) u M ?_;intro i hi;have U:=wQ l R i;have hn:=O.n;by_cases hlt:i<Z' l.exit
 ·have d:(i:Int)<(Z' l.exit:Nat):=Om;have p:i<Z' l.avF:=by rw[O.avF];exact hlt
  have w:=WQ (R:=fN l R i) (i:=i) Om;have hx:(l.exit.map RF.cells)[i]?=some (l.exit[i]).cells:=by simp[hlt]
  have B:(l.avF.map λr=>[frs r])[i]?=some [frs l.avF[i]]:=by simp[p]
  have Q:(l.avF[i]).length=Z' l.exit:=O.row _ (awS p);generalize e:(fN l R i).set i ((fN l R i).getD i false||cE l.exit[i])=E;have A:Z' E=Z' l.exit:=by rw[←e,ayM];omega
  have x:fN l R (i+1)=eJ E i l.avF[i] (l.avF[i]).length:=by
   simp only[fN,nE];have W:(l.exit.map cE).getD i false=cE l.exit[i]:=by simp[axY,hlt]
   have e2:l.avF.getD i []=l.avF[i]:=by simp[axY,p]
   rw[W,e2,e]
  have rest:∀(F:PF)(H:PH),(((((((PF.nil.set 1 (.cT l.cells)).set 3 (.osl o 1 0 l.exit.length)).set 4 (.int .i64 r)).set 19 (.int .i64 (Z' l.exit:Nat))).set 20 (.int .i64 i)).set 5 (.int .i64 i)):PF).le F→H o=some (.rows 1 (dY E)) →
    aD.wp C (.seq (.region XG) (.block 4 (.loop CO))) (gU 3 (jT C (aD.wp C (.region OU)) (lO (λi=>ID l o r i) (λi=>uT o (fN l R i)) (λi=>i≤Z' l.exit) (λi=>Z' l.exit-i) (Z' l.exit-i) (gU 2 K)))) F H:=by
   intro F H u M;have f1:F 1=some (.cT l.cells):=u 1 _ rfl;have f3:F 3=some (.osl o 1 0 l.exit.length):=u 3 _ rfl;have f4:F 4=some (.int .i64 r):=u 4 _ rfl;have X:F 19=some (.int .i64 (Z' l.exit:Nat)):=u 19 _ rfl;have Y:F 20=some (.int .i64 i):=u 20 _ rfl;have Z:F 5=some (.int .i64 i):=u 5 _ rfl;rw[oi];simp only[go_sem,XG,f1,Z,B,awL];have inner:=Ko L l o r i l.avF[i] (S.row _ (awS p)) Q hlt hn E A;simp only[aD.wp,go_sem]at inner;refine inner _ _ _ ?_ (PH.aN a_ M) ?_
   ·unfold uS;exact Lq
   ·intro V H' y N;have J:V 20=some (.int .i64 i):=y 20 _ (by unfold uS;simp only[go_sem]);simp only[go_sem,OU,J,wZz i];refine aP (i+1) hlt Om ?_ (by rw[x];exact N);have g:=λ(q:Nat) v h=>y q v h;unfold ID;unfold uS at g;refine c_ (c_ (c_ (c_ (c_ d_ ?_) ?_) ?_) ?_) ?_
    ·simp only[go_sem];exact g 1 _ rfl
    ·simp only[go_sem];exact g 3 _ rfl
    ·simp only[go_sem];exact g 4 _ rfl
    ·simp only[go_sem];exact g 19 _ rfl
    ·simp only[go_sem]
  simp only[aD.wp,go_sem]at rest;simp only[go_sem,CP,XE,ID,uT,d,B9];generalize hb:(fN l R i).getD i false=b at *
  cases b with
  |true =>simp only[go_sem,XF,d,axJ,w];refine rest _ _ Lq ?_;rw[←e];simp only[go_sem,tO,Bool.true_or]
  |false =>simp only[go_sem,XF,d,axJ,w,hx];refine aB (L.wW _ (S.exit.all _ (awS hlt))) rfl ?_;simp only[go_sem,d,axJ,w];refine rest _ _ Lq ?_;rw[←e];simp only[go_sem,tO,Bool.false_or]
 ·have d:¬(i:Int)<(Z' l.exit:Nat):=Om;simp only[go_sem,CP,XE,ID,uT,d];have:i=Z' l.exit:=Om;subst this;exact hK _ _ (by unfold SN;exact Lq) b_
theorem acS{C:Ctx}(L:uG C)(l:dE)(F:l.Ok)(A:ba l):IR.wp C (bD Ud.res (cV (.bool (uU l)))) (PF.args [.agg l.cells]) .nil:=by
 have H:=A.n;have w:(Z' l.exit:Int)*((1:Nat):Int)≤140737488355328:=Om;have y:(Z' l.exit:Int)≤9223372036854775807:=Om;simp only[go_sem,IR,B1,B5,Ud,awL,w,y];refine aW λo J=>?_;simp only[go_sem,B6];refine wp_loop (α:=Nat) (λr=>SN l o r) (λr=>uT o (jG l r)) (λr=>r≤Z' l.exit+1) (λr=>Z' l.exit+1-r) 0 (axB _) ?_ ?_ ?_
 ·unfold SN;exact Lq
 ·refine PH.aN a_ ?_;simp only[go_sem,jG];simp[dY]
 intro r K;have e:=je l r;simp only[go_sem,sb,B7,SN,uT];by_cases hlt:r≤Z' l.exit
 ·have d:(r:Int)≤(Z' l.exit:Nat):=Om;simp only[go_sem,d,B8];have inner:=Kp L l F A o r (jG l r) e;simp only[aD.wp,go_sem]at inner;refine inner _ _ _ ?_ b_ ?_
  ·unfold ID;exact Lq
  ·intro B H' p u;have g:=λ(q:Nat) v h=>p q v h;unfold SN at g;have g4:B 4=some (.int .i64 r):=g 4 _ rfl;simp only[go_sem,se,g4,wZz r];refine aP (r+1) Om Om ?_ u;refine c_ (c_ (c_ d_ ?_) ?_) ?_
   ·simp only[go_sem];exact g 1 _ rfl
   ·simp only[go_sem];exact g 3 _ rfl
   ·simp only[go_sem]
 ·have d:¬(r:Int)≤(Z' l.exit:Nat):=Om;have:r=Z' l.exit+1:=Om;subst this;simp only[go_sem,d,sf];have i:=L.allb id 103 (jG l (Z' l.exit+1)) (Om:(jG l (Z' l.exit+1)).length≤_) λx _=>L.ends1 x;have E:(dY (jG l (Z' l.exit+1))).length=Z' l.exit:=by rw[CG,e]
  refine sS i (rs:=dY (jG l (Z' l.exit+1))) (o:=o) (s:=1) Sq ?_ ?_
  ·simp only[go_sem,AE (show l.exit.length≤(dY (jG l (Z' l.exit+1))).length by omega),axE (show(dY (jG l (Z' l.exit+1))).length≤l.exit.length by omega)]
  ·simp only[go_sem];exact bA rfl rfl
end Go.PM
