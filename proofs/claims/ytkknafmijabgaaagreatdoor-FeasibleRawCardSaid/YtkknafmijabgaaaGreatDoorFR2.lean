/-
  Texts of ours, joined. No condition.
-/
import Derived.Test.YtkknafmijabgaaaGreatDoorFR1
import Derived.Shelf.Strconv.Itoa3
import Derived.Test.YtkknafmijabgaaaGreatDoorProg
import Derived.ProofKit
import Derived.OpenShut
set_option linter.unusedSimpArgs false
set_option linter.unusedVariables false
open Nat renaming reduceEqDiff→γ,reduceAdd→δ,reduceSub→ε,reduceMul→ζ,reduceLT→η,reduceLeDiff→θ,reduceBEq→τ
open Int renaming reduceLT→ι,reduceLE→κ,reduceEq→μ,reduceToNat→ν,reduceAdd→ξ,reduceNeg→ο,reduceBEq→ρ,reduceBNe→σ
open List renaming reduceReplicate→υ
open List renaming range→a8D,length_map→a8E,replicate→a8F,getElem_mem→a8G,length_append→a8H,getElem?_eq_getElem→a8L,getD_eq_getElem?_getD→a8M,length_singleton→a8N,mem_cons→a8S,take_of_length_le→a8V,length_take→a8W,getElem?_map→a8Y,mem_range→a9B,getElem?_eq_some_iff→a9F,mem_map→a9G,all_eq_true→a9I,mem_singleton→a9K,append_assoc→a9L,take_length→a9M,mem_append→a9N,drop_zero→a9R,getElem?_eq_none→a9S,map_cons→a9T,append_nil→a9W,length_set→a9X,length_cons→a9Y,length_drop→a9Z,mem_of_getElem?→baA,getElem?_append_left→baB,getElem?_append_right→baD,take_succ_eq_append_getElem→baF,drop_eq_getElem_cons→baR,getElem?_range→baS,range_succ→baT,length_nil→baX,map_nil→bbA,mem_cons_of_mem→bbB,take_append_drop→bbC,getElem_map→bbF,getElem_of_mem→bbJ,nil_append→bbK,getElem?_drop→bbO,length_replicate→bbP,cons_append→bbR,set_append_right→bbW,drop_of_length_le→bcB,getElem?_replicate→bcC
open Nat renaming gcd→a8I,le_refl→a8J,zero_le→a8K,zero_add→a8R,mul_add→a8T,lt_or_ge→a8Z,mul_assoc→a9C,mul_comm→a9E,mul_le_mul_right→a9H,add_mul→a9O,add_zero→a9P,mod_eq_of_lt→a9V,mod_lt→baC,pow_succ→baG,le_trans→baK,succ_mul→baL,eq_zero_or_pos→baN,min_eq_left→baO,mul_le_mul_left→baU,pos_of_ne_zero→baV,add_assoc→baY,pow_pos→bbD,div_eq_of_lt→bbL,div_lt_iff_lt_mul→bbM,mul_le_mul→bbT,div_add_mod→bbX,lt_of_lt_of_le→bcE
open Bool renaming false_and→a8O,not_true→a8Q,true_and→a8U,not_false→a8X,and_eq_true→a9A,and_false→a9Q,and_true→baI
open Option renaming map_eq_some_iff→a8P,map_some→a9J,some→baP,getD_some→baW,bind_some→bbU,bind_eq_some_iff→bbY
open Array renaming length_toList→bbE
open Int renaming toNat_natCast→bbI
set_option maxRecDepth 100000
set_option maxHeartbeats 800000
noncomputable section
namespace Go.Proofs
open Go.Shelf
def Tryz.aiU:Go.Shelf.Ren:=⟨fun | 171=>79 | 243=>112 | 246=>142 | 283=>159 | 284=>160 | 285=>161 | 286=>162 | 129=>174 | 317=>173 | 318=>175 | 319=>176 | 320=>177 | 337=>182 | 338=>183 | n=>n,fun | 3=>3 | 9=>9 | 2=>2 | 4=>4 | 171=>188 | 0=>0 | 53=>140 | 37=>22 | 5=>5 | 173=>191 | 212=>196 | 51=>165 | 20=>20 | 213=>197 | 46=>170 | 232=>205 | 233=>206 | n=>n,fun | 17=>0 | 18=>1 | 19=>2 | n=>n⟩
theorem Tryz.aUL:Go.Proofs.Lays.n171 Tryz.prog Tryz.aiU:={
 mixed:=by kernel_rfl
 f129:=Tryz.func174.trans (congrArg some (by kernel_rfl))
 f171:=Tryz.func79.trans (congrArg some (by kernel_rfl))
 f243:=Tryz.func112.trans (congrArg some (by kernel_rfl))
 f246:=Tryz.func142.trans (congrArg some (by kernel_rfl))
 f283:=Tryz.func159.trans (congrArg some (by kernel_rfl))
 f284:=Tryz.func160.trans (congrArg some (by kernel_rfl))
 f285:=Tryz.func161.trans (congrArg some (by kernel_rfl))
 f286:=Tryz.func162.trans (congrArg some (by kernel_rfl))
 f317:=Tryz.func173.trans (congrArg some (by kernel_rfl))
 f318:=Tryz.func175.trans (congrArg some (by kernel_rfl))
 f319:=Tryz.func176.trans (congrArg some (by kernel_rfl))
 f320:=Tryz.func177.trans (congrArg some (by kernel_rfl))
 f337:=Tryz.func182.trans (congrArg some (by kernel_rfl))
 f338:=Tryz.func183.trans (congrArg some (by kernel_rfl))
 t0:=Tryz.underlying0
 a0:=Tryz.isAgg0
 z0:=Tryz.sizeOf0
 v0:=Tryz.zeroValue0
 t2:=Tryz.underlying2
 a2:=Tryz.isAgg2
 z2:=Tryz.sizeOf2
 v2:=Tryz.zeroValue2
 t3:=Tryz.underlying3
 a3:=Tryz.isAgg3
 z3:=Tryz.sizeOf3
 v3:=Tryz.zeroValue3
 t4:=Tryz.underlying4
 a4:=Tryz.isAgg4
 z4:=Tryz.sizeOf4
 v4:=Tryz.zeroValue4
 t5:=Tryz.underlying5
 a5:=Tryz.isAgg5
 z5:=Tryz.sizeOf5
 v5:=Tryz.zeroValue5
 t9:=Tryz.underlying9
 a9:=Tryz.isAgg9
 z9:=Tryz.sizeOf9
 v9:=Tryz.zeroValue9
 t20:=Tryz.underlying20
 a20:=Tryz.isAgg20
 z20:=Tryz.sizeOf20
 v20:=Tryz.zeroValue20
 t37:=Tryz.underlying22
 a37:=Tryz.isAgg22
 z37:=Tryz.sizeOf22
 v37:=Tryz.zeroValue22
 t46:=Tryz.underlying170
 a46:=Tryz.isAgg170
 z46:=Tryz.sizeOf170
 v46:=Tryz.zeroValue170
 t51:=Tryz.underlying165
 a51:=Tryz.isAgg165
 z51:=Tryz.sizeOf165
 v51:=Tryz.zeroValue165
 t53:=Tryz.underlying140
 a53:=Tryz.isAgg140
 z53:=Tryz.sizeOf140
 v53:=Tryz.zeroValue140
 t171:=Tryz.underlying188
 a171:=Tryz.isAgg188
 z171:=Tryz.sizeOf188
 v171:=Tryz.zeroValue188
 t173:=Tryz.underlying191
 a173:=Tryz.isAgg191
 z173:=Tryz.sizeOf191
 v173:=Tryz.zeroValue191
 t212:=Tryz.underlying196
 a212:=Tryz.isAgg196
 z212:=Tryz.sizeOf196
 v212:=Tryz.zeroValue196
 t213:=Tryz.underlying197
 a213:=Tryz.isAgg197
 z213:=Tryz.sizeOf197
 t232:=Tryz.underlying205
 a232:=Tryz.isAgg205
 z232:=Tryz.sizeOf205
 v232:=Tryz.zeroValue205
 t233:=Tryz.underlying206
 a233:=Tryz.isAgg206
 z233:=Tryz.sizeOf206
 v233:=Tryz.zeroValue206
 g17:=by kernel_rfl
 g18:=by kernel_rfl
 g19:=by kernel_rfl }
end Go.Proofs
namespace Go.PM
open Go
inductive Co:PV→PV→Prop
 | refl (v:PV):Co v v
 | junk (v:PV):Co v .junk
 | nil (s:Nat):Co .aD (.sl s [])
 | osl0 (o s off s':Nat):Co (.osl o s off 0) (.sl s' [])
 | agg {cs ds:List PV} (hl:ds.length=cs.length) (h:∀ (j:Nat) p q,cs[j]?=some p→ds[j]?=some q→Co p q):Co (.agg cs) (.agg ds)
 | tup {cs ds:List PV} (hl:ds.length=cs.length) (h:∀ (j:Nat) p q,cs[j]?=some p→ds[j]?=some q→Co p q):Co (.tup cs) (.tup ds)
 | bO {cs ds:List PV} (hl:ds.length=cs.length) (h:∀ (j:Nat) p q,cs[j]?=some p→ds[j]?=some q→Co p q):Co (.bO cs) (.bO ds)
 | sl {s:Nat} {rs ts:List (List PV)} (hl:ts.length=rs.length) (hr:∀ (i:Nat) r t,rs[i]?=some r→ts[i]?=some t→t.length=r.length)
   (h:∀ (i j:Nat) p q,at2 rs i j=some p→at2 ts i j=some q→Co p q):Co (.sl s rs) (.sl s ts)
structure CoL (ps qs:List PV):Prop where
 len:qs.length=ps.length
 at_:∀ (j:Nat) p q,ps[j]?=some p→qs[j]?=some q→Co p q
theorem CoL.refl (ps:List PV):CoL ps ps:=⟨rfl,fun j p q h k=>by rw[h] at k; cases k; exact .refl p⟩
theorem Co.sound {E:Env} {p q:PV} (h:Co p q):∀ {v:Value},bB E p v→bB E q v:=by
 induction h with
 | refl=>intro v r; exact r
 | junk=>intro v _; exact .junk v
 | nil s =>intro v r;cases r;exact .sl (fun _ _=>.bool false) (by simp) (by decide) (by simp) (by simp) (fun _ _=>rfl) (by simp[at2])
 | osl0 o s α s' =>
  intro v r;cases r with
  | osl hb K X W y hn S=>exact .sl (fun _ _=>.bool false) (by simp) y (by simp) (by simp) (fun _ _=>rfl) (by simp[at2])
 | agg x h F =>
  intro v r;cases r with
  | agg vs B I A =>
  refine .agg vs (B.trans x.symm) I fun j q u hq U=>?_;have w:=(a9F.1 hq).1;have l:=a8L (show j<_ by rw[x] at w; exact w);exact F j _ q l hq (A j _ u l U)
 | tup x h F =>
  intro v r;cases r with
  | tup vs B A =>
  refine .tup vs (B.trans x.symm) fun j q u hq U=>?_;have w:=(a9F.1 hq).1;have l:=a8L (show j<_ by rw[x] at w; exact w);exact F j _ q l hq (A j _ u l U)
 | bO x h F =>
  intro v r;cases r with
  | bO u K O I A =>
  refine .bO u K (fun j q hq=>?_) I fun j q hq=>?_
  ·have w:=(a9F.1 hq).1;exact O j _ (a8L (show j<_ by rw[x] at w; exact w))
  ·have w:=(a9F.1 hq).1;have l:=a8L (show j<_ by rw[x] at w; exact w);exact F j _ q l hq (A j _ l)
 | @sl s rs ts x J h F =>
  intro v r;have M:∀ (i j:Nat) q,at2 ts i j=some q→∃ p,at2 rs i j=some p:=by intro i j q hq;unfold at2 at hq ⊢;rw[bbY] at hq;obtain⟨t,N,hq⟩:=hq;have hi:=(a9F.1 N).1;have A:=a8L (Om:i<rs.length);have:=J i _ t A N;have w:=(a9F.1 hq).1;rw[A];exact⟨(rs[i])[j]'Om,by simp⟩
  cases r with
  | sl u V y hs Z I A =>
  rw[← x];refine .sl u Om y (fun t N=>?_) (fun R=>?_) I fun i j q hq=>?_
  ·obtain⟨i,hi,rfl⟩:=bbJ N;have:=J i rs[i] ts[i] (by simp) (by simp);rw[this];exact hs _ (by simp)
  ·obtain⟨Y,e,sp,O⟩:=Z (by rintro rfl; exact R (List.eq_nil_of_length_eq_zero (by simpa using x)));refine⟨Y,e,sp,fun i j q hq=>?_⟩;obtain⟨p,l⟩:=M i j q hq;exact O i j p l
  ·obtain⟨p,l⟩:=M i j q hq;exact F i j p q l hq (A i j p l)
theorem CoL.sound {E:Env}:∀ {ps e:List PV} {vs:List Value},CoL ps e→fT E ps vs→fT E e vs
 | [],e,vs,h,r=>by cases r;have:e=[]:=List.eq_nil_of_length_eq_zero h.len;subst this;exact .nil
 | p::ps,e,vs,h,r=>by
  cases r with
  | cons r1 r2 =>
  cases e with
  | nil=>have:=h.len; simp at this
  | cons q e =>refine .cons ((h.at_ 0 p q rfl rfl).sound r1) (CoL.sound ⟨by simpa using h.len,fun j x y a b=>h.at_ (j+1) x y (by simpa using a) (by simpa using b)⟩ r2)
theorem aH.args {C:Ctx} {name:Nat} {args e:List PV} {H:PH} {R:PV→PH→Prop} (h:aH C name e H R) (u:CoL args e):aH C name args H R :=
 ⟨h.1,fun E w vs l hW j=>h.2 E w vs l hW (u.sound j)⟩
theorem aH.post {C:Ctx} {name:Nat} {args:List PV} {H:PH} {R A:PV→PH→Prop} (h:aH C name args H R) (K:∀ r H',R r H'→∃ B,Co r B∧A B H'):aH C name args H A :=
 ⟨h.1,fun E w vs J hW x=>(h.2 E w vs J hW x).mono fun e O he=>by obtain⟨v,pv,F,H',rfl,j,N,I,M⟩:=he;obtain⟨y,l,u⟩:=K pv H' M;exact⟨v,y,F,H',rfl,j,l.sound N,I,u⟩⟩
attribute [go_sem] List.getElem?_cons_succ List.getElem?_cons_zero and_self and_true true_and or_true true_or or_false false_or a8Q a8X a9J bbU if_true if_false a9Y baX List.drop_succ_cons a9R List.take_succ_cons List.take_zero a9T bbA baP.injEq PV.bool.injEq PV.int.injEq aQ PV.bin
@[go_sem] theorem a0E (k:IntKind) (a b:Int):pL .add k a b=some (.int k (k.wrap (a+b))):=(rfl)
@[go_sem] theorem a0O (k:IntKind) (a b:Int):pL .sub k a b=some (.int k (k.wrap (a-b))):=(rfl)
@[go_sem] theorem a0K (k:IntKind) (a b:Int):pL .mul k a b=some (.int k (k.wrap (a*b))):=(rfl)
@[go_sem] theorem a0M (k:IntKind) (a b:Int):pL .quo k a b=if b=0 then none else some (.int k (k.wrap (a.tdiv b))):=(rfl)
@[go_sem] theorem a0N (k:IntKind) (a b:Int):pL .rem k a b=if b=0 then none else some (.int k (a.tmod b)):=(rfl)
@[go_sem] theorem a0F (k:IntKind) (a b:Int):pL .eql k a b=some (.bool (a==b)):=(rfl)
@[go_sem] theorem a0L (k:IntKind) (a b:Int):pL .neq k a b=some (.bool (a != b)):=(rfl)
@[go_sem] theorem a0J (k:IntKind) (a b:Int):pL .lss k a b=some (.bool (decide (a<b))):=(rfl)
@[go_sem] theorem a0I (k:IntKind) (a b:Int):pL .leq k a b=some (.bool (decide (a≤b))):=(rfl)
@[go_sem] theorem a0H (k:IntKind) (a b:Int):pL .gtr k a b=some (.bool (decide (a>b))):=(rfl)
@[go_sem] theorem a0G (k:IntKind) (a b:Int):pL .geq k a b=some (.bool (decide (a≥b))):=(rfl)
section
variable {C:Ctx} {K:cI} {F:PF} {H:PH}
@[go_sem] theorem a4S:aC.wp C .skip K F H=K .normal F H:=(rfl)
@[go_sem] theorem a1Y (ops:List bE):aC.wp C (.region ops) K F H=wpOps C ops (K .normal) F H:=(rfl)
@[go_sem] theorem D9 (a b:aC):aC.wp C (.seq a b) K F H=a.wp C (jY C (b.wp C) K) F H:=(rfl)
@[go_sem] theorem a3H (id:Nat) (c:aC):aC.wp C (.block id c) K F H=c.wp C (fR id K) F H:=(rfl)
@[go_sem] theorem a4R (id:Nat):aC.wp C (.exit id) K F H=K (.exit id) F H:=(rfl)
@[go_sem] theorem a5D:aC.wp C .ret K F H=K .ret F H:=(rfl)
def bc (C:Ctx) (v:Option PV) (a b:aC) (K:cI) (F:PF) (H:PH):Prop :=
 match v with
 | some (.bool t)=>if t then a.wp C K F H else b.wp C K F H
 | _=>False
@[go_sem] theorem aRH (c:aP) (a b:aC):aC.wp C (.cond c a b) K F H=bc C (c.ev F) a b K F H:=(rfl)
@[go_sem] theorem a0T (a b:aC):bc C (some (.bool true)) a b K F H=a.wp C K F H:=(rfl)
@[go_sem] theorem aZE (a b:aC):bc C (some (.bool false)) a b K F H=b.wp C K F H:=(rfl)
theorem aLX {t:Bool} {a b:aC} (e:t=true→a.wp C K F H) (j:t=false→b.wp C K F H):bc C (some (.bool t)) a b K F H:=by
 cases t
 ·exact j rfl
 ·exact e rfl
@[go_sem] theorem aZM (w:cI→PF→PH→Prop):jY C w K .normal F H=w K F H:=(rfl)
@[go_sem] theorem aYU (w:cI→PF→PH→Prop):jY C w K .normal=w K:=(rfl)
@[go_sem] theorem a2U (w:cI→PF→PH→Prop) (id:Nat):jY C w K (.exit id)=K (.exit id):=(rfl)
@[go_sem] theorem a4I (w:cI→PF→PH→Prop):jY C w K .ret=K .ret:=(rfl)
@[go_sem] theorem aXG (id:Nat):fR id K .normal=K .normal:=(rfl)
@[go_sem] theorem a0R (id:Nat):fR id K .ret=K .ret:=(rfl)
@[go_sem] theorem JF (id e:Nat):fR id K (.exit e) F H=if e=id then K .normal F H else K (.exit e) F H:=(rfl)
@[go_sem] theorem a1W (K:PF→PH→Prop):wpOps C [] K F H=K F H:=(rfl)
@[go_sem] theorem a1X (d:Option Nat) (op:POp) (e:List bE) (K:PF→PH→Prop):wpOps C (⟨d,op,none⟩::e) K F H=wpOp C op d (wpOps C e K) F H:=(rfl)
def BU (C:Ctx) (v:Option PV) (j:Bool) (op:POp) (d:Option Nat) (e:List bE) (K:PF→PH→Prop) (F:PF) (H:PH):Prop :=
 match v with
 | some (.bool b)=>if b=j then wpOp C op d (wpOps C e K) F H else wpOps C e K (F.put d (.tup [])) H
 | some (.tup [])=>wpOps C e K (F.put d (.tup [])) H
 | _=>False
@[go_sem] theorem ajK (d:Option Nat) (op:POp) (t:Nat) (j:Bool) (e:List bE) (K:PF→PH→Prop) :
  wpOps C (⟨d,op,some (t,j)⟩::e) K F H=BU C (F t) j op d e K F H:=(rfl)
@[go_sem] theorem a2Q (op:POp) (d:Option Nat) (e:List bE) (K:PF→PH→Prop):BU C (some (.bool true)) true op d e K F H=wpOp C op d (wpOps C e K) F H:=(rfl)
@[go_sem] theorem a2N (op:POp) (d:Option Nat) (e:List bE) (K:PF→PH→Prop):BU C (some (.bool false)) false op d e K F H=wpOp C op d (wpOps C e K) F H:=(rfl)
@[go_sem] theorem a2P (op:POp) (d:Option Nat) (e:List bE) (K:PF→PH→Prop):BU C (some (.bool true)) false op d e K F H=wpOps C e K (F.put d (.tup [])) H:=(rfl)
@[go_sem] theorem a2O (op:POp) (d:Option Nat) (e:List bE) (K:PF→PH→Prop):BU C (some (.bool false)) true op d e K F H=wpOps C e K (F.put d (.tup [])) H:=(rfl)
@[go_sem] theorem aZJ (j:Bool) (op:POp) (d:Option Nat) (e:List bE) (K:PF→PH→Prop):BU C (some (.tup [])) j op d e K F H=wpOps C e K (F.put d (.tup [])) H:=(rfl)
@[go_sem] theorem a4F (d:Nat) (v:PV):F.put (some d) v=F.set d v:=(rfl)
@[go_sem] theorem a4E (v:PV):F.put none v=F:=(rfl)
@[go_sem] theorem oJ (i j:Nat) (v:PV):(F.set i v) j=if j=i then some v else F j:=(rfl)
@[go_sem] theorem args_at (vs:List PV) (i:Nat):PF.args vs i=vs[i]?:=(rfl)
@[go_sem] theorem a5I (i:Nat):PF.nil i=none:=(rfl)
@[go_sem] theorem sd (t:Nat):(aP.tmp t).ev F=F t:=(rfl)
@[go_sem] theorem a3W (v:PV):(aP.const v).ev F=some v:=(rfl)
@[go_sem] theorem aS (i j:Nat) (x:bZ):(H.set i x) j=if j=i then some x else H j:=(rfl)
@[go_sem] theorem Ca (i:Nat):PH.nil i=none:=(rfl)
@[go_sem] theorem bg:aP.evs F []=some []:=(rfl)
@[go_sem] theorem GF (x:aP) (xs:List aP):aP.evs F (x::xs)=(match x.ev F,aP.evs F xs with | some v,some vs=>some (v::vs) | _,_=>none):=(rfl)
theorem lK {i j:Nat} {x:bZ}:(H.set i x) j=none↔j≠i∧H j=none:=by
 rw[aS];split<;>simp_all
@[go_sem] theorem aZN (v:PV) (d:Option Nat) (K:PF→PH→Prop):cK (some v) d K F H=K (F.put d v) H:=by
 simp[cK]
theorem aO {e:Nat→PV} {x:bZ} {d:Option Nat} {K:PF→PH→Prop} (h:∀ o,H o=none→K (F.put d (e o)) (H.set o x)):qU (some (e,x)) d K F H:=⟨e,x,rfl,h⟩
@[go_sem] theorem a5B (x:aP) (d:Option Nat) (K:PF→PH→Prop):wpOp C (.mv x) d K F H=cK (aQ (.mv x) F H) d K F H:=(rfl)
@[go_sem] theorem a3G (x:aP) (d:Option Nat) (K:PF→PH→Prop):wpOp C (.same x) d K F H=cK (aQ (.same x) F H) d K F H:=(rfl)
@[go_sem] theorem a3F (c a b:aP) (d:Option Nat) (K:PF→PH→Prop):wpOp C (.pick c a b) d K F H=cK (aQ (.pick c a b) F H) d K F H:=(rfl)
@[go_sem] theorem a4M (o:BinOp) (x y:aP) (d:Option Nat) (K:PF→PH→Prop):wpOp C (.bin o x y) d K F H=cK (aQ (.bin o x y) F H) d K F H:=(rfl)
@[go_sem] theorem a4O (n:Bool) (x y:aP) (d:Option Nat) (K:PF→PH→Prop):wpOp C (.eqb n x y) d K F H=cK (aQ (.eqb n x y) F H) d K F H:=(rfl)
@[go_sem] theorem a4P (n:Bool) (e:List Sc) (x y:aP) (d:Option Nat) (K:PF→PH→Prop):wpOp C (.eqs n e x y) d K F H=cK (aQ (.eqs n e x y) F H) d K F H:=(rfl)
@[go_sem] theorem a5C (o:UnOp) (x:aP) (d:Option Nat) (K:PF→PH→Prop):wpOp C (.un o x) d K F H=cK (aQ (.un o x) F H) d K F H:=(rfl)
@[go_sem] theorem a2Y (k:IntKind) (x:aP) (d:Option Nat) (K:PF→PH→Prop):wpOp C (.conv k x) d K F H=cK (aQ (.conv k x) F H) d K F H:=(rfl)
@[go_sem] theorem a1P (z:List PV) (ps:List (Nat × Nat × aP)) (d:Option Nat) (K:PF→PH→Prop):wpOp C (.build z ps) d K F H=cK (aQ (.build z ps) F H) d K F H:=(rfl)
@[go_sem] theorem a3D (n:Option Nat) (p:aP) (d:Option Nat) (K:PF→PH→Prop):wpOp C (.load n p) d K F H=cK (aQ (.load n p) F H) d K F H:=(rfl)
@[go_sem] theorem aZY (x:aP) (d:Option Nat) (K:PF→PH→Prop):wpOp C (.a7D x) d K F H=cK (aQ (.a7D x) F H) d K F H:=(rfl)
@[go_sem] theorem aZR (e:Nat) (x:aP) (d:Option Nat) (K:PF→PH→Prop):wpOp C (.a7U e x) d K F H=cK (aQ (.a7U e x) F H) d K F H:=(rfl)
@[go_sem] theorem a1R (e:Nat) (n:Option Nat) (x:aP) (d:Option Nat) (K:PF→PH→Prop):wpOp C (.field e n x) d K F H=cK (aQ (.field e n x) F H) d K F H:=(rfl)
@[go_sem] theorem a3A (s:Nat) (x i:aP) (d:Option Nat) (K:PF→PH→Prop):wpOp C (.a7H s x i) d K F H=cK (aQ (.a7H s x i) F H) d K F H:=(rfl)
@[go_sem] theorem a2Z (n s:Nat) (x i:aP) (d:Option Nat) (K:PF→PH→Prop):wpOp C (.idxA n s x i) d K F H=cK (aQ (.idxA n s x i) F H) d K F H:=(rfl)
@[go_sem] theorem a3B (n s:Nat) (g:Bool) (x i:aP) (d:Option Nat) (K:PF→PH→Prop):wpOp C (.idxV n s g x i) d K F H=cK (aQ (.idxV n s g x i) F H) d K F H:=(rfl)
@[go_sem] theorem aZS (x i:aP) (d:Option Nat) (K:PF→PH→Prop):wpOp C (.a7S x i) d K F H=cK (aQ (.a7S x i) F H) d K F H:=(rfl)
@[go_sem] theorem a1U (s:Nat) (x:aP) (lo hi mx:Option aP) (d:Option Nat) (K:PF→PH→Prop):wpOp C (.slice s x lo hi mx) d K F H=cK (aQ (.slice s x lo hi mx) F H) d K F H:=(rfl)
@[go_sem] theorem aZZ (n s:Nat) (x:aP) (lo hi mx:Option aP) (d:Option Nat) (K:PF→PH→Prop):wpOp C (.sliceA n s x lo hi mx) d K F H=cK (aQ (.sliceA n s x lo hi mx) F H) d K F H:=(rfl)
@[go_sem] theorem aXJ (x:aP) (lo hi:Option aP) (d:Option Nat) (K:PF→PH→Prop):wpOp C (.a7N x lo hi) d K F H=cK (aQ (.a7N x lo hi) F H) d K F H:=(rfl)
@[go_sem] theorem a2R:PV.yO .aD=some (.int .i64 0):=(rfl)
@[go_sem] theorem a5A (s:Nat) (rows:List (List PV)):PV.yO (.sl s rows)=some (.int .i64 rows.length):=(rfl)
@[go_sem] theorem a4C (o s e n:Nat):PV.yO (.osl o s e n)=some (.int .i64 n):=(rfl)
@[go_sem] theorem a4Q (x:aP) (d:Option Nat) (K:PF→PH→Prop):wpOp C (.len x) d K F H=cK (aQ (.len x) F H) d K F H:=(rfl)
@[go_sem] theorem aZU (x:aP) (d:Option Nat) (K:PF→PH→Prop):wpOp C (.a7R x) d K F H=cK (aQ (.a7R x) F H) d K F H:=(rfl)
@[go_sem] theorem a3C (x:aP) (d:Option Nat) (K:PF→PH→Prop):wpOp C (.lenM x) d K F H=cK (aQ (.lenM x) F H) d K F H:=(rfl)
@[go_sem] theorem a1S (n:Bool) (x:aP) (d:Option Nat) (K:PF→PH→Prop):wpOp C (.isNil n x) d K F H=cK (aQ (.isNil n x) F H) d K F H:=(rfl)
@[go_sem] theorem aZL:PV.MX .aD=some true:=(rfl)
@[go_sem] theorem a1G (o s e len:Nat):PV.MX (.osl o s e len)=some false:=(rfl)
@[go_sem] theorem aZK (s:Nat) (r:List PV) (rs:List (List PV)):PV.MX (.sl s (r::rs))=some false:=(rfl)
@[go_sem] theorem aZQ (x:aP) (d:Option Nat) (K:PF→PH→Prop):wpOp C (.a8C x) d K F H=cK (aQ (.a8C x) F H) d K F H:=(rfl)
@[go_sem] theorem aZA (x:aP) (i:Nat) (d:Option Nat) (K:PF→PH→Prop):wpOp C (.extract x i) d K F H=cK (aQ (.extract x i) F H) d K F H:=(rfl)
@[go_sem] theorem aZX (m:Bool) (x y:aP) (d:Option Nat) (K:PF→PH→Prop):wpOp C (.a7L m x y) d K F H=cK (aQ (.a7L m x y) F H) d K F H:=(rfl)
@[go_sem] theorem a3E (n:Nat) (cs:List aP) (d:Option Nat) (K:PF→PH→Prop):wpOp C (.mkfn n cs) d K F H=cK (aQ (.mkfn n cs) F H) d K F H:=(rfl)
@[go_sem] theorem aZV (sh:MSh) (z:PV) (x k:aP) (ok:Bool) (d:Option Nat) (K:PF→PH→Prop):wpOp C (.lookup sh z x k ok) d K F H=cK (aQ (.lookup sh z x k ok) F H) d K F H:=(rfl)
@[go_sem] theorem aWV (x:aP) (d:Option Nat) (K:PF→PH→Prop):wpOp C (.a7E x) d K F H=cK (aQ (.a7E x) F H) d K F H:=(rfl)
@[go_sem] theorem a2W (x:aP) (d:Option Nat) (K:PF→PH→Prop):wpOp C (.box true x) d K F H=cK (aQ (.box true x) F H) d K F H:=(rfl)
@[go_sem] theorem aYZ (s l:Nat) (z:List PV) (ps:List (Nat × aP)) (d:Option Nat) (K:PF→PH→Prop):wpOp C (.a6V true s l z ps) d K F H=cK (aQ (.a6V true s l z ps) F H) d K F H:=(rfl)
@[go_sem] theorem a1O (cs:List PV) (d:Option Nat) (K:PF→PH→Prop):wpOp C (.alloc cs) d K F H=qU (eC (.alloc cs) F) d K F H:=(rfl)
@[go_sem] theorem aZB (s b:Nat) (z:List PV) (l c:aP) (d:Option Nat) (K:PF→PH→Prop):wpOp C (.a6Y s b z l c) d K F H=qU (eC (.a6Y s b z l c) F) d K F H:=(rfl)
@[go_sem] theorem a1T (sh:MSh) (d:Option Nat) (K:PF→PH→Prop):wpOp C (.a7Y sh) d K F H=qU (eC (.a7Y sh) F) d K F H:=(rfl)
@[go_sem] theorem a4N (x:aP) (d:Option Nat) (K:PF→PH→Prop):wpOp C (.box false x) d K F H=qU (eC (.box false x) F) d K F H:=(rfl)
@[go_sem] theorem aZP (s l:Nat) (z:List PV) (ps:List (Nat × aP)) (d:Option Nat) (K:PF→PH→Prop):wpOp C (.a6V false s l z ps) d K F H=qU (eC (.a6V false s l z ps) F) d K F H:=(rfl)
@[go_sem] theorem a1V (n:Nat) (p x:aP) (d:Option Nat) (K:PF→PH→Prop):wpOp C (.store n p x) d K F H=cW (.store n p x) F H (fun r H'=>K (F.put d r) H'):=(rfl)
@[go_sem] theorem aZO (s b:Nat) (x y:aP) (d:Option Nat) (K:PF→PH→Prop):wpOp C (.append s b x y) d K F H=cW (.append s b x y) F H (fun r H'=>K (F.put d r) H'):=(rfl)
@[go_sem] theorem aZW (sh:MSh) (x k v:aP) (d:Option Nat) (K:PF→PH→Prop):wpOp C (.a7I sh x k v) d K F H=cW (.a7I sh x k v) F H (fun r H'=>K (F.put d r) H'):=(rfl)
@[go_sem] theorem aZT (sh:MSh) (x k v:aP) (d:Option Nat) (K:PF→PH→Prop):wpOp C (.insert sh x k v) d K F H=cW (.insert sh x k v) F H (fun r H'=>K (F.put d r) H'):=(rfl)
@[go_sem] theorem a2X (n:Nat) (e:List aP) (d:Option Nat) (K:PF→PH→Prop):wpOp C (.call n e) d K F H=jU C n e [] d K F H:=(rfl)
@[go_sem] theorem a1Q (x:aP) (e:List aP) (d:Option Nat) (K:PF→PH→Prop):wpOp C (.a7T x e) d K F H=AW C (x.ev F) e d K F H:=(rfl)
@[go_sem] theorem a1N (n:Nat) (cs:List PV) (e:List aP) (d:Option Nat) (K:PF→PH→Prop):AW C (some (.fn n cs)) e d K F H=jU C n e cs d K F H:=(rfl)
theorem PF.nil_le:PF.nil.le F:=fun _ _ h=>(by cases h)
abbrev c_:=@PF.nil_le
theorem PF.aF {i:Nat} {v:PV} {G:PF} (w:F.le G) (x:G i=some v):(F.set i v).le G:=by
 intro j u l;rw[oJ] at l;split at l
 ·rename_i e; subst e; cases l; exact x
 ·exact w _ _ l
abbrev d_:=@PF.aF
theorem PF.le_refl:F.le F:=fun _ _ h=>h
theorem PH.nil_le:PH.nil.le H:=fun _ _ h=>(by cases h)
abbrev a_:=@PH.nil_le
theorem PH.aF {i:Nat} {x:bZ} {G:PH} (w:H.le G) (y:G i=some x):(H.set i x).le G:=by
 intro j u l;rw[aS] at l;split at l
 ·rename_i e; subst e; cases l; exact y
 ·exact w _ _ l
abbrev e_:=@PH.aF
theorem PH.le_refl:H.le H:=fun _ _ h=>h
abbrev b_:=@PH.le_refl
theorem wp_loop {c:aC} {α:Type} (e:α→PF) (Hs:α→PH) (j:α→Prop) (m:α→Nat) (l:α) (u:j l) (w:(e l).le F) (x:(Hs l).le H)
  (hb:∀ a,j a→c.wp C (gP e Hs j m (m a) K) (e a) (Hs a)):aC.wp C (.loop c) K F H :=
 ⟨α,e,Hs,j,m,l,F,H,.refl F H,u,w,x,hb⟩
theorem aG {α:Type} {e:α→PF} {Hs:α→PH} {j:α→Prop} {m:α→Nat} {n:Nat} (a:α) (l:j a) (x:m a<n) (u:(e a).le F) (w:(Hs a).le H):gP e Hs j m n K .normal F H :=
 ⟨a,F,H,.refl F H,l,x,u,w⟩
@[go_sem] theorem a1I {α:Type} {e:α→PF} {Hs:α→PH} {j:α→Prop} {m:α→Nat} {n:Nat} (id:Nat):gP e Hs j m n K (.exit id)=K (.exit id):=(rfl)
@[go_sem] theorem a2S {α:Type} {e:α→PF} {Hs:α→PH} {j:α→Prop} {m:α→Nat} {n:Nat}:gP e Hs j m n K .ret=K .ret:=(rfl)
def aI (v:PV) (r:PV) (H:PH):Prop:=r=v∧H=PH.nil
theorem PH.kG:H.over .nil .nil=H:=PH.ext fun o=>rfl
theorem ajJ {name:Nat} {vs cs:List PV} {v:PV} {args:List aP} {d:Option Nat} {K:PF→PH→Prop} (h:aH C name (vs++cs) .nil (aI v)) (e:aP.evs F args=some vs)
  (j:K (F.put d v) H):jU C name args cs d K F H:=by
 refine .inl ⟨vs++cs,.nil,_,by rw[e]; rfl,a_,h,?_⟩;rintro r H' ⟨rfl,rfl⟩ _;rw[PH.kG];exact j
theorem aB {name:Nat} {vs:List PV} {v:PV} {args:List aP} {d:Option Nat} {K:PF→PH→Prop} (h:aH C name vs .nil (aI v)) (e:aP.evs F args=some vs)
  (j:K (F.put d v) H):jU C name args [] d K F H:=ajJ (cs:=[]) (by rw[a9W]; exact h) e j
theorem aR {res:List eS} {vs:List PV} {v:PV} {e:mY} (he:e=.normal∨e=.ret) (h:eS.evs F H res=some vs) (x:cB vs=v):aT res (aI v) e F H:=by
 have j:∃ vs,eS.evs F H res=some vs∧∃ l w H2,kP (PF.nil.set 0 (cB vs)) H l w∧H2.le w∧∃ u,l 0=some u∧aI v u H2 :=
  ⟨vs,h,_,H,.nil,.refl _ _,a_,v,by rw[oJ,if_pos rfl,x],rfl,rfl⟩
 rcases he with rfl | rfl<;>exact j
@[go_sem] theorem tE:eS.evs F H []=some []:=(rfl)
@[go_sem] theorem nZ (x:eS) (xs:List eS):eS.evs F H (x::xs)=(match x.ev F H,eS.evs F H xs with | some v,some vs=>some (v::vs) | _,_=>none):=(rfl)
@[go_sem] theorem rO (t:Nat):eS.ev F H (.tmp t)=F t:=(rfl)
@[go_sem] theorem a4G (t:Nat):eS.ev F H (.cell t none)=(match F t with | some p=>(match loadCells H p 1 with | some [v]=>some v | _=>none) | none=>none):=(rfl)
@[go_sem] theorem a2T (t k:Nat):eS.ev F H (.cell t (some k))=(match F t with | some p=>(loadCells H p k).map .agg | none=>none):=(rfl)
end
section
variable {C:Ctx} {K:cI} {F:PF} {H Hs:PH} {S:Spec}
theorem aV {ops:List (bE × Bool)} (Hs:PH) (S:Spec) (e:Hs.le H) (h:wpD C Hs S ops (K .normal) F H):aC.wp C (.draw ops) K F H:=⟨Hs,S,e,h⟩
def cA:Spec:=fun _ _=>none
def dOp (C:Ctx) (Hs:PH) (S:Spec) (st:Bool) (op:POp) (d:Option Nat) (K:PF→PH→Prop) (F:PF) (H:PH):Prop:=(op.kind F).run C Hs S st (fun v H'=>K (F.put d v) H') H
@[go_sem] theorem a4K (K:PF→PH→Prop):wpD C Hs S [] K F H=K F H:=(rfl)
@[go_sem] theorem a4L (d:Option Nat) (op:POp) (st:Bool) (e:List (bE × Bool)) (K:PF→PH→Prop):wpD C Hs S ((⟨d,op,none⟩,st)::e) K F H=dOp C Hs S st op d (wpD C Hs S e K) F H:=(rfl)
def GK (C:Ctx) (Hs:PH) (S:Spec) (v:Option PV) (j st:Bool) (op:POp) (d:Option Nat) (e:List (bE × Bool)) (K:PF→PH→Prop) (F:PF) (H:PH):Prop :=
 match v with
 | some (.bool b)=>if b=j then dOp C Hs S st op d (wpD C Hs S e K) F H else wpD C Hs S e K (F.put d (.tup [])) H
 | some (.tup [])=>wpD C Hs S e K (F.put d (.tup [])) H
 | _=>False
@[go_sem] theorem a2V (d:Option Nat) (op:POp) (t:Nat) (e st:Bool) (j:List (bE × Bool)) (K:PF→PH→Prop) :
  wpD C Hs S ((⟨d,op,some (t,e)⟩,st)::j) K F H=GK C Hs S (F t) e st op d j K F H:=by
 have l:wpD C Hs S ((⟨d,op,some (t,e)⟩,st)::j) K F H=((⟨d,op,some (t,e)⟩:bE).kind F).run C Hs S st (fun v H'=>wpD C Hs S j K (F.put d v) H') H:=(rfl);rw[l];unfold bE.kind GK;simp only;cases F t with
 | none=>rfl
 | some v =>
  cases v
  case bool b =>
   simp only;by_cases hb:b=e
   ·rw[if_pos hb,if_pos hb]; rfl
   ·rw[if_neg hb,if_neg hb]; simp[Kind.run]
  case tup vs=>cases vs<;>simp[Kind.run]
  all_goals rfl
@[go_sem] theorem a2M (op:POp) (st:Bool) (d:Option Nat) (e:List (bE × Bool)) (K:PF→PH→Prop):GK C Hs S (some (.bool true)) true st op d e K F H=dOp C Hs S st op d (wpD C Hs S e K) F H:=(rfl)
@[go_sem] theorem a2J (op:POp) (st:Bool) (d:Option Nat) (e:List (bE × Bool)) (K:PF→PH→Prop):GK C Hs S (some (.bool false)) false st op d e K F H=dOp C Hs S st op d (wpD C Hs S e K) F H:=(rfl)
@[go_sem] theorem a2L (op:POp) (st:Bool) (d:Option Nat) (e:List (bE × Bool)) (K:PF→PH→Prop):GK C Hs S (some (.bool true)) false st op d e K F H=wpD C Hs S e K (F.put d (.tup [])) H:=(rfl)
@[go_sem] theorem a2K (op:POp) (st:Bool) (d:Option Nat) (e:List (bE × Bool)) (K:PF→PH→Prop):GK C Hs S (some (.bool false)) true st op d e K F H=wpD C Hs S e K (F.put d (.tup [])) H:=(rfl)
@[go_sem] theorem aZI (j:Bool) (op:POp) (st:Bool) (d:Option Nat) (e:List (bE × Bool)) (K:PF→PH→Prop):GK C Hs S (some (.tup [])) j st op d e K F H=wpD C Hs S e K (F.put d (.tup [])) H:=(rfl)
@[go_sem] theorem a5E (x:aP) (st:Bool) (d:Option Nat) (K:PF→PH→Prop):dOp C Hs S st (.mv x) d K F H=cK (aQ (.mv x) F (if st then Hs else H)) d K F H:=(rfl)
@[go_sem] theorem a3U (x:aP) (st:Bool) (d:Option Nat) (K:PF→PH→Prop):dOp C Hs S st (.same x) d K F H=cK (aQ (.same x) F (if st then Hs else H)) d K F H:=(rfl)
@[go_sem] theorem a3T (c a b:aP) (st:Bool) (d:Option Nat) (K:PF→PH→Prop):dOp C Hs S st (.pick c a b) d K F H=cK (aQ (.pick c a b) F (if st then Hs else H)) d K F H:=(rfl)
@[go_sem] theorem a4T (o:BinOp) (x y:aP) (st:Bool) (d:Option Nat) (K:PF→PH→Prop):dOp C Hs S st (.bin o x y) d K F H=cK (aQ (.bin o x y) F (if st then Hs else H)) d K F H:=(rfl)
@[go_sem] theorem a4V (n:Bool) (x y:aP) (st:Bool) (d:Option Nat) (K:PF→PH→Prop):dOp C Hs S st (.eqb n x y) d K F H=cK (aQ (.eqb n x y) F (if st then Hs else H)) d K F H:=(rfl)
@[go_sem] theorem a4W (n:Bool) (e:List Sc) (x y:aP) (st:Bool) (d:Option Nat) (K:PF→PH→Prop):dOp C Hs S st (.eqs n e x y) d K F H=cK (aQ (.eqs n e x y) F (if st then Hs else H)) d K F H:=(rfl)
@[go_sem] theorem a5F (o:UnOp) (x:aP) (st:Bool) (d:Option Nat) (K:PF→PH→Prop):dOp C Hs S st (.un o x) d K F H=cK (aQ (.un o x) F (if st then Hs else H)) d K F H:=(rfl)
@[go_sem] theorem a3M (k:IntKind) (x:aP) (st:Bool) (d:Option Nat) (K:PF→PH→Prop):dOp C Hs S st (.conv k x) d K F H=cK (aQ (.conv k x) F (if st then Hs else H)) d K F H:=(rfl)
@[go_sem] theorem a2A (z:List PV) (ps:List (Nat × Nat × aP)) (st:Bool) (d:Option Nat) (K:PF→PH→Prop):dOp C Hs S st (.build z ps) d K F H=cK (aQ (.build z ps) F (if st then Hs else H)) d K F H:=(rfl)
@[go_sem] theorem a3R (n:Option Nat) (p:aP) (st:Bool) (d:Option Nat) (K:PF→PH→Prop):dOp C Hs S st (.load n p) d K F H=cK (aQ (.load n p) F (if st then Hs else H)) d K F H:=(rfl)
@[go_sem] theorem a1D (x:aP) (st:Bool) (d:Option Nat) (K:PF→PH→Prop):dOp C Hs S st (.a7D x) d K F H=cK (aQ (.a7D x) F (if st then Hs else H)) d K F H:=(rfl)
@[go_sem] theorem a0X (e:Nat) (x:aP) (st:Bool) (d:Option Nat) (K:PF→PH→Prop):dOp C Hs S st (.a7U e x) d K F H=cK (aQ (.a7U e x) F (if st then Hs else H)) d K F H:=(rfl)
@[go_sem] theorem a2B (e:Nat) (n:Option Nat) (x:aP) (st:Bool) (d:Option Nat) (K:PF→PH→Prop):dOp C Hs S st (.field e n x) d K F H=cK (aQ (.field e n x) F (if st then Hs else H)) d K F H:=(rfl)
@[go_sem] theorem a3O (s:Nat) (x i:aP) (st:Bool) (d:Option Nat) (K:PF→PH→Prop):dOp C Hs S st (.a7H s x i) d K F H=cK (aQ (.a7H s x i) F (if st then Hs else H)) d K F H:=(rfl)
@[go_sem] theorem a3N (n s:Nat) (x i:aP) (st:Bool) (d:Option Nat) (K:PF→PH→Prop):dOp C Hs S st (.idxA n s x i) d K F H=cK (aQ (.idxA n s x i) F (if st then Hs else H)) d K F H:=(rfl)
@[go_sem] theorem a3P (n s:Nat) (g:Bool) (x i:aP) (st:Bool) (d:Option Nat) (K:PF→PH→Prop):dOp C Hs S st (.idxV n s g x i) d K F H=cK (aQ (.idxV n s g x i) F (if st then Hs else H)) d K F H:=(rfl)
@[go_sem] theorem a0Y (x i:aP) (st:Bool) (d:Option Nat) (K:PF→PH→Prop):dOp C Hs S st (.a7S x i) d K F H=cK (aQ (.a7S x i) F (if st then Hs else H)) d K F H:=(rfl)
@[go_sem] theorem a2E (s:Nat) (x:aP) (lo hi mx:Option aP) (st:Bool) (d:Option Nat) (K:PF→PH→Prop):dOp C Hs S st (.slice s x lo hi mx) d K F H=cK (aQ (.slice s x lo hi mx) F (if st then Hs else H)) d K F H:=(rfl)
@[go_sem] theorem aYA (x:aP) (lo hi:Option aP) (st:Bool) (d:Option Nat) (K:PF→PH→Prop):dOp C Hs S st (.a7N x lo hi) d K F H=cK (aQ (.a7N x lo hi) F (if st then Hs else H)) d K F H:=(rfl)
@[go_sem] theorem a4X (x:aP) (st:Bool) (d:Option Nat) (K:PF→PH→Prop):dOp C Hs S st (.len x) d K F H=cK (aQ (.len x) F (if st then Hs else H)) d K F H:=(rfl)
@[go_sem] theorem a0Z (x:aP) (st:Bool) (d:Option Nat) (K:PF→PH→Prop):dOp C Hs S st (.a7R x) d K F H=cK (aQ (.a7R x) F (if st then Hs else H)) d K F H:=(rfl)
@[go_sem] theorem a3Q (x:aP) (st:Bool) (d:Option Nat) (K:PF→PH→Prop):dOp C Hs S st (.lenM x) d K F H=cK (aQ (.lenM x) F (if st then Hs else H)) d K F H:=(rfl)
@[go_sem] theorem a2C (n:Bool) (x:aP) (st:Bool) (d:Option Nat) (K:PF→PH→Prop):dOp C Hs S st (.isNil n x) d K F H=cK (aQ (.isNil n x) F (if st then Hs else H)) d K F H:=(rfl)
@[go_sem] theorem a0W (x:aP) (st:Bool) (d:Option Nat) (K:PF→PH→Prop):dOp C Hs S st (.a8C x) d K F H=cK (aQ (.a8C x) F (if st then Hs else H)) d K F H:=(rfl)
@[go_sem] theorem aZG (x:aP) (i:Nat) (st:Bool) (d:Option Nat) (K:PF→PH→Prop):dOp C Hs S st (.extract x i) d K F H=cK (aQ (.extract x i) F (if st then Hs else H)) d K F H:=(rfl)
@[go_sem] theorem a1C (m:Bool) (x y:aP) (st:Bool) (d:Option Nat) (K:PF→PH→Prop):dOp C Hs S st (.a7L m x y) d K F H=cK (aQ (.a7L m x y) F (if st then Hs else H)) d K F H:=(rfl)
@[go_sem] theorem a3S (n:Nat) (cs:List aP) (st:Bool) (d:Option Nat) (K:PF→PH→Prop):dOp C Hs S st (.mkfn n cs) d K F H=cK (aQ (.mkfn n cs) F (if st then Hs else H)) d K F H:=(rfl)
@[go_sem] theorem a1A (sh:MSh) (z:PV) (x k:aP) (ok:Bool) (st:Bool) (d:Option Nat) (K:PF→PH→Prop):dOp C Hs S st (.lookup sh z x k ok) d K F H=cK (aQ (.lookup sh z x k ok) F (if st then Hs else H)) d K F H:=(rfl)
@[go_sem] theorem aXI (x:aP) (st:Bool) (d:Option Nat) (K:PF→PH→Prop):dOp C Hs S st (.a7E x) d K F H=cK (aQ (.a7E x) F (if st then Hs else H)) d K F H:=(rfl)
@[go_sem] theorem a3L (x:aP) (st:Bool) (d:Option Nat) (K:PF→PH→Prop):dOp C Hs S st (.box true x) d K F H=cK (aQ (.box true x) F (if st then Hs else H)) d K F H:=(rfl)
@[go_sem] theorem aZF (s l:Nat) (z:List PV) (ps:List (Nat × aP)) (st:Bool) (d:Option Nat) (K:PF→PH→Prop):dOp C Hs S st (.a6V true s l z ps) d K F H=cK (aQ (.a6V true s l z ps) F (if st then Hs else H)) d K F H:=(rfl)
@[go_sem] theorem a1Z (cs:List PV) (st:Bool) (d:Option Nat) (K:PF→PH→Prop):dOp C Hs S st (.alloc cs) d K F H=qU (eC (.alloc cs) F) d K F H:=(rfl)
@[go_sem] theorem aZH (s b:Nat) (z:List PV) (l c:aP) (st:Bool) (d:Option Nat) (K:PF→PH→Prop):dOp C Hs S st (.a6Y s b z l c) d K F H=qU (eC (.a6Y s b z l c) F) d K F H:=(rfl)
@[go_sem] theorem a2D (sh:MSh) (st:Bool) (d:Option Nat) (K:PF→PH→Prop):dOp C Hs S st (.a7Y sh) d K F H=qU (eC (.a7Y sh) F) d K F H:=(rfl)
@[go_sem] theorem a4U (x:aP) (st:Bool) (d:Option Nat) (K:PF→PH→Prop):dOp C Hs S st (.box false x) d K F H=qU (eC (.box false x) F) d K F H:=(rfl)
@[go_sem] theorem a0V (s l:Nat) (z:List PV) (ps:List (Nat × aP)) (st:Bool) (d:Option Nat) (K:PF→PH→Prop):dOp C Hs S st (.a6V false s l z ps) d K F H=qU (eC (.a6V false s l z ps) F) d K F H:=(rfl)
@[go_sem] theorem a2F (n:Nat) (p x:aP) (st:Bool) (d:Option Nat) (K:PF→PH→Prop):dOp C Hs S st (.store n p x) d K F H=cW (.store n p x) F H (fun r H'=>Hs.le H'∧K (F.put d r) H'):=(rfl)
@[go_sem] theorem a0U (s b:Nat) (x y:aP) (st:Bool) (d:Option Nat) (K:PF→PH→Prop):dOp C Hs S st (.append s b x y) d K F H=cW (.append s b x y) F H (fun r H'=>Hs.le H'∧K (F.put d r) H'):=(rfl)
@[go_sem] theorem a1B (sh:MSh) (x k v:aP) (st:Bool) (d:Option Nat) (K:PF→PH→Prop):dOp C Hs S st (.a7I sh x k v) d K F H=cW (.a7I sh x k v) F H (fun r H'=>Hs.le H'∧K (F.put d r) H'):=(rfl)
theorem RB:H.only []=PH.nil:=PH.ext fun o=>by simp[PH.only,PH.nil]
theorem cC {name:Nat} {vs:List PV} {v:PV} {args:List aP} {st:Bool} {d:Option Nat} {K:PF→PH→Prop} (j:S name vs=some ([],fun _=>aI v)) (h:aH C name vs .nil (aI v)) (l:aP.evs F args=some vs)
  (e:Hs.le H) (u:K (F.put d v) H):dOp C Hs S st (.call name args) d K F H:=by
 refine⟨vs,[],fun _=>aI v,l,j,fun o w=>by simp at w,by rw[RB]; exact h,fun G=>⟨v,.nil,⟨rfl,rfl⟩,fun o x y=>by simp[PH.nil] at y⟩,?_⟩;rintro r H' ⟨rfl,rfl⟩ -;rw[RB,PH.kG];exact⟨e,u⟩
end
theorem wrap_i64 {n:Int} (j:-9223372036854775808≤n) (l:n≤9223372036854775807):IntKind.i64.wrap n=n:=by
 have e:IntKind.i64.wrap n=if decide (n%18446744073709551616≥9223372036854775808)=true then n%18446744073709551616-18446744073709551616 else n%18446744073709551616:=by simp[IntKind.wrap,IntKind.bits,IntKind.signed]
 rw[e];split
 ·rename_i h; simp only[decide_eq_true_eq] at h; omega
 ·rename_i h; simp only[decide_eq_true_eq] at h; omega
theorem qb {k:Nat} (h:k≤9223372036854775807):IntKind.i64.wrap (k:Int)=k:=wrap_i64 Om Om
theorem dW {k:Nat} (h:k<9223372036854775807):IntKind.i64.wrap ((k:Int)+1)=((k+1:Nat):Int):=by
 rw[wrap_i64 Om Om]; omega
theorem wZz (k:Nat) (h:k<9223372036854775807:=by omega):IntKind.i64.wrap ((k:Int)+1)=((k+1:Nat):Int):=dW h
theorem wrap_u64 {n:Int} (j:0≤n) (l:n<18446744073709551616):IntKind.u64.wrap n=n:=by
 have e:IntKind.u64.wrap n=n%18446744073709551616:=by simp[IntKind.wrap,IntKind.bits,IntKind.signed]
 rw[e]; omega
abbrev ints (xs:List Int):PV:=.sl 1 (xs.map fun n=>[.int .i64 n])
open Go Go.RowKit
inductive CT where
 | int (k:IntKind)
 | bool
 | str
 | sl (es:List CT)
 deriving Inhabited
def vY (P:Program) (rec:TypeId→Option (List CT)):Nat→List Field→Option (List CT)
 | _,[]=>some []
 | k,f::e=>match rec f.type with
  | some cts=>if f.offset=k∧P.cellsOf f.type=cts.length then (vY P rec (k+cts.length) e).map (cts++·) else none
  | none=>none
def kN (P:Program):Nat→TypeId→Option (List CT)
 | 0,_=>none
 | n+1,t=>match P.underlying t with
  | some .bool=>some [.bool]
  | some (.int k)=>some [.int k]
  | some .string=>some [.str]
  | some (.slice e)=>match kN P n e with
   | some cts=>if P.cellsOf e=cts.length∧0<cts.length then some [.sl cts] else none
   | none=>none
  | some (.struct j)=>match vY P (kN P n) 0 j.toList with
   | some cts=>if P.cellsOf t=cts.length then some cts else none
   | none=>none
  | some (.array k e)=>match kN P n e with
   | some cts=>if P.cellsOf e=cts.length∧P.cellsOf t=k*cts.length then some (a8F k cts).flatten else none
   | none=>none
  | _=>none
inductive PV.Ty:CT→PV→Prop
 | int {k:IntKind} {n:Int} (h:(Lit.int k n).wf=true):PV.Ty (.int k) (.int k n)
 | bool (b:Bool):PV.Ty .bool (.bool b)
 | str {s:List UInt8} (h:s.length≤maxLen):PV.Ty .str (.str s)
 | sl {es:List CT} {rows:List (List PV)} (hr:∀ r∈rows,r.length=es.length) (hl:rows.length≤maxLen) (h:∀ (i j:Nat) pv ct,at2 rows i j=some pv→es[j]?=some ct→PV.Ty ct pv):PV.Ty (.sl es) (.sl es.length rows)
def Env.of (W:World) (num:Nat→FuncId):Env:=⟨fun b=>match W.heap[b]? with | some (.cells cs _ _)=>some cs | _=>none,fun _=>none,num⟩
theorem cD.start (W:World) (num:Nat→FuncId):cD (Env.of W num) PH.nil W:=by
 refine⟨fun b cs hb=>⟨fun x e=>(by cases e),?_⟩,fun o x e=>(by cases e),fun o n h=>(by cases h)⟩;simp only[Env.of] at hb;split at hb
 ·rename_i c ty j h;cases hb;exact⟨ty,j,h⟩
 ·cases hb
structure Reads (E:Env) (cts:List CT) (pvs:List PV) (cs:List Value):Prop where
 lp:pvs.length=cts.length
 lc:cs.length=cts.length
 rep:∀ (j:Nat) pv c,pvs[j]?=some pv→cs[j]?=some c→bB E pv c∧c.oneCell'=true
 ty:∀ (j:Nat) pv ct,pvs[j]?=some pv→cts[j]?=some ct→PV.Ty ct pv
theorem Reads.one {E:Env} {ct:CT} {pv:PV} {c:Value} (h:bB E pv c) (e:c.oneCell'=true) (l:PV.Ty ct pv):Reads E [ct] [pv] [c]:=by
 refine⟨rfl,rfl,fun j p u a b=>?_,fun j p u a b=>?_⟩
 ·cases j with
  | zero=>simp at a b; subst a; subst b; exact⟨h,e⟩
  | succ j=>simp at a
 ·cases j with
  | zero=>simp at a b; subst a; subst b; exact l
  | succ j=>simp at a
theorem Reads.append {E:Env} {e w:List CT} {l A:List PV} {x y:List Value} (h:Reads E e l x) (k:Reads E w A y):Reads E (e++w) (l++A) (x++y):=by
 refine⟨by simp[h.lp,k.lp],by simp[h.lc,k.lc],fun j p u a b=>?_,fun j p u a b=>?_⟩
 ·rcases a8Z j l.length with hj | hj
  ·rw[baB hj] at a;rw[baB (by rw[h.lc,← h.lp]; exact hj)] at b;exact h.rep j p u a b
  ·rw[baD hj] at a;rw[baD (by rw[h.lc,← h.lp]; exact hj)] at b;rw[show j-x.length=j-l.length by rw[h.lc,h.lp]] at b;exact k.rep _ p u a b
 ·rcases a8Z j l.length with hj | hj
  ·rw[baB hj] at a;rw[baB (by rw[← h.lp]; exact hj)] at b;exact h.ty j p u a b
  ·rw[baD hj] at a;rw[baD (by rw[← h.lp]; exact hj)] at b;rw[show j-e.length=j-l.length by rw[h.lp]] at b;exact k.ty _ p u a b
theorem rx {W:World} {num:Nat→FuncId} {a:Addr} {v:Value} (h:W.cell? a=some v):a.spot=none∧(Env.of W num).cell a.block a.off=some v:=by
 unfold World.cell? at h;split at h
 ·rename_i c ty j hb;split at h
  ·cases h
  ·rename_i e;refine⟨by simpa using e,?_⟩;simp only[Env.cell,Env.of,hb];exact h
 ·cases h
inductive PV.Len (N:Nat):PV→Prop
 | flat {pv:PV} (h1:∀ n rows,pv≠.sl n rows) (h2:∀ vs,pv≠.agg vs):PV.Len N pv
 | sl {n:Nat} {rows:List (List PV)} (h:rows.length≤N) (hr:∀ r∈rows,∀ v∈r,PV.Len N v):PV.Len N (.sl n rows)
 | agg {vs:List PV} (h:∀ v∈vs,PV.Len N v):PV.Len N (.agg vs)
theorem PV.Len.int {N:Nat} (k:IntKind) (n:Int):PV.Len N (.int k n):=.flat (fun _ _ h=>by cases h) fun _ h=>by cases h
theorem PV.Len.bool {N:Nat} (b:Bool):PV.Len N (.bool b):=.flat (fun _ _ h=>by cases h) fun _ h=>by cases h
theorem PV.Len.str {N:Nat} (s:List UInt8):PV.Len N (.str s):=.flat (fun _ _ h=>by cases h) fun _ h=>by cases h
theorem PV.Len.rows {N n:Nat} {rows:List (List PV)} (h:PV.Len N (.sl n rows)):rows.length≤N∧∀ r∈rows,∀ v∈r,PV.Len N v:=by
 cases h with
 | flat e _=>exact absurd rfl (e n rows)
 | sl e j=>exact⟨e,j⟩
theorem PV.Len.parts {N:Nat} {vs:List PV} (h:PV.Len N (.agg vs)):∀ v∈vs,PV.Len N v:=by
 cases h with
 | flat _ e=>exact absurd rfl (e vs)
 | agg h=>exact h
structure CM {H:Type} (P:Program) (N:Nat) (S:TypeId→DataW H→Prop):Prop where
 sl:∀ t e elems spare,P.underlying t=some (.slice e)→S t (.slice elems spare)→elems.length≤N∧∀ d∈elems,S e d
 st:∀ t fs parts,P.underlying t=some (.struct fs)→S t (.agg parts)→∀ (i:Nat) g d,fs[i]?=some g→parts[i]?=some d→S g.type d
 ar:∀ t n e parts,P.underlying t=some (.array n e)→S t (.agg parts)→∀ d∈parts,S e d
theorem av {H:Type} {P:Program} {A:(TypeId→DataW H→Prop)→Prop} {pv:PV} (h:∀ {N},PV.Len N pv):∀ N S,CM P N S→A S→∀ v∈[pv],PV.Len N v:=fun N S _ _ v e=>by
 obtain rfl:=a9K.1 e;exact h
theorem se {P:Program} {E:Env} {rec:TypeId→Option (List CT)} {H:Type} {f:TypeId→List Value→Option (DataW H × List MemPlace)}
  (J:∀ t cs x cts,f t cs=some x→rec t=some cts→∃ e,Reads E cts e cs∧∀ N S,CM P N S→S t x.1→∀ v∈e,PV.Len N v) (cs:List Value) :
  ∀ (u:List Field) (k:Nat) (cts:List CT),(∀ g∈u,∃ x,f g.type ((cs.drop g.offset).take (P.cellsOf g.type))=some x)→vY P rec k u=some cts →
   ∃ e,Reads E cts e ((cs.drop k).take cts.length)∧∀ N S,CM P N S→(∀ g∈u,∀ x,f g.type ((cs.drop g.offset).take (P.cellsOf g.type))=some x→S g.type x.1)→∀ v∈e,PV.Len N v
 | [],k,cts,_,h=>by simp[vY] at h; subst h;exact⟨[],⟨rfl,by simp,fun j p c a=>by simp at a,fun j p c a=>by simp at a⟩,fun _ _ _ _ v hv=>by cases hv⟩
 | g::u,k,cts,F,h=>by
  simp only[vY] at h;split at h
  ·rename_i K O;split at h
   ·rename_i B;simp only[a8P] at h;obtain⟨M,R,rfl⟩:=h;obtain⟨x,I⟩:=F g (by simp);obtain⟨W,r1,U⟩:=J _ _ _ _ I O;rw[B.1,B.2] at r1;obtain⟨X,r2,V⟩:=se J cs u (k+K.length) M (fun w l=>F w (by simp[l])) R;refine⟨W++X,?_,fun N S y A v hv=>?_⟩
    ·have:=r1.append r2;rw[a8H,List.take_add,List.drop_drop];exact this
    ·rcases a9N.1 hv with hv | hv
     ·exact U N S y (A g (by simp) x I) v hv
     ·exact V N S y (fun w l=>A w (by simp[l])) v hv
   ·cases h
  ·cases h
theorem Eu {E:Env} {cts:List CT} {R:List PV→Prop} (l:R []) (u:∀ a b,R a→R b→R (a++b)) (cs:List Value) :
  ∀ n:Nat,(∀ i,i<n→∃ e,Reads E cts e ((cs.drop (i*cts.length)).take cts.length)∧R e)→∃ e,Reads E (a8F n cts).flatten e (cs.take (n*cts.length))∧R e
 | 0,_=>⟨[],⟨rfl,by simp,fun j p c a=>by simp at a,fun j p c a=>by simp at a⟩,l⟩
 | n+1,h=>by obtain⟨w,r1,y⟩:=Eu l u cs n fun i hi=>h i Om;obtain⟨x,r2,A⟩:=h n Om;refine⟨w++x,?_,u _ _ y A⟩;rw[List.replicate_succ',List.flatten_append,List.flatten_singleton,baL,List.take_add];exact r1.append r2
theorem adJ {H:Type} {enc:TypeId × Value→H} {P:Program} {W:World} {base:Nat} {sp:Nat→Bool} {β:Bool} (num:Nat→FuncId) :
  ∀ (fuel m:Nat) (t:TypeId) (cs:List Value) (x:DataW H × List MemPlace) (cts:List CT),DataW.trod enc P W base sp β fuel t cs=some x→kN P m t=some cts→∃ l,Reads (Env.of W num) cts l cs∧∀ N S,CM P N S→S t x.1→∀ v∈l,PV.Len N v:=by
 intro fuel
 induction fuel with
 | zero=>intro m t cs x cts h; simp[DataW.trod] at h
 | succ fuel ih =>
  intro m t cs x cts h A;cases m with
  | zero=>simp[kN] at A
  | succ m =>
   simp only[kN] at A;split at A
   ·rename_i O;cases A;obtain⟨b,rfl,-⟩:=DataW.trod_bool O h;exact⟨[.bool b],.one (.bool b) rfl (.bool b),av (.bool b)⟩
   ·rename_i k O;cases A;obtain⟨n,rfl,-,hw⟩:=DataW.trod_int O h;exact⟨[.int k n],.one (.int k n) rfl (.int hw),av (.int k n)⟩
   ·rename_i O;cases A;obtain⟨s,rfl,-,hs⟩:=DataW.trod_string O h;exact⟨[.str s.data.toList],.one (.str s) rfl (.str (by rw[bbE]; exact hs)),av (.str _)⟩
   ·rename_i e O;split at A
    ·rename_i u he;split at A
     ·rename_i B;cases A;rcases DataW.trod_slice O h with ⟨rfl,-⟩ | ⟨a,len,cap,elems,rest,n,hn,rfl,Y,-,γ,hcap,hel,helem,-⟩
      ·refine⟨[.sl u.length []],.one ?_ rfl (.sl (by simp) (by simp) (by simp[at2])),av (.sl (a8K _) (fun r V=>by cases V))⟩;exact .sl (fun _ _=>.bool false) (by simp) (by decide) (by simp) (by simp) (fun _ _=>rfl) (by simp[at2])
      ·cases hn;have each:∀ i,i<len→∃ l Z,(Reads (Env.of W num) u l Z∧∀ N S,CM P N S→(∀ d∈elems.map (·.1),S e d)→∀ v∈l,PV.Len N v)∧W.cells? base (a.add (i*u.length)) u.length=some Z:=by intro i hi;have h1:=helem i hi;rw[a8L Om,bbY] at h1;obtain⟨Z,h2,h3⟩:=h1;obtain⟨l,r,rl⟩:=ih m e Z _ u h3 he;rw[B.1] at h2;exact⟨l,Z,⟨r,fun N S J K=>rl N S J (K _ (a9G.2 ⟨_,a8G _,rfl⟩))⟩,h2⟩
       have δ:∀ i,∃ l,∃ Z,i<len→(Reads (Env.of W num) u l Z∧∀ N S,CM P N S→(∀ d∈elems.map (·.1),S e d)→∀ v∈l,PV.Len N v)∧W.cells? base (a.add (i*u.length)) u.length=some Z:=by
        intro i;by_cases hi:i<len
        ·obtain⟨l,Z,h1⟩:=each i hi;exact⟨l,Z,fun _=>h1⟩
        ·exact⟨[],[],fun h=>(hi h).elim⟩
       obtain⟨pf,ξ⟩:=Classical.axiomOfChoice δ;obtain⟨uf,M⟩:=Classical.axiomOfChoice ξ;have ε:∀ i j pv,at2 ((a8D len).map pf) i j=some pv→i<len∧(pf i)[j]?=some pv:=by
        intro i j pv F;unfold at2 at F;rw[a8Y,bbY] at F;obtain⟨r,V,F⟩:=F;rw[a8P] at V;obtain⟨i',U,rfl⟩:=V;have hi:i<len:=by simpa using (a9F.1 U).1
        have:i'=i:=by simp[hi] at U; exact U.symm
        subst this;exact⟨hi,F⟩
       have hu2:∀ i j pv,at2 ((a8D len).map pf) i j=some pv→∃ v,(uf i)[j]?=some v∧j<u.length∧bB (Env.of W num) pv v∧v.oneCell'=true:=by
        intro i j pv F;obtain⟨hi,X⟩:=ε i j pv F;obtain⟨⟨r,-⟩,-⟩:=M i hi;have hj:j<u.length:=by rw[← r.lp]; exact (a9F.1 X).1
        have I:(uf i)[j]?=some ((uf i)[j]'(by rw[r.lc]; exact hj)):=a8L _;exact⟨_,I,hj,(r.rep j pv _ X I).1,(r.rep j pv _ X I).2⟩
       have α:((a8D len).map pf).length=len:=by simp
       refine⟨[.sl u.length ((a8D len).map pf)],.one ?_ rfl (.sl (fun r V=>?_) (by rw[α]; omega) fun i j pv ct F κ=>?_),fun N S J K v I=>?_⟩
       ·have η:=bB.sl (E:=Env.of W num) (size:=u.length) (rows:=(a8D len).map pf) (a:=some a) (cap:=cap)
         (fun i j=>match at2 ((a8D len).map pf) i j with | some _=>((uf i)[j]?).getD (.bool false) | none=>.bool false) (by rw[α]; exact γ) hcap
         (fun r V=>by simp only[a9G,a9B] at V;obtain⟨i,hi,rfl⟩:=V;exact (M i hi).1.1.lp)
         (fun ν=>by
          have μ:0<len:=by
           rcases baN len with h | h
           ·subst h; exact (ν rfl).elim
           ·exact h
          have ζ:a.spot=none:=by obtain⟨⟨r,-⟩,A⟩:=M 0 μ;have h3:=(World.cells?_some A).2.2 0 B.2;rw[Nat.zero_mul,Addr.add_zero',Addr.add_zero',a8L (by rw[r.lc]; exact B.2)] at h3;exact (rx (num:=num) h3).1
          refine⟨a,rfl,ζ,fun i j pv F=>?_⟩;obtain⟨hi,-⟩:=ε i j pv F;obtain⟨v,I,hj,-⟩:=hu2 i j pv F;have h3:=(World.cells?_some (M i hi).2).2.2 j hj;rw[sB ζ,add_plain,add_plain,I] at h3;have h4:=(rx (num:=num) h3).2;simp only[F,I,baW];exact h4)
         (fun i j=>by
          split
          ·rename_i pv F;obtain⟨v,I,-,-,h1⟩:=hu2 i j pv F;simp[I,h1]
          ·rfl)
         (fun i j pv F=>by obtain⟨v,I,-,h1,-⟩:=hu2 i j pv F;simp only[F,I,baW];exact h1)
        rw[α] at η;exact η
       ·simp only[a9G,a9B] at V;obtain⟨i,hi,rfl⟩:=V;exact (M i hi).1.1.lp
       ·obtain⟨hi,X⟩:=ε i j pv F;exact (M i hi).1.1.ty j pv ct X κ
       ·rw[Y] at K;obtain⟨m1,m2⟩:=J.sl t e _ _ O K;obtain rfl:=a9K.1 I;refine .sl (by rw[α]; simpa [hel] using m1) fun r V w hw=>?_;simp only[a9G,a9B] at V;obtain⟨i,hi,rfl⟩:=V;exact (M i hi).1.2 N S J m2 w hw
     ·cases A
    ·cases A
   ·rename_i fs O;split at A
    ·rename_i ρ θ;split at A
     ·rename_i γ;cases A;obtain⟨xs,n,hn,Y,ι,ο,hx⟩:=DataW.trod_struct O h;cases hn;have:=se (f:=DataW.trod enc P W base sp β fuel) (fun t cs x cts a b=>ih m t cs x cts a b) cs fs.toList 0 cts (fun g hg=>by obtain⟨i,hi,rfl⟩:=bbJ hg;have:=hx i fs.toList[i] (by simp at hi; simp[hi]);rw[this];exact⟨_,a8L (by simp at hi; omega)⟩) θ
      rw[a9R,a8V Om] at this;obtain⟨l,r,rl⟩:=this;refine⟨l,r,fun N S J K=>rl N S J fun g hg y hy=>?_⟩;rw[Y] at K;obtain⟨i,hi,rfl⟩:=bbJ hg;have U:i<fs.size:=by simpa using hi
      have:=hx i fs.toList[i] (by simp[U]);rw[hy,a8L Om] at this;refine J.st t fs _ O K i fs.toList[i] y.1 (by simp[U]) ?_;rw[a8Y,a8L Om,← this]; rfl
     ·cases A
    ·cases A
   ·rename_i k e O;split at A
    ·rename_i u he;split at A
     ·rename_i B;cases A;obtain⟨xs,n,hn,Y,ι,ο,hx⟩:=DataW.trod_array O h;cases hn;obtain⟨l,r,hq⟩:=Eu (E:=Env.of W num) (cts:=u) (R:=fun l=>∀ N S,CM P N S→(∀ d:DataW H,d∈xs.map (fun y:DataW H × List MemPlace=>y.1)→S e d)→∀ v∈l,PV.Len N v) (fun _ _ _ _ v I=>by cases I)
       (fun a b ha hb N S J K v I=>(a9N.1 I).elim (ha N S J K v) (hb N S J K v)) cs k fun i hi=>by have h2:=hx i hi;rw[a8L Om,B.1] at h2;obtain⟨l,r,rl⟩:=ih m e _ _ u h2 he;exact⟨l,r,fun N S J K=>rl N S J (K _ (a9G.2 ⟨_,a8G _,rfl⟩))⟩
      rw[a8V Om] at r;exact⟨l,r,fun N S J K=>hq N S J (J.ar t k e _ O (by rw[Y] at K; exact K))⟩
     ·cases A
    ·cases A
   ·cases A
open Go Go.RowKit Go.ChangeShapes Go.WideShapes
theorem Ext.below {E j:Env} {H':PH} {w e:World} (h:Ext E PH.nil w j H' e):Below w.heap.size w e :=
 ⟨h.os,h.tape,h.output,h.size,fun k l=>h.block k l rfl⟩
theorem Below.trodAll {H:Type} {enc:TypeId × Value→H} {P:Program} (w:laidOutB P=true) {W j:World} (hb:Below W.heap.size W j) :
  ∀ {ts:List TypeId} {vs:List Value} {ds:List (DataW H)} {ps:List MemPlace},(∀ t∈ts,P.readableRec t=true∧t<P.types.size)→DataW.TrodAll enc P W 0 (fun _=>true) true ts vs ds ps →
   DataW.TrodAll enc P j 0 (fun b=>decide (b<W.heap.size)) true ts vs ds ps
 | [],[],[],ps,_,h=>h
 | [],_::_,_,_,_,h=>h.elim
 | [],[],_::_,_,_,h=>h.elim
 | _::_,[],_,_,_,h=>h.elim
 | _::_,_::_,[],_,_,h=>h.elim
 | t::ts,v::vs,d::ds,ps,e,h=>by obtain⟨p,q,l,y,rfl⟩:=h;have hlt:∀ x∈p,x.block<W.heap.size:=fun x B=>DataW.TrodAll.lt (ts:=[t]) (vs:=[v]) (ds:=[d]) ⟨p,[],l,rfl,(a9W p).symm⟩ x B;exact⟨p,q,Below.trod w (e t (by simp)).1 (e t (by simp)).2 l hb hlt,Below.trodAll w hb (fun u A=>e u (by simp[A])) y,rfl⟩
theorem aIW {H:Type} {enc:TypeId × Value→H} {P:Program} {f:Func} {s:ChangeSpec} {e apart fresh:Bool} {W B:World} {args:Array Value} {ds l:List (DataW H)} {j:List MemPlace} {bt:TypeId}
  (I:laidOutB P=true) (hW:DataW.Whole enc P f.params.toList s.vars apart W args.toList ds l j) (hb:Below W.heap.size W B) (x:∀ t∈f.params.toList,P.readableRec t=true∧t<P.types.size)
  (w:f.resultTypes=#[bt]) (u:P.underlying bt=some .bool) (y:s.vars=[]) (K:(s.fn H (ds++l)).results=[.lit (.bool true)]) (F:(s.fn H (ds++l)).args=ds) (A:(s.fn H (ds++l)).vars=[]) :
  s.post enc P f apart fresh e false W args (.bool true) B:=by
 obtain⟨p,q,E,hV,rfl,M,J⟩:=hW;rw[y] at hV;obtain⟨rfl,rfl⟩:=trodVars_none hV;refine⟨ds,[],p++[],[],p,[],⟨p,[],E,by rw[y]; exact hV,rfl,M,J⟩,?_,?_,?_,hb.frame _,fun h=>by cases h⟩
 ·rw[K,w];refine⟨[],[],⟨1,?_⟩,rfl,rfl⟩;simp[DataW.trod,u,Value.cells,Value.resultList]
 ·rw[F];exact Below.trodAll I hb x E
 ·rw[y,A];exact rfl
theorem aGT {C:Ctx} {name:Nat} {W:World} {args:Array Value} {l:List PV} (h:aH C name l PH.nil (aI (.bool true))) (x:fT (Env.of W C.num) l args.toList) :
  Calls C.P (C.num name) args W fun e u=>e=.returned (.bool true)∧Below W.heap.size W u :=
 (h.2 (Env.of W C.num) W args rfl (cD.start W C.num) x).mono fun e u he=>by obtain⟨v,pv,y,H',rfl,-,j,w,rfl,-⟩:=he;cases j;exact⟨rfl,w.below⟩
def InK (k:IntKind) (n:Int):Prop:=k.min≤n∧n≤k.max
def aSA (k:IntKind) (xs:List Int):PV:=.sl 1 (xs.map fun n=>[.int k n])
theorem Ty.bw {k:IntKind} {pv:PV} (h:PV.Ty (.int k) pv):∃ n,pv=.int k n∧InK k n:=by
 cases h with
 | int h=>simp only[Lit.wf,a9A,decide_eq_true_eq] at h; exact⟨_,rfl,h⟩
theorem Ty.Qb {pv:PV} (h:PV.Ty .bool pv):∃ b,pv=.bool b:=by
 cases h; exact⟨_,rfl⟩
theorem Ty.FQ {pv:PV} (h:PV.Ty .str pv):∃ s,pv=.str s∧s.length≤maxLen:=by
 cases h with
 | str h=>exact⟨_,rfl,h⟩
theorem Ty.aWE {ct:CT} {pv:PV} (h:PV.Ty (.sl [ct]) pv):∃ vs:List PV,pv=.sl 1 (vs.map fun v=>[v])∧vs.length≤maxLen∧∀ v∈vs,PV.Ty ct v:=by
 cases h with
 | @sl B rows A y h =>
 have j:∀ r∈rows,r=[r.headD .junk]:=fun r l=>by
  have:=A r l
  match r,this with
  | [x],_=>rfl
 have e:rows=(rows.map fun r=>r.headD .junk).map fun v=>[v]:=by rw[List.map_map];apply List.ext_getElem (by simp);intro n w E;simp only[bbF,Function.comp];exact j _ (a8G w)
 refine⟨rows.map fun r=>r.headD .junk,by rw[← e]; rfl,by simpa using y,fun v u=>?_⟩;rw[a9G] at u;obtain⟨r,l,rfl⟩:=u;obtain⟨i,hi,rfl⟩:=bbJ l;refine h i 0 _ ct ?_ rfl;have:=j rows[i] l;unfold at2;rw[a8L hi,bbU,this];rfl
theorem Ty.aNK {k:IntKind} {pv:PV} (h:PV.Ty (.sl [.int k]) pv):∃ xs:List Int,pv=aSA k xs∧xs.length≤maxLen∧∀ x∈xs,InK k x:=by
 obtain⟨vs,rfl,A,l⟩:=Ty.aWE h;have e:vs=(vs.map fun v=>match v with | .int _ n=>n | _=>0).map fun n=>PV.int k n:=by rw[List.map_map];apply List.ext_getElem (by simp);intro n w B;simp only[bbF,Function.comp];obtain⟨m,j,-⟩:=Ty.bw (l _ (a8G w));rw[j]
 refine⟨vs.map fun v=>match v with | .int _ n=>n | _=>0,?_,by simpa using A,fun x u=>?_⟩
 ·unfold aSA
  conv=>lhs; rw[e]
  rw[List.map_map];rfl
 ·rw[a9G] at u;obtain⟨v,j,rfl⟩:=u;obtain⟨m,rfl,y⟩:=Ty.bw (l v j);exact y
end Go.PM
namespace Go.Proofs.YtkknafmijabgaaaGreatDoor
open Go Go.PM
def aYL:List Nat:=[22,78,48,30,26,52,23,51,0,0,0,0,0,0,0,0,0,0,0,0,0,0,0,0,0,0,0,10,21,49,155,163,141,114,113,81,158,157,103,144,167,143,166,171,165,164,139,50,172,108,53,104,105,102,68,101,67,156,80,82,140,106,98,154,138,137,107,36,66,71,65,99,70,64,69,100,63,39,0,0,118,0,57,29,87,40,0,56,145,117,86,0,0,0,0,60,31,89,129,90,131,134,94,130,58,88,95,132,96,133,62,59,61,122,93,92,119,91,125,124,123,127,128,97,153,136,135,147,120,126,150,149,121,152,148,151,170,168,146,181,178,169,180,179,0,0,0,0,0,0,28,0,25,0,55,0,115,85,84,116,83,54,142,112,175,161,162,176,173,160,159,0,0,0,0,0,0,0,0,0,0,0,0,0,0,0,0,0,0,0,0,0,0,0,0,79,0,0,0,0,0,0,0,0,0,0,0,0,0,0,0,0,0,0,0,0,0,0,0,0,0,0,0,0,0,0,0,0,0,0,0,0,0,0,0,0,0,0,0,0,0,0,0,0,0,0,0,0,0,0,0,0,0,0,0,0,0,0,0,0,0,0,0,0,0,0,0,0,0,0,0,0,0,0,0,0,0,0,0,0,0,0,34,35,32,33,12,42,15,17,19,109,72,46,110,111,73,74,41,75,77,47,76,43,38,37,44,13,45,16,18,20,11,14,24,27,3,4,5,6,7,8,9]
def aUX:List (Option Nat):=[none,none,none,some 316,some 317,some 318,some 319,some 320,some 321,some 322,some 27,some 312,some 286,some 307,some 313,some 288,some 309,some 289,some 310,some 290,some 311,some 28,some 0,some 6,some 314,some 152,some 4,some 315,some 150,some 83,some 3,some 96,some 284,some 285,some 282,some 283,some 67,some 305,some 304,some 77,some 85,some 298,some 287,some 303,some 306,some 308,some 293,some 301,some 2,some 29,some 47,some 7,some 5,some 50,some 161,some 154,some 87,some 82,some 104,some 111,some 95,some 112,some 110,some 76,some 73,some 70,some 68,some 56,some 54,some 74,some 72,some 69,some 292,some 296,some 297,some 299,some 302,some 300,some 1,some 195,some 58,some 35,some 59,some 160,some 158,some 157,some 90,some 84,some 105,some 97,some 99,some 117,some 115,some 114,some 102,some 106,some 108,some 123,some 62,some 71,some 75,some 55,some 53,some 38,some 51,some 52,some 61,some 66,some 49,some 291,some 294,some 295,some 163,some 34,some 33,some 156,some 159,some 89,some 80,some 116,some 128,some 132,some 113,some 120,some 119,some 118,some 129,some 121,some 122,some 98,some 103,some 100,some 107,some 109,some 101,some 126,some 125,some 65,some 64,some 46,some 60,some 32,some 162,some 41,some 39,some 88,some 138,some 127,some 134,some 131,some 130,some 135,some 133,some 124,some 63,some 30,some 57,some 37,some 36,some 170,some 169,some 165,some 166,some 31,some 45,some 44,some 42,some 40,some 137,some 141,some 136,some 43,some 48,some 168,none,some 164,some 167,none,some 140,some 143,some 142,some 139]
def num (n:Nat):FuncId:=aYL.getD n 0
def nameOf (f:FuncId):Option Nat:=aUX.getD f none
noncomputable def T (ro:List Nat):Tbl:={ P:=Tryz.prog,num:=num,name:=nameOf,ro:=ro }
end Go.Proofs.YtkknafmijabgaaaGreatDoor
namespace Go.PM
open Go
abbrev Rg:=List bE
abbrev Rd:=List (bE×Bool)
def aC.rs : aC→List Rg
 | .region r=>[r] | .seq a b=>a.rs++b.rs | .cond _ a b=>a.rs++b.rs | .block _ a=>a.rs | .loop a=>a.rs | _=>[]
def aC.ds : aC→List Rd
 | .draw r=>[r] | .seq a b=>a.ds++b.ds | .cond _ a b=>a.ds++b.ds | .block _ a=>a.ds | .loop a=>a.ds | _=>[]
theorem avJ (n:Nat) (h:n<2^8):UInt8.ofBitVec (BitVec.ofFin ⟨n,h⟩)=UInt8.ofNat n:=by
 apply UInt8.toNat_inj.1;have e:n<256:=h;simp [UInt8.toNat_ofNat'];omega
def bM (ro:List Nat) (f:Func) (x:{p:aW//(Go.Proofs.YtkknafmijabgaaaGreatDoor.T ro).func f=some p}:=by refine⟨?p,?h⟩;case h=>conv=>lhs;reduce):aW:=x.1
def aA (q:aW) (k:Nat) (x:{l:Rg//(q.body.rs).getD k []=l}:=by refine⟨?p,?h⟩;case h=>conv=>lhs;reduce;try simp only[avJ,UInt8.reduceOfNat,Int.reduceOfNat,Int.reduceNegSucc]):Rg:=x.1
def bT (q:aW) (k:Nat) (x:{l:Rd//(q.body.ds).getD k []=l}:=by refine⟨?p,?h⟩;case h=>conv=>lhs;reduce;try simp only[avJ,UInt8.reduceOfNat,Int.reduceOfNat,Int.reduceNegSucc]):Rd:=x.1
@[go_sem ↓] theorem a4H (q:aW) (k:Nat) (l:Rg) (h:(q.body.rs).getD k []=l):aA q k ⟨l,h⟩=l:=(rfl)
@[go_sem ↓] theorem a3V (q:aW) (k:Nat) (l:Rd) (h:(q.body.ds).getD k []=l):bT q k ⟨l,h⟩=l:=(rfl)
def iM (d s:Nat):bE:=⟨some d,.mv (.tmp s),none⟩
def iI (d:Nat) (n:Int):bE:=⟨some d,.mv (.const (.int .i64 n)),none⟩
def iB (d:Nat) (o:BinOp) (x y:Nat):bE:=⟨some d,.bin o (.tmp x) (.tmp y),none⟩
def iC (d:Nat) (o:BinOp) (x:Nat) (n:Int):bE:=⟨some d,.bin o (.tmp x) (.const (.int .i64 n)),none⟩
def iL (d s:Nat):bE:=⟨some d,.load none (.tmp s),none⟩
def iX (d n x y:Nat):bE:=⟨some d,.a7H n (.tmp x) (.tmp y),none⟩
def iN (d x:Nat):bE:=⟨some d,.len (.tmp x),none⟩
def iF (d n x:Nat):bE:=⟨some d,.a7U n (.tmp x),none⟩
def iS (n p x:Nat):bE:=⟨none,.store n (.tmp p) (.tmp x),none⟩
def iA (d:Nat) (o:POp):bE:=⟨some d,o,none⟩
def iG (d:Nat) (o:POp) (g:Nat) (b:Bool):bE:=⟨some d,o,some (g,b)⟩
def iP (d a b:Nat):bE:=⟨some d,.pick (.tmp a) (.tmp b) (.const (.bool false)),none⟩
def iQ (d a b:Nat):bE:=⟨some d,.pick (.tmp a) (.const (.bool true)) (.tmp b),none⟩
def iO (d s a:Nat):bE:=⟨some d,.load (some s) (.tmp a),none⟩
def iE (d a n:Nat):bE:=⟨some d,.extract (.tmp a) n,none⟩
def iK (d f a:Nat):bE:=⟨some d,.call f [.tmp a],none⟩
def iK2 (d f a b:Nat):bE:=⟨some d,.call f [.tmp a,.tmp b],none⟩
def iT (d:Nat) (b:Bool):bE:=⟨some d,.mv (.const (.bool b)),none⟩
def iZ (d:Nat):bE:=⟨some d,.mv (.const .aD),none⟩
def gM (d s g:Nat) (b:Bool):bE:=⟨some d,.mv (.tmp s),some (g,b)⟩
def gL (d s g:Nat) (b:Bool):bE:=⟨some d,.load none (.tmp s),some (g,b)⟩
def gF (d n s g:Nat) (b:Bool):bE:=⟨some d,.a7U n (.tmp s),some (g,b)⟩
def gN (d s g:Nat) (b:Bool):bE:=⟨some d,.len (.tmp s),some (g,b)⟩
def gO (d n s g:Nat) (b:Bool):bE:=⟨some d,.load (some n) (.tmp s),some (g,b)⟩
def gK (d f a g:Nat) (b:Bool):bE:=⟨some d,.call f [.tmp a],some (g,b)⟩
def gK2 (d f a c g:Nat) (b:Bool):bE:=⟨some d,.call f [.tmp a,.tmp c],some (g,b)⟩
def gC (d:Nat) (o:BinOp) (x:Nat) (n:Int) (g:Nat) (b:Bool):bE:=⟨some d,.bin o (.tmp x) (.const (.int .i64 n)),some (g,b)⟩
def gB (d:Nat) (o:BinOp) (x y g:Nat) (b:Bool):bE:=⟨some d,.bin o (.tmp x) (.tmp y),some (g,b)⟩
def zI:PV:=.int .i64 0
def zB:PV:=.bool false
def sq (r:Rg) (c:aC):aC:=.seq (.region r) c
def dq (r:Rd) (c:aC):aC:=.seq (.draw r) c
def Tm (n:Nat):aP:=.tmp n
def Ci (n:Int):aP:=.const (.int .i64 n)
@[go_sem] theorem a6D (d s:Nat):iM d s=⟨some d,.mv (.tmp s),none⟩:=(rfl)
@[go_sem] theorem a6A (d:Nat) (n:Int):iI d n=⟨some d,.mv (.const (.int .i64 n)),none⟩:=(rfl)
@[go_sem] theorem a5V (d:Nat) (o:BinOp) (x y:Nat):iB d o x y=⟨some d,.bin o (.tmp x) (.tmp y),none⟩:=(rfl)
@[go_sem] theorem a5W (d:Nat) (o:BinOp) (x:Nat) (n:Int):iC d o x n=⟨some d,.bin o (.tmp x) (.const (.int .i64 n)),none⟩:=(rfl)
@[go_sem] theorem a6C (d s:Nat):iL d s=⟨some d,.load none (.tmp s),none⟩:=(rfl)
@[go_sem] theorem a6K (d n x y:Nat):iX d n x y=⟨some d,.a7H n (.tmp x) (.tmp y),none⟩:=(rfl)
@[go_sem] theorem a6E (d x:Nat):iN d x=⟨some d,.len (.tmp x),none⟩:=(rfl)
@[go_sem] theorem a5Y (d n x:Nat):iF d n x=⟨some d,.a7U n (.tmp x),none⟩:=(rfl)
@[go_sem] theorem a6I (n p x:Nat):iS n p x=⟨none,.store n (.tmp p) (.tmp x),none⟩:=(rfl)
@[go_sem] theorem a5U (d:Nat) (o:POp):iA d o=⟨some d,o,none⟩:=(rfl)
@[go_sem] theorem a5Z (d:Nat) (o:POp) (g:Nat) (b:Bool):iG d o g b=⟨some d,o,some (g,b)⟩:=(rfl)
@[go_sem] theorem a6G (d a b:Nat):iP d a b=⟨some d,.pick (.tmp a) (.tmp b) (.const (.bool false)),none⟩:=(rfl)
@[go_sem] theorem a6H (d a b:Nat):iQ d a b=⟨some d,.pick (.tmp a) (.const (.bool true)) (.tmp b),none⟩:=(rfl)
@[go_sem] theorem a6F (d s a:Nat):iO d s a=⟨some d,.load (some s) (.tmp a),none⟩:=(rfl)
@[go_sem] theorem a5X (d a n:Nat):iE d a n=⟨some d,.extract (.tmp a) n,none⟩:=(rfl)
@[go_sem] theorem a6B (d f a:Nat):iK d f a=⟨some d,.call f [.tmp a],none⟩:=(rfl)
@[go_sem] theorem a5H (d f a b:Nat):iK2 d f a b=⟨some d,.call f [.tmp a,.tmp b],none⟩:=(rfl)
@[go_sem] theorem a6J (d:Nat) (b:Bool):iT d b=⟨some d,.mv (.const (.bool b)),none⟩:=(rfl)
@[go_sem] theorem a6L (d:Nat):iZ d=⟨some d,.mv (.const .aD),none⟩:=(rfl)
@[go_sem] theorem a5R (d s g:Nat) (b:Bool):gM d s g b=⟨some d,.mv (.tmp s),some (g,b)⟩:=(rfl)
@[go_sem] theorem a5Q (d s g:Nat) (b:Bool):gL d s g b=⟨some d,.load none (.tmp s),some (g,b)⟩:=(rfl)
@[go_sem] theorem a5O (d n s g:Nat) (b:Bool):gF d n s g b=⟨some d,.a7U n (.tmp s),some (g,b)⟩:=(rfl)
@[go_sem] theorem a5S (d s g:Nat) (b:Bool):gN d s g b=⟨some d,.len (.tmp s),some (g,b)⟩:=(rfl)
@[go_sem] theorem a5T (d n s g:Nat) (b:Bool):gO d n s g b=⟨some d,.load (some n) (.tmp s),some (g,b)⟩:=(rfl)
@[go_sem] theorem a5P (d f a g:Nat) (b:Bool):gK d f a g b=⟨some d,.call f [.tmp a],some (g,b)⟩:=(rfl)
@[go_sem] theorem a5G (d f a c g:Nat) (b:Bool):gK2 d f a c g b=⟨some d,.call f [.tmp a,.tmp c],some (g,b)⟩:=(rfl)
@[go_sem] theorem a5N (d:Nat) (o:BinOp) (x:Nat) (n:Int) (g:Nat) (b:Bool):gC d o x n g b=⟨some d,.bin o (.tmp x) (.const (.int .i64 n)),some (g,b)⟩:=(rfl)
@[go_sem] theorem a5M (d:Nat) (o:BinOp) (x y g:Nat) (b:Bool):gB d o x y g b=⟨some d,.bin o (.tmp x) (.tmp y),some (g,b)⟩:=(rfl)
@[go_sem] theorem a6O:zI=.int .i64 0:=(rfl)
@[go_sem] theorem a6N:zB=.bool false:=(rfl)
@[go_sem] theorem a6M (r:Rg) (c:aC):sq r c=.seq (.region r) c:=(rfl)
@[go_sem] theorem a5L (r:Rd) (c:aC):dq r c=.seq (.draw r) c:=(rfl)
@[go_sem] theorem a5K (n:Nat):Tm n=.tmp n:=(rfl)
@[go_sem] theorem a5J (n:Int):Ci n=.const (.int .i64 n):=(rfl)
end Go.PM
namespace Go.PM
open Go
open Go
def wk:List Nat:=[]
def uB:=bM wk Proofs.Tryz.f146
def QT:=aA uB 0
def QU:=aA uB 1
def QV:=aA uB 2
def QW:=aA uB 3
def QS:aC:=(.seq (sq QV (.cond (Tm 15) .skip (.exit 0))) (.block 1 (.region QW)))
def yV:=aA uB 4
def uA:aC:=(sq QT (sq QU (.seq (.block 0 (.loop QS)) (sq yV .ret))))
def ND:aW:=⟨1,19,uA,[.tmp 2]⟩
def Ir:List Nat:=[]
def fe:=bM Ir Proofs.Tryz.f168
def Ip:=aA fe 0
def Iq:=aA fe 1
def KL:aC:=(sq Ip (sq Iq .ret))
def Yp:aW:=⟨1,6,KL,[.tmp 2]⟩
def Ja:List Nat:=[]
def wC:=bM Ja Proofs.Tryz.f169
def I5:=aA wC 0
def I6:=aA wC 1
def I7:=aA wC 2
def I8:=aA wC 3
def I9:=aA wC 4
def KN:aC:=(sq I5 (sq I6 (.seq (sq I7 (.cond (Tm 8) (sq I8 .ret) .skip)) (sq I9 .ret))))
def Y4:aW:=⟨1,13,KN,[.tmp 2,.tmp 3]⟩
def Yt:List Nat:=[9]
def QY:=bM Yt Proofs.Tryz.f121
def Yq:=aA QY 0
def Yr:=aA QY 1
def Ys:=aA QY 2
def QX:aC:=(sq Yq (sq Yr (sq Ys .ret)))
def aCT:aW:=⟨1,14,QX,[.tmp 2]⟩
def Zd:List Nat:=[]
def wr:=bM Zd Proofs.Tryz.f151
def Zb:=aA wr 0
def Zc:=aA wr 1
def QZ:aC:=(sq Zb (sq Zc .ret))
def aCV:aW:=⟨1,8,QZ,[.tmp 2]⟩
def arC:List Nat:=[]
def kL:=bM arC Proofs.Tryz.f126
def aqS:=aA kL 0
def aqT:=aA kL 1
def aqU:=aA kL 2
def aqV:=aA kL 3
def aqW:=aA kL 4
def aqX:=aA kL 5
def aqY:=aA kL 6
def aqZ:=aA kL 7
def arA:=bT kL 0
def arB:=aA kL 8
def Yf:=bT kL 1
def Yg:=aA kL 9
def Yh:=aA kL 10
def Ye:aC:=(.seq (sq aqZ (.cond (Tm 23) .skip (.exit 1))) (.seq (.block 2 (.block 3 (dq arA (.cond (Tm 26) (sq arB .ret) (dq Yf (.cond (Tm 36) (sq Yg .ret) .skip)))))) (.region Yh)))
def Yi:=aA kL 11
def XA:aC:=(sq aqS (sq aqT (.seq (.block 0 (sq aqU (.cond (Tm 12) (sq aqV .ret) (sq aqW (.cond (Tm 16) (sq aqX .ret) .skip))))) (.seq (sq aqY (.block 1 (.loop Ye))) (sq Yi .ret)))))
def aON:aW:=⟨2,46,XA,[.tmp 4]⟩
def aqO:List Nat:=[]
def gV:=bM aqO Proofs.Tryz.f147
def aqI:=aA gV 0
def aqJ:=aA gV 1
def Cn:=aA gV 2
def aqK:=bT gV 0
def aqL:=aA gV 3
def aqM:=aA gV 4
def Cp:=aA gV 5
def Cq:=aA gV 6
def Cr:=aA gV 7
def aqN:=aA gV 8
def Xx:=aA gV 9
def Xy:=aA gV 10
def Xz:=aA gV 11
def X0:=aA gV 12
def ma:=aA gV 13
def mb:=aA gV 14
def me:=aA gV 15
def l9:aC:=(sq aqN (.seq (.cond (Tm 37) .skip (.exit 0)) (.seq (.block 1 (sq Xx (sq Xy (.seq (sq Xz (.cond (Tm 49) (.region X0) .skip)) (sq ma (.region mb)))))) (.region me))))
def mf:=aA gV 16
def mg:=aA gV 17
def WY:aC:=(sq aqI (.seq (sq aqJ (.cond (Tm 14) (sq Cn .ret) .skip)) (dq aqK (.seq (sq aqL (.cond (Tm 27) (.region aqM) .skip)) (sq Cp (sq Cq (.seq (sq Cr (.block 0 (.loop l9))) (sq mf (sq mg .ret)))))))))
def aOK:aW:=⟨2,75,WY,[.tmp 4,.tmp 5]⟩
def asM:List Nat:=[]
def iH:=bM asM Proofs.Tryz.f148
def asG:=aA iH 0
def asH:=aA iH 1
def C7:=aA iH 2
def asI:=aA iH 3
def asJ:=aA iH 4
def asK:=bT iH 0
def C8:=aA iH 5
def C9:=aA iH 6
def Da:=aA iH 7
def asL:=aA iH 8
def Y5:=aA iH 9
def Y6:=aA iH 10
def Y7:=aA iH 11
def Y8:=aA iH 12
def mu:=aA iH 13
def mw:=aA iH 14
def my:=aA iH 15
def mr:aC:=(sq asL (.seq (.cond (Tm 36) .skip (.exit 1)) (.seq (.block 2 (sq Y5 (sq Y6 (.seq (sq Y7 (.cond (Tm 48) (.region Y8) .skip)) (sq mu (.region mw)))))) (.region my))))
def mz:=aA iH 16
def XI:aC:=(sq asG (.seq (.block 0 (sq asH (.cond (Tm 10) (sq C7 .ret) (sq asI (.cond (Tm 17) (sq asJ .ret) .skip))))) (dq asK (sq C8 (sq C9 (.seq (sq Da (.block 1 (.loop mr))) (sq mz .ret)))))))
def aOX:aW:=⟨2,68,XI,[.tmp 4,.tmp 5]⟩
def asF:List Nat:=[]
def gW:=bM asF Proofs.Tryz.f152
def asB:=aA gW 0
def asC:=aA gW 1
def C0:=aA gW 2
def asD:=bT gW 0
def C1:=aA gW 3
def C2:=aA gW 4
def asE:=aA gW 5
def C3:=aA gW 6
def C4:=aA gW 7
def C5:=aA gW 8
def Yu:=aA gW 9
def Yv:=aA gW 10
def Yw:=aA gW 11
def Yx:=aA gW 12
def Yy:=aA gW 13
def Yz:=aA gW 14
def mj:aC:=(sq Yu (.seq (.cond (Tm 42) .skip (.exit 2)) (.seq (.block 3 (sq Yv (sq Yw (sq Yx (.region Yy))))) (.region Yz))))
def mm:=aA gW 15
def Y0:=aA gW 16
def ml:aC:=(sq asE (.seq (.cond (Tm 35) .skip (.exit 0)) (.seq (.block 1 (sq C3 (sq C4 (.seq (sq C5 (.block 2 (.loop mj))) (.region mm))))) (.region Y0))))
def mo:=aA gW 17
def XG:aC:=(sq asB (.seq (sq asC (.cond (Tm 17) (sq C0 .ret) .skip)) (dq asD (sq C1 (.seq (sq C2 (.block 0 (.loop ml))) (sq mo .ret))))))
def aOV:aW:=⟨2,84,XG,[.tmp 4,.tmp 5]⟩
def Yd:List Nat:=[]
def nE:=bM Yd Proofs.Tryz.f120
def X4:=aA nE 0
def X5:=aA nE 1
def X6:=aA nE 2
def X7:=aA nE 3
def X8:=aA nE 4
def X9:=aA nE 5
def Ya:=aA nE 6
def Yb:=aA nE 7
def Yc:=aA nE 8
def X3:aC:=(.seq (sq Ya (.cond (Tm 19) .skip (.exit 0))) (.seq (.block 1 (.region Yb)) (.region Yc)))
def Ik:=aA nE 9
def QN:aC:=(sq X4 (sq X5 (.seq (sq X6 (.cond (Tm 9) (sq X7 .ret) .skip)) (sq X8 (.seq (sq X9 (.block 0 (.loop X3))) (sq Ik .ret))))))
def aCG:aW:=⟨1,25,QN,[.tmp 2]⟩
def asA:List Nat:=[]
def rW:=bM asA Proofs.Tryz.f149
def arT:=aA rW 0
def arU:=aA rW 1
def Cz:=aA rW 2
def arV:=aA rW 3
def arW:=aA rW 4
def arX:=aA rW 5
def arY:=aA rW 6
def arS:aC:=(.seq (sq arW (.cond (Tm 20) .skip (.exit 0))) (.block 1 (sq arX (.region arY))))
def arZ:=aA rW 7
def XF:aC:=(sq arT (.seq (sq arU (.cond (Tm 13) (sq Cz .ret) .skip)) (sq arV (.seq (.block 0 (.loop arS)) (sq arZ .ret)))))
def aOS:aW:=⟨2,30,XF,[.tmp 4,.tmp 5]⟩
def arJ:List Nat:=[]
def tZ:=bM arJ Proofs.Tryz.f150
def arD:=aA tZ 0
def arE:=aA tZ 1
def Cs:=aA tZ 2
def arF:=aA tZ 3
def arG:=aA tZ 4
def arH:=bT tZ 0
def arI:=aA tZ 5
def XC:aC:=(sq arD (.seq (.block 0 (sq arE (.cond (Tm 9) (sq Cs .ret) (sq arF (.cond (Tm 16) (sq arG .ret) .skip))))) (dq arH (sq arI .ret))))
def aOO:aW:=⟨2,34,XC,[.tmp 4,.tmp 5,.tmp 6]⟩
def I4:List Nat:=[]
def lY:=bM I4 Proofs.Tryz.f178
def Iv:=aA lY 0
def Iw:=aA lY 1
def Ix:=aA lY 2
def Iy:=aA lY 3
def Iz:=aA lY 4
def I0:=aA lY 5
def I1:=aA lY 6
def I2:=aA lY 7
def I3:=aA lY 8
def Iu:aC:=(.seq (sq Iz (.cond (Tm 16) .skip (.exit 0))) (.seq (.block 1 (sq I0 (sq I1 (.region I2)))) (.region I3)))
def wn:=aA lY 9
def KM:aC:=(sq Iv (sq Iw (sq Ix (.seq (sq Iy (.block 0 (.loop Iu))) (sq wn .ret)))))
def Y3:aW:=⟨2,45,KM,[.tmp 4,.tmp 5]⟩
def aID:List Nat:=[]
def nU:=bM aID Proofs.Tryz.f179
def aHT:=aA nU 0
def aHU:=aA nU 1
def aHV:=aA nU 2
def aHW:=aA nU 3
def aHX:=aA nU 4
def aHY:=aA nU 5
def aHZ:=aA nU 6
def aIA:=aA nU 7
def aIB:=aA nU 8
def aIC:=aA nU 9
def asN:aC:=(sq aHX (.seq (.cond (Tm 16) .skip (.exit 0)) (.seq (.block 1 (sq aHY (sq aHZ (sq aIA (.region aIB))))) (.region aIC))))
def asO:=aA nU 10
def asP:=aA nU 11
def m5:aC:=(sq aHT (sq aHU (sq aHV (.seq (sq aHW (.block 0 (.loop asN))) (sq asO (sq asP .ret))))))
def nup:aW:=⟨2,41,m5,[.tmp 4]⟩
def wi:List Nat:=[]
def cS:=bM wi Proofs.Tryz.f170
def v6:=aA cS 0
def v7:=aA cS 1
def v8:=aA cS 2
def wa:=aA cS 3
def wc:=aA cS 4
def wd:=aA cS 5
def we:=aA cS 6
def wg:=aA cS 7
def wh:=aA cS 8
def vz:aC:=(.seq (sq wg (.cond (Tm 50) .skip (.exit 0))) (.block 1 (.region wh)))
def dy:=bT cS 0
def dz:=aA cS 9
def d6:=aA cS 10
def d7:=bT cS 1
def d8:=aA cS 11
def d9:=aA cS 12
def JZ:=bT cS 2
def KB:=bT cS 3
def ef:=aA cS 13
def KC:=aA cS 14
def KD:=aA cS 15
def KE:=aA cS 16
def BC:aC:=(.seq (sq ef (.cond (Tm 129) .skip (.exit 4))) (.block 5 (sq KC (sq KD (sq KE (.cond (Tm 136) (.exit 4) .skip))))))
def KF:=aA cS 17
def KG:=aA cS 18
def KI:=aA cS 19
def BD:=aA cS 20
def eg:=aA cS 21
def JX:aC:=(.seq (sq d9 (.cond (Tm 85) .skip (.exit 2))) (.seq (.block 3 (dq JZ (dq KB (.seq (.block 4 (.loop BC)) (.seq (sq KF (.cond (Tm 146) (sq KG (.region KI)) .skip)) (.region BD)))))) (.region eg)))
def KJ:=aA cS 22
def KK:=aA cS 23
def el:=aA cS 24
def ep:=aA cS 25
def e8:=bT cS 4
def fa:=aA cS 26
def JY:aC:=(sq el (.seq (.cond (Tm 168) .skip (.exit 6)) (.seq (.block 7 (sq ep (.draw e8))) (.region fa))))
def fc:=bT cS 5
def GQ:aC:=(sq v6 (.seq (sq v7 (.cond (Tm 24) (sq v8 .ret) .skip)) (.seq (sq wa (.cond (Tm 29) (sq wc (sq wd .ret)) .skip)) (sq we (.seq (.block 0 (.loop vz)) (dq dy (sq dz (sq d6 (dq d7 (.seq (sq d8 (.block 2 (.loop JX))) (sq KJ (.seq (sq KK (.block 6 (.loop JY))) (dq fc .ret)))))))))))))
def Ct:aW:=⟨2,198,GQ,[.tmp 4,.tmp 5]⟩
def XU:List Nat:=[]
def fM:=bM XU Proofs.Tryz.f180
def XK:=aA fM 0
def XL:=aA fM 1
def XM:=aA fM 2
def XN:=aA fM 3
def XO:=aA fM 4
def XP:=aA fM 5
def XQ:=aA fM 6
def XR:=aA fM 7
def XS:=aA fM 8
def XT:=aA fM 9
def US:=aA fM 10
def UR:aC:=(sq XN (.seq (.cond (Tm 16) .skip (.exit 0)) (.seq (.block 1 (sq XO (sq XP (sq XQ (sq XR (sq XS (.region XT))))))) (.region US))))
def UT:=aA fM 11
def UU:=aA fM 12
def UV:=aA fM 13
def AF:aC:=(sq XK (sq XL (.seq (sq XM (.block 0 (.loop UR))) (sq UT (sq UU (sq UV .ret))))))
def XJ:aW:=⟨3,65,AF,[.tmp 6]⟩
def ft:List Nat:=[]
def kY:=bM ft Proofs.Tryz.f181
def fg:=aA kY 0
def fh:=aA kY 1
def fi:=aA kY 2
def fj:=aA kY 3
def fk:=aA kY 4
def fl:=aA kY 5
def fm:=aA kY 6
def fp:=aA kY 7
def ff:aC:=(sq fi (.seq (.cond (Tm 10) .skip (.exit 0)) (.seq (.block 1 (sq fj (sq fk (sq fl (.region fm))))) (.region fp))))
def fq:=aA kY 8
def CQ:aC:=(sq fg (.seq (sq fh (.block 0 (.loop ff))) (.region fq)))
def mq:aW:=⟨2,41,CQ,[]⟩
open Go Go.RowKit Go.ChangeShapes Go.WideShapes
inductive AT where
 | one (ct:CT)
 | struct (cts:List CT)
 deriving Inhabited
def azR (P:Program) (n:Nat) (t:TypeId):Option AT :=
 match P.underlying t with
 | some .bool=>some (.one .bool)
 | some (.int k)=>some (.one (.int k))
 | some .string=>some (.one .str)
 | some (.slice _)=>match kN P n t with
  | some [ct]=>some (.one ct)
  | _=>none
 | some (.struct _)=>(kN P n t).map .struct
 | _=>none
def MP (P:Program) (n:Nat):List TypeId→Option (List AT)
 | []=>some []
 | t::ts=>match azR P n t,MP P n ts with
  | some a,some e=>some (a::e)
  | _,_=>none
inductive AT.Ty:AT→PV→Prop
 | one {ct:CT} {pv:PV} (h:PV.Ty ct pv):AT.Ty (.one ct) pv
 | struct {cts:List CT} {pvs:List PV} (hl:pvs.length=cts.length) (h:∀ (j:Nat) pv ct,pvs[j]?=some pv→cts[j]?=some ct→PV.Ty ct pv):AT.Ty (.struct cts) (.agg pvs)
def AT.TyL:List AT→List PV→Prop
 | [],[]=>True
 | a::e,p::ps=>AT.Ty a p∧AT.TyL e ps
 | _,_=>False
section
variable {H:Type} {enc:TypeId × Value→H} {P:Program} {W:World} {sp:Nat→Bool} {held:Bool}
theorem TrodAll.length:∀ {ts:List TypeId} {vs:List Value} {ds:List (DataW H)} {ps:List MemPlace},DataW.TrodAll enc P W 0 sp held ts vs ds ps→ds.length=ts.length
 | [],[],[],_,_=>rfl
 | [],[],_::_,_,h=>h.elim
 | [],_::_,_,_,h=>h.elim
 | _::_,[],[],_,h=>h.elim
 | _::_,[],_::_,_,h=>h.elim
 | _::_,_::_,[],_,h=>h.elim
 | t::ts,v::vs,d::ds,ps,h=>by obtain⟨p,q,j,e,rfl⟩:=h;simp[TrodAll.length e]
end
attribute [go_sem] uR kF setCells PV.cells PV.one cW storeAt eC loadCells fL bnd PV.slice PV.intOf PV.eqs PV.eq1 PV.un keyOf KS.of KS.ofs KS.sh List.all_cons List.all_nil List.set_cons_zero List.set_cons_succ a8U baI a8O a9Q a9I Bool.and_self
attribute [go_sem] Bool.bne_false Bool.bne_true Int.le_refl Int.lt_irrefl decide_true decide_false exists_eq_left exists_eq_left' a8E bbP bbI Int.natCast_nonneg Option.isSome_some Option.isSome_none baW Option.getD_none decide_eq_true_eq decide_eq_false_iff_not a8R a9P a8J Nat.sub_zero
def bU (xs:List Int):List (List PV):=xs.map fun n=>[.int .i64 n]
theorem bD {a b:Int} (h:a≠b):(a==b)=false:=by simp[h]
theorem bP {a b:Int} (h:a=b):(a==b)=true:=by simp[h]
theorem cM {a b:Int} (h:a≠b):(a != b)=true:=by simp[h]
theorem bJ {a b:Int} (h:a=b):(a != b)=false:=by simp[h]
section
variable {H:PH}
@[go_sem] theorem PH.set_set (o:Nat) (x y:bZ):(H.set o x).set o y=H.set o y:=PH.ext fun q=>by
 simp only[aS]; split<;>rfl
@[go_sem] theorem bS (o:Nat) (x:bZ):(H.set o x) o=some x:=by simp only[aS,if_true]
end
section
variable {C:Ctx} {K:cI} {F:PF} {H:PH}
theorem PH.uD (o:Nat) (x:bZ):H.over .nil (PH.nil.set o x)=H.set o x:=PH.ext fun q=>by
 rw[tB]; simp only[aS,Ca]; split<;>simp_all
theorem PH.uE (o:Nat) (x y:bZ):H.over (PH.nil.set o x) (PH.nil.set o y)=H.set o y:=PH.ext fun q=>by
 rw[tB]; simp only[aS,Ca]; split<;>simp_all
theorem dV {name:Nat} {vs:List PV} {H0:PH} {R:PV→PH→Prop} {args:List aP} {d:Option Nat} {K:PF→PH→Prop} (h:aH C name vs H0 R) (j:aP.evs F args=some vs) (e:H0.le H)
  (l:∀ r H',R r H'→oL H H0 H'→K (F.put d r) (H.over H0 H')):jU C name args [] d K F H :=
 .inl ⟨vs,H0,R,by rw[j]; simp,e,h,l⟩
theorem bA {res:List eS} {R:PV→PH→Prop} {vs:List PV} {e:mY} (he:e=.normal∨e=.ret) (H0:PH) (h:eS.evs F H res=some vs) (j:H0.le H) (y:R (cB vs) H0):aT res R e F H:=by
 have l:∃ vs,eS.evs F H res=some vs∧∃ w x H2,kP (PF.nil.set 0 (cB vs)) H w x∧H2.le x∧∃ u,w 0=some u∧R u H2 :=
  ⟨vs,h,_,H,H0,.refl _ _,j,cB vs,by rw[oJ,if_pos rfl],y⟩
 rcases he with rfl | rfl<;>exact l
theorem aPS {t o s k:Nat} {rs:List (List PV)} {R:PV→PH→Prop} {e:mY} (he:e=.normal∨e=.ret) (h:F t=some (.osl o s 0 k)) (y:H o=some (.rows s rs)) (A:k≤rs.length) (x:R (.sl s (rs.take k)) .nil) :
  aT [.tmp t] R e F H:=by
 have j:∃ vs,eS.evs F H [.tmp t]=some vs∧∃ l w H2,kP (PF.nil.set 0 (cB vs)) H l w∧H2.le w∧∃ u,l 0=some u∧R u H2:=by refine⟨[.osl o s 0 k],by rw[nZ,rO,h,tE],_,_,.nil,.step o y (.refl _ _),a_,.sl s (rs.take k),?_,x⟩;have:0+k≤rs.length:=Om;simp only[PF.frz,oJ,if_true,cB,a9J,PV.frz,PV.tX,PV.cQ,true_and,if_pos this,a9R]
 rcases he with rfl | rfl<;>exact j
def cP (v:PV) (r:PV) (H:PH):Prop:=Co r v∧H=PH.nil
theorem aH.aDL {name:Nat} {args:List PV} {H:PH} {v:PV} (h:aH C name args H (cP v)):aH C name args H (aI v) :=
 h.post fun r H' ⟨e,j⟩=>⟨v,e,rfl,j⟩
theorem aI.aDL {v r:PV} {H:PH} (h:aI v r H):cP v r H:=by
 obtain⟨rfl,rfl⟩:=h;exact⟨.refl _,rfl⟩
theorem HP {s b:Nat} {y:PV} {src:List (List PV)} {K:PV→PH→Prop} (u:fL H s y=some src) (l:roomFor 0 src.length b) (e:src=[]→K .aD H)
  (j:src≠[]→∀ o,H o=none→K (.osl o s 0 src.length) (H.set o (.rows s src))):oF H s b .aD y K:=⟨src,u,l,e,j⟩
theorem ahB {o s b len:Nat} {rs:List (List PV)} {y:PV} {src:List (List PV)} {K:PV→PH→Prop} (A:fL H s y=some src) (x:roomFor len src.length b) (w:H o=some (.rows s rs)) (u:len≤rs.length)
  (j:K (.osl o s 0 (len+src.length)) (H.set o (.rows s (rs.take len++src))))
  (l:∀ e,H e=none→K (.osl e s 0 (len+src.length)) (H.set e (.rows s (rs.take len++src)))):oF H s b (.osl o s 0 len) y K :=
 ⟨src,A,rfl,rfl,x,rs,w,u,j,l⟩
end
def cR (H:PH) (s:Nat) (v:PV) (rows:List (List PV)):Prop :=
 (rows=[]∧v=.aD)∨∃ q rs,v=.osl q s 0 rows.length∧H q=some (.rows s rs)∧rows.length≤rs.length∧rs.take rows.length=rows
def Seen (s:Nat) (v:PV) (rows:List (List PV)):Prop:=(rows=[]∧v=.aD)∨v=.sl s rows
section
variable {C:Ctx} {K:cI} {F:PF} {H:PH} {s b:Nat} {v y:PV} {rows src:List (List PV)}
theorem cR.nil:cR H s .aD []:=.inl ⟨rfl,rfl⟩
theorem cR.ext {H':PH} (h:cR H s v rows) (e:∀ o x,H o=some x→H' o=some x):cR H' s v rows:=by
 rcases h with h | ⟨q,rs,h0,h1,h2,h3⟩
 ·exact .inl h
 ·exact .inr ⟨q,rs,h0,e q _ h1,h2,h3⟩
theorem kR {K:PV→PH→Prop} (h:cR H s v rows) (J:fL H s y=some src) (I:roomFor rows.length src.length b)
  (E:∀ v' H',cR H' s v' (rows++src)→(∀ o x,H o=some x→(∀ l,v≠.osl o s 0 l)→H' o=some x)→K v' H'):oF H s b v y K:=by
 rcases h with ⟨rfl,rfl⟩ | ⟨q,rs,rfl,h1,h2,h3⟩
 ·refine⟨src,J,I,fun e=>?_,fun e o A=>?_⟩
  ·subst e;exact E _ _ (.inl ⟨rfl,rfl⟩) fun o x A _=>A
  ·refine E _ _ (.inr ⟨o,src,rfl,by simp only[aS,if_true],a8J _,by simp⟩) fun B x j _=>?_;have:B≠o:=by rintro rfl; rw[A] at j; cases j
   simp only[aS,if_neg this,j]
 ·have u:(rows++src).length=rows.length+src.length:=a8H;refine⟨src,J,rfl,rfl,I,rs,h1,h2,?_,fun o A=>?_⟩
  ·rw[h3];refine E _ _ (.inr ⟨q,rows++src,by rw[u],by simp only[aS,if_true],a8J _,a9M⟩) fun B x j w=>?_;have:B≠q:=by rintro rfl; exact w _ rfl
   simp only[aS,if_neg this,j]
  ·rw[h3];refine E _ _ (.inr ⟨o,rows++src,by rw[u],by simp only[aS,if_true],a8J _,a9M⟩) fun B x j w=>?_;have M:B≠o:=by rintro rfl; rw[A] at j; cases j
   simp only[aS,if_neg M,j]
def Pure (u:PV):Prop:=∀ q s rs,PV.frz q s rs u=u
theorem cR.frz (h:cR H s v rows):∃ j,Seen s j rows∧∀ F:PF,∃ e l,kP F H e l∧(∀ t,F t=some v→e t=some j)∧∀ i u,F i=some u→Pure u→e i=some u:=by
 rcases h with ⟨rfl,rfl⟩ | ⟨q,rs,rfl,h1,h2,h3⟩
 ·exact⟨.aD,.inl ⟨rfl,rfl⟩,fun F=>⟨F,H,.refl _ _,fun t h=>h,fun i u h _=>h⟩⟩
 ·refine⟨.sl s rows,.inr rfl,fun F=>⟨_,_,.step q h1 (.refl _ _),fun t x=>?_,fun i u hi w=>?_⟩⟩
  ·have:0+rows.length≤rs.length:=Om;simp only[PF.frz,x,a9J,PV.frz,PV.tX,PV.cQ,if_true,true_and,if_pos this,a9R,h3]
  ·simp only[PF.frz,hi,a9J];rw[w]
theorem RU {t:Nat} {e:mY} (he:e=.normal∨e=.ret) (h:cR H s v rows) (j:F t=some v):aT [.tmp t] (cP (.sl s rows)) e F H:=by
 rcases h with ⟨rfl,rfl⟩ | ⟨q,rs,rfl,h1,h2,h3⟩
 ·exact bA (vs:=[.aD]) he .nil (by rw[nZ,rO,j,tE]) a_ ⟨.nil s,rfl⟩
 ·exact aPS he j h1 h2 ⟨by rw[h3]; exact .refl _,rfl⟩
end
end Go.PM
namespace Go.PM
open Go
section
variable {C:Ctx} {F:PF} {H:PH}
@[go_sem] theorem rM (o s:Nat) (rs:List (List PV)) (i:Nat):(F.frz o s rs) i=(F i).map (PV.frz o s rs):=(rfl)
theorem vM {name t o s k:Nat} {rs:List (List PV)} {v:PV} {d:Option Nat} {K:PF→PH→Prop} (h:aH C name [.sl s (rs.take k)] .nil (aI v)) (l:F t=some (.osl o s 0 k)) (j:H o=some (.rows s rs)) (u:k≤rs.length)
  (e:K ((F.frz o s rs).put d v) (H.frz o s rs)):jU C name [.tmp t] [] d K F H:=by
 refine .inr ⟨_,_,.step o j (.refl _ _),[.sl s (rs.take k)],.nil,aI v,?_,a_,h,?_⟩
 ·have:0+k≤rs.length:=Om;simp only[GF,bg,sd,rM,l,a9J,PV.frz,PV.tX,PV.cQ,if_true,true_and,if_pos this,a9R,a9W]
 ·rintro r H' ⟨rfl,rfl⟩ -;rw[PH.kG];exact e
end
end Go.PM
namespace Go.Na
def val:List Nat→Nat
 | []=>0
 | x::xs=>x+4294967296*val xs
def Lim (xs:List Nat):Prop:=∀ x∈xs,x<4294967296
def aJ (n:Nat):List Nat:=if h:n=0 then [] else (n%4294967296)::aJ (n/4294967296)
termination_by n
decreasing_by exact Nat.div_lt_self (baV h) (by decide)
def nl (n:Nat):Nat:=(aJ n).length
theorem jD:aJ 0=[]:=by rw[aJ]; simp
theorem xN {n:Nat} (h:n≠0):aJ n=(n%4294967296)::aJ (n/4294967296):=by rw[aJ]; simp[h]
theorem sZ {n:Nat} (h:n≠0) (hb:n<4294967296):aJ n=[n]:=by
 rw[xN h,a9V hb,bbL hb,jD]
theorem aU (n:Nat):val (aJ n)=n:=by
 induction n using Nat.strongRecOn with
 | _ n e =>
  by_cases h:n=0
  ·subst h; rw[jD]; rfl
  ·rw[xN h,val,e _ (Nat.div_lt_self (baV h) (by decide))];exact Nat.mod_add_div n 4294967296
theorem aX (n:Nat):Lim (aJ n):=by
 induction n using Nat.strongRecOn with
 | _ n e =>
  by_cases h:n=0
  ·subst h; rw[jD]; intro x hx; cases hx
  ·rw[xN h];intro x hx;rw[a8S] at hx;rcases hx with rfl | hx
   ·exact baC _ (by decide)
   ·exact e _ (Nat.div_lt_self (baV h) (by decide)) x hx
theorem FK:nl 0=0:=by rw[nl,jD]; rfl
theorem aHN {n:Nat} (h:n≠0):nl n=nl (n/4294967296)+1:=by rw[nl,xN h]; rfl
theorem lS (n k:Nat):nl n≤k↔n<4294967296 ^ k:=by
 induction k generalizing n with
 | zero =>
  by_cases h:n=0
  ·subst h; simp[FK]
  ·rw[aHN h]; simp; omega
 | succ k e =>
  by_cases h:n=0
  ·subst h; simp[FK,bbD]
  ·rw[aHN h,Nat.succ_le_succ_iff,e,baG,bbM (by decide)]
theorem kX {n:Nat}:nl n=0↔n=0:=by
 have:=lS n 0;simp at this;exact this
theorem jT (xs e:List Nat):val (xs++e)=val xs+4294967296 ^ xs.length*val e:=by
 induction xs with
 | nil=>simp[val]
 | cons x xs j =>simp only[bbR,val,a9Y,j,baG];rw[a8T,baY,← a9C,a9E 4294967296 (4294967296 ^ xs.length)]
theorem gY {xs:List Nat} (h:Lim xs):val xs<4294967296 ^ xs.length:=by
 induction xs with
 | nil=>simp[val]
 | cons x xs l =>have u:=h x (by simp);have e:=l fun y j=>h y (by simp[j]);simp only[val,a9Y,baG];have:4294967296*(val xs+1)≤4294967296*4294967296 ^ xs.length:=baU _ e;rw[a8T,Nat.mul_one] at this;rw[a9E (4294967296 ^ xs.length)];omega
theorem Lim.app {xs j:List Nat} (h:Lim xs) (k:Lim j):Lim (xs++j):=fun x e=>by
 rw[a9N] at e;exact e.elim (h x) (k x)
theorem Lim.take {xs:List Nat} (h:Lim xs) (n:Nat):Lim (xs.take n):=fun x e=>h x (List.mem_of_mem_take e)
theorem Lim.drop {xs:List Nat} (h:Lim xs) (n:Nat):Lim (xs.drop n):=fun x e=>h x (List.mem_of_mem_drop e)
theorem Lim.set {xs:List Nat} (h:Lim xs) (i:Nat) {v:Nat} (e:v<4294967296):Lim (xs.set i v):=fun x j=>by
 rcases List.mem_or_eq_of_mem_set j with h1 | h1
 ·exact h x h1
 ·subst h1; exact e
theorem BW (n:Nat):Lim (a8F n 0):=fun x e=>by
 rw[List.mem_replicate] at e; rw[e.2]; decide
theorem xW (n:Nat):val (a8F n 0)=0:=by
 induction n with
 | zero=>rfl
 | succ n e=>simp[List.replicate_succ,val,e]
theorem aGX {xs:List Nat} (h:Lim xs) (B:∀ x,xs.getLast?=some x→x≠0):aJ (val xs)=xs:=by
 induction xs with
 | nil=>simp[val,jD]
 | cons x xs M =>
  have w:=h x (by simp);have A:Lim xs:=fun y J=>h y (by simp[J]);cases xs with
  | nil =>have:=B x (by simp);simp only[val,Nat.mul_zero,a9P];exact sZ this w
  | cons y l =>
   have j:=M A fun z K=>B z (by rw[List.getLast?_cons_cons]; exact K);have I:val (y::l)≠0:=fun e=>by rw[e,jD] at j; cases j
   have u:x+4294967296*val (y::l)≠0:=by have:0<4294967296*val (y::l):=Nat.mul_pos (by decide) (baV I);omega
   show aJ (x+4294967296*val (y::l))=_;rw[xN u];have E:(x+4294967296*val (y::l))%4294967296=x:=by rw[Nat.add_mul_mod_self_left,a9V w]
   have F:(x+4294967296*val (y::l))/4294967296=val (y::l):=by rw[Nat.add_mul_div_left _ _ (by decide),bbL w,a8R]
   rw[E,F,j]
theorem afT {xs:List Nat} {n:Nat} (h:∀ j x,n≤j→xs[j]?=some x→x=0):val (xs.take n)=val xs:=by
 have e:xs.drop n=a8F (xs.drop n).length 0:=by apply List.ext_getElem (by simp);intro i l u;rw[List.getElem_replicate,List.getElem_drop];exact h (n+i) _ Om (a8L _)
 conv=>rhs; rw[← bbC n xs,jT,e,xW]
 simp
theorem SK {xs:List Nat} (y:Lim xs) {n:Nat} (w:n≤xs.length) (h:∀ j x,n≤j→xs[j]?=some x→x=0) (u:∀ x,0<n→xs[n-1]?=some x→x≠0):xs.take n=aJ (val xs):=by
 rw[← afT h,aGX (y.take n)];intro x l;rw[List.getLast?_eq_getElem?,a8W,baO w] at l;rcases baN n with e | e
 ·subst e; simp at l
 ·rw[List.getElem?_take_of_lt Om] at l;exact u x e l
theorem avI {xs:List Nat} (u:Lim xs) {n:Nat} (l:n≤xs.length) (h:∀ j x,n≤j→xs[j]?=some x→x=0) (e:∀ x,0<n→xs[n-1]?=some x→x≠0):nl (val xs)=n:=by
 rw[nl,← SK u l h e,a8W]; omega
theorem jA {xs:List Nat} (h:Lim xs):nl (val xs)≤xs.length:=(lS _ _).2 (gY h)
theorem oC {xs : List Nat} (h : Lim xs) : xs.take (nl (val xs)) = aJ (val xs) := by
  have hl := jA h;have e : val (xs.take (nl (val xs)) ++ xs.drop (nl (val xs))) = val xs := by rw [bbC]
  rw [jT, a8W, baO hl] at e;have h1 := gY (h.take (nl (val xs)));rw [a8W, baO hl] at h1;have h2 := (lS (val xs) (nl (val xs))).1 (a8J _);have hd : val (xs.drop (nl (val xs))) = 0 := by
    rcases baN (val (xs.drop (nl (val xs)))) with h | h
    · exact h
    · have := baU (4294967296 ^ nl (val xs)) h
      omega
  have hz : ∀ j x, nl (val xs) ≤ j → xs[j]? = some x → x = 0 := by
    have zero : ∀ ys : List Nat, val ys = 0 → ∀ y ∈ ys, y = 0 := by
      intro ys
      induction ys with
      | nil => intro _ y hy; cases hy
      | cons z zs ih =>
        intro hv y hy;simp only [val] at hv;rw [a8S] at hy;rcases hy with rfl | hy
        · omega
        · exact ih (by have : 4294967296 * val zs = 0 := Om
                       rcases Nat.mul_eq_zero.1 this with h | h
                       · cases h
                       · exact h) y hy
    intro j x hj hx;refine zero _ hd x ?_;rw [List.mem_iff_getElem?];exact ⟨j - nl (val xs), by rw [bbO, Nat.add_sub_cancel' hj]; exact hx⟩
  refine SK h hl hz fun x hpos hx e => ?_;subst e;have hz2 : ∀ j x, nl (val xs) - 1 ≤ j → xs[j]? = some x → x = 0 := fun j y hj hy => by
    rcases a8Z j (nl (val xs)) with h3 | h3
    · have : j = nl (val xs) - 1 := Om
      subst this; rw [hx] at hy; cases hy; rfl
    · exact hz j y h3 hy
  have h3 := afT hz2;have h4 := gY (h.take (nl (val xs) - 1));rw [h3, a8W, baO Om] at h4;have := (lS (val xs) (nl (val xs) - 1)).2 h4;omega
theorem adI {xs:List Nat} (h:Lim xs) {n:Nat} (w:nl (val xs)=n+1):∃ x,xs[n]?=some x∧x≠0:=by
 have y:=jA h;refine⟨xs[n]'Om,a8L _,fun e=>?_⟩;have u:=oC h;have j:=aU (val xs);rw[← u,w,baF Om,e,jT] at j;simp only[val,Nat.mul_zero,a9P] at j;have l:=gY (h.take n);rw[j,a8W,baO Om] at l;have:=(lS (val xs) n).2 l;omega
theorem xT (xs:List Nat) {k:Nat} (h:k<xs.length):val xs=val (xs.take k)+4294967296 ^ k*(xs[k]+4294967296*val (xs.drop (k+1))):=by
 conv=>lhs; rw[← bbC k xs,jT,a8W,baO Om,baR h]
 rfl
theorem r8 {xs e:List Nat} (y:Lim xs) {k:Nat} (j:k<xs.length) (l:k<e.length) (x:xs.drop (k+1)=e.drop (k+1)) (h:xs[k]<e[k]):val xs<val e:=by
 rw[xT xs j,xT e l,x];have u:=gY (y.take k);rw[a8W,baO Om] at u;have w:4294967296 ^ k*(xs[k]+4294967296*val (e.drop (k+1))+1)≤4294967296 ^ k*(e[k]+4294967296*val (e.drop (k+1))):=baU _ Om;rw[a8T _ _ 1,Nat.mul_one] at w;omega
def eQ (a b:Nat):Int:=if a<b then -1 else if b<a then 1 else 0
theorem Et {xs e:List Nat} {k:Nat} (j:k<xs.length) (l:k<e.length) (u:xs.drop (k+1)=e.drop (k+1)) (h:xs[k]=e[k]):xs.drop k=e.drop k:=by
 rw[baR j,baR l,u,h]
theorem jK {a b:Nat} (h:a≤b):nl a≤nl b:=(lS a _).2 (Nat.lt_of_le_of_lt h ((lS b _).1 (a8J _)))
theorem P8 {xs:List Nat} (h:Lim xs) {j:Nat} (l:j<nl (val xs)):∃ (u:j<xs.length) (w:j<(aJ (val xs)).length),xs[j]=(aJ (val xs))[j]:=by
 have x:=jA h;refine⟨by omega,l,?_⟩;have e:=oC h;have:(xs.take (nl (val xs)))[j]?=(aJ (val xs))[j]?:=by rw[e]
 rw[List.getElem?_take_of_lt l,a8L Om,a8L l] at this;exact baP.inj this
def dJ (n:Nat):Nat:=if h:n=0 then 0 else dJ (n/2)+1
termination_by n
decreasing_by exact Nat.div_lt_self (baV h) (by decide)
theorem mS:dJ 0=0:=by rw[dJ]; simp
theorem tR {n:Nat} (h:n≠0):dJ n=dJ (n/2)+1:=by rw[dJ]; simp[h]
theorem qC (n k:Nat):dJ n≤k↔n<2 ^ k:=by
 induction k generalizing n with
 | zero =>
  by_cases h:n=0
  ·subst h; simp[mS]
  ·rw[tR h]; simp; omega
 | succ k e =>
  by_cases h:n=0
  ·subst h; simp[mS,bbD]
  ·rw[tR h,Nat.succ_le_succ_iff,e,baG,bbM (by decide)]
theorem nG {n:Nat}:dJ n=0↔n=0:=by
 have:=qC n 0;simp at this;exact this
theorem P9 {hi lo k:Nat} (u:lo<2 ^ k) (j:hi≠0):dJ (lo+2 ^ k*hi)=k+dJ hi:=by
 apply Nat.le_antisymm
 ·rw[qC,Nat.pow_add];have e:=(qC hi _).1 (a8J _);have:2 ^ k*(hi+1)≤2 ^ k*2 ^ dJ hi:=baU _ e;rw[a8T,Nat.mul_one] at this;omega
 ·obtain⟨b,hb⟩:∃ b,dJ hi=b+1:=⟨dJ hi-1,by have:=mt nG.1 j; omega⟩;rw[hb];rcases a8Z (dJ (lo+2 ^ k*hi)) (k+(b+1)) with h | h
  ·have e:=(qC (lo+2 ^ k*hi) (k+b)).1 Om;rw[Nat.pow_add] at e;have l:¬ hi<2 ^ b:=fun h=>by have:=(qC hi b).2 h; omega
   have:2 ^ k*2 ^ b≤2 ^ k*hi:=baU _ Om;omega
  ·exact h
theorem qD (n k:Nat):dJ n≤32*k↔nl n≤k:=by
 rw[qC,lS,Nat.pow_mul]
end Go.Na
namespace Go.PM
theorem Lq {F e:PF} (h:F.le e:=by (repeat' (first|exact c_|refine d_ ?_ ?_))<;>first|(simp only[go_sem]<;>rfl)|rfl|assumption):F.le e:=h
end Go.PM
namespace Go.PM
open Go Go.Na
abbrev aN (xs:List Nat):List (List PV):=xs.map fun (n:Nat)=>[PV.int .u32 (n:Int)]
abbrev aK (xs:List Nat):PV:=.sl 1 (xs.map fun (n:Nat)=>[PV.int .u32 (n:Int)])
theorem cV (xs:List Nat):(aN xs).length=xs.length:=by simp
theorem cF (xs:List Nat) {i:Nat} (h:i<xs.length):(aN xs)[i]?=some [.int .u32 (xs[i]:Nat)]:=by simp[h]
theorem Ij (xs:List Nat) (k:Nat):aK (xs.take k)=.sl 1 ((xs.map fun (n:Nat)=>[PV.int .u32 (n:Int)]).take k):=by rw[aK,List.map_take]
theorem dE (n:Nat):IntKind.u32.wrap (n:Int)=((n%4294967296:Nat):Int):=by
 have e:IntKind.u32.wrap (n:Int)=(n:Int)%4294967296:=by simp[IntKind.wrap,IntKind.bits,IntKind.signed]
 rw[e]; rfl
theorem CK {k:Nat} (h:k≤9223372036854775807) (e:0<k):IntKind.i64.wrap ((k:Int)-1)=((k-1:Nat):Int):=by
 rw[wrap_i64 Om Om]; omega
def aCQ (xs:List Nat) (n:Nat):PF:=((PF.nil.set 0 (aK xs)).set 3 (.int .i64 n))
theorem aCS {C:Ctx} (xs:List Nat) (B:Lim xs) (F:xs.length≤35184372087808):uA.wp C (aT ND.res (aI (.int .i64 (nl (val xs):Nat)))) (PF.args [aK xs]) .nil:=by
 simp only[go_sem,uA,QT,QU,ND];refine wp_loop (α:=Nat) (aCQ xs) (fun _=>.nil) (fun n=>n≤xs.length∧∀ j x,n≤j→xs[j]?=some x→x=0) (fun n=>n) xs.length ⟨a8J _,fun j x h e=>by rw[a9S h] at e; cases e⟩ ?_ a_ ?_
 ·unfold aCQ;exact Lq
 rintro n ⟨A,y⟩;have out:(∀ x,0<n→xs[n-1]?=some x→x≠0)→nl (val xs)=n:=fun h=>avI B A y h;simp only[go_sem,QS,QV,aCQ];by_cases u:(n:Int)>0
 ·have w:0<n:=Om;have hi:=cF xs (Om:n-1<xs.length);simp only[go_sem,u,CK (Om:n≤9223372036854775807) w,hi];by_cases l:xs[n-1]=0
  ·simp only[go_sem,bP (Om:((xs[n-1]:Nat):Int)=0),QW,CK (Om:n≤9223372036854775807) w];refine aG (n-1) ⟨by omega,fun j x E he=>?_⟩ Om ?_ a_
   ·rcases a8Z j n with h | h
    ·have:j=n-1:=Om;subst this;rw[a8L Om] at he;cases he; exact l
    ·exact y j x h he
   ·exact Lq
  ·simp only[go_sem,bD (Om:((xs[n-1]:Nat):Int)≠0),yV];refine aR (.inr rfl) rfl ?_;rw[out fun x _ he=>by rw[a8L Om] at he; cases he; exact l];rfl
 ·simp only[go_sem,u,yV];refine aR (.inr rfl) rfl ?_;rw[out fun x h=>by omega];rfl
theorem aHO {C:Ctx} (xs:List Nat) (e:aH C 138 [aK xs] .nil (aI (.int .i64 (nl (val xs):Nat)))):KL.wp C (aT Yp.res (aI (.bool (decide (nl (val xs)>512))))) (PF.args [aK xs]) .nil:=by
 simp only[go_sem,KL,Ip,Iq,Yp];refine aB e rfl ?_;simp only[go_sem];refine aR (.inr rfl) rfl ?_;simp only[cB,PV.bool.injEq,decide_eq_decide];omega
def szL (n:Nat):List Nat:=if nl n>512 then [] else aJ n
def szE (n:Nat):Int:=if nl n>512 then 2 else 0
def szV (n:Nat):PV:=.tup [aK (szL n),.int .i64 (szE n)]
theorem aHR {C:Ctx} (xs:List Nat) (w:Lim xs) (e:aH C 138 [aK xs] .nil (aI (.int .i64 (nl (val xs):Nat)))):KN.wp C (aT Y4.res (cP (szV (val xs)))) (PF.args [aK xs]) .nil:=by
 simp only[go_sem,KN,I5,I6,Y4];refine aB e rfl ?_;simp only[go_sem,I7];by_cases h:nl (val xs)>512
 ·have u:((nl (val xs):Nat):Int)>512:=Om;simp only[go_sem,u,I8];refine bA (vs:=[.aD,.int .i64 2]) (.inr rfl) .nil rfl a_ ⟨?_,rfl⟩;rw[szV,szL,szE,if_pos h,if_pos h];refine .tup rfl fun j p q l hq=>?_
  match j with
  | 0=>simp at l hq; subst l; subst hq; exact .nil 1
  | 1=>simp at l hq; subst l; subst hq; exact .refl _
  | j+2=>simp at l
 ·have u:¬ ((nl (val xs):Nat):Int)>512:=Om;have y:=jA w;have x:((nl (val xs):Nat):Int)≤(xs.length:Nat):=Om;simp only[go_sem,u,I9,x,or_true,a9R];refine bA (.inr rfl) .nil rfl a_ ⟨?_,rfl⟩;rw[szV,szL,szE,if_neg h,if_neg h,← oC w,Ij];exact .refl _
theorem aOU {C:Ctx} (v:Nat) (K:v<18446744073709551616) (j:∀ xs,Lim xs→xs.length≤35184372087808→aH C 138 [aK xs] .nil (aI (.int .i64 (nl (val xs):Nat)))) :
  QX.wp C (aT aCT.res (aI (aK (aJ v)))) (PF.args [.int .u64 v]) .nil:=by
 have B:IntKind.u32.wrap ((v:Nat):Int)=((v%4294967296:Nat):Int):=dE v;have E:Int.fdiv ((v:Nat):Int) 4294967296=((v/4294967296:Nat):Int):=by rw[Int.fdiv_eq_ediv_of_nonneg _ (by decide)]; rfl
 have w:v/4294967296<4294967296:=Om;have F:IntKind.u32.wrap ((v/4294967296:Nat):Int)=((v/4294967296:Nat):Int):=by rw[dE,a9V w]
 have l:Lim [v%4294967296,v/4294967296]:=by
  intro x A;simp only[a8S,List.mem_nil_iff,or_false] at A;rcases A with rfl | rfl
  ·exact baC _ (by decide)
  ·exact w
 have e:val [v%4294967296,v/4294967296]=v:=by simp only[val,Nat.mul_zero,a9P]; exact Nat.mod_add_div v 4294967296
 have J:∀ a b:Int,PV.bin .shr (.int .u64 a) (.int .u64 b)=shift .shr .u64 a b:=fun _ _=>rfl;have u:shift .shr .u64 (v:Int) 32=some (.int .u64 ((v/4294967296:Nat):Int)):=by
  unfold shift;rw[if_neg (by decide)];simp only;have:min (Int.toNat 32) IntKind.u64.bits=32:=by decide
  rw[this];rw[show (2:Int) ^ 32=4294967296 by decide,E]
 simp only[go_sem,QX,Yq,Yr,aCT,B,u,F];have hb:(2:Nat)*1≤16777216:=by decide
 simp only[go_sem,Ys];refine aB (j [v%4294967296,v/4294967296] l (by simp)) rfl ?_;have y:=jA l;rw[e] at y ⊢;have I:((nl v:Nat):Int)≤((2:Nat):Int):=by simp at y; omega
 simp only[go_sem,I,or_true,a9R];refine aR (.inr rfl) rfl ?_;have:=oC l;rw[e] at this;rw[← this,Ij];rfl
theorem aOY {C:Ctx} (xs:List Nat) (j:Lim xs) (w:xs.length≤35184372087808) (e:aH C 138 [aK xs] .nil (aI (.int .i64 (nl (val xs):Nat)))) :
  QZ.wp C (aT aCV.res (cP (aK (aJ (val xs))))) (PF.args [aK xs]) .nil:=by
 simp only[go_sem,QZ,Zb,Zc,aCV];refine aB e rfl ?_;have x:=jA j;have l:((nl (val xs):Nat):Int)≤(xs.length:Nat):=Om;simp only[go_sem,l,or_true,a9R];refine kR (rows:=[]) (src:=aN (aJ (val xs))) .nil ?_ ?_ fun v H' u _=>?_
 ·simp only[go_sem];rw[← oC j,← List.map_take]
 ·unfold roomFor;rw[cV];have:(aJ (val xs)).length=nl (val xs):=rfl;simp only[baX,maxLen];omega
 ·exact RU (.inr rfl) (by simpa using u) rfl
end Go.PM
theorem Sq {p:Prop} (h:p:=by simp only[go_sem]):p:=h
theorem Ev {p:Prop} (h:p:=by simp only[go_sem]<;>rfl):p:=h
namespace Go.PM
open Go Go.Na
def aCH (xs e:List Nat) (i:Int):PF:=(((PF.nil.set 0 (aK xs)).set 1 (aK e)).set 7 (.int .i64 i))
theorem aUZ {C:Ctx} (xs e:List Nat) (M:Lim xs) (N:Lim e) (lx:xs.length≤35184372087808) (ly:e.length≤35184372087808) (A:aH C 138 [aK xs] .nil (aI (.int .i64 (nl (val xs):Nat)))) (B:aH C 138 [aK e] .nil (aI (.int .i64 (nl (val e):Nat)))) :
  XA.wp C (aT aON.res (aI (.int .i64 (eQ (val xs) (val e))))) (PF.args [aK xs,aK e]) .nil:=by
 simp only[go_sem,XA,aqS,aqT,aON];refine aB A Ev ?_;simp only[go_sem];refine aB B Ev ?_;simp only[go_sem,aqU];have Z:=jA M;have V:=jA N;by_cases c1:nl (val xs)<nl (val e)
 ·have j:((nl (val xs):Nat):Int)<(nl (val e):Nat):=Om;simp only[go_sem,j,aqV];refine aR (.inr rfl) Ev ?_;have:val xs<val e:=by
   rcases a8Z (val xs) (val e) with h | h
   ·exact h
   ·have:=jK h; omega
  simp[cB,eQ,this]
 have j:¬ ((nl (val xs):Nat):Int)<(nl (val e):Nat):=Om;simp only[go_sem,j,aqW];by_cases c2:nl (val xs)>nl (val e)
 ·have l:((nl (val xs):Nat):Int)>(nl (val e):Nat):=Om;simp only[go_sem,l,aqX];refine aR (.inr rfl) Ev ?_;have:val e<val xs:=by
   rcases a8Z (val e) (val xs) with h | h
   ·exact h
   ·have:=jK h; omega
  have x:¬ val xs<val e:=Om;simp[cB,eQ,this,x]
 have l:¬ ((nl (val xs):Nat):Int)>(nl (val e):Nat):=Om;have Y:nl (val xs)=nl (val e):=Om;simp only[go_sem,l,aqY];have ex:=aU (val xs);have w:=aU (val e);have S:=aX (val xs);have U:=aX (val e);refine wp_loop (α:=Nat) (fun k=>aCH xs e ((k:Int)-1)) (fun _=>.nil) (fun k=>k≤nl (val xs)∧(aJ (val xs)).drop k=(aJ (val e)).drop k) (fun k=>k) (nl (val xs)) ⟨a8J _,?_⟩ ?_ a_ ?_
 ·rw[bcB (by rw[nl]; exact a8J _),bcB (by rw[Y,nl]; exact a8J _)]
 ·unfold aCH
  (repeat' (first|exact c_|refine d_ ?_ ?_))<;>first|(simp only[go_sem,wrap_i64 (show -9223372036854775808≤((nl (val xs):Nat):Int)-1 by omega) (show ((nl (val xs):Nat):Int)-1≤9223372036854775807 by omega)]<;>rfl)|rfl
 rintro k ⟨hk,u⟩;simp only[go_sem,Ye,aqZ,aCH];by_cases h0:0<k
 ·obtain⟨m,rfl⟩:∃ m,k=m+1:=⟨k-1,by omega⟩;have E:((m+1:Nat):Int)-1=(m:Int):=Om;have y:(m:Int)≥0:=Om;obtain⟨O,F,I⟩:=P8 M (Om:m<nl (val xs));obtain⟨R,J,K⟩:=P8 N (Om:m<nl (val e));simp only[go_sem,E,y];refine aV .nil cA a_ ?_;simp only[go_sem,arA,cF xs O,cF e R];by_cases W:xs[m]<e[m]
  ·simp only[go_sem,show ((xs[m]:Nat):Int)<(e[m]:Nat) by omega,arB];refine aR (.inr rfl) Ev ?_;have:=r8 S F J u (by rw[← I,← K]; exact W);rw[ex,w] at this;simp[cB,eQ,this]
  ·simp only[go_sem,show ¬ ((xs[m]:Nat):Int)<(e[m]:Nat) by omega];refine aV .nil cA a_ ?_;simp only[go_sem,Yf,cF xs O,cF e R];by_cases X:xs[m]>e[m]
   ·simp only[go_sem,show ((xs[m]:Nat):Int)>(e[m]:Nat) by omega,Yg];refine aR (.inr rfl) Ev ?_;have:=r8 U J F u.symm (by rw[← I,← K]; exact X);rw[ex,w] at this;have x:¬ val xs<val e:=Om;simp[cB,eQ,this,x]
   ·simp only[go_sem,show ¬ ((xs[m]:Nat):Int)>(e[m]:Nat) by omega,Yh];refine aG m ⟨by omega,Et F J u (by rw[← I,← K]; omega)⟩ Om ?_ a_
    (repeat' (first|exact c_|refine d_ ?_ ?_))<;>first|(simp only[go_sem,wrap_i64 (Om:-9223372036854775808≤(m:Int)-1) (Om:(m:Int)-1≤9223372036854775807)]<;>rfl)|rfl
 ·have:k=0:=Om;subst this;have E:¬ ((0:Nat):Int)-1≥0:=by decide
  simp only[go_sem,E,Yi];refine aR (.inr rfl) Ev ?_;rw[a9R,a9R] at u;have:val xs=val e:=by rw[← ex,← w,u]
  simp[cB,eQ,this]
def X2 (k:Nat) (v:Nat):PF:=((PF.nil.set 4 (.int .i64 k)).set 5 (.int .u32 v))
theorem aOM {C:Ctx} (xs:List Nat) (A:Lim xs) (X:xs.length≤35184372087808) (B:aH C 138 [aK xs] .nil (aI (.int .i64 (nl (val xs):Nat)))) :
  QN.wp C (aT aCG.res (aI (.int .i64 (dJ (val xs):Nat)))) (PF.args [aK xs]) .nil:=by
 simp only[go_sem,QN,X4,X5,aCG];refine aB B Ev ?_;simp only[go_sem,X6];have W:=jA A;by_cases O:nl (val xs)=0
 ·simp only[go_sem,bP (show ((nl (val xs):Nat):Int)=0 by omega),X7];refine aR (.inr rfl) Ev ?_;have:val xs=0:=kX.1 O;simp[cB,this,mS]
 obtain⟨n,N⟩:∃ n,nl (val xs)=n+1:=⟨nl (val xs)-1,by omega⟩;obtain⟨t,x,E⟩:=adI A N;have y:t<4294967296:=A t (baA x);have j:n<xs.length:=Om;have V:val xs=val (xs.take n)+4294967296 ^ n*t:=by
  have e:=oC A;have:=aU (val xs);have U:xs[n]=t:=by rw[a8L j] at x; exact baP.inj x
  rw[← e,N,baF j,U,jT,a8W,baO Om] at this;simp only[val,Nat.mul_zero,a9P] at this;exact this.symm
 have hb:dJ (val xs)=32*n+dJ t:=by
  have J:=gY (A.take n);rw[a8W,baO Om] at J;rw[V,show (4294967296:Nat) ^ n=2 ^ (32*n) by rw[Nat.pow_mul]] at *
  exact P9 J E
 have l:(aN xs)[n]?=some [.int .u32 (t:Nat)]:=by rw[cF xs j];rw[a8L j] at x;rw[baP.inj x]
 have R:IntKind.i64.wrap (((nl (val xs):Nat):Int)-1)=(n:Int):=by rw[wrap_i64 Om Om]; omega
 have S:IntKind.i64.wrap ((n:Int)*32)=((32*n:Nat):Int):=by rw[wrap_i64 Om Om]; omega
 simp only[go_sem,bD (show ((nl (val xs):Nat):Int)≠0 by omega),X8,X9,R,S,l];refine wp_loop (α:=Nat × Nat) (fun a=>X2 a.1 a.2) (fun _=>.nil) (fun a=>a.1+dJ a.2=32*n+dJ t∧a.2<4294967296) (fun a=>a.2) (32*n,t) ⟨rfl,y⟩ ?_ a_ ?_
 ·unfold X2;exact Lq
 rintro⟨k,v⟩ ⟨K,hlt⟩;simp only at K hlt;have M:dJ t≤32:=(qC t 32).2 y;simp only[go_sem,X3,Ya,X2];by_cases I:(v:Int)>0
 ·have F:v≠0:=Om;have u:PV.bin .shr (.int .u32 (v:Int)) (.int .u64 1)=some (.int .u32 ((v/2:Nat):Int)):=by
   show shift .shr .u32 (v:Int) 1=_;unfold shift;rw[if_neg (by decide)];simp only;have:min (Int.toNat 1) IntKind.u32.bits=1:=by decide
   rw[this,show (2:Int) ^ 1=2 by decide,Int.fdiv_eq_ediv_of_nonneg _ (by decide)];rfl
  have w:shift .shr .u32 (v:Int) 1=some (.int .u32 ((v/2:Nat):Int)):=u;simp only[go_sem,I,Yb,Yc,u,w,wZz k];refine aG (k+1,v/2) ⟨?_,?_⟩ (Nat.div_lt_self Om (by decide)) ?_ a_
  ·have:=tR F;simp only; omega
  ·simp only; omega
  ·exact Lq
 ·have:v=0:=Om;subst this;simp only[go_sem,I,Ik];refine aR (.inr rfl) Ev ?_;rw[mS] at K;simp only[cB,PV.int.injEq,true_and];omega
structure wG (C:Ctx):Prop where
 length:∀ xs,Lim xs→xs.length≤35184372087808→aH C 138 [aK xs] .nil (aI (.int .i64 (nl (val xs):Nat)))
 large:∀ xs,Lim xs→xs.length≤35184372087808→aH C 137 [aK xs] .nil (aI (.bool (decide (nl (val xs)>512))))
 sized:∀ xs,Lim xs→xs.length≤35184372087808→aH C 141 [aK xs] .nil (aI (szV (val xs)))
 trim:∀ xs,Lim xs→xs.length≤35184372087808→aH C 135 [aK xs] .nil (aI (aK (aJ (val xs))))
 make:∀ v:Nat,v<18446744073709551616→aH C 132 [.int .u64 v] .nil (aI (aK (aJ v)))
 cmp:∀ xs ys,Lim xs→Lim ys→xs.length≤35184372087808→ys.length≤35184372087808→aH C 129 [aK xs,aK ys] .nil (aI (.int .i64 (eQ (val xs) (val ys))))
def mD:PV→List Nat
 | .sl _ rows=>rows.map fun r=>match r with | [.int _ n]=>n.toNat | _=>0
 | _=>[]
theorem fQ (xs:List Nat):mD (aK xs)=xs:=by
 simp[mD,List.map_map,Function.comp_def]
def aCF:Spec:=fun name vs=>match name,vs with
 | 138,[x]=>some ([],fun _=>aI (.int .i64 (nl (val (mD x)):Nat)))
 | _,_=>none
theorem tA (xs:List Nat):aCF 138 [aK xs]=some ([],fun _=>aI (.int .i64 (nl (val xs):Nat))):=by
 show some _=_; rw[fQ]
theorem FO (P:List Nat) (k v:Nat):(P++a8F (k+1) 0).set P.length v=(P++[v])++a8F k 0:=by
 rw[bbW _ _ (a8J _),Nat.sub_self,List.replicate_succ,List.set_cons_zero,a9L];rfl
theorem jB (L:List Nat) (i v:Nat):(aN L).set i [.int .u32 (v:Int)]=aN (L.set i v):=by
 unfold aN; rw[List.map_set]
theorem mM (P:List Nat) (v:Nat):val (P++[v])=val P+4294967296 ^ P.length*v:=by
 rw[jT]; simp[val]
theorem cY (xs:List Nat) {i:Nat} (h:i<xs.length):val (xs.take (i+1))=val (xs.take i)+4294967296 ^ i*xs[i]:=by
 rw[baF h,mM,a8W,baO Om]
theorem EG {v:Nat}:shift .shr .u64 (v:Int) 32=some (.int .u64 ((v/4294967296:Nat):Int)):=by
 unfold shift;rw[if_neg (by decide)];simp only;have:min (Int.toNat 32) IntKind.u64.bits=32:=by decide
 rw[this,show (2:Int) ^ 32=4294967296 by decide,Int.fdiv_eq_ediv_of_nonneg _ (by decide)];rfl
theorem gZ {a b:Nat} (h:a+b<18446744073709551616):IntKind.u64.wrap ((a:Int)+(b:Int))=((a+b:Nat):Int):=by
 rw[wrap_u64 Om Om]; omega
theorem bK {a:Nat} (h:a<18446744073709551616):IntKind.u64.wrap (a:Int)=(a:Int):=wrap_u64 Om Om
def vw (a b:List Nat) (o i c:Nat):PF:=(((((((PF.nil.set 0 (aK a)).set 1 (aK b)).set 6 (.osl o 1 0 (a.length+1))).set 7 (.int .u64 c)).set 35 (.int .i64 (a.length:Nat))).set 34 (aK a)).set 36 (.int .i64 i))
theorem Ii {C:Ctx} (L:wG C) (a b:List Nat) (ha:Lim a) (hb:Lim b) (hl:b.length≤a.length) (h1:a.length≤1000) (F:PF) (f0:F 0=some (aK a)) (f1:F 1=some (aK b)) :
  aC.wp C (.seq (.region Cp) (.seq (.region Cq) (.seq (.seq (.region Cr) (.block 0 (.loop l9))) (.seq (.region mf) (.seq (.region mg) .ret))))) (aT [.tmp 4,.tmp 5] (cP (szV (val a+val b)))) F .nil:=by
 have S:IntKind.i64.wrap ((a.length:Int)+1)=((a.length+1:Nat):Int):=dW Om;have η:((a.length+1:Nat):Int)*((4:Nat):Int)≤140737488355328:=Om;have θ:((a.length+1:Nat):Int)≤9223372036854775807:=Om;have hz:a8F (a.length+1) [PV.int .u32 0]=aN ([]++a8F (a.length+1) 0):=by simp[aN]
 simp only[go_sem,Cp,f0,S,η,θ,hz];refine aO fun o ho=>?_;simp only[go_sem,Cq,Cr,f0];refine wp_loop (α:=List Nat × Nat × Nat) (fun s=>vw a b s.2.2 s.1.length s.2.1) (fun s=>PH.nil.set s.2.2 (.rows 1 (aN (s.1++a8F (a.length+1-s.1.length) 0))))
  (fun s=>s.1.length≤a.length∧Lim s.1∧s.2.1≤1∧val s.1+4294967296 ^ s.1.length*s.2.1=val (a.take s.1.length)+val (b.take s.1.length)) (fun s=>a.length-s.1.length) ([],0,o) ⟨by simp,by simp[Lim],by simp,by simp[val]⟩ ?_ ?_ ?_
 ·unfold vw;exact Lq
 ·exact e_ a_ (by simp only[go_sem,baX])
 rintro⟨P,c,q⟩ ⟨hP,j,hc,A⟩;simp only at hP j hc A;simp only[go_sem,l9,aqN,vw];by_cases Y:P.length<a.length
 ·have E:(P.length:Int)<(a.length:Nat):=Om;have ι:=ha _ (a8G Y);obtain⟨k,W⟩:∃ k,a.length+1-P.length=k+1:=⟨a.length-P.length,by omega⟩;have M:(aN (P++a8F (k+1) 0))[P.length]?=some [.int .u32 ((0:Nat):Int)]:=by rw[cF _ (by simp)]; simp
  have l:a.length+1-(P.length+1)=k:=Om;have I:(P.length:Int)<((a.length+1:Nat):Int):=Om;have fin:∀ (t:Nat) (w:PF) (H':PH),t<2*4294967296→val P+4294967296 ^ P.length*t=val (a.take (P.length+1))+val (b.take (P.length+1)) →
    w 0=some (aK a)→w 1=some (aK b)→w 6=some (.osl q 1 0 (a.length+1))→w 7=some (.int .u64 (t:Nat))→w 8=some (.int .i64 P.length)→w 34=some (aK a)→w 35=some (.int .i64 (a.length:Nat))→w 36=some (.int .i64 P.length) →
    H' q=some (.rows 1 (aN (P++a8F (k+1) 0)))→∀ K:cI,(∀ y B V H2,y.length=P.length+1→Lim y→B≤1→val y+4294967296 ^ y.length*B=val (a.take (P.length+1))+val (b.take (P.length+1))→(vw a b q y.length B).le V→H2 q=some (.rows 1 (aN (y++a8F k 0)))→K .normal V H2) →
    aC.wp C (.seq (.region ma) (.region mb)) (fR 1 (jY C (aC.wp C (.region me)) K)) w H':=by
   intro t w H' ht hv g0 g1 g6 g7 g8 γ δ ε gH K hK;have u:(aN (P++a8F (k+1) 0)).set P.length [.int .u32 ((t%4294967296:Nat):Int)]=aN ((P++[t%4294967296])++a8F k 0):=by rw[jB,FO]
   simp only[go_sem,ma,g6,g8,g7,dE,I,gH,M,u,mb,EG,me,ε,dW (Om:P.length<9223372036854775807)];refine hK (P++[t%4294967296]) (t/4294967296) _ _ (by simp) (j.app fun x X=>by simp at X; subst X; exact baC _ (by decide)) Om ?_ ?_ Sq
   ·rw[mM,a8H,a8N,baG,a9C,baY,← a8T,Nat.mod_add_div];exact hv
   ·unfold vw;rw[a8H,a8N];refine d_ (d_ (d_ (d_ (d_ (d_ (d_ c_ ?_) ?_) ?_) ?_) ?_) ?_) ?_<;>simp only[go_sem,g0,g1,g6,γ,δ]
  have U:=cY a Y;have ea:IntKind.u64.wrap ((a[P.length]:Nat):Int)=((a[P.length]:Nat):Int):=bK Om;have es:IntKind.u64.wrap ((c:Nat)+((a[P.length]:Nat):Int))=((c+a[P.length]:Nat):Int):=gZ Om;simp only[go_sem,E,Xx,Xy,cF a Y,ea,es,Xz];by_cases Z:P.length<b.length
  ·have J:(P.length:Int)<(b.length:Nat):=Om;have κ:=hb _ (a8G Z);have N:=cY b Z;have eb:IntKind.u64.wrap ((b[P.length]:Nat):Int)=((b[P.length]:Nat):Int):=bK Om;have β:IntKind.u64.wrap (((c+a[P.length]:Nat):Int)+((b[P.length]:Nat):Int))=((c+a[P.length]+b[P.length]:Nat):Int):=gZ Om;simp only[go_sem,J,X0,cF b Z,eb,β];refine fin (c+a[P.length]+b[P.length]) _ _ Om ?_ ?_ ?_ ?_ ?_ ?_ ?_ ?_ ?_ ?_ _ ?_
   ·rw[U,N,a8T,a8T]; omega
   any_goals simp only[go_sem,W]
   intro y B V H2 O e2 e3 R e5 e6;rw[← O] at R;refine aG (y,B,q) ⟨by simp only; omega,e2,e3,R⟩ (by simp only; omega) e5 (e_ a_ ?_);simp only;rw[O,l]; exact e6
  ·have J:¬ (P.length:Int)<(b.length:Nat):=Om;have N:val (b.take (P.length+1))=val (b.take P.length):=by rw[a8V Om,a8V Om]
   simp only[go_sem,J];refine fin (c+a[P.length]) _ _ Om ?_ ?_ ?_ ?_ ?_ ?_ ?_ ?_ ?_ ?_ _ ?_
   ·rw[U,N,a8T]; omega
   any_goals simp only[go_sem,W]
   intro y B V H2 O e2 e3 R e5 e6;rw[← O] at R;refine aG (y,B,q) ⟨by simp only; omega,e2,e3,R⟩ (by simp only; omega) e5 (e_ a_ ?_);simp only;rw[O,l]; exact e6
 ·have e:P.length=a.length:=Om;have E:¬ (P.length:Int)<(a.length:Nat):=Om;have W:a8F (a.length+1-P.length) 0=[0]:=by rw[show a.length+1-P.length=1 by omega]; rfl
  have M:(aN (P++[0]))[a.length]?=some [.int .u32 ((0:Nat):Int)]:=by rw[cF _ (by simp; omega)];simp[e]
  have u:(aN (P++[0])).set a.length [.int .u32 ((c%4294967296:Nat):Int)]=aN (P++[c]):=by have:=FO P 0 (c%4294967296);simp only[List.replicate_zero,a9W,a8R,List.replicate_one] at this;rw[← e,jB,this,a9V Om]
  have I:(a.length:Int)<((a.length+1:Nat):Int):=Om;have hV:val (P++[c])=val a+val b:=by rw[mM,A,e,a9M,a8V hl]
  have ζ:Lim (P++[c]):=j.app fun x X=>by simp at X; omega
  simp only[go_sem,E,mf,dE,W,M,I,u,mg];have hs:=L.sized _ ζ (by simp; omega);rw[hV] at hs;refine vM (o:=q) (s:=1) (k:=a.length+1) (rs:=aN (P++[c])) (v:=szV (val a+val b)) ?_ rfl Sq (by rw[cV]; simp; omega) ?_
  ·rw[a8V (by rw[cV]; simp; omega)]; exact hs
  ·simp only[go_sem,szV];exact bA (.inr rfl) .nil rfl a_ ⟨.refl _,rfl⟩
def opV (big:Bool) (n:Nat):PV:=if big then .tup [aK [],.int .i64 2] else szV n
def fD (a b:Nat):Bool:=decide (nl a>512)||decide (nl b>512)
theorem gG {res:List eS} {F:PF} {H:PH} {e:Int} (h:eS.evs F H res=some [.aD,.int .i64 e]):aT res (cP (.tup [aK [],.int .i64 e])) .ret F H:=by
 refine bA (.inr rfl) .nil h a_ ⟨?_,rfl⟩;refine .tup rfl fun j p q l hq=>?_
 match j with
 | 0=>simp at l hq; subst l; subst hq; exact .nil 1
 | 1=>simp at l hq; subst l; subst hq; exact .refl _
 | j+2=>simp at l
theorem bC (n:Nat):(aJ n).length=nl n:=rfl
theorem mI {xs:List Nat} (h:Lim xs):(xs.map fun (n:Nat)=>[PV.int .u32 (n:Int)]).take (nl (val xs))=(aJ (val xs)).map fun (n:Nat)=>[PV.int .u32 (n:Int)]:=by
 rw[← List.map_take,oC h]
theorem aUW {C:Ctx} (L:wG C) (a b:List Nat) (w:Lim a) (hb:Lim b) (A:a.length≤35184372087808) (B:b.length≤35184372087808) :
  WY.wp C (aT aOK.res (cP (opV (fD (val a) (val b)) (val a+val b)))) (PF.args [aK a,aK b]) .nil:=by
 simp only[go_sem,WY,aqI,aqJ,aOK];refine aB (L.large a w A) rfl ?_;by_cases l:nl (val a)>512
 ·simp only[go_sem,l,Cn];rw[show opV (fD (val a) (val b)) (val a+val b)=.tup [aK [],.int .i64 2] by simp[opV,fD,l]];exact gG rfl
 simp only[go_sem,l];refine aB (L.large b hb B) rfl ?_;by_cases u:nl (val b)>512
 ·simp only[go_sem,u,Cn];rw[show opV (fD (val a) (val b)) (val a+val b)=.tup [aK [],.int .i64 2] by simp[opV,fD,u]];exact gG rfl
 have e:opV (fD (val a) (val b)) (val a+val b)=szV (val a+val b):=by simp[opV,fD,l,u]
 rw[e];simp only[go_sem,u];refine aV .nil aCF a_ ?_;simp only[go_sem,aqK];have J:=jA w;have K:=jA hb;have x:((nl (val a):Nat):Int)≤(a.length:Nat):=Om;have y:((nl (val b):Nat):Int)≤(b.length:Nat):=Om;refine cC (tA a) (L.length a w A) rfl a_ ?_;simp only[go_sem,x,or_true,a9R,mI w];refine cC (tA b) (L.length b hb B) rfl a_ ?_;simp only[go_sem,y,or_true,a9R,mI hb,aqL,bC];have E:=aU (val a);have F:=aU (val b);by_cases I:nl (val a)<nl (val b)
 ·have j:((nl (val a):Nat):Int)<(nl (val b):Nat):=Om;simp only[go_sem,j,aqM];have:=Ii L (aJ (val b)) (aJ (val a)) (aX _) (aX _) (by rw[bC,bC]; omega) (by rw[bC]; omega);rw[E,F,Nat.add_comm] at this;exact this _ rfl rfl
 ·have j:¬ ((nl (val a):Nat):Int)<(nl (val b):Nat):=Om;simp only[go_sem,j];have:=Ii L (aJ (val a)) (aJ (val b)) (aX _) (aX _) (by rw[bC,bC]; omega) (by rw[bC]; omega);rw[E,F] at this;exact this _ rfl rfl
theorem jL (n:Int):IntKind.u64.wrap n=n%18446744073709551616:=by simp[IntKind.wrap,IntKind.bits,IntKind.signed]
theorem ig (n:Int):IntKind.u32.wrap n=n%4294967296:=by simp[IntKind.wrap,IntKind.bits,IntKind.signed]
theorem aDN {v:Int}:shift .shr .u64 v 63=some (.int .u64 (v/9223372036854775808)):=by
 unfold shift;rw[if_neg (by decide)];simp only;have:min (Int.toNat 63) IntKind.u64.bits=63:=by decide
 rw[this,show (2:Int) ^ 63=9223372036854775808 by decide,Int.fdiv_eq_ediv_of_nonneg _ (by decide)]
def YW (a bor b:Nat):Nat:=(a+4294967296-bor-b)%4294967296
def pt (a bor b:Nat):Nat:=if a<bor+b then 1 else 0
theorem acZ {a bor b:Nat} (e:a<4294967296) (hb:b<4294967296) (j:bor≤1) (v:Int) (l:v=((a:Int)-bor-b)%18446744073709551616) :
  IntKind.u32.wrap v=((YW a bor b:Nat):Int)∧v/9223372036854775808=((pt a bor b:Nat):Int)∧a+4294967296*pt a bor b=YW a bor b+b+bor∧YW a bor b<4294967296:=by
 rw[ig];unfold YW pt;split<;>omega
def wq (a b:List Nat) (o i c:Nat):PF:=(((((((PF.nil.set 0 (aK a)).set 1 (aK b)).set 6 (.osl o 1 0 a.length)).set 7 (.int .u64 c)).set 33 (aK a)).set 34 (.int .i64 (a.length:Nat))).set 35 (.int .i64 i))
theorem aHS {C:Ctx} (L:wG C) (a b:List Nat) (ha:Lim a) (hb:Lim b) (κ:val b≤val a) (hl:b.length≤a.length) (h1:a.length≤1000) (F:PF) (f0:F 0=some (aK a)) (f1:F 1=some (aK b)) :
  aC.wp C (.seq (.region C8) (.seq (.region C9) (.seq (.seq (.region Da) (.block 1 (.loop mr))) (.seq (.region mz) .ret)))) (aT [.tmp 4,.tmp 5] (cP (szV (val a-val b)))) F .nil:=by
 have η:(a.length:Int)*((4:Nat):Int)≤140737488355328:=Om;have θ:(a.length:Int)≤9223372036854775807:=Om;have hz:a8F a.length [PV.int .u32 0]=aN ([]++a8F a.length 0):=by simp[aN]
 simp only[go_sem,C8,f0,η,θ,hz];refine aO fun o ho=>?_;simp only[go_sem,C9,Da,f0];refine wp_loop (α:=List Nat × Nat × Nat) (fun s=>wq a b s.2.2 s.1.length s.2.1) (fun s=>PH.nil.set s.2.2 (.rows 1 (aN (s.1++a8F (a.length-s.1.length) 0))))
  (fun s=>s.1.length≤a.length∧Lim s.1∧s.2.1≤1∧val (a.take s.1.length)+4294967296 ^ s.1.length*s.2.1=val s.1+val (b.take s.1.length)) (fun s=>a.length-s.1.length) ([],0,o) ⟨by simp,by simp[Lim],by simp,by simp[val]⟩ ?_ ?_ ?_
 ·unfold wq;exact Lq
 ·exact e_ a_ (by simp only[go_sem,baX])
 rintro⟨P,c,q⟩ ⟨hP,j,hc,B⟩;simp only at hP j hc B;simp only[go_sem,mr,asL,wq];by_cases V:P.length<a.length
 ·have A:(P.length:Int)<(a.length:Nat):=Om;have δ:=ha _ (a8G V);obtain⟨k,U⟩:∃ k,a.length-P.length=k+1:=⟨a.length-P.length-1,by omega⟩;have ζ:(aN (P++a8F (k+1) 0))[P.length]?=some [.int .u32 ((0:Nat):Int)]:=by rw[cF _ (by simp)]; simp
  have l:a.length-(P.length+1)=k:=Om;have ι:=cY a V;have fin:∀ (t:Nat) (v:Int) (w:PF) (H':PH),t<4294967296→v=((a[P.length]:Int)-c-t)%18446744073709551616→val (b.take (P.length+1))=val (b.take P.length)+4294967296 ^ P.length*t →
    w 0=some (aK a)→w 1=some (aK b)→w 6=some (.osl q 1 0 a.length)→w 9=some (.int .u64 v)→w 8=some (.int .i64 P.length)→w 33=some (aK a)→w 34=some (.int .i64 (a.length:Nat))→w 35=some (.int .i64 P.length) →
    H' q=some (.rows 1 (aN (P++a8F (k+1) 0)))→∀ K:cI,(∀ y E S H2,y.length=P.length+1→Lim y→E≤1→val (a.take (P.length+1))+4294967296 ^ y.length*E=val y+val (b.take (P.length+1))→(wq a b q y.length E).le S→H2 q=some (.rows 1 (aN (y++a8F k 0)))→K .normal S H2) →
    aC.wp C (.seq (.region mu) (.region mw)) (fR 2 (jY C (aC.wp C (.region my)) K)) w H':=by
   intro t v w H' ht hv u g0 g1 g6 g9 g8 Z β γ gH K hK;obtain⟨J,N,O,M⟩:=acZ δ ht hc v hv;have R:(aN (P++a8F (k+1) 0)).set P.length [.int .u32 ((YW a[P.length] c t:Nat):Int)]=aN ((P++[YW a[P.length] c t])++a8F k 0):=by rw[jB,FO]
   simp only[go_sem,mu,g6,g8,g9,J,A,gH,ζ,R,mw,aDN,N,my,γ,dW (Om:P.length<9223372036854775807)];refine hK (P++[YW a[P.length] c t]) (pt a[P.length] c t) _ _ (by simp) (j.app fun x hx=>by simp at hx; subst hx; exact M) (by unfold pt; split<;>omega) ?_ ?_ Sq
   ·rw[mM,a8H,a8N,baG,a9C,ι,u,baY,← a8T,O,a8T,a8T];omega
   ·unfold wq;rw[a8H,a8N];refine d_ (d_ (d_ (d_ (d_ (d_ (d_ c_ ?_) ?_) ?_) ?_) ?_) ?_) ?_<;>simp only[go_sem,g0,g1,g6,Z,β]
  have ea:IntKind.u64.wrap ((a[P.length]:Nat):Int)=((a[P.length]:Nat):Int):=bK Om;simp only[go_sem,A,Y5,Y6,cF a V,ea,Y7];by_cases W:P.length<b.length
  ·have I:(P.length:Int)<(b.length:Nat):=Om;have ε:=hb _ (a8G W);have u:=cY b W;have eb:IntKind.u64.wrap ((b[P.length]:Nat):Int)=((b[P.length]:Nat):Int):=bK Om;simp only[go_sem,I,Y8,cF b W,eb];refine fin b[P.length] (IntKind.u64.wrap (IntKind.u64.wrap ((a[P.length]:Int)-(c:Int))-(b[P.length]:Int))) _ _ ε (by rw[jL,jL]; omega) u ?_ ?_ ?_ ?_ ?_ ?_ ?_ ?_ ?_ _ ?_
   any_goals simp only[go_sem,U]
   intro y E S H2 J N O M X Y;rw[← J] at M;refine aG (y,E,q) ⟨by simp only; omega,N,O,M⟩ (by simp only; omega) X (e_ a_ ?_);simp only;rw[J,l]; exact Y
  ·have I:¬ (P.length:Int)<(b.length:Nat):=Om;have u:val (b.take (P.length+1))=val (b.take P.length)+4294967296 ^ P.length*0:=by rw[a8V Om,a8V Om]; simp
   simp only[go_sem,I];refine fin 0 (IntKind.u64.wrap ((a[P.length]:Int)-(c:Int))) _ _ (by decide) (by rw[jL]; omega) u ?_ ?_ ?_ ?_ ?_ ?_ ?_ ?_ ?_ _ ?_
   any_goals simp only[go_sem,U]
   intro y E S H2 J N O M X Y;rw[← J] at M;refine aG (y,E,q) ⟨by simp only; omega,N,O,M⟩ (by simp only; omega) X (e_ a_ ?_);simp only;rw[J,l]; exact Y
 ·have e:P.length=a.length:=Om;have A:¬ (P.length:Int)<(a.length:Nat):=Om;have U:a8F (a.length-P.length) 0=[]:=by rw[show a.length-P.length=0 by omega]; rfl
  have hV:val P=val a-val b:=by
   rw[e,a9M,a8V hl] at B;have hlt:=gY j;rw[e] at hlt;rcases baN c with h | h
   ·subst h; omega
   ·have:c=1:=Om;subst this; omega
  simp only[go_sem,A,U,a9W,mz];have hs:=L.sized _ j Om;rw[hV] at hs;refine vM (o:=q) (s:=1) (k:=a.length) (rs:=aN P) (v:=szV (val a-val b)) ?_ rfl Sq (by rw[cV]; omega) ?_
  ·rw[a8V (by rw[cV]; omega)]; exact hs
  ·simp only[go_sem,szV];exact bA (.inr rfl) .nil rfl a_ ⟨.refl _,rfl⟩
def xE (a b:Nat):PV:=if fD a b then .tup [aK [],.int .i64 2] else if a<b then .tup [aK [],.int .i64 4] else szV (a-b)
theorem aVH {C:Ctx} (L:wG C) (a b:List Nat) (l:Lim a) (hb:Lim b) (A:a.length≤35184372087808) (B:b.length≤35184372087808) :
  XI.wp C (aT aOX.res (cP (xE (val a) (val b)))) (PF.args [aK a,aK b]) .nil:=by
 simp only[go_sem,XI,asG,asH,aOX];refine aB (L.large a l A) rfl ?_;by_cases e:nl (val a)>512
 ·simp only[go_sem,e,C7];rw[show xE (val a) (val b)=.tup [aK [],.int .i64 2] by simp[xE,fD,e]];exact gG rfl
 simp only[go_sem,e];refine aB (L.large b hb B) rfl ?_;by_cases j:nl (val b)>512
 ·simp only[go_sem,j,C7];rw[show xE (val a) (val b)=.tup [aK [],.int .i64 2] by simp[xE,fD,j]];exact gG rfl
 simp only[go_sem,j,asI];refine aB (L.cmp a b l hb A B) rfl ?_;by_cases u:val a<val b
 ·have y:eQ (val a) (val b)<0:=by simp[eQ,u]
  simp only[go_sem,y,asJ];rw[show xE (val a) (val b)=.tup [aK [],.int .i64 4] by simp[xE,fD,e,j,u]];exact gG rfl
 have y:¬ eQ (val a) (val b)<0:=by unfold eQ;rw[if_neg u];split<;>decide
 rw[show xE (val a) (val b)=szV (val a-val b) by simp[xE,fD,e,j,u]];simp only[go_sem,y];refine aV .nil aCF a_ ?_;simp only[go_sem,asK];have I:=jA l;have J:=jA hb;have w:((nl (val a):Nat):Int)≤(a.length:Nat):=Om;have x:((nl (val b):Nat):Int)≤(b.length:Nat):=Om;refine cC (tA a) (L.length a l A) rfl a_ ?_;simp only[go_sem,w,or_true,a9R,mI l];refine cC (tA b) (L.length b hb B) rfl a_ ?_;simp only[go_sem,x,or_true,a9R,mI hb];have E:=aU (val a);have F:=aU (val b);have K:=jK (Om:val b≤val a);have:=aHS L (aJ (val a)) (aJ (val b)) (aX _) (aX _) Om (by rw[bC,bC]; omega) (by rw[bC]; omega);rw[E,F] at this;exact this _ rfl rfl
end Go.PM
namespace Go.Na
def fB:Nat→Nat→List Nat
 | 0,_=>[]
 | k+1,n=>(n%4294967296)::fB k (n/4294967296)
theorem pN:∀ k n,(fB k n).length=k
 | 0,_=>rfl
 | k+1,n=>by simp[fB,pN k]
theorem OA {xs:List Nat} (h:Lim xs):fB xs.length (val xs)=xs:=by
 induction xs with
 | nil=>rfl
 | cons x xs u =>have w:=h x (by simp);have e:(x+4294967296*val xs)%4294967296=x:=Om;have j:(x+4294967296*val xs)/4294967296=val xs:=Om;simp only[a9Y,fB,val];rw[e,j,u fun y l=>h y (by simp[l])]
theorem qW:∀ k n,Lim (fB k n)
 | 0,_=>fun x hx=>by cases hx
 | k+1,n=>fun x hx=>by
  simp only[fB,a8S] at hx;rcases hx with rfl | hx
  ·exact baC _ (by decide)
  ·exact qW k _ x hx
theorem HI:∀ k n,val (fB k n)=n%4294967296 ^ k
 | 0,n=>by simp[fB,val,Nat.mod_one]
 | k+1,n=>by simp only[fB,val,HI k];rw[baG,a9E (4294967296 ^ k) 4294967296,Nat.mod_mul]
theorem tG {k n:Nat} (h:n<4294967296 ^ k):val (fB k n)=n:=by rw[HI,a9V h]
end Go.Na
namespace Go.PM
open Go Go.Na
theorem a0S {a b:Nat} (e:a<18446744073709551616) (hb:b<18446744073709551616):(BitVec.ofInt 64 (a:Int) ||| BitVec.ofInt 64 (b:Int)).toNat=a ||| b:=by
 rw[BitVec.ofInt_natCast,BitVec.ofInt_natCast,BitVec.toNat_or,BitVec.toNat_ofNat,BitVec.toNat_ofNat,a9V (by simpa using e),a9V (by simpa using hb)]
theorem Zj {c x s:Nat} (e:c<2 ^ s) (h:c+2 ^ s*x<18446744073709551616):c ||| (2 ^ s*x)=c+2 ^ s*x:=by
 rw[Nat.or_comm,← Nat.two_pow_add_eq_or_of_lt e,Nat.add_comm]
theorem orI {a b n:Nat} (e:a<18446744073709551616) (hb:b<18446744073709551616) (h:a ||| b=n) (j:n<18446744073709551616):pL .or .u64 (a:Int) (b:Int)=some (.int .u64 (n:Int)):=by
 show some (PV.int .u64 (IntKind.u64.wrap (((BitVec.ofInt 64 (a:Int) ||| BitVec.ofInt 64 (b:Int)).toNat:Nat):Int)))=_;rw[a0S e hb,h,bK j]
theorem SE {x s:Nat} (e:s≤64) (h:x*2 ^ s<18446744073709551616):shift .shl .u64 (x:Int) (s:Int)=some (.int .u64 ((2 ^ s*x:Nat):Int)):=by
 unfold shift;rw[if_neg Om];simp only;have:min (Int.toNat (s:Int)) IntKind.u64.bits=s:=by rw[show IntKind.u64.bits=64 from rfl]; omega
 rw[this,show (x:Int)*2 ^ s=((x*2 ^ s:Nat):Int) by simp,bK h,a9E]
def aOZ (a:List Nat) (s o i c:Nat):PF:=(((((((PF.nil.set 0 (aK a)).set 1 (.int .u64 s)).set 5 (.osl o 1 0 (a.length+1))).set 6 (.int .u64 c)).set 13 (aK a)).set 14 (.int .i64 (a.length:Nat))).set 15 (.int .i64 i))
def upR (a:List Nat) (s:Nat) (r:PV) (H:PH):Prop:=∃ o,r=.osl o 1 0 (a.length+1)∧H=PH.nil.set o (.rows 1 (aN (fB (a.length+1) (val a*2 ^ s))))
theorem aYM {C:Ctx} (a:List Nat) (s:Nat) (ha:Lim a) (hs:s<32) (h1:a.length≤1000):m5.wp C (aT nup.res (upR a s)) (PF.args [aK a,.int .u64 s]) .nil:=by
 have J:IntKind.i64.wrap ((a.length:Int)+1)=((a.length+1:Nat):Int):=dW Om;have W:((a.length+1:Nat):Int)*((4:Nat):Int)≤140737488355328:=Om;have X:((a.length+1:Nat):Int)≤9223372036854775807:=Om;have hz:a8F (a.length+1) [PV.int .u32 0]=aN ([]++a8F (a.length+1) 0):=by simp[aN]
 have R:2 ^ s≤2147483648:=Nat.pow_le_pow_right (show 0<2 by decide) (Om:s≤31);have F:0<2 ^ s:=bbD (by decide);simp only[go_sem,m5,aHT,aHU,nup,J,W,X,hz];refine aO fun o ho=>?_;simp only[go_sem,aHV,aHW];refine wp_loop (α:=List Nat × Nat × Nat) (fun t=>aOZ a s t.2.2 t.1.length t.2.1) (fun t=>PH.nil.set t.2.2 (.rows 1 (aN (t.1++a8F (a.length+1-t.1.length) 0))))
  (fun t=>t.1.length≤a.length∧Lim t.1∧t.2.1<2 ^ s∧val t.1+4294967296 ^ t.1.length*t.2.1=val (a.take t.1.length)*2 ^ s) (fun t=>a.length-t.1.length) ([],0,o) ⟨by simp,by simp[Lim],F,by simp[val]⟩ ?_ ?_ ?_
 ·unfold aOZ;exact Lq
 ·exact e_ a_ (by simp only[go_sem,baX])
 rintro⟨P,c,q⟩ ⟨hP,j,hc,u⟩;simp only at hP j hc u;simp only[go_sem,asN,aHX,aOZ];by_cases M:P.length<a.length
 ·have w:(P.length:Int)<(a.length:Nat):=Om;have β:=ha _ (a8G M);obtain⟨k,V⟩:∃ k,a.length+1-P.length=k+1:=⟨a.length-P.length,by omega⟩;have B:(aN (P++a8F (k+1) 0))[P.length]?=some [.int .u32 ((0:Nat):Int)]:=by rw[cF _ (by simp)]; simp
  have E:a.length+1-(P.length+1)=k:=Om;have A:(P.length:Int)<((a.length+1:Nat):Int):=Om;have Y:=cY a M;generalize Z:a[P.length]=x at *
  have γ:x*2 ^ s≤4294967295*2147483648:=bbT Om R;have ex:IntKind.u64.wrap ((x:Nat):Int)=((x:Nat):Int):=bK Om;have K:2 ^ s*x=x*2 ^ s:=a9E _ _;have O:shift .shl .u64 (x:Int) (s:Int)=some (.int .u64 ((2 ^ s*x:Nat):Int)):=SE Om Om;have N:=orI (a:=c) (b:=2 ^ s*x) (n:=c+2 ^ s*x) Om Om (Zj hc Om) Om;have I:(c+2 ^ s*x)/4294967296<2 ^ s:=by rw[bbM (by decide)];have:2 ^ s*(x+1)≤2 ^ s*4294967296:=baU _ Om;rw[a8T,Nat.mul_one] at this;omega
  have l:(aN (P++a8F (k+1) 0)).set P.length [.int .u32 (((c+2 ^ s*x)%4294967296:Nat):Int)]=aN ((P++[(c+2 ^ s*x)%4294967296])++a8F k 0):=by rw[jB,FO]
  have U:(aN a)[P.length]?=some [.int .u32 ((x:Nat):Int)]:=by rw[cF a M,Z]
  simp only[go_sem,w,aHY,aHZ,U,ex,O,N,aIA,dE,V,A,B,l,aIB,EG,aIC,dW (Om:P.length<9223372036854775807)];refine aG (P++[(c+2 ^ s*x)%4294967296],(c+2 ^ s*x)/4294967296,q) ⟨by simp; omega,j.app fun y hy=>by simp at hy; subst hy; exact baC _ (by decide),I,?_⟩ (by simp; omega) ?_ (e_ a_ ?_)
  ·simp only;rw[mM,a8H,a8N,baG,a9C,baY,← a8T,Nat.mod_add_div,Y,a8T,a9O,← baY,u,K,a9C]
  ·simp only;rw[a8H,a8N];exact Lq
  ·simp only;rw[a8H,a8N,E];simp only[go_sem]
 ·have e:P.length=a.length:=Om;have w:¬ (P.length:Int)<(a.length:Nat):=Om;have V:a8F (a.length+1-P.length) 0=[0]:=by rw[show a.length+1-P.length=1 by omega]; rfl
  have B:(aN (P++[0]))[a.length]?=some [.int .u32 ((0:Nat):Int)]:=by rw[cF _ (by simp; omega)];simp[e]
  have l:(aN (P++[0])).set a.length [.int .u32 ((c%4294967296:Nat):Int)]=aN (P++[c]):=by have:=FO P 0 (c%4294967296);simp only[List.replicate_zero,a9W,a8R,List.replicate_one] at this;rw[← e,jB,this,a9V Om]
  have A:(a.length:Int)<((a.length+1:Nat):Int):=Om;have hV:val (P++[c])=val a*2 ^ s:=by rw[mM,u,e,a9M]
  have S:Lim (P++[c]):=j.app fun x Z=>by simp at Z; omega
  have hD:fB (a.length+1) (val a*2 ^ s)=P++[c]:=by have:=OA S;rw[hV,a8H,a8N,e] at this;exact this
  simp only[go_sem,w,asO,dE,V,B,A,l,asP];exact bA (vs:=[.osl q 1 0 (a.length+1)]) (.inr rfl) (PH.nil.set q (.rows 1 (aN (P++[c])))) Ev (e_ a_ Sq) ⟨q,rfl,by rw[hD]⟩
def C6 (a:List Nat) (d o k r:Nat):PF:=(((((PF.nil.set 0 (aK a)).set 1 (.int .u32 d)).set 6 (.osl o 1 0 a.length)).set 7 (.int .u64 r)).set 8 (.int .i64 ((k:Int)-1)))
theorem aHQ {C:Ctx} (L:wG C) (a:List Nat) (d:Nat) (ha:Lim a) (l:0<d) (hd:d<4294967296) (h1:a.length≤1000) :
  KM.wp C (aT Y3.res (aI (.tup [aK (aJ (val a/d)),.int .u32 ((val a%d:Nat):Int)]))) (PF.args [aK a,.int .u32 d]) .nil:=by
 have Y:(a.length:Int)*((4:Nat):Int)≤140737488355328:=Om;have Z:(a.length:Int)≤9223372036854775807:=Om;have hz:a8F a.length [PV.int .u32 0]=aN (a8F a.length 0++[]):=by simp[aN]
 simp only[go_sem,KM,Iv,Iw,Y3,Y,Z,hz];refine aO fun o ho=>?_;simp only[go_sem,Ix,Iy];refine wp_loop (α:=Nat × List Nat × Nat × Nat) (fun t=>C6 a d t.2.2.2 t.1 t.2.2.1) (fun t=>PH.nil.set t.2.2.2 (.rows 1 (aN (a8F t.1 0++t.2.1))))
  (fun t=>t.1+t.2.1.length=a.length∧Lim t.2.1∧t.2.2.1<d∧val t.2.1*d+t.2.2.1=val (a.drop t.1)) (fun t=>t.1) (a.length,[],0,o) ⟨by simp,by simp[Lim],l,by simp[val]⟩ ?_ ?_ ?_
 ·unfold C6
  (repeat' (first|exact c_|refine d_ ?_ ?_))<;>first|(simp only[go_sem,wrap_i64 (Om:-9223372036854775808≤(a.length:Int)-1) (Om:(a.length:Int)-1≤9223372036854775807)]<;>rfl)|rfl
 ·exact e_ a_ Sq
 rintro⟨k,S,r,q⟩ ⟨hk,e,M,j⟩;simp only at hk e M j;simp only[go_sem,Iu,Iz,C6];by_cases h0:0<k
 ·obtain⟨m,rfl⟩:∃ m,k=m+1:=⟨k-1,by omega⟩;have A:((m+1:Nat):Int)-1=(m:Int):=Om;have W:(m:Int)≥0:=Om;have w:m<a.length:=Om;have hlt:(m:Int)<(a.length:Nat):=Om;have γ:=ha _ (a8G w);have u:val (a.drop m)=a[m]+4294967296*val (a.drop (m+1)):=by rw[baR w]; rfl
  generalize hx:a[m]=x at *
  have O:(aN a)[m]?=some [.int .u32 ((x:Nat):Int)]:=by rw[cF a w,hx]
  have ex:IntKind.u64.wrap ((x:Nat):Int)=((x:Nat):Int):=bK Om;have ed:IntKind.u64.wrap ((d:Nat):Int)=((d:Nat):Int):=bK Om;have I:shift .shl .u64 (r:Int) 32=some (.int .u64 ((2 ^ 32*r:Nat):Int)):=SE (s:=32) Om Om;have N:(2:Nat) ^ 32=4294967296:=by decide
  have B:=orI (a:=2 ^ 32*r) (b:=x) (n:=2 ^ 32*r+x) Om Om (Nat.two_pow_add_eq_or_of_lt Om r).symm Om;rw[N] at I B;have hq:(4294967296*r+x)/d<4294967296:=by rw[bbM l];have:4294967296*(r+1)≤4294967296*d:=baU _ M;omega
  have R:¬ ((d:Nat):Int)=0:=Om;have E:IntKind.u64.wrap (Int.tdiv ((4294967296*r+x:Nat):Int) ((d:Nat):Int))=(((4294967296*r+x)/d:Nat):Int):=by rw[show Int.tdiv ((4294967296*r+x:Nat):Int) ((d:Nat):Int)=(((4294967296*r+x)/d:Nat):Int) from rfl];exact bK Om
  have F:Int.tmod ((4294967296*r+x:Nat):Int) ((d:Nat):Int)=(((4294967296*r+x)%d:Nat):Int):=rfl;have ec:IntKind.u32.wrap (((4294967296*r+x)/d:Nat):Int)=(((4294967296*r+x)/d:Nat):Int):=by rw[dE,a9V hq]
  have J:a8F (m+1) 0++S=a8F m 0++(0::S):=by rw[List.replicate_succ',a9L]; rfl
  have X:(aN (a8F m 0++(0::S)))[m]?=some [.int .u32 ((0:Nat):Int)]:=by rw[cF _ (by simp)]; simp
  have K:(aN (a8F m 0++(0::S))).set m [.int .u32 (((4294967296*r+x)/d:Nat):Int)]=aN (a8F m 0++(((4294967296*r+x)/d)::S)):=by rw[jB,bbW _ _ (by simp)]; simp
  simp only[go_sem,A,W,I0,I,O,ex,B,I1,ed,R,E,ec,hlt,J,X,K,I2,F,I3];refine aG (m,((4294967296*r+x)/d)::S,(4294967296*r+x)%d,q) ⟨by simp only[a9Y]; omega,fun y hy=>?_,baC _ l,?_⟩ (by simp only; omega) ?_ (e_ a_ Sq)
  ·rw[a8S] at hy;rcases hy with rfl | hy
   ·exact hq
   ·exact e y hy
  ·simp only[val];rw[u,← j,a9O,a8T,a9C];have:=bbX (4294967296*r+x) d;rw[a9E d] at this;omega
  ·(repeat' (first|exact c_|refine d_ ?_ ?_))<;>first|(simp only[go_sem,wrap_i64 (Om:-9223372036854775808≤(m:Int)-1) (Om:(m:Int)-1≤9223372036854775807)]<;>rfl)|rfl
 ·have:k=0:=Om;subst this;have A:¬ ((0:Nat):Int)-1≥0:=by decide
  rw[a9R] at j;have hS:S.length=a.length:=Om;have hq:val S=val a/d:=by rw[← j,a9E,Nat.mul_add_div l,bbL M,a9P]
  have β:r=val a%d:=by rw[← j,a9E,Nat.mul_add_mod,a9V M]
  have δ:a8F 0 0++S=S:=by simp
  simp only[go_sem,A,wn,bbK];have hl:=L.length S e Om;have ε:=jA e;have hc:((nl (val S):Nat):Int)≤(S.length:Nat):=Om;refine vM (o:=q) (s:=1) (k:=a.length) (rs:=aN S) (v:=.int .i64 (nl (val S):Nat)) ?_ Sq Sq (by rw[cV]; omega) ?_
  ·rw[a8V (by rw[cV]; omega)]; exact hl
  ·have V:PV.frz q 1 (aN S) (.osl q 1 0 a.length)=aK S:=by
    have:0+a.length≤(aN S).length:=by rw[cV]; omega
    simp only[PV.frz,PV.tX,PV.cQ,if_true,true_and,if_pos this,a9R];rw[a8V (by rw[cV]; omega)]
   have U:∀ n:Int,∀ k,PV.frz q 1 (aN S) (.int k n)=.int k n:=fun _ _=>rfl;have er:IntKind.u32.wrap ((r:Nat):Int)=((r:Nat):Int):=by rw[dE,a9V Om]
   simp only[go_sem,V,U,hc,or_true,a9R,mI e,er];refine bA (vs:=[aK (aJ (val S)),.int .u32 ((r:Nat):Int)]) (.inr rfl) .nil Ev a_ ⟨?_,rfl⟩;simp only[cB,← hq,← β]
end Go.PM
namespace Go.Na
theorem NP {L:List Nat} {i:Nat} (h:i<L.length) (v:Nat):val (L.set i v)+4294967296 ^ i*L[i]=val L+4294967296 ^ i*v:=by
 have e:i<(L.set i v).length:=by rw[a9X]; exact h
 rw[xT L h,xT (L.set i v) e,List.getElem_set_self,List.take_set_of_le (a8J _),List.drop_set_of_lt Om,a8T,a8T];omega
theorem Ab {L:List Nat} {i:Nat} (h:∀ (j x:Nat),i≤j→L[j]?=some x→x=0) (k v:Nat) (u:k<i):∀ (j x:Nat),i≤j→(L.set k v)[j]?=some x→x=0:=fun j x l e=>by
 rw[List.getElem?_set_ne Om] at e;exact h j x l e
end Go.Na
namespace Go.PM
open Go Go.Na
def oS (a b:List Nat) (o i:Nat):PF:=((((((PF.nil.set 0 (aK a)).set 1 (aK b)).set 6 (.osl o 1 0 (a.length+b.length))).set 32 (aK a)).set 33 (.int .i64 (a.length:Nat))).set 34 (.int .i64 i))
def aCU (a b:List Nat) (o i x c j:Nat):PF:=((((((((((((PF.nil.set 0 (aK a)).set 1 (aK b)).set 6 (.osl o 1 0 (a.length+b.length))).set 32 (aK a)).set 33 (.int .i64 (a.length:Nat))).set 34 (.int .i64 i)).set 7 (.int .i64 i)).set 8 (.int .u32 x)).set 9 (.int .u64 c)).set 39 (aK b)).set 40 (.int .i64 (b.length:Nat))).set 41 (.int .i64 j))
structure MO (a b L:List Nat) (i:Nat):Prop where
 len:L.length=a.length+b.length
 lim:Lim L
 v:val L=val (a.take i)*val b
 z:∀ j x,i+b.length≤j→L[j]?=some x→x=0
theorem aqG {x y:Nat} (e:x<4294967296) (j:y<4294967296):IntKind.u64.wrap ((x:Int)*(y:Int))=((x*y:Nat):Int):=by
 have:x*y≤4294967295*4294967295:=bbT Om Om;rw[show (x:Int)*(y:Int)=((x*y:Nat):Int) by simp];exact bK Om
theorem jZ {a b:Nat} (h:a+b≤9223372036854775807):IntKind.i64.wrap ((a:Int)+(b:Int))=((a+b:Nat):Int):=by
 rw[wrap_i64 Om Om]; omega
theorem aOW {C:Ctx} (a b:List Nat) (ha:Lim a) (hb:Lim b) (h1:a.length≤1000) (h2:b.length≤1000) (L:List Nat) (i:Nat) (hi:i<a.length) (O:MO a b L i) (q:Nat) (K:cI) (F:PF) (H:PH) (N:(oS a b q i).le F) (hH:H q=some (.rows 1 (aN L)))
  (hK:∀ L' F' H',MO a b L' (i+1)→(oS a b q i).le F'→H' q=some (.rows 1 (aN L'))→K .normal F' H') :
  aC.wp C (.block 1 (.seq (.region C3) (.seq (.region C4) (.seq (.seq (.region C5) (.block 2 (.loop mj))) (.region mm))))) K F H:=by
 have f0:=N 0 _ (by unfold oS; simp only[go_sem]; rfl);have f1:=N 1 _ (by unfold oS; simp only[go_sem]; rfl);have f6:=N 6 _ (by unfold oS; simp only[go_sem]; rfl);have V:=N 32 _ (by unfold oS; simp only[go_sem]; rfl);have θ:=N 33 _ (by unfold oS; simp only[go_sem]; rfl);have W:=N 34 _ (by unfold oS; simp only[go_sem]; rfl);have hx:=ha _ (a8G hi);have γ:=cY a hi;generalize ε:a[i]=x at *
 have Z:(aN a)[i]?=some [.int .u32 ((x:Nat):Int)]:=by rw[cF a hi,ε]
 simp only[go_sem,C3,C4,C5,V,W,f1,Z];refine wp_loop (α:=List Nat × Nat × Nat) (fun t=>aCU a b q i x t.2.1 t.2.2) (fun t=>PH.nil.set q (.rows 1 (aN t.1)))
  (fun t=>t.2.2≤b.length∧t.1.length=a.length+b.length∧Lim t.1∧t.2.1<4294967296∧val t.1+4294967296 ^ (i+t.2.2)*t.2.1=val (a.take i)*val b+4294967296 ^ i*(x*val (b.take t.2.2))∧∀ j y,i+b.length≤j→t.1[j]?=some y→y=0) (fun t=>b.length-t.2.2) (L,0,0)
  ⟨by simp,O.len,O.lim,by simp,by simp[val,O.v],O.z⟩ ?_ (e_ a_ hH) ?_
 ·unfold aCU;exact Lq
 rintro⟨M,c,j⟩ ⟨hj,Y,l,hc,A,S⟩;simp only at hj Y l hc A S;simp only[go_sem,mj,Yu,aCU];by_cases U:j<b.length
 ·have B:(j:Int)<(b.length:Nat):=Om;have R:=hb _ (a8G U);have δ:=cY b U;generalize ζ:b[j]=y at *
  have β:(aN b)[j]?=some [.int .u32 ((y:Nat):Int)]:=by rw[cF b U,ζ]
  have e:i+j<M.length:=Om;have J:=l _ (a8G e);have w:=NP e;generalize η:M[i+j]=z at *
  have I:(aN M)[i+j]?=some [.int .u32 ((z:Nat):Int)]:=by rw[cF M e,η]
  have ex:IntKind.u64.wrap ((x:Nat):Int)=((x:Nat):Int):=bK Om;have ey:IntKind.u64.wrap ((y:Nat):Int)=((y:Nat):Int):=bK Om;have ez:IntKind.u64.wrap ((z:Nat):Int)=((z:Nat):Int):=bK Om;have em:=aqG hx R;have κ:x*y≤4294967295*4294967295:=bbT Om Om;have e1:IntKind.u64.wrap (((x*y:Nat):Int)+(z:Int))=((x*y+z:Nat):Int):=gZ Om;have e2:IntKind.u64.wrap ((c:Int)+((x*y+z:Nat):Int))=((c+(x*y+z):Nat):Int):=gZ Om;have E:IntKind.i64.wrap ((i:Int)+(j:Int))=((i+j:Nat):Int):=jZ Om;have hlt:((i+j:Nat):Int)<((a.length+b.length:Nat):Int):=Om;generalize ht:c+(x*y+z)=t at *
  have ι:t<4294967296*4294967296:=Om;have u:(aN M).set (i+j) [.int .u32 ((t%4294967296:Nat):Int)]=aN (M.set (i+j) (t%4294967296)):=jB M (i+j) _;simp only[go_sem,B,Yv,β,Yw,ex,ey,em,E,hlt,I,ez,e1,e2,Yx,dE,u,Yy,EG,Yz,wZz j];refine aG (M.set (i+j) (t%4294967296),t/4294967296,j+1) ⟨by simp only; omega,by simp only[a9X]; exact Y,l.set _ (baC _ (by decide)),by simp only; omega,?_,Ab S _ _ Om⟩ (by simp only; omega) ?_ (e_ a_ Sq)
  ·simp only;have X:=w (t%4294967296);have h4:4294967296 ^ (i+(j+1))*(t/4294967296)+4294967296 ^ (i+j)*(t%4294967296)=4294967296 ^ (i+j)*t:=by rw[← baY,baG,a9C,← a8T,bbX]
   have h5:4294967296 ^ (i+j)*t=4294967296 ^ (i+j)*c+(4294967296 ^ (i+j)*(x*y)+4294967296 ^ (i+j)*z):=by rw[← ht,a8T,a8T]
   have h6:4294967296 ^ i*(x*val (b.take (j+1)))=4294967296 ^ i*(x*val (b.take j))+4294967296 ^ (i+j)*(x*y):=by rw[δ,a8T,a8T,Nat.pow_add];congr 1;rw[Nat.mul_left_comm x,a9C]
   omega
  ·exact Lq
 ·have he:j=b.length:=Om;have B:¬ (j:Int)<(b.length:Nat):=Om;subst he;have e:i+b.length<M.length:=Om;have J:M[i+b.length]=0:=S _ _ (a8J _) (a8L e);have w:=NP e;have I:(aN M)[i+b.length]?=some [.int .u32 ((0:Nat):Int)]:=by rw[cF M e,J]
  have E:IntKind.i64.wrap ((i:Int)+(b.length:Int))=((i+b.length:Nat):Int):=jZ Om;have hlt:((i+b.length:Nat):Int)<((a.length+b.length:Nat):Int):=Om;have u:(aN M).set (i+b.length) [.int .u32 ((c%4294967296:Nat):Int)]=aN (M.set (i+b.length) c):=by rw[a9V hc]; exact jB M _ _
  simp only[go_sem,B,mm,E,dE,hlt,I,u];refine hK (M.set (i+b.length) c) _ _ ⟨by rw[a9X]; exact Y,l.set _ hc,?_,fun j y hj R=>?_⟩ (by unfold oS; exact Lq) Sq
  ·have X:=w c;rw[J,Nat.mul_zero,a9P] at X;rw[X,A,a9M,γ,a9O,a9C]
  ·rw[List.getElem?_set_ne Om] at R;exact S j y Om R
theorem aHP {C:Ctx} (L:wG C) (a b:List Nat) (W:Lim a) (hb:Lim b) (U:a.length≤1000) (V:b.length≤1000) (F:PF) (f0:F 0=some (aK a)) (f1:F 1=some (aK b)) :
  aC.wp C (.seq (.region C1) (.seq (.seq (.region C2) (.block 0 (.loop ml))) (.seq (.region mo) .ret))) (aT [.tmp 4,.tmp 5] (cP (szV (val a*val b)))) F .nil:=by
 have w:IntKind.i64.wrap ((a.length:Int)+(b.length:Int))=((a.length+b.length:Nat):Int):=jZ Om;have I:((a.length+b.length:Nat):Int)*((4:Nat):Int)≤140737488355328:=Om;have J:((a.length+b.length:Nat):Int)≤9223372036854775807:=Om;have X:a8F (a.length+b.length) [PV.int .u32 0]=aN (a8F (a.length+b.length) 0):=by simp[aN]
 simp only[go_sem,C1,f0,f1,w,I,J,X];refine aO fun o ho=>?_;simp only[go_sem,C2,f0];refine wp_loop (α:=List Nat × Nat) (fun t=>oS a b o t.2) (fun t=>PH.nil.set o (.rows 1 (aN t.1))) (fun t=>t.2≤a.length∧MO a b t.1 t.2) (fun t=>a.length-t.2) (a8F (a.length+b.length) 0,0)
  ⟨by simp,by simp,BW _,by simp[val,xW],fun j x _ N=>by rw[bcC] at N; split at N<;>simp_all⟩ ?_ (e_ a_ Sq) ?_
 ·unfold oS;exact Lq
 rintro⟨M,i⟩ ⟨hi,l⟩;simp only at hi l;simp only[go_sem,ml,asE,oS];by_cases O:i<a.length
 ·have u:(i:Int)<(a.length:Nat):=Om;have y:=aOW (C:=C) a b W hb U V M i O l o;simp only[go_sem] at y;simp only[go_sem,u];refine y _ _ _ (by unfold oS; exact Lq) Sq ?_;intro L' Y H' E e B;have A:=e 34 _ (by unfold oS; simp only[go_sem]; rfl);have g0:=e 0 _ (by unfold oS; simp only[go_sem]; rfl);have g1:=e 1 _ (by unfold oS; simp only[go_sem]; rfl);have Z:=e 6 _ (by unfold oS; simp only[go_sem]; rfl);have R:=e 32 _ (by unfold oS; simp only[go_sem]; rfl);have S:=e 33 _ (by unfold oS; simp only[go_sem]; rfl);simp only[go_sem,Y0,A,wZz i];refine aG (L',i+1) ⟨by simp only; omega,E⟩ (by simp only; omega) ?_ (e_ a_ B);exact Lq
 ·have he:i=a.length:=Om;subst he;have u:¬ (a.length:Int)<(a.length:Nat):=Om;have hV:val M=val a*val b:=by rw[l.v,a9M]
  simp only[go_sem,mo];have K:=L.sized _ l.lim (by rw[l.len]; omega);rw[hV] at K;refine vM (o:=o) (s:=1) (k:=a.length+b.length) (rs:=aN M) (v:=szV (val a*val b)) ?_ rfl Sq (by rw[cV,l.len]; exact a8J _) ?_
  ·rw[a8V (by rw[cV,l.len]; exact a8J _)]; exact K
  ·simp only[go_sem,szV];exact bA (.inr rfl) .nil rfl a_ ⟨.refl _,rfl⟩
theorem aVG {C:Ctx} (L:wG C) (a b:List Nat) (u:Lim a) (hb:Lim b) (y:a.length≤35184372087808) (A:b.length≤35184372087808) :
  XG.wp C (aT aOV.res (cP (opV (fD (val a) (val b)) (val a*val b)))) (PF.args [aK a,aK b]) .nil:=by
 simp only[go_sem,XG,asB,asC,aOV];refine aB (L.large a u y) rfl ?_;by_cases j:nl (val a)>512
 ·simp only[go_sem,j,C0];rw[show opV (fD (val a) (val b)) (val a*val b)=.tup [aK [],.int .i64 2] by simp[opV,fD,j]];exact gG rfl
 simp only[go_sem,j];refine aB (L.large b hb A) rfl ?_;by_cases l:nl (val b)>512
 ·simp only[go_sem,l,C0];rw[show opV (fD (val a) (val b)) (val a*val b)=.tup [aK [],.int .i64 2] by simp[opV,fD,l]];exact gG rfl
 have e:opV (fD (val a) (val b)) (val a*val b)=szV (val a*val b):=by simp[opV,fD,j,l]
 rw[e];simp only[go_sem,l];refine aV .nil aCF a_ ?_;simp only[go_sem,asD];have I:=jA u;have J:=jA hb;have w:((nl (val a):Nat):Int)≤(a.length:Nat):=Om;have x:((nl (val b):Nat):Int)≤(b.length:Nat):=Om;refine cC (tA a) (L.length a u y) rfl a_ ?_;simp only[go_sem,w,or_true,a9R,mI u];refine cC (tA b) (L.length b hb A) rfl a_ ?_;simp only[go_sem,x,or_true,a9R,mI hb];have B:=aU (val a);have E:=aU (val b);have:=aHP L (aJ (val a)) (aJ (val b)) (aX _) (aX _) (by rw[bC]; omega) (by rw[bC]; omega);rw[B,E] at this;have:=fun F f0 f1=>this F f0 f1;simp only[go_sem] at this;exact this _ rfl rfl
open Go Go.Na
theorem x6 {A P W Z:List Nat} {i:Nat} (j:P.length=i) (hi:i<W.length):(aN (A++(P++W.drop i)++Z))[A.length+i]?=some [.int .u32 ((W[i]:Nat):Int)]:=by
 have e:A.length+i<(A++(P++W.drop i)++Z).length:=by simp; omega
 rw[cF _ e];congr 4;rw[List.getElem_append_left (by simp; omega),List.getElem_append_right Om,List.getElem_append_right Om,List.getElem_drop];congr 1;omega
theorem NM {A P W Z:List Nat} {i:Nat} (e:P.length=i) (hi:i<W.length) (v:Nat):(aN (A++(P++W.drop i)++Z)).set (A.length+i) [.int .u32 (v:Int)]=aN (A++((P++[v])++W.drop (i+1))++Z):=by
 rw[jB];congr 1;rw[List.set_append_left _ _ (by simp; omega),bbW _ _ Om,bbW _ _ Om,baR hi];rw[show A.length+i-A.length-P.length=0 by omega,List.set_cons_zero];simp
theorem aLP {t:Nat} (h:t<18446744073709551616):pL .and .u64 (t:Int) 4294967295=some (.int .u64 ((t%4294967296:Nat):Int)):=by
 show some (PV.int .u64 (IntKind.u64.wrap (((BitVec.ofInt 64 (t:Int) &&& BitVec.ofInt 64 (4294967295:Int)).toNat:Nat):Int)))=_;have e:BitVec.ofInt 64 (4294967295:Int)=BitVec.ofNat 64 4294967295:=by rfl
 rw[e,BitVec.ofInt_natCast,BitVec.toNat_and,BitVec.toNat_ofNat,BitVec.toNat_ofNat,a9V (by simpa using h)];have j:(4294967295:Nat)%2 ^ 64=2 ^ 32-1:=by decide
 rw[j,Nat.and_two_pow_sub_one_eq_mod];rw[bK (bcE (baC _ (by decide)) (by decide))]
theorem aLS {c f x:Nat} (j:c<4294967296) (e:f≤4294967296) (l:x<4294967296):c+f*x<18446744073709551616∧(c+f*x)/4294967296<4294967296∧f*x≤4294967296*4294967295:=by
 have:f*x≤4294967296*4294967295:=bbT e Om;refine⟨by omega,?_,this⟩;omega
def Y9 (v:List Nat) (j o i c b:Nat) (f:Nat):PF:=((((((((PF.nil.set 0 (.osl o 1 j (v.length+1))).set 1 (aK v)).set 2 (.int .u64 f)).set 7 (.int .u64 c)).set 8 (.int .u64 b)).set 13 (aK v)).set 14 (.int .i64 (v.length:Nat))).set 15 (.int .i64 i))
def SH (n w m:Nat):Nat:=if w<m then w+4294967296 ^ n-m else w-m
theorem Za {C:Ctx} (A W Z v:List Nat) (f:Nat) (hW:Lim W) (hv:Lim v) (hl:W.length=v.length+1) (h1:A.length+v.length≤100000) (hf:f≤4294967296) (ν:val v*f≤val W+4294967296 ^ (v.length+1)) (o:Nat) :
  AF.wp C (aT XJ.res (fun r H'=>r=.bool (decide (val W<val v*f))∧H'=PH.nil.set o (.rows 1 (aN (A++fB (v.length+1) (SH (v.length+1) (val W) (val v*f))++Z)))))
   (PF.args [.osl o 1 A.length (v.length+1),aK v,.int .u64 f]) (PH.nil.set o (.rows 1 (aN (A++W++Z)))):=by
 simp only[go_sem,AF,XK,XL,XM,XJ];refine wp_loop (α:=List Nat × Nat × Nat) (fun t=>Y9 v A.length o t.1.length t.2.1 t.2.2 f) (fun t=>PH.nil.set o (.rows 1 (aN (A++(t.1++W.drop t.1.length)++Z))))
  (fun t=>t.1.length≤v.length∧Lim t.1∧t.2.1<4294967296∧t.2.2≤1∧val (W.take t.1.length)+4294967296 ^ t.1.length*t.2.2+4294967296 ^ t.1.length*t.2.1=val t.1+val (v.take t.1.length)*f) (fun t=>v.length-t.1.length) ([],0,0)
  ⟨by simp,by simp[Lim],by simp,by simp,by simp[val]⟩ ?_ (e_ a_ (by simp only[go_sem,baX,a9R,bbK])) ?_
 ·unfold Y9;exact Lq
 rintro⟨P,c,b⟩ ⟨hP,j,hc,hb,w⟩;simp only at hP j hc hb w;simp only[go_sem,UR,XN,Y9];by_cases c1:P.length<v.length
 ·have I:(P.length:Int)<(v.length:Nat):=Om;have E:P.length<W.length:=Om;have J:(P.length:Int)<((v.length+1:Nat):Int):=Om;have hx:=hv _ (a8G c1);have hw:=hW _ (a8G E);have η:=cY v c1;have F:=cY W E;have M:=x6 (A:=A) (Z:=Z) (P:=P) rfl E;have u:=NM (A:=A) (Z:=Z) (P:=P) rfl E;generalize μ:v[P.length]=x at *
  generalize κ:W[P.length]=y at *
  have ι:(aN v)[P.length]?=some [.int .u32 ((x:Nat):Int)]:=by rw[cF v c1,μ]
  obtain⟨k1,k2,k3⟩:=aLS hc hf hx;have ex:IntKind.u64.wrap ((x:Nat):Int)=((x:Nat):Int):=bK Om;have ey:IntKind.u64.wrap ((y:Nat):Int)=((y:Nat):Int):=bK Om;have em:IntKind.u64.wrap ((f:Int)*(x:Int))=((f*x:Nat):Int):=by rw[show (f:Int)*(x:Int)=((f*x:Nat):Int) by simp];exact bK Om
  have l:c+f*x<18446744073709551616:=k1;have ea:IntKind.u64.wrap ((c:Int)+((f*x:Nat):Int))=((c+f*x:Nat):Int):=gZ l;have S:=aLP l;have θ:val (v.take (P.length+1))*f=val (v.take P.length)*f+4294967296 ^ P.length*(f*x):=by rw[η,a9O,a9C,a9E x f]
  generalize f*x=B at *
  have V:(c+B)%4294967296<4294967296:=baC _ (by decide);obtain⟨s1,s2,s3,s4⟩:=acZ (a:=y) (bor:=b) (b:=(c+B)%4294967296) hw V hb (IntKind.u64.wrap (IntKind.u64.wrap ((y:Int)-(((c+B)%4294967296:Nat):Int))-(b:Int))) (by rw[jL,jL]; omega);generalize hd:YW y b ((c+B)%4294967296)=d at *
  generalize δ:pt y b ((c+B)%4294967296)=Y at *
  have γ:Y≤1:=by rw[← δ]; unfold pt; split<;>omega
  have hs:=u d;simp only[go_sem,I,XO,ι,XP,ex,em,ea,XQ,J,M,ey,S,XR,s1,hs,XS,aDN,s2,XT,EG,US,dW (Om:P.length<9223372036854775807)];refine aG (P++[d],(c+B)/4294967296,Y) ⟨by simp; omega,j.app fun z hz=>by simp at hz; omega,k2,γ,?_⟩ (by simp; omega) ?_ (e_ a_ ?_)
  ·simp only;rw[a8H,a8N,mM,F,θ,baG,a9C,a9C];have h4:4294967296 ^ P.length*y+4294967296 ^ P.length*(4294967296*Y)=4294967296 ^ P.length*d+4294967296 ^ P.length*((c+B)%4294967296)+4294967296 ^ P.length*b:=by rw[← a8T,s3,a8T,a8T]
   have h5:4294967296 ^ P.length*(4294967296*((c+B)/4294967296))+4294967296 ^ P.length*((c+B)%4294967296)=4294967296 ^ P.length*c+4294967296 ^ P.length*B:=by rw[← a8T,bbX,a8T]
   omega
  ·simp only;rw[a8H,a8N];exact Lq
  ·simp only;rw[a8H,a8N];simp only[go_sem]
 ·have e:P.length=v.length:=Om;have I:¬ (P.length:Int)<(v.length:Nat):=Om;have E:v.length<W.length:=Om;have J:(v.length:Int)<((v.length+1:Nat):Int):=Om;have hw:=hW _ (a8G E);have F:=cY W E;have M:=x6 (A:=A) (Z:=Z) (P:=P) e E;have u:=NM (A:=A) (Z:=Z) (P:=P) e E;have K:val (W.take (v.length+1))=val W:=by rw[a8V Om]
  generalize κ:W[v.length]=y at *
  have ey:IntKind.u64.wrap ((y:Nat):Int)=((y:Nat):Int):=bK Om;have β:=gY j;rw[e] at w β;rw[a9M] at w;rw[K] at F;have X:4294967296 ^ (v.length+1)=4294967296 ^ v.length*4294967296:=baG _ _;have ο:val W+4294967296 ^ v.length*(b+c)=val P+val v*f+4294967296 ^ v.length*y:=by rw[F,a8T]; omega
  have ξ:b+c≤y+4294967296:=by
   rcases a8Z (y+4294967296) (b+c) with h | h
   ·exfalso;have:4294967296 ^ v.length*(y+4294967296+1)≤4294967296 ^ v.length*(b+c):=baU _ h;rw[a8T,a8T,Nat.mul_one] at this;omega
   ·exact h
  have O:∃ d k:Nat,d<4294967296∧k≤1∧y+4294967296*k=d+(b+c)∧IntKind.u32.wrap (IntKind.u64.wrap (IntKind.u64.wrap ((y:Int)-(c:Int))-(b:Int)))=(d:Int)∧((IntKind.u64.wrap (IntKind.u64.wrap ((y:Int)-(c:Int))-(b:Int))/9223372036854775808==1)=decide (k=1)):=by
   rw[ig,jL,jL];by_cases h:y<b+c
   ·refine⟨y+4294967296-(b+c),1,by omega,by omega,by omega,by omega,?_⟩;simp only[decide_true];exact bP Om
   ·refine⟨y-(b+c),0,by omega,by omega,by omega,by omega,?_⟩;exact bD Om
  obtain⟨d,k,hd,hk,hy,w1,w2⟩:=O;have hs:=u d;have hN:val (P++[d])+val v*f=val W+4294967296 ^ (v.length+1)*k:=by
   have:4294967296 ^ v.length*y+4294967296 ^ v.length*(4294967296*k)=4294967296 ^ v.length*d+4294967296 ^ v.length*(b+c):=by rw[← a8T,hy,a8T]
   rw[mM,e,X,a9C];omega
  have U:Lim (P++[d]):=j.app fun z hz=>by simp at hz; omega
  have ε:=gY U;rw[a8H,a8N,e] at ε;have N:decide (k=1)=decide (val W<val v*f):=by
   congr 1;apply propext;constructor
   ·intro h; subst h; omega
   ·intro h;rcases baN k with h0 | h0
    ·subst h0; omega
    ·omega
  have R:SH (v.length+1) (val W) (val v*f)=val (P++[d]):=by
   unfold SH;split
   ·rename_i h;have:k=1:=by simpa [h] using N
    subst this; omega
   ·rename_i h;have:k=0:=by
     have:¬ k=1:=by simpa [h] using N
     omega
    subst this; omega
  have hD:fB (v.length+1) (SH (v.length+1) (val W) (val v*f))=P++[d]:=by have:=OA U;rw[a8H,a8N,e] at this;rw[R,this]
  have ζ:W.drop (v.length+1)=[]:=bcB Om;simp only[go_sem,I,UT,e,J,M,ey,UU,w1,hs,UV,aDN,w2,N];refine bA (vs:=[.bool (decide (val W<val v*f))]) (.inr rfl) (PH.nil.set o (.rows 1 (aN (A++(P++[d]++W.drop (v.length+1))++Z)))) rfl (e_ a_ Sq) ⟨rfl,?_⟩;rw[hD,ζ,a9W]
end Go.PM
namespace Go.Na
theorem aoP {xs e:List Nat} (u:Lim xs) (w:Lim e) (j:xs.length=e.length) (l:val xs=val e):xs=e:=by
 rw[← OA u,← OA w,j,l]
theorem aSZ {k n:Nat} {xs:List Nat} (l:Lim xs) (e:xs.length=k) (j:val xs=n%4294967296 ^ k):fB k n=xs :=
 aoP (qW k n) l (by rw[pN,e]) (by rw[HI,j])
end Go.Na
namespace Go.PM
open Go Go.Na
def Y2 (v:List Nat) (j o i c:Nat):PF:=((((((PF.nil.set 0 (.osl o 1 j (v.length+1))).set 1 (aK v)).set 4 (.int .u64 c)).set 7 (aK v)).set 8 (.int .i64 (v.length:Nat))).set 9 (.int .i64 i))
theorem aiY {C:Ctx} (A W Z v:List Nat) (hW:Lim W) (hv:Lim v) (hl:W.length=v.length+1) (h1:A.length+v.length≤100000) (o:Nat) :
  CQ.wp C (aT mq.res (fun r H'=>r=.tup []∧H'=PH.nil.set o (.rows 1 (aN (A++fB (v.length+1) (val W+val v)++Z)))))
   (PF.args [.osl o 1 A.length (v.length+1),aK v]) (PH.nil.set o (.rows 1 (aN (A++W++Z)))):=by
 simp only[go_sem,CQ,fg,fh,mq];refine wp_loop (α:=List Nat × Nat) (fun t=>Y2 v A.length o t.1.length t.2) (fun t=>PH.nil.set o (.rows 1 (aN (A++(t.1++W.drop t.1.length)++Z))))
  (fun t=>t.1.length≤v.length∧Lim t.1∧t.2≤1∧val (W.take t.1.length)+val (v.take t.1.length)=val t.1+4294967296 ^ t.1.length*t.2) (fun t=>v.length-t.1.length) ([],0)
  ⟨by simp,by simp[Lim],by simp,by simp[val]⟩ ?_ (e_ a_ (by simp only[go_sem,baX,a9R,bbK])) ?_
 ·unfold Y2;exact Lq
 rintro⟨P,c⟩ ⟨hP,j,hc,u⟩;simp only at hP j hc u;simp only[go_sem,ff,fi,Y2];by_cases O:P.length<v.length
 ·have B:(P.length:Int)<(v.length:Nat):=Om;have w:P.length<W.length:=Om;have E:(P.length:Int)<((v.length+1:Nat):Int):=Om;have hx:=hv _ (a8G O);have hw:=hW _ (a8G w);have X:=cY v O;have J:=cY W w;have I:=x6 (A:=A) (Z:=Z) (P:=P) rfl w;have l:=NM (A:=A) (Z:=Z) (P:=P) rfl w;generalize γ:v[P.length]=x at *
  generalize β:W[P.length]=y at *
  have Y:(aN v)[P.length]?=some [.int .u32 ((x:Nat):Int)]:=by rw[cF v O,γ]
  have ex:IntKind.u64.wrap ((x:Nat):Int)=((x:Nat):Int):=bK Om;have R:IntKind.u64.wrap ((y:Nat):Int)=((y:Nat):Int):=bK Om;have e1:IntKind.u64.wrap ((y:Int)+(x:Int))=((y+x:Nat):Int):=gZ Om;have e2:IntKind.u64.wrap ((c:Int)+((y+x:Nat):Int))=((c+(y+x):Nat):Int):=gZ Om;have V:=l ((c+(y+x))%4294967296);simp only[go_sem,B,fj,Y,fk,E,I,ex,R,e1,e2,fl,dE,V,fm,EG,fp,dW (Om:P.length<9223372036854775807)];refine aG (P++[(c+(y+x))%4294967296],(c+(y+x))/4294967296) ⟨by simp; omega,j.app fun z N=>by simp at N; subst N; exact baC _ (by decide),by simp only; omega,?_⟩ (by simp; omega) ?_ (e_ a_ ?_)
  ·simp only;rw[a8H,a8N,mM,J,X,baG,a9C];have h5:4294967296 ^ P.length*(4294967296*((c+(y+x))/4294967296))+4294967296 ^ P.length*((c+(y+x))%4294967296)=4294967296 ^ P.length*c+(4294967296 ^ P.length*y+4294967296 ^ P.length*x):=by rw[← a8T,bbX,a8T,a8T]
   omega
  ·simp only;rw[a8H,a8N];exact Lq
  ·simp only;rw[a8H,a8N];simp only[go_sem]
 ·have e:P.length=v.length:=Om;have B:¬ (P.length:Int)<(v.length:Nat):=Om;have w:v.length<W.length:=Om;have E:(v.length:Int)<((v.length+1:Nat):Int):=Om;have hw:=hW _ (a8G w);have J:=cY W w;have I:=x6 (A:=A) (Z:=Z) (P:=P) e w;have l:=NM (A:=A) (Z:=Z) (P:=P) e w;have F:val (W.take (v.length+1))=val W:=by rw[a8V Om]
  generalize β:W[v.length]=y at *
  have S:=gY j;rw[e] at u S;rw[a9M] at u;rw[F] at J;have ec:IntKind.u32.wrap ((c:Nat):Int)=((c:Nat):Int):=by rw[dE,a9V Om]
  have R:IntKind.u32.wrap ((y:Int)+(c:Int))=(((y+c)%4294967296:Nat):Int):=by rw[show (y:Int)+(c:Int)=((y+c:Nat):Int) by omega,dE]
  have V:=l ((y+c)%4294967296);have K:Lim (P++[(y+c)%4294967296]):=j.app fun z N=>by simp at N; subst N; exact baC _ (by decide)
  have M:=gY K;rw[a8H,a8N,e] at M;have hD:fB (v.length+1) (val W+val v)=P++[(y+c)%4294967296]:=by
   refine aSZ K (by rw[a8H,a8N,e]) ?_;have:val W+val v=val (P++[(y+c)%4294967296])+4294967296 ^ (v.length+1)*((y+c)/4294967296):=by rw[mM,e,baG,a9C,baY,← a8T,Nat.mod_add_div,a8T];omega
   rw[this,Nat.add_mul_mod_self_left,a9V M]
  have U:W.drop (v.length+1)=[]:=bcB Om;simp only[go_sem,B,fq,e,E,I,ec,R,V];refine bA (vs:=[]) (.inl rfl) (PH.nil.set o (.rows 1 (aN (A++(P++[(y+c)%4294967296]++W.drop (v.length+1))++Z)))) rfl (e_ a_ Sq) ⟨rfl,?_⟩;rw[hD,U,a9W]
def aCR (o n:Nat) (len:Nat):PF:=((PF.nil.set 0 (.osl o 1 0 len)).set 3 (.int .i64 n))
theorem aiX {C:Ctx} (xs:List Nat) (B:Lim xs) (F:xs.length≤35184372087808) (o:Nat):uA.wp C (aT ND.res (fun r H'=>r=.int .i64 (nl (val xs):Nat)∧H'=PH.nil.set o (.rows 1 (aN xs)))) (PF.args [.osl o 1 0 xs.length]) (PH.nil.set o (.rows 1 (aN xs))):=by
 simp only[go_sem,uA,QT,QU,ND];refine wp_loop (α:=Nat) (fun n=>aCR o n xs.length) (fun _=>PH.nil.set o (.rows 1 (aN xs))) (fun n=>n≤xs.length∧∀ j x,n≤j→xs[j]?=some x→x=0) (fun n=>n) xs.length ⟨a8J _,fun j x h e=>by rw[a9S h] at e; cases e⟩ ?_ b_ ?_
 ·unfold aCR;exact Lq
 rintro n ⟨A,y⟩;have out:(∀ x,0<n→xs[n-1]?=some x→x≠0)→nl (val xs)=n:=fun h=>avI B A y h;simp only[go_sem,QS,QV,aCR];by_cases u:(n:Int)>0
 ·have w:0<n:=Om;have hi:=cF xs (Om:n-1<xs.length);have hlt:((n-1:Nat):Int)<(xs.length:Nat):=Om;simp only[go_sem,u,CK (Om:n≤9223372036854775807) w,hi,hlt];by_cases l:xs[n-1]=0
  ·simp only[go_sem,bP (Om:((xs[n-1]:Nat):Int)=0),QW,CK (Om:n≤9223372036854775807) w];refine aG (n-1) ⟨by omega,fun j x E he=>?_⟩ Om ?_ b_
   ·rcases a8Z j n with h | h
    ·have:j=n-1:=Om;subst this;rw[a8L Om] at he;cases he; exact l
    ·exact y j x h he
   ·exact Lq
  ·simp only[go_sem,bD (Om:((xs[n-1]:Nat):Int)≠0),yV];refine bA (.inr rfl) _ rfl b_ ⟨?_,rfl⟩;rw[out fun x _ he=>by rw[a8L Om] at he; cases he; exact l];rfl
 ·simp only[go_sem,u,yV];refine bA (.inr rfl) _ rfl b_ ⟨?_,rfl⟩;rw[out fun x h=>by omega];rfl
end Go.PM
namespace Go.Na
structure Kn (V W top next Vr head u2 Wr p:Nat):Prop where
 hV:V=top*(4294967296*p)+next*p+Vr
 hW:W=head*(4294967296*p)+u2*p+Wr
 hVr:Vr<p
 hWr:Wr<p
 htop:2147483648≤top
 a7M:next<4294967296
 hu2:u2<4294967296
 hlt:W<V*4294967296
section
variable {V W top next Vr head u2 Wr p:Nat}
theorem Kn.low (K:Kn V W top next Vr head u2 Wr p):next*p+Vr<4294967296*p∧u2*p+Wr<4294967296*p:=by
 have e:(next+1)*p≤4294967296*p:=a9H _ K.a7M;have j:(u2+1)*p≤4294967296*p:=a9H _ K.hu2;rw[a9O,Nat.one_mul] at e j;have:=K.hVr;have:=K.hWr;omega
theorem Kn.P1 (K:Kn V W top next Vr head u2 Wr p):0<V∧4294967296*p≤V∧0<p:=by
 have:=K.hVr;have h:1*(4294967296*p)≤top*(4294967296*p):=a9H _ (by have:=K.htop; omega);have:=K.hV;omega
theorem Kn.aYQ (K:Kn V W top next Vr head u2 Wr p):W/V<4294967296:=by
 rw[bbM K.P1.1,a9E]; exact K.hlt
theorem Kn.g0 (K:Kn V W top next Vr head u2 Wr p):W/V≤head/top:=by
 have e:0<top:=by have:=K.htop; omega
 rw[Nat.le_div_iff_mul_le e];have j:W/V*V≤W:=Nat.div_mul_le_self W V;have l:W/V*(top*(4294967296*p))≤W/V*V:=baU _ (by have:=K.hV; omega);have u:=K.low.2;have w:=K.hW;have h5:(W/V*top)*(4294967296*p)<(head+1)*(4294967296*p):=by rw[a9C,a9O,Nat.one_mul]; omega
 have:=Nat.lt_of_mul_lt_mul_right h5;omega
theorem Kn.g1 (K:Kn V W top next Vr head u2 Wr p) {g r:Nat} (u:g*top+r=head) (hq:W/V≤g) (h:g≥4294967296∨g*next>r*4294967296+u2):1≤g∧W/V≤g-1:=by
 have x:=K.aYQ;have j:=Nat.div_mul_le_self W V;generalize W/V=Q at *
 rcases h with h | h
 ·omega
 ·have w:Q≠g:=by
   intro e;have y:g*V≤W:=by rw[← e]; exact j
   have A:g*V=g*top*(4294967296*p)+g*next*p+g*Vr:=by rw[K.hV,a8T,a8T,a9C,a9C]
   have l:(r*4294967296+u2+1)*p≤g*next*p:=a9H _ h
   rw[a9O,a9O,Nat.one_mul,a9C r] at l;have B:g*top*(4294967296*p)+r*(4294967296*p)=head*(4294967296*p):=by rw[← a9O,u]
   have:=K.hW;have:=K.hWr;omega
  omega
theorem Kn.g2 (K:Kn V W top next Vr head u2 Wr p) {g r:Nat} (w:g*top+r=head) (x:g≤4294967296) (h:g*next≤r*4294967296+u2):g≤W/V+1:=by
 rcases baN g with e | e
 ·rw[e]; exact a8K _
 have l:g*V=g*top*(4294967296*p)+g*next*p+g*Vr:=by rw[K.hV,a8T,a8T,a9C,a9C]
 have j:g*next*p≤(r*4294967296+u2)*p:=a9H _ h
 rw[a9O,a9C r] at j;have u:g*top*(4294967296*p)+r*(4294967296*p)=head*(4294967296*p):=by rw[← a9O,w]
 have h5:g*Vr≤4294967296*Vr:=a9H _ x;have y:4294967296*(Vr+1)≤4294967296*p:=baU _ K.hVr;have hV:=K.P1;have hW:=K.hW;have h7:(g-1)*V≤W:=by
  have:g*V=(g-1)*V+V:=by obtain⟨k,rfl⟩:∃ k,g=k+1:=⟨g-1,by omega⟩;rw[a9O,Nat.one_mul]; rfl
  omega
 have:=(Nat.le_div_iff_mul_le hV.1).2 h7;generalize W/V=Q at *
 clear l j u h5 h7;omega
theorem Kn.g3 (K:Kn V W top next Vr head u2 Wr p) {g r:Nat} (w:g*top+r=head) (x:g≤4294967296) (y:4294967296≤r):g≤W/V+1:=by
 have e:=K.low.1;have hV:=K.P1;have j:g*V=g*top*(4294967296*p)+g*(next*p+Vr):=by rw[K.hV,baY,a8T,a9C]
 have l:g*(next*p+Vr)≤4294967296*(4294967296*p):=bbT x Om;have u:g*top*(4294967296*p)+r*(4294967296*p)=head*(4294967296*p):=by rw[← a9O,w]
 have h5:4294967296*(4294967296*p)≤r*(4294967296*p):=a9H _ y;have hW:=K.hW;have h7:g*V≤W:=Om;have:=(Nat.le_div_iff_mul_le hV.1).2 h7;generalize W/V=Q at *
 clear j l u h5 h7;omega
theorem Kn.g4 (K:Kn V W top next Vr head u2 Wr p):head/top≤4294967296+1:=by
 have e:=K.low.1;have hV:=K.P1;have hW:=K.hW;have hlt:=K.hlt;have x:=K.htop;have u:head<(top+1)*4294967296:=by
  have j:V<(top+1)*(4294967296*p):=by rw[K.hV,a9O,Nat.one_mul]; omega
  have w:V*4294967296≤(top+1)*(4294967296*p)*4294967296:=a9H _ (Nat.le_of_lt j);have l:head*(4294967296*p)<(top+1)*4294967296*(4294967296*p):=by
   have:(top+1)*(4294967296*p)*4294967296=(top+1)*4294967296*(4294967296*p):=by rw[a9C,a9E (4294967296*p) 4294967296,← a9C]
   omega
  exact Nat.lt_of_mul_lt_mul_right l
 have h5:head/top<4294967296+2:=by rw[bbM Om];omega
 omega
end
theorem BR:∀ (k n:Nat),fB (k+1) n=fB k n++[n/4294967296 ^ k%4294967296]
 | 0,n=>by simp[fB]
 | k+1,n=>by show (n%4294967296)::fB (k+1) (n/4294967296)=(n%4294967296)::fB k (n/4294967296)++[n/4294967296 ^ (k+1)%4294967296];rw[BR k (n/4294967296),Nat.div_div_eq_div_mul,baG,a9E 4294967296];rfl
theorem AR {xs:List Nat} (h:Lim xs):∀ {k:Nat},k≤xs.length→val (xs.drop k)=val xs/4294967296 ^ k:=by
 intro k j;have e:val xs=val (xs.take k)+4294967296 ^ k*val (xs.drop k):=by
  conv=>lhs; rw[← bbC k xs,jT,a8W,baO j]
 have l:=gY (h.take k);rw[a8W,baO j] at l;rw[e,Nat.add_mul_div_left _ _ (bbD (by decide)),bbL l,a8R]
theorem gf {R s i j l X:Nat} (w:s<32) (h:R/4294967296 ^ i=j+4294967296*(l+4294967296*X)):(R/2 ^ s)/4294967296 ^ i%4294967296=(4294967296*l+j)/2 ^ s%4294967296:=by
 rw[Nat.div_div_eq_div_mul,a9E (2 ^ s),← Nat.div_div_eq_div_mul,h];have u:4294967296*4294967296=2 ^ s*(2 ^ (32-s)*4294967296):=by rw[← a9C,← Nat.pow_add,show s+(32-s)=32 by omega]
 have e:j+4294967296*(l+4294967296*X)=(4294967296*l+j)+2 ^ s*(2 ^ (32-s)*X*4294967296):=by
  have:4294967296*(4294967296*X)=2 ^ s*(2 ^ (32-s)*X*4294967296):=by rw[← a9C,u,a9C,a9C,a9C,a9E 4294967296 X]
  rw[a8T,this]; omega
 rw[e,Nat.add_mul_div_left _ _ (bbD (by decide)),Nat.add_mul_mod_self_right]
end Go.Na
namespace Go.PM
open Go Go.Na
theorem aWA {A W Z:List Nat} {i:Nat} (hi:i<W.length):(aN (A++W++Z))[A.length+i]?=some [.int .u32 ((W[i]:Nat):Int)]:=by
 have e:A.length+i<(A++W++Z).length:=by simp; omega
 rw[cF _ e];congr 4;rw[List.getElem_append_left (by simp; omega),List.getElem_append_right Om];congr 1;omega
def dF (u v:PV) (n:Nat) (q:PV) (e next j s:Nat):PF:=((((((((PF.nil.set 8 (.int .u64 s)).set 9 (u)).set 10 (v)).set 11 (.int .i64 n)).set 12 (q)).set 13 (.int .u64 e)).set 14 (.int .u64 next)).set 15 (.int .i64 j))
def dG (u v:PV) (n:Nat) (q:PV) (e next j s g r:Nat):PF:=((((((((((PF.nil.set 8 (.int .u64 s)).set 9 (u)).set 10 (v)).set 11 (.int .i64 n)).set 12 (q)).set 13 (.int .u64 e)).set 14 (.int .u64 next)).set 15 (.int .i64 j)).set 17 (.int .u64 g)).set 18 (.int .u64 r))
theorem Oo {C:Ctx} {V J e next Vr l w Wr p:Nat} (x:Kn V J e next Vr l w Wr p) (htop:e<4294967296) (o y m j s:Nat) (v q:PV) (θ:j+m+2<y) (ι:y≤100000) (U:List Nat) (hU:(aN U)[j+m]?=some [.int .u32 (w:Nat)]) (K:cI) (F:PF) (H:PH)
  (hF:(dG (.osl o 1 0 y) v (m+2) q e next j s (l/e) (l%e)).le F) (hH:H o=some (.rows 1 (aN U)))
  (hK:∀ g r I,J/V≤g→g≤J/V+1→g≤4294967296→(dG (.osl o 1 0 y) v (m+2) q e next j s g r).le I→K .normal I H) :
  aC.wp C (.block 4 (.loop BC)) K F H:=by
 have γ:0<e:=by have:=x.htop; omega
 have hn:=x.a7M;have hu2:=x.hu2;simp only[go_sem];refine wp_loop (α:=Nat × Nat) (fun t=>dG (.osl o 1 0 y) v (m+2) q e next j s t.1 t.2) (fun _=>H) (fun t=>t.1*e+t.2=l∧J/V≤t.1∧t.1≤4294967296+1∧t.2<4294967296) (fun t=>t.1) (l/e,l%e)
  ⟨by simp only; rw[a9E]; exact bbX l e,x.g0,x.g4,Nat.lt_trans (baC _ γ) htop⟩ hF b_ ?_
 rintro⟨g,r⟩ ⟨R,hq,β,hr⟩;simp only at R hq β hr;have e1:IntKind.i64.wrap ((j:Int)+((m+2:Nat):Int))=((j+(m+2):Nat):Int):=jZ Om;have e2:IntKind.i64.wrap (((j+(m+2):Nat):Int)-2)=((j+m:Nat):Int):=by rw[wrap_i64 Om Om]; omega
 have hlt:((j+m:Nat):Int)<(y:Nat):=Om;have X:IntKind.u64.wrap ((w:Nat):Int)=((w:Nat):Int):=bK Om;have N:shift .shl .u64 (r:Int) 32=some (.int .u64 ((2 ^ 32*r:Nat):Int)):=SE (s:=32) Om Om;have W:(2:Nat) ^ 32=4294967296:=by decide
 have M:=orI (a:=2 ^ 32*r) (b:=w) (n:=2 ^ 32*r+w) Om Om (Nat.two_pow_add_eq_or_of_lt Om r).symm Om;rw[W] at N M;have A:(g≥4294967296∨g*next>r*4294967296+w)→∀ I:PF,(dG (.osl o 1 0 y) v (m+2) q e next j s g r).le I→aC.wp C (.block 5 (.seq (.region KC) (.seq (.region KD) (.seq (.region KE) (.cond (.tmp 136) (.exit 4) .skip)))))
   (gP (fun t:Nat × Nat=>dG (.osl o 1 0 y) v (m+2) q e next j s t.1 t.2) (fun _=>H) (fun t=>t.1*e+t.2=l∧J/V≤t.1∧t.1≤4294967296+1∧t.2<4294967296) (fun t=>t.1) g (fR 4 K)) I H:=by
  intro hc I u;obtain⟨g1,g2⟩:=x.g1 R hq hc;have f8:=u 8 _ (by unfold dG; simp only[go_sem]; rfl);have f9:=u 9 _ (by unfold dG; simp only[go_sem]; rfl);have δ:=u 10 _ (by unfold dG; simp only[go_sem]; rfl);have f11:=u 11 _ (by unfold dG; simp only[go_sem]; rfl);have ε:=u 12 _ (by unfold dG; simp only[go_sem]; rfl);have f13:=u 13 _ (by unfold dG; simp only[go_sem]; rfl);have f14:=u 14 _ (by unfold dG; simp only[go_sem]; rfl);have ζ:=u 15 _ (by unfold dG; simp only[go_sem]; rfl);have Y:=u 17 _ (by unfold dG; simp only[go_sem]; rfl);have Z:=u 18 _ (by unfold dG; simp only[go_sem]; rfl);have w1:IntKind.u64.wrap ((g:Int)-1)=((g-1:Nat):Int):=by rw[wrap_u64 Om Om]; omega
  have w2:IntKind.u64.wrap ((r:Int)+(e:Int))=((r+e:Nat):Int):=gZ Om;have O:(g-1)*e+(r+e)=l:=by obtain⟨k,rfl⟩:∃ k,g=k+1:=⟨g-1,by omega⟩;rw[a9O,Nat.one_mul] at R;simp only[Nat.add_sub_cancel];omega
  simp only[go_sem,KC,KD,KE,Y,Z,f13,w1,w2];by_cases c:r+e≥4294967296
  ·have S:((r+e:Nat):Int)≥4294967296:=Om;simp only[go_sem,S];refine hK (g-1) (r+e) _ g2 (x.g3 O Om c) Om ?_;unfold dG;exact Lq
  ·have S:¬ ((r+e:Nat):Int)≥4294967296:=Om;simp only[go_sem,S];refine aG (g-1,r+e) ⟨O,g2,by simp only; omega,by simp only; omega⟩ (by simp only; omega) ?_ b_;unfold dG;exact Lq
 simp only[go_sem,BC,ef,dG];by_cases c1:g≥4294967296
 ·have B:(g:Int)≥4294967296:=Om;simp only[go_sem,B];have:=A (.inl c1);simp only[go_sem,dG] at this;refine this _ ?_;exact Lq
 ·have B:¬ (g:Int)≥4294967296:=Om;have η:g*next≤4294967295*4294967295:=bbT Om Om
  have em:IntKind.u64.wrap ((g:Int)*(next:Int))=((g*next:Nat):Int):=by rw[show (g:Int)*(next:Int)=((g*next:Nat):Int) by simp];exact bK Om
  simp only[go_sem,B,em,N,e1,e2,hlt,hH,hU,X,M];by_cases c2:g*next>r*4294967296+w
  ·have E:((g*next:Nat):Int)>((4294967296*r+w:Nat):Int):=Om;simp only[go_sem,E];have:=A (.inr c2);simp only[go_sem,dG] at this;refine this _ ?_;exact Lq
  ·have E:¬ ((g*next:Nat):Int)>((4294967296*r+w:Nat):Int):=Om;simp only[go_sem,E];refine hK g r _ hq (x.g2 R Om Om) Om ?_;unfold dG;exact Lq
end Go.PM
namespace Go.Na
theorem a1H {W v:List Nat} {m:Nat} (hW:Lim W) (e:Lim v) (y:v.length=m+2) (x:W.length=m+3) (A:2147483648≤v[m+1]) (hlt:val W<val v*4294967296) :
  Kn (val v) (val W) (v[m+1]) (v[m]) (val (v.take m)) (W[m+2]*4294967296+W[m+1]) (W[m]) (val (W.take m)) (4294967296 ^ m):=by
 have u:val v=val (v.take m)+4294967296 ^ m*(v[m]+4294967296*v[m+1]):=by
  rw[xT v (Om:m<v.length)];congr 4;have:v.drop (m+1)=[v[m+1]]:=by rw[baR Om,bcB Om]
  rw[this]; simp[val]
 have w:val W=val (W.take m)+4294967296 ^ m*(W[m]+4294967296*(W[m+1]+4294967296*W[m+2])):=by
  rw[xT W (Om:m<W.length)];congr 4;have:W.drop (m+1)=[W[m+1],W[m+2]]:=by rw[baR Om,baR Om,bcB Om]
  rw[this]; simp[val]
 have j:=gY (e.take m);have l:=gY (hW.take m);rw[a8W,baO Om] at j l;refine⟨?_,?_,j,l,A,e _ (a8G _),hW _ (a8G _),hlt⟩
 ·rw[u,a8T,a9E (4294967296 ^ m) (v[m]),← a9C (4294967296 ^ m),a9E (4294967296 ^ m*4294967296),a9E (4294967296 ^ m) 4294967296];omega
 ·rw[w,a8T,a9E (4294967296 ^ m) (W[m]),← a9C (4294967296 ^ m),a9E (4294967296 ^ m*4294967296),a9E (4294967296 ^ m) 4294967296,a9E (W[m+2]),Nat.add_comm (4294967296*W[m+2])];omega
end Go.Na
namespace Go.PM
open Go Go.Na
structure O2 (C:Ctx):Prop where
 subtract:∀ (A W Z v:List Nat) (f o:Nat),Lim W→Lim v→W.length=v.length+1→A.length+v.length≤100000→f≤4294967296→val v*f≤val W+4294967296 ^ (v.length+1) →
  aH C 142 [.osl o 1 A.length (v.length+1),aK v,.int .u64 f] (PH.nil.set o (.rows 1 (aN (A++W++Z)))) (fun r H'=>r=.bool (decide (val W<val v*f))∧H'=PH.nil.set o (.rows 1 (aN (A++fB (v.length+1) (SH (v.length+1) (val W) (val v*f))++Z))))
 restore:∀ (A W Z v:List Nat) (o:Nat),Lim W→Lim v→W.length=v.length+1→A.length+v.length≤100000 →
  aH C 139 [.osl o 1 A.length (v.length+1),aK v] (PH.nil.set o (.rows 1 (aN (A++W++Z)))) (fun r H'=>r=.tup []∧H'=PH.nil.set o (.rows 1 (aN (A++fB (v.length+1) (val W+val v)++Z))))
theorem Qk (k n:Nat):fB k (n%4294967296 ^ k)=fB k n :=
 aoP (qW _ _) (qW _ _) (by rw[pN,pN]) (by rw[HI,HI,Nat.mod_mod])
theorem On {C:Ctx} (D:O2 C) (A W Z v Q:List Nat) (m o S R s:Nat) (β:S≠o) (hW:Lim W) (hv:Lim v) (ο:v.length=m+2) (ξ:W.length=m+3) (ht:2147483648≤v[m+1]) (hlt:val W<val v*4294967296)
  (p':R=A.length+(m+3)+Z.length) (k':R≤10000) (a':A.length<Q.length) (K:cI) (F:PF) (H:PH) (U:(dF (.osl o 1 0 R) (aK v) (m+2) (.osl S 1 0 Q.length) (v[m+1]) (v[m]) A.length s).le F)
  (hH:H o=some (.rows 1 (aN (A++W++Z)))) (κ:H S=some (.rows 1 (aN Q)))
  (hK:∀ F' H',(dF (.osl o 1 0 R) (aK v) (m+2) (.osl S 1 0 Q.length) (v[m+1]) (v[m]) A.length s).le F'→H' o=some (.rows 1 (aN (A++fB (m+3) (val W%val v)++Z)))→H' S=some (.rows 1 (aN (Q.set A.length (val W/val v))))→K .normal F' H') :
  aC.wp C (.block 3 (.seq (.draw JZ) (.seq (.draw KB) (.seq (.block 4 (.loop BC)) (.seq (.seq (.region KF) (.cond (.tmp 146) (.seq (.region KG) (.region KI)) .skip)) (.region BD)))))) K F H:=by
 have Kk:=a1H hW hv ο ξ ht hlt;have x:∀ i (h:i<W.length),(aN (A++W++Z))[A.length+i]?=some [.int .u32 ((W[i]:Nat):Int)]:=fun i h=>aWA h;have g0:=x (m+2) Om;have g1:=x (m+1) Om;have g2:=x m Om;have hq:=Kk.aYQ;have htop:v[m+1]<4294967296:=hv _ (a8G _);have t':=hW _ (a8G (Om:m+2<W.length));have u':=hW _ (a8G (Om:m+1<W.length));have α:=Kk.P1.1;generalize s':v[m+1]=l at *
 generalize q':v[m]=next at *
 generalize v':W[m+2]=I at *
 generalize w':W[m+1]=u1 at *
 generalize x':W[m]=u2 at *
 have f8:=U 8 _ (by unfold dF; simp only[go_sem]; rfl);have f9:=U 9 _ (by unfold dF; simp only[go_sem]; rfl);have Θ:=U 10 _ (by unfold dF; simp only[go_sem]; rfl);have f11:=U 11 _ (by unfold dF; simp only[go_sem]; rfl);have Λ:=U 12 _ (by unfold dF; simp only[go_sem]; rfl);have f13:=U 13 _ (by unfold dF; simp only[go_sem]; rfl);have f14:=U 14 _ (by unfold dF; simp only[go_sem]; rfl);have ζ:=U 15 _ (by unfold dF; simp only[go_sem]; rfl);have e1:IntKind.i64.wrap ((A.length:Int)+((m+2:Nat):Int))=((A.length+(m+2):Nat):Int):=jZ Om;have e2:IntKind.i64.wrap (((A.length+(m+2):Nat):Int)-1)=((A.length+(m+1):Nat):Int):=by rw[wrap_i64 Om Om]; omega
 have c0:((A.length+(m+2):Nat):Int)<(R:Nat):=Om;have c1:((A.length+(m+1):Nat):Int)<(R:Nat):=Om;have Γ:IntKind.u64.wrap ((I:Nat):Int)=((I:Nat):Int):=bK Om;have Δ:IntKind.u64.wrap ((u1:Nat):Int)=((u1:Nat):Int):=bK Om;have ε:shift .shl .u64 (I:Int) 32=some (.int .u64 ((2 ^ 32*I:Nat):Int)):=SE (s:=32) Om Om;have ω:(2:Nat) ^ 32=4294967296:=by decide
 have X:=orI (a:=2 ^ 32*I) (b:=u1) (n:=2 ^ 32*I+u1) Om Om (Nat.two_pow_add_eq_or_of_lt Om I).symm Om;rw[ω] at ε X;have Φ:4294967296*I+u1=I*4294967296+u1:=Om;rw[Φ] at X;simp only[go_sem];refine aV H cA b_ ?_;simp only[go_sem,JZ,f9,ζ,f11,e1,e2,c0,c1,hH,g0,g1,Γ,Δ,ε,X];refine aV H cA b_ ?_;have r':0<l:=Om;have e':¬ ((l:Nat):Int)=0:=Om;generalize o':I*4294967296+u1=e at *
 have γ:IntKind.u64.wrap (Int.tdiv ((e:Nat):Int) ((l:Nat):Int))=((e/l:Nat):Int):=by rw[show Int.tdiv ((e:Nat):Int) ((l:Nat):Int)=((e/l:Nat):Int) from rfl];exact bK (by have:=Kk.g4; omega)
 have δ:Int.tmod ((e:Nat):Int) ((l:Nat):Int)=((e%l:Nat):Int):=rfl;simp only[go_sem,KB,f13,e',γ,δ];have w:=Oo (C:=C) Kk htop o R m A.length s (aK v) (.osl S 1 0 Q.length) Om Om (A++W++Z) g2;simp only[go_sem] at w;refine w _ _ H ?_ hH ?_
 ·unfold dG;refine d_ (d_ (d_ (d_ (d_ (d_ (d_ (d_ (d_ (d_ c_ ?_) ?_) ?_) ?_) ?_) ?_) ?_) ?_) ?_) ?_<;>simp only[go_sem,f8,f9,Θ,f11,Λ,f13,f14,ζ]
 clear w;intro g r F' q1 q2 q3 j;have h8:=j 8 _ (by unfold dG; simp only[go_sem]; rfl);have h9:=j 9 _ (by unfold dG; simp only[go_sem]; rfl);have J:=j 10 _ (by unfold dG; simp only[go_sem]; rfl);have M:=j 11 _ (by unfold dG; simp only[go_sem]; rfl);have η:=j 12 _ (by unfold dG; simp only[go_sem]; rfl);have θ:=j 13 _ (by unfold dG; simp only[go_sem]; rfl);have ι:=j 14 _ (by unfold dG; simp only[go_sem]; rfl);have N:=j 15 _ (by unfold dG; simp only[go_sem]; rfl);have Y:=j 17 _ (by unfold dG; simp only[go_sem]; rfl);have e3:IntKind.i64.wrap (((A.length+(m+2):Nat):Int)+1)=((A.length+(m+3):Nat):Int):=by rw[wrap_i64 Om Om]; omega
 have c3:(A.length:Int)≤((A.length+(m+3):Nat):Int):=Om;have c4:((A.length+(m+3):Nat):Int)≤(R:Nat):=Om;have e4:A.length+(m+3)-A.length=v.length+1:=Om;have B:v.length+1=m+3:=Om;have n':val v*(val W/val v)+val W%val v=val W:=bbX _ _;have μ:=gY hW;rw[ξ] at μ;have ψ:val W%val v<val v:=baC _ α;have υ:=gY hv;rw[ο] at υ;have σ:4294967296 ^ (m+3)=4294967296 ^ (m+2)*4294967296:=baG _ _;generalize l':val W/val v=E at *
 generalize m':val W%val v=rd at *
 have V:∀ (y:PF) (H2:PH),y 8=some (.int .u64 s)→y 9=some (.osl o 1 0 R)→y 10=some (aK v)→y 11=some (.int .i64 ((m+2:Nat):Int))→y 12=some (.osl S 1 0 Q.length)→y 13=some (.int .u64 l)→y 14=some (.int .u64 next)→y 15=some (.int .i64 A.length)→y 17=some (.int .u64 E) →
   H2 o=some (.rows 1 (aN (A++fB (m+3) rd++Z)))→H2 S=some (.rows 1 (aN Q))→aC.wp C (.region BD) (fR 3 K) y H2:=by
  intro y H2 k8 k9 f' g' φ h' i' χ j' kH kQ;have d':(aN Q)[A.length]?=some [.int .u32 ((Q[A.length]:Nat):Int)]:=cF Q a';have c':(A.length:Int)<(Q.length:Nat):=Om;have eq:IntKind.u32.wrap ((E:Nat):Int)=((E:Nat):Int):=by rw[dE,a9V hq]
  have τ:=jB Q A.length E;have ρ:¬ o=S:=fun h=>β h.symm;simp only[go_sem,BD,φ,χ,j',eq,c',kQ,d',τ];refine hK _ _ ?_ (by simp only[go_sem,ρ,kH]) Sq;unfold dF;refine d_ (d_ (d_ (d_ (d_ (d_ (d_ (d_ c_ ?_) ?_) ?_) ?_) ?_) ?_) ?_) ?_<;>simp only[go_sem,k8,k9,f',g',φ,h',i',χ]
 have b':(PH.nil.set o (.rows 1 (aN (A++W++Z)))).le H:=e_ a_ hH;have ν:val v*g≤val W+4294967296 ^ (v.length+1):=by have:val v*g≤val v*(E+1):=baU _ q2;rw[a8T,Nat.mul_one] at this;rw[B,σ]; omega
 simp only[go_sem,KF,h9,N,M,e1,e3,c3,c4,e4,J,Y];refine dV (D.subtract A W Z v g o hW hv Om Om q3 ν) rfl b' ?_;rintro rr H' ⟨rfl,rfl⟩ -;rw[PH.uE];by_cases Ω:g=E
 ·subst Ω;have u:¬ val W<val v*g:=Om;have hN:SH (v.length+1) (val W) (val v*g)=rd:=by unfold SH; rw[if_neg u]; omega
  rw[hN,B];simp only[go_sem,u];have:=V;simp only[go_sem] at this;refine this _ _ ?_ ?_ ?_ ?_ ?_ ?_ ?_ ?_ ?_ ?_ ?_<;>simp only[go_sem,h8,h9,J,M,η,θ,ι,N,Y,β,κ]
 ·have Ψ:g=E+1:=Om;subst Ψ;rw[a8T,Nat.mul_one];have u:val W<val v*E+val v:=Om;have hN:SH (v.length+1) (val W) (val v*E+val v)=rd+4294967296 ^ (m+3)-val v:=by unfold SH; rw[if_pos u,B]; omega
  rw[hN];have w1:IntKind.u64.wrap (((E+1:Nat):Int)-1)=((E:Nat):Int):=by rw[wrap_u64 Om Om]; omega
  simp only[go_sem,u,KG,Y,w1,KI,h9,N,M,e1,e3,c3,c4,e4,J];have Ξ:val (fB (v.length+1) (rd+4294967296 ^ (m+3)-val v))=rd+4294967296 ^ (m+3)-val v:=tG (by rw[B]; omega);refine dV (D.restore A (fB (v.length+1) (rd+4294967296 ^ (m+3)-val v)) Z v o (qW _ _) hv (pN _ _) Om) rfl (e_ a_ Sq) ?_;rintro rr H' ⟨rfl,rfl⟩ -;rw[PH.uE,PH.set_set,Ξ];have O:fB (v.length+1) (rd+4294967296 ^ (m+3)-val v+val v)=fB (m+3) rd:=by rw[B,← Qk (m+3) (rd+4294967296 ^ (m+3)-val v+val v)];rw[show rd+4294967296 ^ (m+3)-val v+val v=rd+4294967296 ^ (m+3) by omega,Nat.add_mod_right,Qk]
  rw[O];simp only[go_sem];have:=V;simp only[go_sem] at this;refine this _ _ ?_ ?_ ?_ ?_ ?_ ?_ ?_ ?_ ?_ ?_ ?_<;>simp only[go_sem,h8,h9,J,M,η,θ,ι,N,β,κ]
open Go
section
variable {C:Ctx} {K:cI} {F:PF} {H Hs:PH} {S:Spec}
theorem ajY {name:Nat} {vs:List PV} {R:PV→PH→Prop} {args:List aP} {st:Bool} {d:Option Nat} {K:PF→PH→Prop} (w:S name vs=some ([],fun _=>R)) (h:aH C name vs .nil R) (e:aP.evs F args=some vs)
  (j:∀ G:PH,∃ r H',R r H'∧oL G .nil H') (y:∀ r H',R r H'→oL H .nil H'→Hs.le (H.over .nil H')∧K (F.put d r) (H.over .nil H')):dOp C Hs S st (.call name args) d K F H:=by
 refine⟨vs,[],fun _=>R,e,w,fun o A=>by simp at A,by rw[RB]; exact h,fun G=>?_,fun r H' B e=>?_⟩
 ·obtain⟨r,H',l,u⟩:=j G;exact⟨r,H',l,fun o x E I=>u o x E (by simp[PH.nil])⟩
 ·rw[RB] at e ⊢;exact y r H' B e
theorem PH.over_self (H0:PH) (h:H0.le H):H.over H0 H0=H:=PH.ext fun q=>by
 rw[tB];cases e:H0 q with
 | none=>rfl
 | some x=>exact (h q x e).symm
theorem Zi {o:Nat} {x:bZ} (h:H o=some x):H.only [o]=PH.nil.set o x:=PH.ext fun q=>by
 rw[vE,aS];by_cases e:q=o
 ·subst e; simp[h]
 ·simp[e,Ca]
theorem NZ {name o:Nat} {x:bZ} {vs:List PV} {v:PV} {R:PH→PV→PH→Prop} {args:List aP} {st:Bool} {d:Option Nat} {K:PF→PH→Prop} (E:S name vs=some ([o],R)) (B:H o=some x)
  (h:aH C name vs (PH.nil.set o x) (fun r H'=>r=v∧H'=PH.nil.set o x)) (j:R (PH.nil.set o x) v (PH.nil.set o x)) (u:∀ r H',R (PH.nil.set o x) r H'→r=v∧H'=PH.nil.set o x) (I:aP.evs F args=some vs) (w:Hs.le H) (J:K (F.put d v) H) :
  dOp C Hs S st (.call name args) d K F H:=by
 have e:=Zi B;refine⟨vs,[o],_,I,E,fun q hq=>?_,?_,fun G=>⟨v,_,by rw[e]; exact j,fun q y M A=>?_⟩,fun r H' l _=>?_⟩
 ·simp at hq; subst hq; exact⟨x,B⟩
 ·rw[e];exact h.post fun r H' l=>⟨r,.refl _,by rw[l.1,l.2]; exact j⟩
 ·rw[e] at A; rw[M] at A; cases A
 ·rw[e] at l;obtain⟨rfl,rfl⟩:=u r H' l;rw[e,PH.over_self _ (by rw[← e]; exact cj H [o])];exact⟨w,J⟩
theorem ajL {c:aC} {α:Type} (e:α→PF) (Hs:α→PH) (j:α→Prop) (m:α→Nat) (l:α) (o:Nat) {s:Nat} {rs:List (List PV)} (y:H o=some (.rows s rs)) (u:j l) (w:(e l).le (F.frz o s rs)) (x:(Hs l).le (H.frz o s rs))
  (hb:∀ a,j a→c.wp C (gP e Hs j m (m a) K) (e a) (Hs a)):aC.wp C (.loop c) K F H :=
 ⟨α,e,Hs,j,m,l,_,_,.step o y (.refl _ _),u,w,x,hb⟩
@[go_sem] theorem FG (o s:Nat) (rs:List (List PV)) (q:Nat):(H.frz o s rs) q=if q=o then none else (H q).map (bZ.frz o s rs):=(rfl)
theorem aJJ {t u o1 o2 s1 s2 k1 k2:Nat} {rs1 rs2:List (List PV)} {R:PV→PH→Prop} {e:mY} (he:e=.normal∨e=.ret) (l:o1≠o2) (M:F t=some (.osl o1 s1 0 k1)) (N:F u=some (.osl o2 s2 0 k2)) (x:H o1=some (.rows s1 rs1)) (y:H o2=some (.rows s2 rs2))
  (U:k1≤rs1.length) (V:k2≤rs2.length) (A:rs2.map (fun r=>r.map (PV.cQ o1 s1 rs1))=rs2) (W:(rs1.take k1)=rs1.take k1) (O:R (.tup [.sl s1 (rs1.take k1),.sl s2 (rs2.take k2)]) .nil):aT [.tmp t,.tmp u] R e F H:=by
 have B:∃ vs,eS.evs F H [.tmp t,.tmp u]=some vs∧∃ E I H2,kP (PF.nil.set 0 (cB vs)) H E I∧H2.le I∧∃ w,E 0=some w∧R w H2:=by
  have j:o2≠o1:=fun h=>l h.symm;have J:(H.frz o1 s1 rs1) o2=some (.rows s2 rs2):=by rw[FG,if_neg j,y]; simp only[a9J,bZ.frz,A]
  refine⟨[.osl o1 s1 0 k1,.osl o2 s2 0 k2],by rw[nZ,rO,M,nZ,rO,N,tE],_,_,.nil,.step o1 x (.step o2 J (.refl _ _)),a_,_,?_,O⟩;have a1:0+k1≤rs1.length:=Om;have a2:0+k2≤rs2.length:=Om;simp only[PF.frz,oJ,if_true,cB,a9J,PV.frz,PV.tX,PV.cQ,a9T,bbA,true_and,if_pos a1,if_pos a2,a9R,if_neg j]
 rcases he with rfl | rfl<;>exact B
end
end Go.PM
namespace Go.Na
structure tN (U0 V n lu lq:Nat) (k:Nat) (U Q:List Nat):Prop where
 lu':U.length=lu
 lq':Q.length=lq
 limU:Lim U
 limQ:Lim Q
 v:val U+val Q*V=U0
 r:val (U.drop k)<V
 z:∀ i x,i<k→Q[i]?=some x→x=0
theorem Ql {N V n M A j:Nat} {U Q:List Nat} (h:tN N V n M A (j+1) U Q) (hV:V<4294967296 ^ n) (hj:j<A) (hl:M=A+n) :
  val ((U.drop j).take (n+1))<V*4294967296∧tN N V n M A j (U.take j++fB (n+1) (val ((U.drop j).take (n+1))%V)++U.drop (j+(n+1))) (Q.set j (val ((U.drop j).take (n+1))/V)):=by
 have Z:=h.lu';have J:=h.lq';have e:0<V:=by have:=h.r; omega
 have u:j<U.length:=Om;have e1:val (U.drop j)=U[j]+4294967296*val (U.drop (j+1)):=by rw[baR u]; rfl
 have X:=h.limU _ (a8G u);have hlt:val (U.drop j)<V*4294967296:=by have:=h.r; omega
 have I:((U.drop j).take (n+1)).length=n+1:=by rw[a8W,a9Z]; omega
 have O:val (U.drop j)=val ((U.drop j).take (n+1))+4294967296 ^ (n+1)*val (U.drop (j+(n+1))):=by
  conv=>lhs; rw[← bbC (n+1) (U.drop j),jT,I,List.drop_drop]
 have R:4294967296 ^ (n+1)=4294967296 ^ n*4294967296:=baG _ _;have Y:V*4294967296≤4294967296 ^ n*4294967296:=a9H _ (Nat.le_of_lt hV);have E:val (U.drop (j+(n+1)))=0:=by
  rcases baN (val (U.drop (j+(n+1)))) with h0 | h0
  ·exact h0
  ·have:=baU (4294967296 ^ (n+1)) h0;omega
 rw[E,Nat.mul_zero,a9P] at O;generalize hW:val ((U.drop j).take (n+1))=W at *
 have e3:val U=val (U.take j)+4294967296 ^ j*W:=by
  conv=>lhs; rw[← bbC j U,jT,a8W,baO Om,O]
 have y:W%V<V:=baC _ e;have F:V*(W/V)+W%V=W:=bbX _ _;have K:W/V<4294967296:=by rw[bbM e,a9E]; omega
 have hD:val (fB (n+1) (W%V))=W%V:=tG Om;have B:Q[j]=0:=h.z j _ Om (a8L Om);have l:=NP (Om:j<Q.length) (W/V);rw[B,Nat.mul_zero,a9P] at l;have w:(U.take j).length=j:=by rw[a8W]; omega
 refine⟨by omega,?_,?_,?_,?_,?_,?_,?_⟩
 ·simp only[a8H,pN,a9Z,a8W]; omega
 ·rw[a9X]; exact J
 ·exact ((h.limU.take j).app (qW _ _)).app (h.limU.drop _)
 ·exact h.limQ.set _ K
 ·rw[a9L,jT,jT,w,hD,pN,E,Nat.mul_zero,a9P,l];have:=h.v;have h5:(val Q+4294967296 ^ j*(W/V))*V=val Q*V+4294967296 ^ j*(V*(W/V)):=by rw[a9O,a9C,a9E (W/V) V]
  have h6:4294967296 ^ j*W=4294967296 ^ j*(V*(W/V))+4294967296 ^ j*(W%V):=by rw[← a8T,F]
  omega
 ·rw[a9L,List.drop_append_of_le_length Om,bcB Om,bbK,jT,hD,E,Nat.mul_zero,a9P];exact y
 ·intro i x hi S;rw[List.getElem?_set_ne Om] at S;exact h.z i x Om S
end Go.Na
namespace Go.PM
open Go Go.Na
def dI (u v:PV) (n:Nat) (q:PV) (e next s:Nat) (j:Int):PF:=((((((((PF.nil.set 8 (.int .u64 s)).set 9 (u)).set 10 (v)).set 11 (.int .i64 n)).set 12 (q)).set 13 (.int .u64 e)).set 14 (.int .u64 next)).set 15 (.int .i64 j))
theorem xL (o s:Nat) (rs:List (List PV)) (L:List Nat):(aN L).map (fun r=>r.map (PV.cQ o s rs))=aN L:=by
 unfold aN;rw[List.map_map];rfl
theorem Yk {C:Ctx} (D:O2 C) (X m y w o o2 x s:Nat) (v e:List Nat) (h2:o2≠o) (h3:x≠o) (h4:x≠o2) (hv:Lim v) (R:v.length=m+2) (Δ:(aN e).take (m+2)=aN v) (Θ:m+2≤e.length) (ht:2147483648≤v[m+1])
  (Γ:y=w+(m+2)) (S:y≤10000) (U:List Nat) (E:tN X (val v) (m+2) y w w U (a8F w 0)) (K:cI) (F:PF) (H:PH)
  (B:(dI (.osl o 1 0 y) (.osl o2 1 0 (m+2)) (m+2) (.osl x 1 0 w) (v[m+1]) (v[m]) s ((w:Int)-1)).le F) (hH:H o=some (.rows 1 (aN U))) (ν:H o2=some (.rows 1 (aN e))) (μ:H x=some (.rows 1 (aN (a8F w 0))))
  (hK:∀ U' Q' W,tN X (val v) (m+2) y w 0 U' Q'→(dI (.osl o 1 0 y) (aK v) (m+2) (.osl x 1 0 w) (v[m+1]) (v[m]) s (-1)).le W→K .normal W ((PH.nil.set o (.rows 1 (aN U'))).set x (.rows 1 (aN Q')))) :
  aC.wp C (.block 2 (.loop JX)) K F H:=by
 have f8:=B 8 _ (by unfold dI; simp only[go_sem]; rfl);have f9:=B 9 _ (by unfold dI; simp only[go_sem]; rfl);have Z:=B 10 _ (by unfold dI; simp only[go_sem]; rfl);have f11:=B 11 _ (by unfold dI; simp only[go_sem]; rfl);have β:=B 12 _ (by unfold dI; simp only[go_sem]; rfl);have f13:=B 13 _ (by unfold dI; simp only[go_sem]; rfl);have f14:=B 14 _ (by unfold dI; simp only[go_sem]; rfl);have γ:=B 15 _ (by unfold dI; simp only[go_sem]; rfl);have I:¬ o=o2:=fun h=>h2 h.symm;have J:¬ x=o2:=h4;have V:¬ o=x:=fun h=>h3 h.symm;have υ:∀ (k:IntKind) (n:Int),PV.frz o2 1 (aN e) (.int k n)=.int k n:=fun _ _=>rfl;have χ:∀ l,PV.frz o2 1 (aN e) (.osl o 1 0 l)=.osl o 1 0 l:=fun l=>by simp only[PV.frz,PV.tX,PV.cQ,if_neg I]
 have φ:∀ l,PV.frz o2 1 (aN e) (.osl x 1 0 l)=.osl x 1 0 l:=fun l=>by simp only[PV.frz,PV.tX,PV.cQ,if_neg J]
 have ψ:PV.frz o2 1 (aN e) (.osl o2 1 0 (m+2))=aK v:=by
  have:0+(m+2)≤(aN e).length:=by rw[cV]; omega
  simp only[PV.frz,PV.tX,PV.cQ,if_true,true_and,if_pos this,a9R,Δ]
 simp only[go_sem];refine ajL (α:=Nat × List Nat × List Nat) (fun t=>dI (.osl o 1 0 y) (aK v) (m+2) (.osl x 1 0 w) (v[m+1]) (v[m]) s ((t.1:Int)-1)) (fun t=>(PH.nil.set o (.rows 1 (aN t.2.1))).set x (.rows 1 (aN t.2.2)))
  (fun t=>t.1≤w∧tN X (val v) (m+2) y w t.1 t.2.1 t.2.2) (fun t=>t.1) (w,U,a8F w 0) o2 ν ⟨a8J _,E⟩ ?_ ?_ ?_
 ·unfold dI;refine d_ (d_ (d_ (d_ (d_ (d_ (d_ (d_ c_ ?_) ?_) ?_) ?_) ?_) ?_) ?_) ?_<;>simp only[go_sem,f8,f9,Z,f11,β,f13,f14,γ,υ,χ,φ,ψ]
 ·refine e_ (e_ a_ ?_) ?_
  ·simp only[go_sem,I,hH,bZ.frz,xL]
  ·simp only[go_sem,J,μ,bZ.frz,xL]
 rintro⟨k,U,Q⟩ ⟨hk,E⟩;simp only at hk E;simp only[go_sem,JX,d9,dI];by_cases h0:0<k
 ·obtain⟨j,rfl⟩:∃ j,k=j+1:=⟨k-1,by omega⟩;have hz:((j+1:Nat):Int)-1=(j:Int):=Om;have ω:(j:Int)≥0:=Om;have O:val v<4294967296 ^ (m+2):=by have:=gY hv; rw[R] at this; exact this
  obtain⟨hlt,ξ⟩:=Ql E O Om Γ;have ρ:=E.lu';have ο:=E.lq';have hA:(U.take j).length=j:=by rw[a8W]; omega
  have σ:((U.drop j).take (m+3)).length=m+3:=by rw[a8W,a9Z]; omega
  have A:U.take j++(U.drop j).take (m+3)++U.drop (j+(m+3))=U:=by rw[a9L,← List.drop_drop,bbC,bbC]
  have τ:(U.drop (j+(m+3))).length=y-(j+(m+3)):=by rw[a9Z,ρ]
  have M:=On (C:=C) D (U.take j) ((U.drop j).take (m+3)) (U.drop (j+(m+3))) v Q m o x y s h3 ((E.limU.drop _).take _) hv R σ ht hlt (by rw[hA,τ]; omega) S (by rw[hA]; omega);rw[hA,A,ο] at M;have Y:IntKind.i64.wrap ((j:Int)-1)=(j:Int)-1:=wrap_i64 Om Om;simp only[go_sem,hz,ω];simp only[go_sem] at M;refine M _ _ _ ?_ (by simp only[go_sem,V]) Sq ?_
  ·unfold dF;exact Lq
  ·intro W H' u κ N;have g8:=u 8 _ (by unfold dF; simp only[go_sem]; rfl);have g9:=u 9 _ (by unfold dF; simp only[go_sem]; rfl);have δ:=u 10 _ (by unfold dF; simp only[go_sem]; rfl);have ε:=u 11 _ (by unfold dF; simp only[go_sem]; rfl);have ζ:=u 12 _ (by unfold dF; simp only[go_sem]; rfl);have η:=u 13 _ (by unfold dF; simp only[go_sem]; rfl);have θ:=u 14 _ (by unfold dF; simp only[go_sem]; rfl);have ι:=u 15 _ (by unfold dF; simp only[go_sem]; rfl);simp only[go_sem,eg,ι,Y];refine aG (j,_,_) ⟨by simp only; omega,ξ⟩ (by simp only; omega) ?_ (e_ (e_ a_ κ) N);refine d_ (d_ (d_ (d_ (d_ (d_ (d_ (d_ c_ ?_) ?_) ?_) ?_) ?_) ?_) ?_) ?_<;>simp only[go_sem,g8,g9,δ,ε,ζ,η,θ]
 ·have:k=0:=Om;subst this;have hz:¬ ((0:Nat):Int)-1≥0:=by decide
  simp only[go_sem,hz];refine hK U Q _ E ?_;unfold dI
  (repeat' (first|exact c_|refine d_ ?_ ?_))<;>first|(simp only[go_sem,show ((0:Nat):Int)-1=-1 from rfl]<;>rfl)|rfl
open Go Go.Na
def rFr (o j l e or n s i:Nat):PF:=((((((PF.nil.set 8 (.int .u64 s)).set 9 (.osl o 1 0 j)).set 12 (.osl l 1 0 e)).set 19 (.osl or 1 0 n)).set 166 (.int .i64 n)).set 167 (.int .i64 i))
theorem aYW {x s:Nat} (e:s≤64):shift .shr .u64 (x:Int) (s:Int)=some (.int .u64 ((x/2 ^ s:Nat):Int)):=by
 unfold shift;rw[if_neg Om];simp only;have:min (Int.toNat (s:Int)) IntKind.u64.bits=s:=by rw[show IntKind.u64.bits=64 from rfl]; omega
 rw[this,Int.fdiv_eq_ediv_of_nonneg _ (by exact_mod_cast a8K _)]
 norm_cast
theorem Yl {C:Ctx} (o w j lq n s:Nat) (U Q:List Nat) (hs:s<32) (h3:j≠o) (Z:Lim U) (hl:U.length=w) (hn:n<w) (ε:w≤10000) (K:cI) (F:PF)
  (f8:F 8=some (.int .u64 s)) (f9:F 9=some (.osl o 1 0 w)) (f11:F 11=some (.int .i64 n)) (ζ:F 12=some (.osl j 1 0 lq))
  (hK:∀ or F' H',or≠o→or≠j→(rFr o w j lq or n s n).le F'→H' j=some (.rows 1 (aN Q))→H' or=some (.rows 1 (aN (fB n (val U/2 ^ s))))→K .normal F' H') :
  aC.wp C (.seq (.region KJ) (.seq (.region KK) (.block 6 (.loop JY)))) K F ((PH.nil.set o (.rows 1 (aN U))).set j (.rows 1 (aN Q))):=by
 have γ:((n:Nat):Int)*((4:Nat):Int)≤140737488355328:=Om;have δ:((n:Nat):Int)≤9223372036854775807:=Om;have hz:a8F n [PV.int .u32 0]=aN ([]++a8F n 0):=by simp[aN]
 simp only[go_sem,KJ,f11,γ,δ,hz];refine aO fun or O=>?_;have n1:¬ or=j:=(lK.1 O).1;have n2:¬ or=o:=(lK.1 (lK.1 O).2).1;have A:¬ j=or:=fun h=>n1 h.symm;have B:¬ o=or:=fun h=>n2 h.symm;have n3:¬ j=o:=h3;have E:¬ o=j:=fun h=>n3 h.symm;simp only[go_sem,KK];refine wp_loop (α:=List Nat) (fun P=>rFr o w j lq or n s P.length) (fun P=>((PH.nil.set o (.rows 1 (aN U))).set j (.rows 1 (aN Q))).set or (.rows 1 (aN (P++a8F (n-P.length) 0)))) (fun P=>P.length≤n∧P=fB P.length (val U/2 ^ s)) (fun P=>n-P.length) []
  ⟨by simp,rfl⟩ ?_ ?_ ?_
 ·unfold rFr;exact Lq
 ·refine e_ (e_ (e_ a_ ?_) ?_) ?_<;>simp only[go_sem,n1,A,n2,B,n3,E,baX]
 rintro P ⟨hP,hD⟩;simp only[go_sem,JY,el,rFr];by_cases c1:P.length<n
 ·have u:(P.length:Int)<(n:Nat):=Om;obtain⟨k,hk⟩:∃ k,n-P.length=k+1:=⟨n-P.length-1,by omega⟩;have β:(aN (P++a8F (k+1) 0))[P.length]?=some [.int .u32 ((0:Nat):Int)]:=by rw[cF _ (by simp)]; simp
  have V:P.length<U.length:=Om;have a1:P.length+1<U.length:=Om;have b0:(P.length:Int)<(w:Nat):=Om;have b1:((P.length+1:Nat):Int)<(w:Nat):=Om;have η:=Z _ (a8G V);have θ:=Z _ (a8G a1);have e:val U/4294967296 ^ P.length=U[P.length]+4294967296*(U[P.length+1]+4294967296*val (U.drop (P.length+2))):=by rw[← AR Z Om,baR V,baR a1];rfl
  have N:=gf hs e;have g0:=cF U V;have g1:=cF U a1;generalize ι:U[P.length]=y at *
  generalize κ:U[P.length+1]=l at *
  have e1:IntKind.i64.wrap ((P.length:Int)+1)=((P.length+1:Nat):Int):=dW Om;have X:IntKind.u64.wrap ((y:Nat):Int)=((y:Nat):Int):=bK Om;have Y:IntKind.u64.wrap ((l:Nat):Int)=((l:Nat):Int):=bK Om;have J:shift .shl .u64 (l:Int) 32=some (.int .u64 ((2 ^ 32*l:Nat):Int)):=SE (s:=32) Om Om;have W:(2:Nat) ^ 32=4294967296:=by decide
  have I:=orI (a:=2 ^ 32*l) (b:=y) (n:=2 ^ 32*l+y) Om Om (Nat.two_pow_add_eq_or_of_lt Om l).symm Om;rw[W] at J I;have M:=aYW (x:=4294967296*l+y) (s:=s) Om;have S:(aN (P++a8F (k+1) 0)).set P.length [.int .u32 (((4294967296*l+y)/2 ^ s%4294967296:Nat):Int)]=aN ((P++[(4294967296*l+y)/2 ^ s%4294967296])++a8F k 0):=by rw[jB,FO]
  simp only[go_sem,u,ep];refine aV .nil cA a_ ?_;simp only[go_sem,e8,u,e1,b0,b1,B,E,g0,g1,X,Y,J,I,M,dE,hk,β,S];refine⟨a_,?_⟩;simp only[go_sem,fa,e1];refine aG (P++[(4294967296*l+y)/2 ^ s%4294967296]) ⟨by simp; omega,?_⟩ (by simp; omega) ?_ (e_ (e_ (e_ a_ ?_) ?_) ?_)
  ·rw[a8H,a8N,BR,← hD,N]
  ·rw[a8H,a8N];exact Lq
  ·simp only[go_sem,B,E]
  ·simp only[go_sem,A]
  ·rw[a8H,a8N,show n-(P.length+1)=k by omega];simp only[go_sem]
 ·have e:P.length=n:=Om;have u:¬ (P.length:Int)<(n:Nat):=Om;have R:a8F (n-P.length) 0=[]:=by rw[show n-P.length=0 by omega]; rfl
  rw[e] at hD;simp only[go_sem,u,R,a9W];refine hK or _ _ n2 n1 ?_ (by simp only[go_sem,A]) (by simp only[go_sem]; rw[← hD]);unfold rFr;rw[e];exact Lq
structure Pu (C:Ctx):Prop where
 L:wG C
 D:O2 C
 up:∀ (a:List Nat) (s:Nat),Lim a→s<32→a.length≤1000→aH C 143 [aK a,.int .u64 s] .nil (upR a s)
 short:∀ (a:List Nat) (d:Nat),Lim a→0<d→d<4294967296→a.length≤1000→aH C 140 [aK a,.int .u32 d] .nil (aI (.tup [aK (aJ (val a/d)),.int .u32 ((val a%d:Nat):Int)]))
 lengthO:∀ (xs:List Nat) (o:Nat),Lim xs→xs.length≤35184372087808→aH C 138 [.osl o 1 0 xs.length] (PH.nil.set o (.rows 1 (aN xs))) (fun r H'=>r=.int .i64 (nl (val xs):Nat)∧H'=PH.nil.set o (.rows 1 (aN xs)))
def aMC:Spec:=fun name vs=>match name,vs with
 | 143,[x,.int _ s]=>some ([],fun _=>upR (mD x) s.toNat)
 | 138,[.osl q _ _ _]=>some ([q],fun H0 r H'=>H'=H0∧∀ xs,Lim xs→H0 q=some (.rows 1 (aN xs))→r=.int .i64 (nl (val xs):Nat))
 | _,_=>none
theorem ajZ (a:List Nat) (s:Nat):aMC 143 [aK a,.int .u64 s]=some ([],fun _=>upR a s):=by
 show some _=_; rw[fQ,bbI]
theorem afC (a:List Nat) (s:Nat):∀ G:PH,∃ r H',upR a s r H'∧oL G .nil H':=fun G=>by
 obtain⟨o,l⟩:=G.fresh;refine⟨_,_,⟨o,rfl,rfl⟩,fun q x j _=>?_⟩;rw[aS] at j;split at j
 ·rename_i e; subst e; exact l
 ·cases j
theorem XH {xs e:List Nat} (h:aN xs=aN e):xs=e:=by
 have:=congrArg mD (show aK xs=aK e by show PV.sl 1 (aN xs)=PV.sl 1 (aN e); rw[h])
 rwa [fQ,fQ] at this
theorem Lc (q:Nat) (L:List Nat):(PH.nil.set q (.rows 1 (aN L)))=(PH.nil.set q (.rows 1 (aN L)))∧∀ xs,Lim xs→(PH.nil.set q (.rows 1 (aN L))) q=some (.rows 1 (aN xs))→(PV.int .i64 (nl (val L):Nat))=.int .i64 (nl (val xs):Nat):=by
 refine⟨rfl,fun xs j e=>?_⟩;rw[bS] at e;have:aN L=aN xs:=(bZ.rows.inj (baP.inj e)).2;rw[XH this]
def vS (A B:Nat):PV:=.tup [aK (aJ (A/B)),aK (aJ (A%B))]
def aCI (a b:List Nat) (s:Nat):PF:=(((PF.nil.set 0 (aK a)).set 1 (aK b)).set 8 (.int .u64 s))
theorem aWD {x s:Nat} (e:s≤31) (h:x*2 ^ s<4294967296):shift .shl .u32 (x:Int) (s:Int)=some (.int .u32 ((x*2 ^ s:Nat):Int)):=by
 unfold shift;rw[if_neg Om];simp only;have:min (Int.toNat (s:Int)) IntKind.u32.bits=s:=by rw[show IntKind.u32.bits=32 from rfl]; omega
 rw[this,show (x:Int)*2 ^ s=((x*2 ^ s:Nat):Int) by simp,dE,a9V h]
theorem ahH {n i x:Nat} (e:(a8F n 0)[i]?=some x):x=0:=by
 have:=baA e;rw[List.mem_replicate] at this;exact this.2
theorem aCK {C:Ctx} (K:Pu C) (A B:Nat) (hB:B≠0) (hA:nl A≤900) (k':nl B≤900) :
  GQ.wp C (aT Ct.res (cP (vS A B))) (PF.args [aK (aJ A),aK (aJ B)]) .nil:=by
 have LA:=aX A;have LB:=aX B;have vA:=aU A;have vB:=aU B;have lA:(aJ A).length=nl A:=rfl;have lB:(aJ B).length=nl B:=rfl;simp only[go_sem,GQ,v6,v7,Ct];refine aB (K.L.cmp _ _ LA LB Om Om) rfl ?_;rw[vA,vB];by_cases c1:A<B
 ·have hc:eQ A B<0:=by simp[eQ,c1]
  simp only[go_sem,hc,v8];refine aB (K.L.trim _ LA Om) rfl ?_;rw[vA];simp only[go_sem];refine bA (vs:=[.aD,aK (aJ A)]) (.inr rfl) .nil rfl a_ ⟨?_,rfl⟩;rw[vS,bbL c1,a9V c1,jD];refine .tup rfl fun j p q hp hq=>?_
  match j with
  | 0=>simp at hp hq; subst hp; subst hq; exact .nil 1
  | 1=>simp at hp hq; subst hp; subst hq; exact .refl _
  | j+2=>simp at hp
 have hc:¬ eQ A B<0:=by unfold eQ;rw[if_neg c1];split<;>decide
 have W:0<B:=baV hB;have n':nl B≠0:=fun h=>hB (kX.1 h);simp only[go_sem,hc,wa];by_cases c2:nl B=1
 ·have ε:B<4294967296:=by have:=(lS B 1).1 Om; simpa using this
  have Ψ:aJ B=[B]:=sZ hB ε;have hr:A%B<B:=baC _ W;have ew:IntKind.u64.wrap ((A%B:Nat):Int)=((A%B:Nat):Int):=bK Om;rw[Ψ];have ρ:=K.short (aJ A) B LA W ε Om;rw[vA] at ρ;simp only[go_sem,show (((1:Nat):Int)==1)=true from rfl,wc];refine aB ρ rfl ?_;simp only[go_sem,wd,ew];refine aB (K.L.make (A%B) Om) rfl ?_;simp only[go_sem];exact bA (vs:=[aK (aJ (A/B)),aK (aJ (A%B))]) (.inr rfl) .nil rfl a_ ⟨.refl _,rfl⟩
 obtain⟨m,hm⟩:∃ m,nl B=m+2:=⟨nl B-2,by omega⟩;have j':nl B≤nl A:=jK Om;obtain⟨bt,y,g'⟩:=adI LB (n:=m+1) (by rw[vB]; exact hm);have O:m+1<(aJ B).length:=Om;have μ:bt<4294967296:=LB bt (baA y);have l':B=val ((aJ B).take (m+1))+4294967296 ^ (m+1)*bt:=by have u:=cY (aJ B) O;rw[a8V Om,vB] at u;rw[a8L O] at y;rw[baP.inj y] at u;exact u
 have X:=gY (LB.take (m+1));rw[a8W,baO Om] at X;have ο:(aN (aJ B))[m+1]?=some [.int .u32 ((bt:Nat):Int)]:=by rw[cF _ O];rw[a8L O] at y;rw[baP.inj y]
 have i1:IntKind.i64.wrap ((((aJ B).length:Nat):Int)-1)=((m+1:Nat):Int):=by rw[wrap_i64 Om Om]; omega
 have ν:¬ (((aJ B).length:Nat):Int)=1:=Om;simp only[go_sem,bD ν,we];refine wp_loop (α:=Nat) (fun s=>aCI (aJ A) (aJ B) s) (fun _=>.nil) (fun s=>s≤31∧bt*2 ^ s<4294967296) (fun s=>32-s) 0 ⟨by omega,by simpa using μ⟩ ?_ a_ ?_
 ·unfold aCI;exact Lq
 rintro s ⟨hs,Ξ⟩;have χ:=aWD hs Ξ;simp only[go_sem,vz,wg,aCI,i1,ο,χ];refine aLX ?_ ?_
 ·intro c3;have φ:=of_decide_eq_true c3;have h':s<31:=by
   rcases a8Z s 31 with h | h
   ·exact h
   ·exfalso;have u:2147483648≤2 ^ s:=Nat.pow_le_pow_right (show 0<2 by decide) h;have M:1*2 ^ s≤bt*2 ^ s:=a9H _ Om;omega
  have es:IntKind.u64.wrap ((s:Int)+1)=((s+1:Nat):Int):=by rw[wrap_u64 Om Om]; omega
  simp only[go_sem,wh,es];refine aG (s+1) ⟨by omega,by rw[baG,← a9C]; omega⟩ Om ?_ a_;exact Lq
 intro c3;have φ:=of_decide_eq_false c3;have F:s<32:=Om;have E:0<2 ^ s:=bbD (by decide);have V:2147483648*4294967296 ^ (m+1)≤B*2 ^ s:=by
  have u:2147483648*4294967296 ^ (m+1)≤(bt*2 ^ s)*4294967296 ^ (m+1):=a9H _ Om;have M:(4294967296 ^ (m+1)*bt)*2 ^ s≤B*2 ^ s:=a9H _ Om;have h3:(4294967296 ^ (m+1)*bt)*2 ^ s=(bt*2 ^ s)*4294967296 ^ (m+1):=by rw[a9C,a9E]
  omega
 have κ:B*2 ^ s<4294967296 ^ (m+2):=by
  have h0:(bt+1)*2 ^ s≤4294967296:=by
   have i':(4294967296:Nat)=2 ^ (32-s)*2 ^ s:=by rw[← Nat.pow_add,show 32-s+s=32 by omega]
   have:bt<2 ^ (32-s):=by
    rcases a8Z bt (2 ^ (32-s)) with h | h
    ·exact h
    ·have:=a9H (2 ^ s) h;omega
   have:=a9H (2 ^ s) (show bt+1≤2 ^ (32-s) from this);omega
  have u:B<(bt+1)*4294967296 ^ (m+1):=by rw[a9O,Nat.one_mul,a9E bt]; omega
  have M:B*2 ^ s<(bt+1)*4294967296 ^ (m+1)*2 ^ s:=Nat.mul_lt_mul_of_pos_right u E;have h3:(bt+1)*4294967296 ^ (m+1)*2 ^ s=(bt+1)*2 ^ s*4294967296 ^ (m+1):=Nat.mul_right_comm _ _ _;have h4:(bt+1)*2 ^ s*4294967296 ^ (m+1)≤4294967296*4294967296 ^ (m+1):=a9H _ h0;have h5:4294967296 ^ (m+2)=4294967296*4294967296 ^ (m+1):=by rw[baG,a9E]
  omega
 have U:A<4294967296 ^ nl A:=(lS A _).1 (a8J _);simp only[go_sem];refine aV .nil aMC a_ ?_;simp only[go_sem,dy];have ua:=K.up (aJ A) s LA F Om;have ub:=K.up (aJ B) s LB F Om;refine ajY (ajZ (aJ A) s) ua rfl (afC _ _) ?_;rintro r H' ⟨o,rfl,rfl⟩ -;rw[PH.uD,lA,vA];refine⟨a_,?_⟩;simp only[go_sem];refine ajY (ajZ (aJ B) s) ub rfl (afC _ _) ?_;rintro r H' ⟨o2,rfl,rfl⟩ Λ;rw[PH.uD,lB,vB,hm];refine⟨a_,?_⟩;have Φ:=Λ o2 _ (by rw[aS,if_pos rfl]) (by rfl);have τ:¬ o2=o:=(lK.1 Φ).1;have e':¬ o=o2:=fun h=>τ h.symm;have k1:((m+2:Nat):Int)≤((m+2+1:Nat):Int):=Om;have k2:IntKind.i64.wrap (((nl A+1:Nat):Int)-((m+2:Nat):Int))=((nl A+1-(m+2):Nat):Int):=by rw[wrap_i64 Om Om]; omega
 obtain⟨e,Ω⟩:∃ e,nl A+1-(m+2)=e:=⟨_,rfl⟩;have a':nl A+1=e+(m+2):=Om;rw[Ω] at k2;have k3:((e:Nat):Int)*((4:Nat):Int)≤140737488355328:=Om;have k4:((e:Nat):Int)≤9223372036854775807:=Om;have hz:a8F e [PV.int .u32 0]=aN (a8F e 0):=by simp[aN]
 have k5:m+2-0=m+2:=Om;simp only[go_sem,lB,hm,k1,k5,dz,d6,k2,k3,k4,hz];refine aO fun J ξ=>?_;have q2:¬ J=o2:=(lK.1 ξ).1;have q1:¬ J=o:=(lK.1 (lK.1 ξ).2).1;have υ:¬ o2=J:=fun h=>q2 h.symm;have f':¬ o=J:=fun h=>q1 h.symm;have b':fB (m+2+1) (B*2 ^ s)=fB (m+2) (B*2 ^ s)++[B*2 ^ s/4294967296 ^ (m+2)%4294967296]:=BR _ _;have Lv:=qW (m+2) (B*2 ^ s);have lv:=pN (m+2) (B*2 ^ s);have vv:val (fB (m+2) (B*2 ^ s))=B*2 ^ s:=tG κ;have σ:(aN (fB (m+2+1) (B*2 ^ s))).take (m+2)=aN (fB (m+2) (B*2 ^ s)):=by unfold aN;rw[← List.map_take,b',List.take_append_of_le_length Om,a8V Om]
 generalize q':fB (m+2) (B*2 ^ s)=v at *
 have r':(fB (m+2+1) (B*2 ^ s)).length=m+2+1:=pN _ _;have S:∀ i (h:i<v.length),(aN (fB (m+2+1) (B*2 ^ s)))[i]?=some [.int .u32 ((v[i]:Nat):Int)]:=by intro i h;have u:(aN v)[i]?=some [.int .u32 ((v[i]:Nat):Int)]:=cF v h;rw[← σ,List.getElem?_take_of_lt Om] at u;exact u
 have g1:=S (m+1) Om;have g0:=S m Om;have htop:2147483648≤v[m+1]:=by
  have u:=cY v (Om:m+1<v.length);rw[a8V Om,vv] at u;have M:=gY (Lv.take (m+1));rw[a8W,baO Om] at M;rcases a8Z v[m+1] 2147483648 with h | h
  ·exfalso;have h3:4294967296 ^ (m+1)*(v[m+1]+1)≤4294967296 ^ (m+1)*2147483648:=baU _ h;rw[a8T,Nat.mul_one] at h3;rw[a9E 2147483648] at V;omega
  ·exact h
 have p':=Lv _ (a8G (Om:m+1<v.length));have o':=Lv _ (a8G (Om:m<v.length));have w1:IntKind.u64.wrap ((v[m+1]:Nat):Int)=((v[m+1]:Nat):Int):=bK Om;have w0:IntKind.u64.wrap ((v[m]:Nat):Int)=((v[m]:Nat):Int):=bK Om;have j1:IntKind.i64.wrap (((m+2:Nat):Int)-1)=((m+1:Nat):Int):=by rw[wrap_i64 Om Om]; omega
 have j0:IntKind.i64.wrap (((m+2:Nat):Int)-2)=((m:Nat):Int):=by rw[wrap_i64 Om Om]; omega
 have d1:((m+1:Nat):Int)<((m+2:Nat):Int):=Om;have d0:((m:Nat):Int)<((m+2:Nat):Int):=Om;have jq:IntKind.i64.wrap ((e:Int)-1)=(e:Int)-1:=wrap_i64 Om Om;simp only[go_sem];refine aV .nil cA a_ ?_;simp only[go_sem,d7,j1,j0,d1,d0,υ,g1,g0,w1,w0,d8,jq];have ι:A*2 ^ s<4294967296 ^ (nl A+1):=by
  have h0:2 ^ s≤4294967296:=by have:(2:Nat) ^ s≤2 ^ 32:=Nat.pow_le_pow_right (by decide) Om;simpa using this
  have u:A*2 ^ s<4294967296 ^ nl A*2 ^ s:=Nat.mul_lt_mul_of_pos_right U E;have M:4294967296 ^ nl A*2 ^ s≤4294967296 ^ nl A*4294967296:=baU _ h0;rw[baG]; omega
 have LU:=qW (nl A+1) (A*2 ^ s);have lU:=pN (nl A+1) (A*2 ^ s);have vU:val (fB (nl A+1) (A*2 ^ s))=A*2 ^ s:=tG ι;have hI:tN (A*2 ^ s) (val v) (m+2) (nl A+1) e e (fB (nl A+1) (A*2 ^ s)) (a8F e 0):=by
  refine⟨lU,bbP,LU,BW _,by rw[vU,xW]; omega,?_,fun i x _ hx=>ahH hx⟩
  ·rw[AR LU Om,vU,vv,bbM (bbD (by decide))];have u:A*2 ^ s<4294967296 ^ nl A*2 ^ s:=Nat.mul_lt_mul_of_pos_right U E;have hx:nl A=m+1+e:=Om;have M:4294967296 ^ nl A=4294967296 ^ (m+1)*4294967296 ^ e:=by rw[hx,Nat.pow_add]
   have h3:2 ^ s≤2147483648:=by have:(2:Nat) ^ s≤2 ^ 31:=Nat.pow_le_pow_right (by decide) hs;simpa using this
   have h4:4294967296 ^ nl A*2 ^ s≤(2147483648*4294967296 ^ (m+1))*4294967296 ^ e:=by rw[M,a9E (4294967296 ^ (m+1)*4294967296 ^ e),← a9C];exact a9H _ (a9H _ h3)
   have h5:(2147483648*4294967296 ^ (m+1))*4294967296 ^ e≤B*2 ^ s*4294967296 ^ e:=a9H _ V;omega
 have β:=Yk (C:=C) K.D (A*2 ^ s) m (nl A+1) e o o2 J s v (fB (m+2+1) (B*2 ^ s)) τ q1 q2 Lv lv σ Om htop a' Om _ hI;simp only[go_sem] at β;refine β _ _ _ ?_ (by simp only[go_sem,e',f']) (by simp only[go_sem,υ]) Sq ?_
 ·unfold dI;exact Lq
 clear β;intro U' w F' l N;have hu:val U'<val v:=by have:=l.r; rwa [a9R] at this
 have Z:=l.v;rw[vv] at hu Z;have Θ:0<B*2 ^ s:=Om;have Γ:val w=A/B:=by
  have:A*2 ^ s/(B*2 ^ s)=val w:=by rw[← Z,Nat.add_mul_div_right _ _ Θ,bbL hu,a8R]
  rw[← this,Nat.mul_div_mul_right _ _ E]
 have Δ:val U'/2 ^ s=A%B:=by
  have:A*2 ^ s%(B*2 ^ s)=val U':=by rw[← Z,Nat.add_mul_mod_self_right,a9V hu]
  rw[← this,Nat.mul_mod_mul_right,Nat.mul_div_cancel _ E]
 have g8:=N 8 _ (by unfold dI; simp only[go_sem]; rfl);have g9:=N 9 _ (by unfold dI; simp only[go_sem]; rfl);have ψ:=N 11 _ (by unfold dI; simp only[go_sem]; rfl);have ω:=N 12 _ (by unfold dI; simp only[go_sem]; rfl);have I:=Yl (C:=C) o (nl A+1) J e (m+2) s U' w F q1 l.limU l.lu' Om Om;simp only[go_sem] at I;simp only[go_sem];refine I _ _ g8 g9 ψ ω ?_;clear I;intro or F2 H2 r1 r2 ζ η Y;rw[Δ] at Y;have c':=ζ 12 _ (by unfold rFr; simp only[go_sem]; rfl);have d':=ζ 19 _ (by unfold rFr; simp only[go_sem]; rfl);have θ:A%B<4294967296 ^ (m+2):=by have u:A%B<B:=baC _ W;have M:B<4294967296 ^ nl B:=(lS B _).1 (a8J _);rw[hm] at M; omega
 have LR:=qW (m+2) (A%B);have lR:=pN (m+2) (A%B);have vR:val (fB (m+2) (A%B))=A%B:=tG θ;have nQ:=jA l.limQ;have nR:=jA LR;have e1:=l.lq';generalize m':fB (m+2) (A%B)=R at *
 simp only[go_sem];refine aV .nil aMC a_ ?_;simp only[go_sem,fc,c'];have γ:=K.lengthO w J l.limQ Om;rw[e1] at γ;have δ:=K.lengthO R or LR Om;rw[lR] at δ;refine NZ (o:=J) (x:=.rows 1 (aN w)) (v:=.int .i64 (nl (val w):Nat)) rfl η γ (Lc J w) (fun r H' hr=>⟨hr.2 w l.limQ (by rw[bS]),hr.1⟩) rfl a_ ?_;have c4:((nl (val w):Nat):Int)≤(e:Nat):=Om;simp only[go_sem,c4,d',Nat.sub_zero];refine NZ (o:=or) (x:=.rows 1 (aN R)) (v:=.int .i64 (nl (val R):Nat)) rfl Y δ (Lc or R) (fun r H' hr=>⟨hr.2 R LR (by rw[bS]),hr.1⟩) rfl a_ ?_;have c5:((nl (val R):Nat):Int)≤((m+2:Nat):Int):=Om;simp only[go_sem,c5];refine aJJ (o1:=J) (o2:=or) (s1:=1) (s2:=1) (k1:=nl (val w)) (k2:=nl (val R)) (rs1:=aN w) (rs2:=aN R) (.inr rfl) (fun h=>r2 h.symm) rfl rfl η Y (by rw[cV]; exact nQ) (by rw[cV]; exact nR) (xL _ _ _ _) rfl ⟨?_,rfl⟩;have t1:(aN w).take (nl (val w))=aN (aJ (A/B)):=by have:=mI l.limQ;rw[Γ] at this ⊢;exact this
 have t2:(aN R).take (nl (val R))=aN (aJ (A%B)):=by have:=mI LR;rw[vR] at this ⊢;exact this
 rw[t1,t2];exact .refl _
def aMV (a b:Nat):PF:=((PF.nil.set 0 (aK (aJ a))).set 1 (aK (aJ b)))
theorem aVF {C:Ctx} (L:wG C) (e:∀ A B:Nat,B≠0→nl A≤900→nl B≤900→aH C 136 [aK (aJ A),aK (aJ B)] .nil (aI (vS A B))) (a b:List Nat) (E:Lim a) (hb:Lim b) (I:a.length≤35184372087808) (J:b.length≤35184372087808) :
  XF.wp C (aT aOS.res (cP (if fD (val a) (val b) then .tup [aK [],.int .i64 2] else .tup [aK (aJ (a8I (val a) (val b))),.int .i64 0]))) (PF.args [aK a,aK b]) .nil:=by
 simp only[go_sem,XF,arT,arU,aOS];refine aB (L.large a E I) rfl ?_;by_cases j:nl (val a)>512
 ·simp only[go_sem,j,Cz];rw[if_pos (by simp[fD,j])];exact gG rfl
 simp only[go_sem,j];refine aB (L.large b hb J) rfl ?_;by_cases l:nl (val b)>512
 ·simp only[go_sem,l,Cz];rw[if_pos (by simp[fD,l])];exact gG rfl
 rw[if_neg (by simp[fD,j,l])];simp only[go_sem,l,arV];refine aB (L.trim a E I) rfl ?_;simp only[go_sem];refine aB (L.trim b hb J) rfl ?_;simp only[go_sem];refine wp_loop (α:=Nat × Nat) (fun t=>aMV t.1 t.2) (fun _=>.nil) (fun t=>a8I t.1 t.2=a8I (val a) (val b)∧nl t.1≤512∧nl t.2≤512) (fun t=>t.2) (val a,val b) ⟨rfl,by simp only; omega,by simp only; omega⟩ ?_ a_ ?_
 ·unfold aMV;exact Lq
 rintro⟨x,y⟩ ⟨w,K,F⟩;simp only at w K F;simp only[go_sem,arS,arW,aMV,bC];by_cases u:y=0
 ·subst u;have:¬ ((nl 0:Nat):Int)>0:=by rw[FK]; decide
  simp only[go_sem,this,arZ];refine bA (vs:=[aK (aJ x),.int .i64 0]) (.inr rfl) .nil rfl a_ ⟨?_,rfl⟩;rw[← w,Nat.gcd_zero_right];exact .refl _
 ·have M:nl y≠0:=fun h=>u (kX.1 h);have:((nl y:Nat):Int)>0:=Om;simp only[go_sem,this,arX];refine aB (e x y u Om Om) rfl ?_;simp only[go_sem,vS,arY];have hlt:x%y<y:=baC _ (baV u);refine aG (y,x%y) ⟨?_,F,?_⟩ hlt ?_ a_
  ·simp only;rw[← w,Nat.gcd_comm y,← Nat.gcd_rec y x,Nat.gcd_comm]
  ·have:=jK (Nat.le_of_lt hlt);simp only; omega
  ·exact Lq
def rG (A B:Nat):PV:=if fD A B then .tup [aK [],aK [],.int .i64 2] else if B=0 then .tup [aK [],aK [],.int .i64 3] else .tup [aK (aJ (A/B)),aK (aJ (A%B)),.int .i64 0]
def aCJ:Spec:=fun name vs=>match name,vs with
 | 138,[x]=>some ([],fun _=>aI (.int .i64 (nl (val (mD x)):Nat)))
 | 136,[x,y]=>some ([],fun _=>aI (vS (val (mD x)) (val (mD y))))
 | _,_=>none
theorem XB (xs:List Nat):aCJ 138 [aK xs]=some ([],fun _=>aI (.int .i64 (nl (val xs):Nat))):=by
 show some _=_; rw[fQ]
theorem Yj (A B:Nat):aCJ 136 [aK (aJ A),aK (aJ B)]=some ([],fun _=>aI (vS A B)):=by
 show some _=_; rw[fQ,fQ,aU,aU]
theorem xP {res:List eS} {F:PF} {H:PH} {e:Int} (h:eS.evs F H res=some [.aD,.aD,.int .i64 e]):aT res (cP (.tup [aK [],aK [],.int .i64 e])) .ret F H:=by
 refine bA (.inr rfl) .nil h a_ ⟨?_,rfl⟩;refine .tup rfl fun j p q l hq=>?_
 match j with
 | 0=>simp at l hq; subst l; subst hq; exact .nil 1
 | 1=>simp at l hq; subst l; subst hq; exact .nil 1
 | 2=>simp at l hq; subst l; subst hq; exact .refl _
 | j+3=>simp at l
theorem aVA {C:Ctx} (L:wG C) (l:∀ A B:Nat,B≠0→nl A≤900→nl B≤900→aH C 136 [aK (aJ A),aK (aJ B)] .nil (aI (vS A B))) (a b:List Nat) (w:Lim a) (hb:Lim b) (F:a.length≤35184372087808) (E:b.length≤35184372087808) :
  XC.wp C (aT aOO.res (cP (rG (val a) (val b)))) (PF.args [aK a,aK b]) .nil:=by
 simp only[go_sem,XC,arD,arE,aOO];refine aB (L.large a w F) rfl ?_;by_cases e:nl (val a)>512
 ·simp only[go_sem,e,Cs];rw[show rG (val a) (val b)=.tup [aK [],aK [],.int .i64 2] by simp[rG,fD,e]];exact xP rfl
 simp only[go_sem,e];refine aB (L.large b hb E) rfl ?_;by_cases u:nl (val b)>512
 ·simp only[go_sem,u,Cs];rw[show rG (val a) (val b)=.tup [aK [],aK [],.int .i64 2] by simp[rG,fD,u]];exact xP rfl
 simp only[go_sem,u,arF];refine aB (L.length b hb E) rfl ?_;by_cases j:val b=0
 ·have:((nl (val b):Nat):Int)=0:=by rw[j,FK]; rfl
  simp only[go_sem,bP this,arG];rw[show rG (val a) (val b)=.tup [aK [],aK [],.int .i64 3] by simp[rG,fD,e,j,FK]];exact xP rfl
 have I:nl (val b)≠0:=fun h=>j (kX.1 h);rw[show rG (val a) (val b)=.tup [aK (aJ (val a/val b)),aK (aJ (val a%val b)),.int .i64 0] by simp[rG,fD,e,u,j]];simp only[go_sem,bD (show ((nl (val b):Nat):Int)≠0 by omega)];refine aV .nil aCJ a_ ?_;simp only[go_sem,arH];have J:=jA w;have K:=jA hb;have x:((nl (val a):Nat):Int)≤(a.length:Nat):=Om;have y:((nl (val b):Nat):Int)≤(b.length:Nat):=Om;refine cC (XB a) (L.length a w F) rfl a_ ?_;simp only[go_sem,x,or_true,a9R,mI w];refine cC (XB b) (L.length b hb E) rfl a_ ?_;simp only[go_sem,y,or_true,a9R,mI hb];refine cC (Yj (val a) (val b)) (l _ _ j Om Om) rfl a_ ?_;simp only[go_sem,vS,arI];exact bA (.inr rfl) .nil rfl a_ ⟨.refl _,rfl⟩
def su:List Nat:=[]
def nI:=bM su Proofs.Tryz.f123
def sk:=aA nI 0
def sm:=aA nI 1
def sn:=aA nI 2
def sr:=aA nI 3
def ss:=aA nI 4
def OG:=aA nI 5
def DF:=aA nI 6
def OH:=aA nI 7
def GG:aC:=(sq sk (.seq (sq sm (sq sn (.cond (Tm 18) (sq sr (.region ss)) .skip))) (.seq (sq OG (.cond (Tm 40) (sq DF .ret) .skip)) (sq OH .ret))))
def zW:aW:=⟨3,53,GG,[.cell 6 (some 3),.tmp 7]⟩
def Fl:List Nat:=[]
def JK:=bM Fl Proofs.Tryz.f127
def Fi:=aA JK 0
def Fj:=aA JK 1
def Fk:=aA JK 2
def JJ:aC:=(sq Fi (sq Fj (sq Fk .ret)))
def Sa:aW:=⟨2,14,JJ,[.tmp 4]⟩
def Sy:List Nat:=[1]
def th:=bM Sy Proofs.Tryz.f128
def Sw:=aA th 0
def Sx:=aA th 1
def OO:aC:=(sq Sw (sq Sx .ret))
def aAT:aW:=⟨1,7,OO,[.tmp 2]⟩
def Rf:List Nat:=[]
def DG:=bM Rf Proofs.Tryz.f92
def Ra:=aA DG 0
def Rb:=aA DG 1
def Rc:=aA DG 2
def Re:=aA DG 3
def OI:aC:=(sq Ra (.seq (sq Rb (.cond (Tm 7) (sq Rc .ret) .skip)) (sq Re .ret)))
def O5:aW:=⟨2,21,OI,[.cell 4 (some 3),.tmp 5]⟩
def akI:List Nat:=[]
def HU:=bM akI Proofs.Tryz.f124
def akE:=aA HU 0
def akF:=aA HU 1
def akG:=aA HU 2
def akH:=aA HU 3
def VQ:aC:=(sq akE (.seq (sq akF (.cond (Tm 4) (sq akG .ret) .skip)) (sq akH .ret)))
def aMF:aW:=⟨1,12,VQ,[.tmp 2]⟩
def Fp:List Nat:=[1]
def JM:=bM Fp Proofs.Tryz.f125
def Fm:=aA JM 0
def Fo:=aA JM 1
def HY:=aA JM 2
def JL:aC:=(sq Fm (sq Fo (sq HY .ret)))
def Sb:aW:=⟨1,19,JL,[.tmp 2]⟩
def tf:List Nat:=[1]
def yL:=bM tf Proofs.Tryz.f119
def tb:=aA yL 0
def tc:=aA yL 1
def td:=aA yL 2
def te:=aA yL 3
def GH:aC:=(sq tb (.seq (sq tc (.cond (Tm 6) (sq td .ret) .skip)) (sq te .ret)))
def bk:aW:=⟨1,17,GH,[.cell 2 (some 3),.tmp 3]⟩
def alG:List Nat:=[2,3]
def mU:=bM alG Proofs.Tryz.f93
def alC:=aA mU 0
def alD:=aA mU 1
def Br:=aA mU 2
def alE:=bT mU 0
def alF:=bT mU 1
def EZ:=aA mU 3
def Bs:=aA mU 4
def MU:=aA mU 5
def Bt:=aA mU 6
def bi:=aA mU 7
def i6:=aA mU 8
def i7:=aA mU 9
def VT:aC:=(sq alC (.seq (sq alD (.cond (Tm 16) (sq Br .ret) .skip)) (dq alE (dq alF (.seq (.block 0 (sq EZ (.cond (Tm 42) (sq Bs .ret) (sq MU (.cond (Tm 49) (sq Bt .ret) (sq bi (.cond (Tm 51) (sq i6 .ret) .skip))))))) (sq i7 .ret))))))
def aMH:aW:=⟨2,54,VT,[.tmp 4,.tmp 5]⟩
def akS:List Nat:=[2,3]
def mT:=bM akS Proofs.Tryz.f122
def akJ:=aA mT 0
def akK:=aA mT 1
def Bq:=aA mT 2
def akL:=bT mT 0
def akM:=aA mT 3
def akN:=aA mT 4
def akO:=aA mT 5
def akP:=aA mT 6
def akQ:=aA mT 7
def akR:=aA mT 8
def Qu:=aA mT 9
def Qv:=aA mT 10
def VR:aC:=(sq akJ (.seq (sq akK (.cond (Tm 22) (sq Bq .ret) .skip)) (dq akL (.seq (sq akM (.cond (Tm 43) (sq akN (sq akO .ret)) .skip)) (.seq (sq akP (.cond (Tm 60) (sq akQ (sq akR .ret)) .skip)) (sq Qu (sq Qv .ret)))))))
def Bp:aW:=⟨2,87,VR,[.cell 4 (some 3),.tmp 5]⟩
def amK:List Nat:=[]
def nJ:=bM amK Proofs.Tryz.f91
def amB:=aA nJ 0
def amC:=aA nJ 1
def amD:=aA nJ 2
def amE:=aA nJ 3
def amF:=aA nJ 4
def amG:=aA nJ 5
def By:=aA nJ 6
def amH:=aA nJ 7
def amI:=aA nJ 8
def amJ:=aA nJ 9
def R9:aC:=(sq amE (.seq (.cond (Tm 14) .skip (.exit 0)) (.seq (.block 1 (sq amF (sq amG (.seq (sq By (.cond (Tm 24) (sq amH .ret) .skip)) (.region amI))))) (.region amJ))))
def jl:=aA nJ 10
def VZ:aC:=(sq amB (sq amC (.seq (sq amD (.block 0 (.loop R9))) (sq jl .ret))))
def R8:aW:=⟨1,30,VZ,[.cell 2 (some 3),.tmp 3]⟩
theorem CoL.nil:CoL [] []:=.refl _
theorem CoL.cons {p q:PV} {ps u:List PV} (h:Co p q) (l:CoL ps u):CoL (p::ps) (q::u) :=
 ⟨by simp[l.len],fun j a b e hb=>by
  cases j with
  | zero=>simp at e hb; subst e; subst hb; exact h
  | succ j=>exact l.at_ j a b (by simpa using e) (by simpa using hb)⟩
theorem CoL.agg {ps e:List PV} (h:CoL ps e):Co (.agg ps) (.agg e):=.agg h.len h.at_
theorem CoL.tup {ps e:List PV} (h:CoL ps e):Co (.tup ps) (.tup e):=.tup h.len h.at_
structure yC (C:Ctx):Prop extends wG C where
 bits:∀ xs,Lim xs→xs.length≤35184372087808→aH C 128 [aK xs] .nil (aI (.int .i64 (dJ (val xs):Nat)))
 add:∀ xs ys,Lim xs→Lim ys→xs.length≤35184372087808→ys.length≤35184372087808→aH C 127 [aK xs,aK ys] .nil (aI (opV (fD (val xs) (val ys)) (val xs+val ys)))
 sub:∀ xs ys,Lim xs→Lim ys→xs.length≤35184372087808→ys.length≤35184372087808→aH C 134 [aK xs,aK ys] .nil (aI (xE (val xs) (val ys)))
 mul:∀ xs ys,Lim xs→Lim ys→xs.length≤35184372087808→ys.length≤35184372087808→aH C 133 [aK xs,aK ys] .nil (aI (opV (fD (val xs) (val ys)) (val xs*val ys)))
 gcd:∀ xs ys,Lim xs→Lim ys→xs.length≤35184372087808→ys.length≤35184372087808→aH C 131 [aK xs,aK ys] .nil (aI (if fD (val xs) (val ys) then .tup [aK [],.int .i64 2] else .tup [aK (aJ (a8I (val xs) (val ys))),.int .i64 0]))
 div:∀ xs ys,Lim xs→Lim ys→xs.length≤35184372087808→ys.length≤35184372087808→aH C 130 [aK xs,aK ys] .nil (aI (rG (val xs) (val ys)))
theorem kV {a b:Nat} (e:nl a≤512) (hb:nl b≤512):fD a b=false:=by
 simp[fD]; omega
theorem pT {a b m n:Nat} (e:nl a≤m) (hb:nl b≤n):nl (a*b)≤m+n:=by
 rw[lS] at e hb ⊢;rw[Nat.pow_add];by_cases h:b=0
 ·subst h; exact Nat.mul_pos (bbD (by decide)) (bbD (by decide))
 ·calc a*b<4294967296 ^ m*b:=Nat.mul_lt_mul_of_pos_right e (baV h)
   _≤4294967296 ^ m*4294967296 ^ n:=baU _ (Nat.le_of_lt hb)
theorem HG {n:Nat} (h:nl n≤512):szV n=.tup [aK (aJ n),.int .i64 0]:=by
 have:¬ nl n>512:=Om;simp[szV,szL,szE,this]
theorem aGI {C:Ctx} (L:yC C) (a b:List Nat) (e:Lim a) (hb:Lim b) (j:a.length≤35184372087808) (l:b.length≤35184372087808) (u:nl (val a)≤256) (w:nl (val b)≤256) :
  JJ.wp C (aT Sa.res (aI (aK (aJ (val a*val b))))) (PF.args [aK a,aK b]) .nil:=by
 simp only[go_sem,JJ,Fi,Fj,Sa];refine aB (L.mul a b e hb j l) rfl ?_;have:=pT u w;rw[kV Om Om,opV,HG Om];simp only[go_sem,Fk];refine aR (.inr rfl) rfl ?_;rfl
abbrev fS (neg:Bool) (a b:List Nat):List PV:=[.bool neg,aK a,aK b]
theorem aMR {C:Ctx} (L:yC C) (neg:Bool) (a b:List Nat) (e:Lim a) (j:a.length≤35184372087808) :
  OO.wp C (aT aAT.res (aI (.bool (decide (val a=0))))) (PF.args [.agg (fS neg a b)]) .nil:=by
 simp only[go_sem,OO,Sw,Sx,aAT];refine aB (L.bits a e j) rfl ?_;simp only[go_sem];refine aR (.inr rfl) rfl ?_;have:=@nG (val a);by_cases c:val a=0
 ·rw[bP Om,decide_eq_true c]; rfl
 ·rw[bD Om,decide_eq_false c]; rfl
def dS (a b:Nat):Bool:=decide (0<dJ b)&&decide (dJ b≤4096)&&decide (dJ a≤4096)
theorem aGJ {C:Ctx} (L:yC C) (neg:Bool) (a b:List Nat) (w:Lim a) (hb:Lim b) (x:a.length≤35184372087808) (y:b.length≤35184372087808) :
  JL.wp C (aT Sb.res (aI (.bool (dS (val a) (val b))))) (PF.args [.agg (fS neg a b)]) .nil:=by
 simp only[go_sem,JL,Fm,Fo,Sb];refine aB (L.bits b hb y) rfl ?_;by_cases l:0<dJ (val b)
 ·have e:((dJ (val b):Nat):Int)>0:=Om;by_cases u:dJ (val b)≤4096
  ·have j:((dJ (val b):Nat):Int)≤4096:=Om;simp only[go_sem,HY,e,j];refine aB (L.bits a w x) rfl ?_;simp only[go_sem];refine aR (.inr rfl) rfl ?_;show PV.bool (decide _)=_;rw[dS,decide_eq_true l,decide_eq_true u,a8U,a8U];congr 1;rw[decide_eq_decide];omega
  ·have j:¬ ((dJ (val b):Nat):Int)≤4096:=Om;simp only[go_sem,HY,e,j];refine aR (.inr rfl) rfl ?_;show PV.bool _=_;simp[dS,l,u]
 ·have e:¬ ((dJ (val b):Nat):Int)>0:=Om;simp only[go_sem,HY,e];refine aR (.inr rfl) rfl ?_;show PV.bool _=_;simp[dS,l]
theorem aTE {C:Ctx} (L:yC C) (v:Int) (j:-9223372036854775808≤v) (l:v≤9223372036854775807) :
  VQ.wp C (aT aMF.res (aI (aK (aJ v.natAbs)))) (PF.args [.int .i64 v]) .nil:=by
 simp only[go_sem,VQ,akE,akF,aMF];by_cases c:v<0
 ·have e:IntKind.u64.wrap (0-IntKind.u64.wrap v)=(v.natAbs:Int):=by rw[jL,jL]; omega
  simp only[go_sem,c,akG,e];refine aB (L.make v.natAbs Om) rfl ?_;simp only[go_sem];refine aR (.inr rfl) rfl ?_;rfl
 ·have e:IntKind.u64.wrap v=(v.natAbs:Int):=by rw[jL]; omega
  simp only[go_sem,c,akH,e];refine aB (L.make v.natAbs Om) rfl ?_;simp only[go_sem];refine aR (.inr rfl) rfl ?_;rfl
abbrev HX (e:Int):PV:=.tup [.agg (fS false [] []),.int .i64 e]
abbrev aAS (neg:Bool) (a b:Nat):PV:=.tup [.agg (fS neg (aJ a) (aJ b)),.int .i64 0]
def PR (neg:Bool) (a b:Nat):PV :=
 if dJ (a/a8I a b)>4096∨dJ (b/a8I a b)>4096 then HX 2 else aAS (neg&&decide (a/a8I a b≠0)) (a/a8I a b) (b/a8I a b)
theorem kW {res:List eS} {F:PF} {H:PH} {e:Int} (h:eS.evs F H res=some [.agg [.bool false,.aD,.aD],.int .i64 e]):aT res (cP (HX e)) .ret F H :=
 bA (.inr rfl) .nil h a_ ⟨CoL.tup (.cons (CoL.agg (.cons (.refl _) (.cons (.nil 1) (.cons (.nil 1) .nil)))) (.cons (.refl _) .nil)),rfl⟩
theorem Qa {n:Nat}:dJ n>1↔n>1:=by
 have:=qC n 1;omega
theorem wj {a n:Nat} (g:Nat) (h:nl a≤n):nl (a/g)≤n:=baK (jK (Nat.div_le_self _ _)) h
theorem VW {C:Ctx} (L:yC C) (neg:Bool) (a b:List Nat) (w:Lim a) (hb:Lim b) (x:a.length≤35184372087808) (y:b.length≤35184372087808) (o:Nat) (F:PF) (H:PH)
  (f0:F 0=some (.bool neg)) (f1:F 1=some (aK a)) (f2:F 2=some (aK b)) (f6:F 6=some (.ptr o 3 0 0)) (f7:F 7=some (.int .i64 0)) (j:H o=some (.rows 3 [[.bool false,.aD,.aD]])) :
  aC.wp C (.seq (.seq (.region OG) (.cond (.tmp 40) (.seq (.region DF) .ret) .skip)) (.seq (.region OH) .ret)) (aT zW.res (cP (if dJ (val a)>4096∨dJ (val b)>4096 then HX 2 else aAS (neg&&decide (val a≠0)) (val a) (val b)))) F H:=by
 have fin:∀ (r:List (List PV)) F H,F 6=some (.ptr o 3 0 0)→F 7=some (.int .i64 2)→H o=some (.rows 3 [[.bool false,.aD,.aD]])→aT zW.res (cP (HX 2)) .ret F H:=by intro r F H E h7 h;refine kW ?_;simp only[go_sem,zW,E,h7,h]
 simp only[go_sem,OG,f1];refine aB (L.bits a w x) rfl ?_;by_cases A:dJ (val a)>4096
 ·have l:((dJ (val a):Nat):Int)>4096:=Om;rw[if_pos (.inl A)];simp only[go_sem,l,DF,f6,j];exact fin [] _ _ (by simp only[go_sem,f6]) rfl Sq
 ·have l:¬ ((dJ (val a):Nat):Int)>4096:=Om;simp only[go_sem,l,f2];refine aB (L.bits b hb y) rfl ?_;by_cases B:dJ (val b)>4096
  ·have u:((dJ (val b):Nat):Int)>4096:=Om;rw[if_pos (.inr B)];simp only[go_sem,u,DF,f6,j];exact fin [] _ _ (by simp only[go_sem,f6]) rfl Sq
  ·have u:¬ ((dJ (val b):Nat):Int)>4096:=Om;rw[if_neg Om];have last:∀ F:PF,F 1=some (aK a)→F 2=some (aK b)→F 6=some (.ptr o 3 0 0)→∀ (q:Bool),q=(neg&&decide (val a≠0))→F 47=some (.bool q) →
     True:=fun _ _ _ _ _ _ _=>trivial
   simp only[go_sem,u,OH,f0,f1,f2,f6,j];cases neg with
   | false =>simp only[go_sem,f0,f1,f2,f6,j];refine aB (L.trim a w x) rfl ?_;simp only[go_sem,f0,f1,f2,f6,j];refine aB (L.trim b hb y) rfl ?_;simp only[go_sem,f0,f1,f2,f6,j,a8O];refine bA (.inr rfl) .nil (vs:=[.agg (fS false (aJ (val a)) (aJ (val b))),.int .i64 0]) ?_ a_ ⟨.refl _,rfl⟩;simp only[go_sem,zW,f6,j]
   | true =>
    simp only[go_sem,f0,f1,f2,f6,j];refine aB (L.bits a w x) rfl ?_;have e:decide (((dJ (val a):Nat):Int)>0)=decide (val a≠0):=by have:=@nG (val a);rw[decide_eq_decide]; omega
    simp only[go_sem,f0,f1,f2,f6,j,e];refine aB (L.trim a w x) rfl ?_;simp only[go_sem,f0,f1,f2,f6,j];refine aB (L.trim b hb y) rfl ?_;simp only[go_sem,f0,f1,f2,f6,j,a8U];refine bA (.inr rfl) .nil (vs:=[.agg (fS (decide (val a≠0)) (aJ (val a)) (aJ (val b))),.int .i64 0]) ?_ a_ ⟨.refl _,rfl⟩;simp only[go_sem,zW,f6,j]
theorem aAO {C:Ctx} (L:yC C) (neg:Bool) (a b:List Nat) (x:Lim a) (hb:Lim b) (y:a.length≤35184372087808) (A:b.length≤35184372087808) (B:nl (val a)≤512) (u:nl (val b)≤512) (E:val b≠0) :
  GG.wp C (aT zW.res (cP (PR neg (val a) (val b)))) (PF.args [.bool neg,aK a,aK b]) .nil:=by
 simp only[go_sem,GG,sk,sm];refine aO fun o J=>?_;simp only[go_sem];refine aB (L.gcd a b x hb y A) rfl ?_;rw[kV B u];simp only[go_sem,sn];have j:a8I (val a) (val b)≠0:=by intro h; exact E (Nat.gcd_eq_zero_iff.1 h).2
 have l:nl (a8I (val a) (val b))≤512:=baK (jK (Nat.gcd_le_right _ (baV E))) u;have e:(aJ (a8I (val a) (val b))).length≤35184372087808:=by rw[bC]; omega
 refine aB (L.bits _ (aX _) e) rfl ?_;rw[aU];by_cases c:a8I (val a) (val b)>1
 ·have w:((dJ (a8I (val a) (val b)):Nat):Int)>1:=by have:=Qa.2 c; omega
  simp only[go_sem,w,sr];refine aB (L.div a _ x (aX _) y e) rfl ?_;rw[aU,rG,kV B l,if_neg (by decide),if_neg j];simp only[go_sem,ss];refine aB (L.div b _ hb (aX _) A e) rfl ?_;rw[aU,rG,kV u l,if_neg (by decide),if_neg j];simp only[go_sem];have:=VW L neg (aJ (val a/a8I (val a) (val b))) (aJ (val b/a8I (val a) (val b))) (aX _) (aX _) (by rw[bC]; have:=wj (a8I (val a) (val b)) B; omega) (by rw[bC]; have:=wj (a8I (val a) (val b)) u; omega) o;rw[aU,aU] at this;have:=fun F H=>this F H;simp only[aC.wp,go_sem] at this;exact this _ _ rfl rfl rfl rfl rfl Sq
 ·have w:¬ ((dJ (a8I (val a) (val b)):Nat):Int)>1:=by have:=(@Qa (a8I (val a) (val b))); omega
  have I:a8I (val a) (val b)=1:=Om;simp only[go_sem,w];rw[PR,I,Nat.div_one,Nat.div_one];have:=VW L neg a b x hb y A o;simp only[aC.wp,go_sem] at this;exact this _ _ rfl rfl rfl rfl rfl Sq
structure NR (C:Ctx):Prop extends yC C where
 times:∀ a b,Lim a→Lim b→a.length≤35184372087808→b.length≤35184372087808→nl (val a)≤256→nl (val b)≤256→aH C 121 [aK a,aK b] .nil (aI (aK (aJ (val a*val b))))
 zero:∀ neg a b,Lim a→a.length≤35184372087808→aH C 122 [.agg (fS neg a b)] .nil (aI (.bool (decide (val a=0))))
 valid:∀ neg a b,Lim a→Lim b→a.length≤35184372087808→b.length≤35184372087808→aH C 118 [.agg (fS neg a b)] .nil (aI (.bool (dS (val a) (val b))))
 abs:∀ v:Int,-9223372036854775808≤v→v≤9223372036854775807→aH C 119 [.int .i64 v] .nil (aI (aK (aJ v.natAbs)))
 lowest:∀ neg a b,Lim a→Lim b→a.length≤35184372087808→b.length≤35184372087808→nl (val a)≤512→nl (val b)≤512→val b≠0→aH C 120 [.bool neg,aK a,aK b] .nil (aI (PR neg (val a) (val b)))
def t8 (n d:Int):PV:=if d=0 then HX 3 else PR (decide (n<0) != decide (d<0)) n.natAbs d.natAbs
theorem sN {n k:Nat} (h:n<4294967296 ^ k):nl n≤k:=(lS _ _).2 h
theorem V4 (neg:Bool) (a b:Nat):∃ j x y e,PR neg a b=.tup [.agg (fS j x y),.int .i64 e]:=by
 unfold PR;split
 ·exact⟨_,_,_,_,rfl⟩
 ·exact⟨_,_,_,_,rfl⟩
theorem aML {C:Ctx} (L:NR C) (n d:Int) (l:-9223372036854775808≤n) (u:n≤9223372036854775807) (w:-9223372036854775808≤d) (A:d≤9223372036854775807) :
  OI.wp C (aT O5.res (cP (t8 n d))) (PF.args [.int .i64 n,.int .i64 d]) .nil:=by
 simp only[go_sem,OI,Ra,Rb];refine aO fun o E=>?_;unfold t8;by_cases c:d=0
 ·subst c;simp only[go_sem,Rc];refine kW ?_;simp only[go_sem,O5]
 ·rw[if_neg c];simp only[go_sem,bD c,Re];refine aB (L.abs n l u) rfl ?_;simp only[go_sem];refine aB (L.abs d w A) rfl ?_;simp only[go_sem];have F:nl n.natAbs≤2:=sN Om;have I:nl d.natAbs≤2:=sN Om;have low:=L.lowest (decide (n<0) != decide (d<0)) (aJ n.natAbs) (aJ d.natAbs) (aX _) (aX _) (by rw[bC]; omega) (by rw[bC]; omega);rw[aU,aU] at low;have low:=low Om Om Om;refine aB low rfl ?_;obtain⟨j,x,y,e,B⟩:=V4 (decide (n<0) != decide (d<0)) n.natAbs d.natAbs;rw[B];simp only[go_sem];exact bA (.inr rfl) .nil (vs:=[.agg (fS j x y),.int .i64 e]) (by simp only[go_sem,O5]) a_ ⟨.refl _,rfl⟩
theorem jG {a b:Nat}:dS a b=true↔b≠0∧nl b≤128∧nl a≤128:=by
 have e:=qD b 128;have j:=qD a 128;have l:=@nG b;simp only[dS,a9A,decide_eq_true_eq];omega
def cl (neg:Bool) (a b:Nat):PV:=if dS a b then PR neg a b else HX 1
theorem aAR {C:Ctx} (L:NR C) (neg:Bool) (a b:List Nat) (l:Lim a) (hb:Lim b) (u:a.length≤35184372087808) (w:b.length≤35184372087808) :
  GH.wp C (aT bk.res (cP (cl neg (val a) (val b)))) (PF.args [.agg (fS neg a b)]) .nil:=by
 simp only[go_sem,GH,tb,tc];refine aO fun o F=>?_;simp only[go_sem];refine aB (L.valid neg a b l hb u w) rfl ?_;unfold cl;cases B:dS (val a) (val b) with
 | false =>simp only[go_sem,td,a8X];refine kW ?_;simp only[go_sem,bk]
 | true =>obtain⟨E,I,J⟩:=jG.1 B;simp only[go_sem,te,a8Q];refine aB (L.lowest neg a b l hb u w Om Om E) rfl ?_;obtain⟨j,x,y,e,A⟩:=V4 neg (val a) (val b);rw[A];simp only[go_sem];exact bA (.inr rfl) .nil (vs:=[.agg (fS j x y),.int .i64 e]) (by simp only[go_sem,bk]) a_ ⟨.refl _,rfl⟩
def wZ (l:Bool) (a1 e:Nat) (u:Bool) (a2 j:Nat):Int :=
 match l&&decide (a1≠0),u&&decide (a2≠0) with
 | true,true=>- eQ (a1*j) (a2*e)
 | true,false=>-1
 | false,true=>1
 | false,false=>eQ (a1*j) (a2*e)
def HV (l:Bool) (a1 e:Nat) (u:Bool) (a2 j:Nat):PV :=
 if dS a1 e&&dS a2 j then .tup [.int .i64 (wZ l a1 e u a2 j),.int .i64 0] else .tup [.int .i64 0,.int .i64 1]
def fr1:PV→List Nat
 | .agg [_,a,_]=>mD a
 | _=>[]
def frS:Spec:=fun name vs=>match name,vs with
 | 121,[x,y]=>some ([],fun _=>aI (aK (aJ (val (mD x)*val (mD y)))))
 | 129,[x,y]=>some ([],fun _=>aI (.int .i64 (eQ (val (mD x)) (val (mD y)))))
 | 122,[x]=>some ([],fun _=>aI (.bool (decide (val (fr1 x)=0))))
 | _,_=>none
theorem BT (a b:List Nat):frS 121 [aK a,aK b]=some ([],fun _=>aI (aK (aJ (val a*val b)))):=by
 show some _=_; rw[fQ,fQ]
theorem aTM (a b:List Nat):frS 129 [aK a,aK b]=some ([],fun _=>aI (.int .i64 (eQ (val a) (val b)))):=by
 show some _=_; rw[fQ,fQ]
theorem jj (neg:Bool) (a b:List Nat):frS 122 [.agg (fS neg a b)]=some ([],fun _=>aI (.bool (decide (val a=0)))):=by
 show some _=_; rw[fr1,fQ]
theorem aLV (a b:Nat):IntKind.i64.wrap (0-eQ a b)=- eQ a b:=by
 unfold eQ; split
 ·rfl
 ·split<;>rfl
theorem aTH {C:Ctx} (L:NR C) (E y:Bool) (a1 j a2 e:List Nat) (w:Lim a1) (I:Lim j) (l:Lim a2) (J:Lim e)
  (x:a1.length≤35184372087808) (K:j.length≤35184372087808) (u:a2.length≤35184372087808) (M:e.length≤35184372087808) :
  VT.wp C (aT aMH.res (cP (HV E (val a1) (val j) y (val a2) (val e)))) (PF.args [.agg (fS E a1 j),.agg (fS y a2 e)]) .nil:=by
 simp only[go_sem,VT,alC,alD];refine aB (L.valid E a1 j w I x K) rfl ?_;unfold HV;cases V:dS (val a1) (val j) with
 | false =>simp only[go_sem,a8X,Br,a8O];exact bA (.inr rfl) .nil (vs:=[.int .i64 0,.int .i64 1]) rfl a_ ⟨.refl _,rfl⟩
 | true =>
  obtain⟨v1,X,Y⟩:=jG.1 V;simp only[go_sem,a8Q];refine aB (L.valid y a2 e l J u M) rfl ?_;cases W:dS (val a2) (val e) with
  | false =>simp only[go_sem,a8X,Br,a9Q];exact bA (.inr rfl) .nil (vs:=[.int .i64 0,.int .i64 1]) rfl a_ ⟨.refl _,rfl⟩
  | true =>
   obtain⟨w1,Z,w3⟩:=jG.1 W;simp only[go_sem,a8Q,baI];refine aV .nil frS a_ ?_;simp only[go_sem,alE];refine cC (BT a1 e) (L.times a1 e w J x M Om Om) rfl a_ ?_;simp only[go_sem];refine cC (BT a2 j) (L.times a2 j l I u K Om Om) rfl a_ ?_;simp only[go_sem];have m1:=pT Y Z;have m2:=pT w3 X;have O:=L.cmp (aJ (val a1*val e)) (aJ (val a2*val j)) (aX _) (aX _) (by rw[bC]; omega) (by rw[bC]; omega);have R:=aTM (aJ (val a1*val e)) (aJ (val a2*val j));rw[aU,aU] at O R;refine cC R O rfl a_ ?_;simp only[go_sem];refine aV .nil frS a_ ?_;have z1:(!decide (val a1=0))=decide (val a1≠0):=by by_cases h:val a1=0<;>simp[h]
   have S:(!decide (val a2=0))=decide (val a2≠0):=by by_cases h:val a2=0<;>simp[h]
   have fin:∀ (F:PF) (A B:Bool),F 6=some (.int .i64 (eQ (val a1*val e) (val a2*val j)))→F 7=some (.bool A)→F 8=some (.bool B)→A=(E&&decide (val a1≠0))→B=(y&&decide (val a2≠0)) →
     aC.wp C (.seq (.block 0 (.seq (.region EZ) (.cond (.tmp 42) (.seq (.region Bs) .ret) (.seq (.region MU) (.cond (.tmp 49) (.seq (.region Bt) .ret) (.seq (.region bi) (.cond (.tmp 51) (.seq (.region i6) .ret) .skip))))))) (.seq (.region i7) .ret)) (aT aMH.res (cP (.tup [.int .i64 (wZ E (val a1) (val j) y (val a2) (val e)),.int .i64 0]))) F .nil:=by
    intro F A B f6 f7 N U hB;rw[wZ,← U,← hB];cases A<;>cases B
    ·simp only[go_sem,EZ,MU,bi,i7,f6,f7,N];exact bA (.inr rfl) .nil rfl a_ ⟨.refl _,rfl⟩
    ·simp only[go_sem,EZ,MU,bi,i6,f6,f7,N];exact bA (.inr rfl) .nil rfl a_ ⟨.refl _,rfl⟩
    ·simp only[go_sem,EZ,MU,Bt,f6,f7,N];exact bA (.inr rfl) .nil rfl a_ ⟨.refl _,rfl⟩
    ·simp only[go_sem,EZ,Bs,f6,f7,N,aLV];exact bA (.inr rfl) .nil rfl a_ ⟨.refl _,rfl⟩
   simp only[aC.wp,go_sem] at fin;simp only[go_sem,alF];cases E with
   | false =>
    simp only[go_sem];cases y with
    | false =>simp only[go_sem];exact fin _ false false rfl rfl rfl rfl rfl
    | true =>simp only[go_sem];refine cC (jj true a2 e) (L.zero true a2 e l u) rfl a_ ?_;simp only[go_sem,S];exact fin _ false (decide (val a2≠0)) rfl rfl rfl rfl (by rw[a8U])
   | true =>
    simp only[go_sem];refine cC (jj true a1 j) (L.zero true a1 j w x) rfl a_ ?_;simp only[go_sem,z1];cases y with
    | false =>simp only[go_sem];exact fin _ (decide (val a1≠0)) false rfl rfl rfl (by rw[a8U]) rfl
    | true =>simp only[go_sem];refine cC (jj true a2 e) (L.zero true a2 e l u) rfl a_ ?_;simp only[go_sem,S];exact fin _ (decide (val a1≠0)) (decide (val a2≠0)) rfl rfl rfl (by rw[a8U]) (by rw[a8U])
abbrev FV:=Bool × Nat × Nat
abbrev FR:=Except Int FV
def lG (neg:Bool) (a b:Nat):FR :=
 if dJ (a/a8I a b)>4096∨dJ (b/a8I a b)>4096 then .error 2 else .ok (neg&&decide (a/a8I a b≠0),a/a8I a b,b/a8I a b)
def frV:FR→PV
 | .ok (n,a,b)=>aAS n a b
 | .error e=>HX e
theorem Cd (neg:Bool) (a b:Nat):PR neg a b=frV (lG neg a b):=by
 unfold PR lG;split<;>rfl
def lT:FV→FV→FR
 | (l,a1,e),(u,a2,j)=>if dS a1 e&&dS a2 j then
   (if l=u then lG l (a1*j+a2*e) (e*j) else if a2*e≤a1*j then lG l (a1*j-a2*e) (e*j) else lG u (a2*e-a1*j) (e*j))
  else .error 1
theorem Yo {a b m:Nat} (e:nl a≤m) (hb:nl b≤m):nl (a+b)≤m+1:=by
 rw[lS] at e hb ⊢;rw[baG]; omega
theorem ba (a b:Nat):(eQ a b≥0)↔b≤a:=by
 unfold eQ;split
 ·constructor
  ·intro h; exact absurd h (by decide)
  ·intro h; omega
 ·split
  ·constructor
   ·intro h; omega
   ·intro h; decide
  ·constructor
   ·intro h; omega
   ·intro h; decide
theorem zX (r:FR):∃ j x y e,frV r=.tup [.agg (fS j x y),.int .i64 e]:=by
 rcases r with e | ⟨n,a,b⟩
 ·exact⟨_,_,_,_,rfl⟩
 ·exact⟨_,_,_,_,rfl⟩
theorem aTF {C:Ctx} (L:NR C) (w I:Bool) (a1 l a2 u:List Nat) (S:Lim a1) (M:Lim l) (U:Lim a2) (N:Lim u)
  (V:a1.length≤35184372087808) (O:l.length≤35184372087808) (W:a2.length≤35184372087808) (R:u.length≤35184372087808) :
  VR.wp C (aT Bp.res (cP (frV (lT (w,val a1,val l) (I,val a2,val u))))) (PF.args [.agg (fS w a1 l),.agg (fS I a2 u)]) .nil:=by
 simp only[go_sem,VR,akJ];refine aO fun o ho=>?_;simp only[go_sem,akK];refine aB (L.valid w a1 l S M V O) rfl ?_;simp only[lT];cases hv:dS (val a1) (val l) with
 | false =>simp only[go_sem,a8X,Bq,a8O];refine kW ?_;simp only[go_sem,Bp]
 | true =>
  obtain⟨v1,v2,v3⟩:=jG.1 hv;simp only[go_sem,a8Q];refine aB (L.valid I a2 u U N W R) rfl ?_;cases hw:dS (val a2) (val u) with
  | false =>simp only[go_sem,a8X,Bq,a9Q];refine kW ?_;simp only[go_sem,Bp]
  | true =>
   obtain⟨w1,w2,w3⟩:=jG.1 hw;simp only[go_sem,a8Q,baI];refine aV .nil frS a_ ?_;simp only[go_sem,akL];refine cC (BT a1 u) (L.times a1 u S N V R Om Om) rfl a_ ?_;simp only[go_sem];refine cC (BT a2 l) (L.times a2 l U M W O Om Om) rfl a_ ?_;simp only[go_sem];refine cC (BT l u) (L.times l u M N O R Om Om) rfl a_ ?_;simp only[go_sem];have m1:=pT v3 w2;have m2:=pT w3 v2;have m3:=pT v2 w2;have d0:val l*val u≠0:=Nat.mul_ne_zero v1 w1;generalize hA:val a1*val u=A at *
   generalize hB:val a2*val l=B at *
   generalize hD:val l*val u=D at *
   have fin:∀ (F:PF) (H:PH) (r:FR),(∃ j x y e,frV r=.tup [.agg (fS j x y),.int .i64 e]∧F 4=some (.ptr o 3 0 0)∧F 5=some (.int .i64 e)∧H o=some (.rows 3 [fS j x y]))→aT Bp.res (cP (frV r)) .ret F H:=by rintro F H r ⟨j,x,y,e,he,f4,f5,hH⟩;rw[he];exact bA (.inr rfl) .nil (vs:=[.agg (fS j x y),.int .i64 e]) (by simp only[go_sem,Bp,f4,f5,hH]) a_ ⟨.refl _,rfl⟩
   have eb:(w==I)=decide (w=I):=by cases w<;>cases I<;>rfl
   have low:∀ neg x,nl x≤257→aH C 120 [.bool neg,aK (aJ x),aK (aJ D)] .nil (aI (frV (lG neg x D))):=by
    intro neg x hx;have h1:(aJ x).length≤35184372087808:=by rw[bC]; omega
    have h2:(aJ D).length≤35184372087808:=by rw[bC]; omega
    have:=L.lowest neg (aJ x) (aJ D) (aX _) (aX _) h1 h2;rw[aU,aU,Cd] at this;exact this Om Om d0
   have lA:(aJ A).length≤35184372087808:=by rw[bC]; omega
   have lB:(aJ B).length≤35184372087808:=by rw[bC]; omega
   simp only[go_sem,akM];by_cases c:w=I
   ·rw[if_pos c];have Z:(w==I)=true:=by rw[eb,decide_eq_true c]
    simp only[go_sem,Z,akN];have J:=L.add (aJ A) (aJ B) (aX _) (aX _) lA lB;have α:=Yo m1 m2;rw[aU,aU,kV Om Om,opV,HG Om] at J;refine aB J rfl ?_;simp only[go_sem,akO];refine aB (low w _ Om) rfl ?_;obtain⟨j,x,y,e,E⟩:=zX (lG w (A+B) D);rw[E];simp only[go_sem];rw[← E];exact fin _ _ _ ⟨j,x,y,e,E,by simp only[go_sem],by simp only[go_sem],by simp only[go_sem]⟩
   ·rw[if_neg c];have Z:(w==I)=false:=by rw[eb,decide_eq_false c]
    simp only[go_sem,Z,akP];have hc:=L.cmp (aJ A) (aJ B) (aX _) (aX _) lA lB;rw[aU,aU] at hc;refine aB hc rfl ?_;have K:∀ X Y:Nat,nl X≤256→nl Y≤256→Y≤X→aH C 134 [aK (aJ X),aK (aJ Y)] .nil (aI (.tup [aK (aJ (X-Y)),.int .i64 0])):=by intro X Y h1 h2 h;have:=L.sub (aJ X) (aJ Y) (aX _) (aX _) (by rw[bC]; omega) (by rw[bC]; omega);have h3:=jK (Om:X-Y≤X);rw[aU,aU,xE,kV Om Om,if_neg (by decide),if_neg Om,HG Om] at this;exact this
    by_cases g:B≤A
    ·have g':eQ A B≥0:=(ba A B).2 g;rw[if_pos g];simp only[go_sem,g',akQ];refine aB (K A B Om Om g) rfl ?_;simp only[go_sem,akR];have h3:=jK (Om:A-B≤A);refine aB (low w (A-B) Om) rfl ?_;obtain⟨j,x,y,e,E⟩:=zX (lG w (A-B) D);rw[E];simp only[go_sem];rw[← E];exact fin _ _ _ ⟨j,x,y,e,E,by simp only[go_sem],by simp only[go_sem],by simp only[go_sem]⟩
    ·have g':¬ eQ A B≥0:=fun h=>g ((ba A B).1 h);rw[if_neg g];simp only[go_sem,g',Qu];refine aB (K B A Om Om Om) rfl ?_;simp only[go_sem,Qv];have h3:=jK (Om:B-A≤B);refine aB (low I (B-A) Om) rfl ?_;obtain⟨j,x,y,e,E⟩:=zX (lG I (B-A) D);rw[E];simp only[go_sem];rw[← E];exact fin _ _ _ ⟨j,x,y,e,E,by simp only[go_sem],by simp only[go_sem],by simp only[go_sem]⟩
structure RF where
 neg:Bool
 num:List Nat
 den:List Nat
abbrev RF.cells (x:RF):List PV:=fS x.neg x.num x.den
def RF.Ok (x:RF):Prop:=Lim x.num∧Lim x.den∧x.num.length≤35184372087808∧x.den.length≤35184372087808
def RF.v (x:RF):FV:=(x.neg,val x.num,val x.den)
abbrev frs (l:List RF):PV:=.sl 3 (l.map RF.cells)
def FV.rf:FV→RF
 | (n,a,b)=>⟨n,aJ a,aJ b⟩
def FV.Small:FV→Prop
 | (_,a,b)=>nl a≤900000∧nl b≤900000
theorem FV.aYS (x:FV):x.rf.v=x:=by
 obtain⟨n,a,b⟩:=x;show (n,val (aJ a),val (aJ b))=_;rw[aU,aU]
def uH (l:List FV):FR:=l.foldlM lT (false,0,1)
theorem yQ {neg:Bool} {a b:Nat} {r:FV} (h:lG neg a b=.ok r):r.Small∧r.rf.Ok:=by
 unfold lG at h;split at h
 ·cases h
 ·rename_i l;have e:=(qD (a/a8I a b) 128).1 Om;have j:=(qD (b/a8I a b) 128).1 Om;injection h with h
  subst h;refine⟨⟨by omega,by omega⟩,aX _,aX _,?_,?_⟩
  ·show (aJ _).length≤_;rw[bC]; omega
  ·show (aJ _).length≤_;rw[bC]; omega
theorem Bg {x y r:FV} (h:lT x y=.ok r):r.rf.Ok:=by
 obtain⟨l,a1,e⟩:=x;obtain⟨u,a2,j⟩:=y;simp only[lT] at h;split at h
 ·split at h
  ·exact (yQ h).2
  ·split at h
   ·exact (yQ h).2
   ·exact (yQ h).2
 ·cases h
theorem dh {α β:Type} {f:β→α→Except Int β} (l:List α) (b:β) {k:Nat} (h:k<l.length):(l.take (k+1)).foldlM f b=((l.take k).foldlM f b).bind fun x=>f x l[k]:=by
 rw[baF h,List.foldlM_append];cases (l.take k).foldlM f b with
 | error e=>rfl
 | ok x =>show ([l[k]]:List α).foldlM f x=f x l[k];rw[List.foldlM_cons];cases f x l[k]<;>rfl
theorem sv {α β:Type} {f:β→α→Except Int β} (l:List α) (b:β) {k:Nat} {e:Int} (h:(l.take k).foldlM f b=.error e):l.foldlM f b=.error e:=by
 conv=>lhs; rw[← bbC k l,List.foldlM_append,h]
 rfl
def aQB (l:List RF) (o2 o4:Nat) (k:Nat):PF:=((((((PF.nil.set 2 (.ptr o2 3 0 0)).set 3 (.int .i64 0)).set 4 (.ptr o4 3 0 0)).set 11 (frs l)).set 12 (.int .i64 (l.length:Nat))).set 13 (.int .i64 k))
def pu (o2 o4:Nat) (c:List PV):PH:=(PH.nil.set o2 (.rows 3 [[.bool false,.aD,.aD]])).set o4 (.rows 3 [c])
theorem aTP {C:Ctx} (L:NR C) (V:∀ x y:RF,x.Ok→y.Ok→aH C 113 [.agg x.cells,.agg y.cells] .nil (aI (frV (lT x.v y.v)))) (l:List RF) (hl:∀ x∈l,x.Ok) (β:l.length≤9223372036854775807) :
  VZ.wp C (aT R8.res (cP (frV (uH (l.map RF.v))))) (PF.args [frs l]) .nil:=by
 simp only[go_sem,VZ,amB];refine aO fun o2 γ=>?_;simp only[go_sem,amC];refine aB (L.make 1 (by decide)) rfl ?_;simp only[go_sem];refine aO fun o4 W=>?_;have w:o4≠o2:=by rintro rfl; simp only[aS,if_true] at W; cases W
 have j:o2≠o4:=Ne.symm w;simp only[go_sem,amD];refine wp_loop (α:=Nat × FV × PV) (fun t=>aQB l o2 o4 t.1) (fun t=>pu o2 o4 [.bool t.2.1.1,t.2.2,aK (aJ t.2.1.2.2)]) (fun t=>t.1≤l.length∧((l.map RF.v).take t.1).foldlM lT (false,0,1)=.ok t.2.1∧(t.2.2=.aD∧t.2.1.2.1=0∨t.2.2=aK (aJ t.2.1.2.1))∧(FV.rf t.2.1).Ok) (fun t=>l.length-t.1)
  (0,(false,0,1),.aD) ⟨a8K _,rfl,.inl ⟨rfl,rfl⟩,⟨aX _,aX _,?_,?_⟩⟩ ?_ ?_ ?_
 ·show (aJ 0).length≤_;rw[jD]; simp
 ·show (aJ 1).length≤_;rw[sZ (by decide) (by decide)]; simp
 ·unfold aQB
  (repeat' (first|exact c_|refine d_ ?_ ?_))<;>first|(simp only[go_sem,a8E]<;>rfl)|rfl
 ·unfold pu;exact e_ (e_ a_ (by simp only[go_sem,j,w])) (by simp only[go_sem,j,w])
 rintro⟨k,⟨U,X,S⟩,cy⟩ ⟨hk,Y,R,M⟩;simp only at hk Y R M ⊢;have N:CoL [.bool U,cy,aK (aJ S)] (FV.rf (U,X,S)).cells:=by
  refine .cons (.refl _) (.cons ?_ (.cons (.refl _) .nil));rcases R with ⟨rfl,rfl⟩ | rfl
  ·show Co .aD (aK (aJ 0));rw[jD]; exact .nil 1
  ·exact .refl _
 simp only[go_sem,R9,amE,aQB];by_cases hlt:k<l.length
 ·have E:(k:Int)<(l.length:Nat):=Om;have hr:(l.map RF.cells)[k]?=some (l[k]).cells:=by simp[hlt]
  simp only[go_sem,E,amF,hr];refine aO fun o6 J=>?_;have F:o4≠o6:=by rintro rfl; simp only[pu,aS,if_true] at J; cases J
  have B:o2≠o6:=by rintro rfl; simp only[pu,aS,if_true,if_neg j] at J; cases J
  simp only[go_sem,amG,pu,F,B,w,j];refine aB ((V (FV.rf (U,X,S)) l[k] M (hl _ (a8G hlt))).args (.cons (CoL.agg N) (.cons (.refl _) .nil))) rfl ?_;rw[FV.aYS];have u:=dh (f:=lT) (l.map RF.v) (false,0,1) (k:=k) (by simpa using hlt);rw[Y] at u;simp only[Except.bind,bbF] at u;cases he:lT (U,X,S) (l[k]).v with
  | error e =>
   simp only[go_sem,frV];refine aO fun o7 A=>?_;have Z:e≠0:=by
    revert he;obtain⟨n2,a2,b2⟩:=(l[k]).v;simp only[lT,lG]
    repeat' split
    all_goals (intro h; first | (injection h with h; subst h; decide) | cases h)
   have I:o2≠o7:=by rintro rfl; simp only[aS,B,j,if_true,if_false] at A; cases A
   simp only[go_sem,By,cM Z,amH,I,B,j];rw[he] at u;rw[uH,sv _ _ u];refine kW ?_;simp only[go_sem,R8]
  | ok r =>
   obtain⟨rn,ra,rb⟩:=r;simp only[go_sem,frV];refine aO fun o7 A=>?_;have K:o4≠o7:=by rintro rfl; simp only[aS,F,if_true,if_false] at A; cases A
   have I:o2≠o7:=by rintro rfl; simp only[aS,B,j,if_true,if_false] at A; cases A
   simp only[go_sem,By,amI,K,I,F,B,w,j,Ne.symm K,amJ,wZz k];rw[he] at u;refine aG (k+1,(rn,ra,rb),aK (aJ ra)) ⟨hlt,u,.inr rfl,Bg he⟩ (by simp only; omega) ?_ ?_
   ·exact Lq
   ·refine e_ (e_ a_ ?_) ?_
    ·simp only[go_sem,j,w,K,I,F,B]
    ·simp only[go_sem,j,w,K,I,F,B]
 ·have E:¬ (k:Int)<(l.length:Nat):=Om;have:k=l.length:=Om;subst this;rw[a8V (by simp)] at Y;rw[uH,Y];have O:cP (frV (.ok (U,X,S))) (cB [.agg [.bool U,cy,aK (aJ S)],.int .i64 0]) .nil:=⟨CoL.tup (.cons (CoL.agg N) (.cons (.refl _) .nil)),rfl⟩;rcases R with ⟨rfl,rfl⟩ | rfl
  ·simp only[go_sem,E,jl,pu,w,j];refine bA (.inr rfl) .nil ?_ a_ O;simp only[go_sem,R8,w,j]
  ·simp only[go_sem,E,jl,pu,w,j];refine bA (.inr rfl) .nil ?_ a_ O;simp only[go_sem,R8,w,j]
def t6:List Nat:=[]
def WM:=bM t6 Proofs.Tryz.f135
def uV:=aA WM 0
def uW:=aA WM 1
def pR:aC:=(sq uV (sq uW .ret))
def bz:aW:=⟨1,17,pR,[.tmp 2]⟩
def Gj:List Nat:=[]
def dp:=bM Gj Proofs.Tryz.f153
def IF:=aA dp 0
def IG:=aA dp 1
def wA:aC:=(sq IF (sq IG .ret))
def tw:aW:=⟨1,9,wA,[.tmp 2]⟩
def Gm:List Nat:=[]
def dr:=bM Gm Proofs.Tryz.f136
def Gk:=aA dr 0
def Gl:=aA dr 1
def JQ:aC:=(sq Gk (sq Gl .ret))
def tz:aW:=⟨1,17,JQ,[.tmp 2]⟩
def V0:List Nat:=[]
def oR:=bM V0 Proofs.Tryz.f97
def PL:=aA oR 0
def PN:=aA oR 1
def PO:=aA oR 2
def Vu:=aA oR 3
def Vv:=aA oR 4
def Vw:=aA oR 5
def Vx:=aA oR 6
def Vy:=aA oR 7
def Vt:aC:=(.seq (sq Vv (.cond (Tm 20) .skip (.exit 0))) (.seq (.block 1 (sq Vw (.cond (Tm 27) (sq Vx .ret) .skip))) (.region Vy)))
def Vz:=aA oR 8
def yP:aC:=(sq PL (.seq (sq PN (.cond (Tm 16) (sq PO .ret) .skip)) (.seq (sq Vu (.block 0 (.loop Vt))) (sq Vz .ret))))
def O6:aW:=⟨1,28,yP,[.tmp 2]⟩
def aGO:List Nat:=[]
def Ua:=bM aGO Proofs.Tryz.f58
def ti:=aA Ua 0
def tj:=aA Ua 1
def GI:aC:=(sq ti (sq tj .ret))
def gin:aW:=⟨3,15,GI,[.tmp 6]⟩
def Fu:List Nat:=[1]
def di:=bM Fu Proofs.Tryz.f89
def Fq:=aA di 0
def Fr:=aA di 1
def JN:aC:=(sq Fq (sq Fr .ret))
def Sz:aW:=⟨1,7,JN,[.tmp 2]⟩
def anN:List Nat:=[1]
def WF:=bM anN Proofs.Tryz.f88
def anL:=aA WF 0
def anM:=aA WF 1
def bs:=aA WF 2
def WE:aC:=(sq anL (sq anM (sq bs .ret)))
def aMY:aW:=⟨1,29,WE,[.tmp 2]⟩
def anV:List Nat:=[1]
def IE:=bM anV Proofs.Tryz.f134
def anS:=aA IE 0
def anT:=aA IE 1
def anU:=aA IE 2
def B6:=aA IE 3
def WH:aC:=(sq anS (sq anT (sq anU (sq B6 .ret))))
def gone:aW:=⟨1,23,WH,[.tmp 2]⟩
def Tk:List Nat:=[]
def qO:=bM Tk Proofs.Tryz.f90
def Tc:=aA qO 0
def Td:=aA qO 1
def Te:=aA qO 2
def Tf:=aA qO 3
def Tg:=aA qO 4
def Th:=aA qO 5
def Ti:=aA qO 6
def Tb:aC:=(sq Te (.seq (.cond (Tm 10) .skip (.exit 0)) (.seq (.block 1 (sq Tf (sq Tg (.cond (Tm 16) (sq Th .ret) .skip)))) (.region Ti))))
def Tj:=aA qO 7
def OQ:aC:=(sq Tc (.seq (sq Td (.block 0 (.loop Tb))) (sq Tj .ret)))
def aAW:aW:=⟨2,18,OQ,[.tmp 4]⟩
def Tw:List Nat:=[]
def qP:=bM Tw Proofs.Tryz.f131
def Tn:=aA qP 0
def To:=aA qP 1
def Tq:=aA qP 2
def Tr:=aA qP 3
def Ts:=aA qP 4
def Tt:=aA qP 5
def Tu:=aA qP 6
def Tl:aC:=(sq Tq (.seq (.cond (Tm 10) .skip (.exit 0)) (.seq (.block 1 (sq Tr (sq Ts (.cond (Tm 16) (sq Tt .ret) .skip)))) (.region Tu))))
def Tv:=aA qP 7
def OR:aC:=(sq Tn (.seq (sq To (.block 0 (.loop Tl))) (sq Tv .ret)))
def aAX:aW:=⟨2,18,OR,[.tmp 4]⟩
def Ta:List Nat:=[]
def qM:=bM Ta Proofs.Tryz.f129
def S1:=aA qM 0
def S3:=aA qM 1
def S4:=aA qM 2
def S5:=aA qM 3
def S6:=aA qM 4
def S7:=aA qM 5
def S8:=aA qM 6
def S0:aC:=(sq S4 (.seq (.cond (Tm 10) .skip (.exit 0)) (.seq (.block 1 (sq S5 (sq S6 (.cond (Tm 16) (sq S7 .ret) .skip)))) (.region S8))))
def S9:=aA qM 7
def OP:aC:=(sq S1 (.seq (sq S3 (.block 0 (.loop S0))) (sq S9 .ret)))
def aAV:aW:=⟨2,18,OP,[.tmp 4]⟩
def Fy:List Nat:=[]
def dj:=bM Fy Proofs.Tryz.f130
def Fv:=aA dj 0
def Fw:=aA dj 1
def JO:aC:=(sq Fv (sq Fw .ret))
def T1:aW:=⟨1,4,JO,[.tmp 2]⟩
def T9:List Nat:=[1]
def iR:=bM T9 Proofs.Tryz.f94
def T2:=aA iR 0
def T3:=aA iR 1
def T4:=aA iR 2
def T5:=aA iR 3
def T6:=aA iR 4
def jp:=aA iR 5
def T7:=aA iR 6
def jr:=aA iR 7
def js:=aA iR 8
def T8:=aA iR 9
def F6:=aA iR 10
def WB:=aA iR 11
def IC:=aA iR 12
def IA:aC:=(sq T8 (.seq (.cond (Tm 45) .skip (.exit 4)) (.seq (.block 5 (sq F6 (.region WB))) (.region IC))))
def WC:=aA iR 13
def IB:aC:=(sq jp (.seq (.cond (Tm 21) .skip (.exit 2)) (.seq (.block 3 (sq T7 (sq jr (sq js (.block 4 (.loop IA)))))) (.region WC))))
def F7:=aA iR 14
def F0:aC:=(.seq (sq T5 (.cond (Tm 15) .skip (.exit 0))) (.seq (.block 1 (sq T6 (.block 2 (.loop IB)))) (.region F7)))
def F8:=aA iR 15
def OS:aC:=(sq T2 (sq T3 (.seq (sq T4 (.block 0 (.loop F0))) (sq F8 .ret))))
def aBB:aW:=⟨1,70,OS,[.tmp 2]⟩
def anK:List Nat:=[1]
def kJ:=bM anK Proofs.Tryz.f60
def anC:=aA kJ 0
def anD:=aA kJ 1
def anE:=aA kJ 2
def FD:=aA kJ 3
def anF:=aA kJ 4
def anG:=aA kJ 5
def anH:=aA kJ 6
def anI:=aA kJ 7
def br:=aA kJ 8
def anJ:=aA kJ 9
def Ub:aC:=(sq anG (.seq (.cond (Tm 48) .skip (.exit 0)) (.seq (.block 1 (sq anH (sq anI (.cond (Tm 67) (sq br .ret) .skip)))) (.region anJ))))
def jt:=aA kJ 10
def OT:=aA kJ 11
def OU:=aA kJ 12
def AB:=aA kJ 13
def WD:aC:=(sq anC (sq anD (.seq (sq anE (.cond (Tm 43) (sq FD .ret) .skip)) (.seq (sq anF (.block 0 (.loop Ub))) (sq jt (sq OT (sq OU (sq AB .ret))))))))
def aMX:aW:=⟨1,95,WD,[.tmp 2]⟩
def Uy:List Nat:=[]
def nD:=bM Uy Proofs.Tryz.f62
def Uo:=aA nD 0
def Uq:=aA nD 1
def Ur:=aA nD 2
def Us:=aA nD 3
def Uu:=aA nD 4
def Uv:=aA nD 5
def jx:=aA nD 6
def Uw:=aA nD 7
def Ux:=aA nD 8
def Un:aC:=(sq Us (.seq (.cond (Tm 10) .skip (.exit 0)) (.seq (.block 1 (sq Uu (.seq (sq Uv (.cond (Tm 20) (sq jx .ret) .skip)) (.region Uw)))) (.region Ux))))
def Gc:=aA nD 9
def OX:aC:=(sq Uo (sq Uq (.seq (sq Ur (.block 0 (.loop Un))) (sq Gc .ret))))
def aBH:aW:=⟨1,24,OX,[.tmp 2]⟩
def anB:List Nat:=[1]
def lJ:=bM anB Proofs.Tryz.f59
def B0:=aA lJ 0
def B5:=aA lJ 1
def amV:=aA lJ 2
def amW:=aA lJ 3
def FC:=aA lJ 4
def AA:=aA lJ 5
def amX:=aA lJ 6
def amY:=aA lJ 7
def amZ:=aA lJ 8
def anA:=bT lJ 0
def zZ:=aA lJ 9
def Tz:=aA lJ 10
def Tx:aC:=(sq amY (.seq (.cond (Tm 48) .skip (.exit 0)) (.seq (.block 1 (sq amZ (dq anA (.cond (Tm 87) (sq zZ .ret) .skip)))) (.region Tz))))
def T0:=aA lJ 11
def HZ:aC:=(sq B0 (.seq (sq B5 (.cond (Tm 9) (sq amV .ret) .skip)) (sq amW (.seq (sq FC (.cond (Tm 42) (sq AA .ret) .skip)) (.seq (sq amX (.block 0 (.loop Tx))) (sq T0 .ret))))))
def aAZ:aW:=⟨1,89,HZ,[.tmp 2]⟩
def Ue:List Nat:=[]
def tk:=bM Ue Proofs.Tryz.f132
def Uc:=aA tk 0
def Ud:=aA tk 1
def OV:aC:=(sq Uc (sq Ud .ret))
def aBD:aW:=⟨1,5,OV,[.tmp 2]⟩
def anR:List Nat:=[7]
def ID:=bM anR Proofs.Tryz.f95
def anO:=aA ID 0
def anP:=aA ID 1
def FF:=aA ID 2
def anQ:=aA ID 3
def WG:aC:=(sq anO (.seq (sq anP (.cond (Tm 36) (sq FF .ret) .skip)) (sq anQ .ret)))
def aMZ:aW:=⟨4,39,WG,[.tmp 8]⟩
def Gb:List Nat:=[1]
def dl:=bM Gb Proofs.Tryz.f133
def F9:=aA dl 0
def Ga:=aA dl 1
def JP:aC:=(sq F9 (sq Ga .ret))
def Ui:aW:=⟨1,9,JP,[.tmp 2]⟩
def Ul:List Nat:=[6,7]
def tp:=bM Ul Proofs.Tryz.f96
def Uj:=aA tp 0
def Uk:=aA tp 1
def OW:aC:=(sq Uj (sq Uk .ret))
def aBE:aW:=⟨4,30,OW,[.tmp 8]⟩
def aoE:List Nat:=[2]
def mV:=bM aoE Proofs.Tryz.f61
def anW:=aA mV 0
def anX:=aA mV 1
def bu:=aA mV 2
def anY:=aA mV 3
def anZ:=aA mV 4
def aoA:=aA mV 5
def aoB:=aA mV 6
def aoC:=aA mV 7
def B7:=aA mV 8
def aoD:=aA mV 9
def Ug:=aA mV 10
def Uf:aC:=(sq aoA (.seq (.cond (Tm 42) .skip (.exit 0)) (.seq (.block 1 (sq aoB (.seq (sq aoC (.cond (Tm 55) (sq B7 .ret) .skip)) (.region aoD)))) (.region Ug))))
def Uh:=aA mV 11
def WI:aC:=(sq anW (.seq (sq anX (.cond (Tm 35) (sq bu .ret) .skip)) (sq anY (.seq (sq anZ (.block 0 (.loop Uf))) (sq Uh .ret)))))
def aNB:aW:=⟨2,60,WI,[.tmp 4]⟩
def aoM:List Nat:=[1,76,94,128,141,183,204]
def cU:=bM aoM Proofs.Tryz.f31
def aoF:=aA cU 0
def aoG:=aA cU 1
def uT:=aA cU 2
def aoH:=aA cU 3
def aoI:=aA cU 4
def B8:=aA cU 5
def aoJ:=aA cU 6
def aoK:=aA cU 7
def aoL:=aA cU 8
def B9:=aA cU 9
def jy:=aA cU 10
def OY:aC:=(sq aoJ (.seq (.cond (Tm 70) .skip (.exit 0)) (.seq (.block 1 (sq aoK (sq aoL (.region B9)))) (.region jy))))
def jz:=aA cU 11
def Uz:=aA cU 12
def U1:=aA cU 13
def U2:=aA cU 14
def j5:=aA cU 15
def GL:=aA cU 16
def OZ:aC:=(sq Uz (.seq (.cond (Tm 88) .skip (.exit 2)) (.seq (.block 3 (sq U1 (sq U2 (.region j5)))) (.region GL))))
def j6:=aA cU 17
def U3:=aA cU 18
def U4:=aA cU 19
def U5:=aA cU 20
def U6:=aA cU 21
def PA:aC:=(sq U3 (.seq (.cond (Tm 122) .skip (.exit 4)) (.seq (.block 5 (sq U4 (.region U5))) (.region U6))))
def j7:=aA cU 22
def U7:=aA cU 23
def U8:=aA cU 24
def U9:=aA cU 25
def j8:=aA cU 26
def AC:=aA cU 27
def PB:aC:=(sq U7 (.seq (.cond (Tm 135) .skip (.exit 6)) (.seq (.block 7 (sq U8 (sq U9 (.region j8)))) (.region AC))))
def j9:=aA cU 28
def Va:=aA cU 29
def Vb:=aA cU 30
def Vc:=aA cU 31
def ka:=aA cU 32
def kb:=aA cU 33
def PC:aC:=(sq Va (.seq (.cond (Tm 177) .skip (.exit 8)) (.seq (.block 9 (sq Vb (sq Vc (.region ka)))) (.region kb))))
def kc:=aA cU 34
def Vd:=aA cU 35
def Ve:=aA cU 36
def Vf:=aA cU 37
def kd:=aA cU 38
def kf:=aA cU 39
def PD:aC:=(sq Vd (.seq (.cond (Tm 198) .skip (.exit 10)) (.seq (.block 11 (sq Ve (sq Vf (.region kd)))) (.region kf))))
def GM:=aA cU 40
def sG:=aA cU 41
def PE:=aA cU 42
def WJ:aC:=(sq aoF (.seq (sq aoG (.cond (Tm 65) (sq uT .ret) .skip)) (sq aoH (sq aoI (.seq (sq B8 (.block 0 (.loop OY))) (.seq (sq jz (.block 2 (.loop OZ))) (.seq (sq j6 (.block 4 (.loop PA))) (.seq (sq j7 (.block 6 (.loop PB))) (.seq (sq j9 (.block 8 (.loop PC))) (.seq (sq kc (.block 10 (.loop PD))) (.seq (sq GM (.cond (Tm 243) (sq sG .ret) .skip)) (sq PE .ret))))))))))))
def aNF:aW:=⟨1,244,WJ,[.tmp 2]⟩
@[go_sem] theorem a0P (a b:List UInt8):VC .eql a b=some (.bool (a==b)):=(rfl)
@[go_sem] theorem a0Q (a b:List UInt8):VC .neq a b=some (.bool !(a==b)):=(rfl)
@[go_sem] theorem azV (a b:List UInt8):VC .add a b=if ((a.length+b.length:Nat):Int)>9223372036854775807 then none else some (.str (a++b)):=(rfl)
@[go_sem] theorem aXH:(([]:List UInt8)==[])=true:=(rfl)
@[go_sem] theorem aSS (c:UInt8) (t:List UInt8):((c::t)==[])=false:=(rfl)
theorem uP {a b:List UInt8} (h:a=b):(a==b)=true:=by simp[h]
theorem rp {a b:List UInt8} (h:a≠b):(a==b)=false:=by simp[h]
section
variable {C:Ctx} {F:PF} {H:PH}
theorem tH {name o s:Nat} {rs:List (List PV)} {vs:List PV} {v:PV} {args:List aP} {d:Option Nat} {K:PF→PH→Prop} (h:aH C name vs .nil (aI v)) (l:H o=some (.rows s rs))
  (j:aP.evs (F.frz o s rs) args=some vs) (e:K ((F.frz o s rs).put d v) (H.frz o s rs)):jU C name args [] d K F H:=by
 refine .inr ⟨_,_,.step o l (.refl _ _),vs,.nil,aI v,?_,a_,h,?_⟩
 ·rw[j]; simp
 ·rintro r H' ⟨rfl,rfl⟩ -;rw[PH.kG];exact e
theorem kP.trans {e j l:PF} {u H2 w:PH} (h:kP e u j H2) (k:kP j H2 l w):kP e u l w:=by
 induction h with
 | refl=>exact k
 | step o x h y=>exact .step o x (y k)
theorem vN {c:aC} {K:cI} {s:Nat} {v:PV} {rows:List (List PV)} (N:cR H s v rows)
  (h:∀ l,Seen s l rows→∀ e w,(∀ t,F t=some v→e t=some l)→(∀ i u,F i=some u→Pure u→e i=some u)→aC.wp C (.loop c) K e w):aC.wp C (.loop c) K F H:=by
 obtain⟨l,O,M⟩:=N.frz;obtain⟨e,w,R,I,J⟩:=M F;obtain⟨α,A,Hs,B,m,E,y,H2,x,j⟩:=h l O e w I J;exact⟨α,A,Hs,B,m,E,y,H2,R.trans x,j⟩
theorem aH.aDK {name s:Nat} {v:PV} {rows:List (List PV)} {H0:PH} {R:PV→PH→Prop} (h:aH C name [.sl s rows] H0 R) (l:Seen s v rows):aH C name [v] H0 R:=by
 rcases l with ⟨rfl,rfl⟩ | rfl
 ·refine h.args ⟨rfl,fun j p q e hq=>?_⟩;cases j with
  | zero=>simp at e hq; subst e; subst hq; exact .nil s
  | succ j=>simp at e
 ·exact h
theorem cR.fresh {s:Nat} {v:PV} {rows:List (List PV)} {o:Nat} (h:cR H s v rows) (u:H o=none) (x:bZ):cR (H.set o x) s v rows∧∀ l,v≠.osl o s 0 l:=by
 refine⟨h.ext fun q y hq=>?_,fun l e=>?_⟩
 ·have:q≠o:=by rintro rfl; rw[u] at hq; cases hq
  simp only[aS,if_neg this,hq]
 ·rcases h with ⟨_,j⟩ | ⟨q,rs,h1,j,_⟩
  ·rw[j] at e; cases e
  ·rw[h1] at e;injection e with w
   subst w;rw[u] at j; cases j
theorem rJ {s b:Nat} {v:PV} {rows:List (List PV)} {r:List PV} {o:Nat} {x:bZ} {K:PV→PH→Prop} (h:cR H s v rows) (w:H o=none) (A:roomFor rows.length 1 b)
  (u:∀ v' H',cR H' s v' (rows++[r])→H' o=some x→K v' H'):oF (H.set o x) s b v (.sl s [r]) K:=by
 obtain⟨e,j⟩:=h.fresh w x;refine kR (src:=[r]) e (by simp[fL]) A fun v' H' l y=>u v' H' l (y o x (by simp only[aS,if_true]) j)
theorem xM {o s k:Nat} {rs:List (List PV)} (e:k≤rs.length):PV.frz o s rs (.osl o s 0 k)=.sl s (rs.take k):=by
 have:0+k≤rs.length:=Om;simp only[PV.frz,PV.tX,PV.cQ,if_true,true_and,if_pos this,a9R]
end
def jJ (n:Nat):Bool:=decide (97≤n)&&decide (n≤122)||decide (65≤n)&&decide (n≤90)
def qI (n:Nat):Bool:=decide (48≤n)&&decide (n≤57)
def lL (n:Nat):Bool:=jJ n||qI n||decide (n=45)||decide (n=46)
theorem aBU {C:Ctx} (n:Nat):pR.wp C (aT bz.res (aI (.bool (jJ n)))) (PF.args [.int .u8 n]) .nil:=by
 have fin:∀ (F:PF) (b:Bool),F 2=some (.bool b)→b=jJ n→aT bz.res (aI (.bool (jJ n))) .ret F .nil:=by intro F b h e;subst e;refine aR (.inr rfl) (vs:=[.bool (jJ n)]) (by simp only[go_sem,bz,h]) rfl
 unfold jJ at *
 by_cases a:97≤n
 ·have j:(n:Int)≥97:=Om;by_cases b:n≤122
  ·have u:(n:Int)≤122:=Om;simp only[go_sem,pR,uV,uW,j,u];exact fin _ _ rfl (by simp[a,b])
  ·have u:¬ (n:Int)≤122:=Om;by_cases c:65≤n
   ·have l:(n:Int)≥65:=Om;have d:¬ (n:Int)≤90:=Om;simp only[go_sem,pR,uV,uW,j,u,l,d];exact fin _ _ rfl (by simp[a,b,c]; omega)
   ·omega
 ·have j:¬ (n:Int)≥97:=Om;by_cases c:65≤n
  ·have l:(n:Int)≥65:=Om;by_cases d:n≤90
   ·have w:(n:Int)≤90:=Om;simp only[go_sem,pR,uV,uW,j,l,w];exact fin _ _ rfl (by simp[a,c,d])
   ·have w:¬ (n:Int)≤90:=Om;simp only[go_sem,pR,uV,uW,j,l,w];exact fin _ _ rfl (by simp[a,c,d])
  ·have l:¬ (n:Int)≥65:=Om;simp only[go_sem,pR,uV,uW,j,l];exact fin _ _ rfl (by simp[a,c])
theorem aGU {C:Ctx} (n:Nat):wA.wp C (aT tw.res (aI (.bool (qI n)))) (PF.args [.int .u8 n]) .nil:=by
 have fin:∀ (F:PF) (b:Bool),F 2=some (.bool b)→b=qI n→aT tw.res (aI (.bool (qI n))) .ret F .nil:=by intro F b h e;subst e;refine aR (.inr rfl) (vs:=[.bool (qI n)]) (by simp only[go_sem,tw,h]) rfl
 unfold qI at *
 by_cases a:48≤n
 ·have j:(n:Int)≥48:=Om;by_cases b:n≤57
  ·have l:(n:Int)≤57:=Om;simp only[go_sem,wA,IF,IG,j,l];exact fin _ _ rfl (by simp[a,b])
  ·have l:¬ (n:Int)≤57:=Om;simp only[go_sem,wA,IF,IG,j,l];exact fin _ _ rfl (by simp[a,b])
 ·have j:¬ (n:Int)≥48:=Om;simp only[go_sem,wA,IF,IG,j];exact fin _ _ rfl (by simp[a])
theorem aGY {C:Ctx} (u:∀ n:Nat,aH C 126 [.int .u8 n] .nil (aI (.bool (jJ n)))) (w:∀ n:Nat,aH C 124 [.int .u8 n] .nil (aI (.bool (qI n)))) (n:Nat) :
  JQ.wp C (aT tz.res (aI (.bool (lL n)))) (PF.args [.int .u8 n]) .nil:=by
 have fin:∀ (F:PF) (b:Bool),F 2=some (.bool b)→b=lL n→aT tz.res (aI (.bool (lL n))) .ret F .nil:=by intro F b h e;subst e;refine aR (.inr rfl) (vs:=[.bool (lL n)]) (by simp only[go_sem,tz,h]) rfl
 simp only[go_sem,JQ,Gk,Gl];refine aB (u n) rfl ?_;cases l:jJ n with
 | true =>simp only[go_sem];exact fin _ _ rfl (by simp[lL,l])
 | false =>
  simp only[go_sem];refine aB (w n) rfl ?_;cases j:qI n with
  | true =>simp only[go_sem];exact fin _ _ rfl (by simp[lL,j])
  | false =>
   by_cases c:n=45
   ·simp only[go_sem,bP (Om:(n:Int)=45)];exact fin _ _ rfl (by simp[lL,c])
   ·by_cases d:n=46
    ·simp only[go_sem,bD (Om:(n:Int)≠45),bP (Om:(n:Int)=46)];exact fin _ _ rfl (by simp[lL,d])
    ·simp only[go_sem,bD (Om:(n:Int)≠45),bD (Om:(n:Int)≠46)];exact fin _ _ rfl (by simp[lL,c,d,l,j])
def isName (s:List UInt8):Bool:=match s with
 | []=>false
 | c::_=>decide (s.length≤16)&&jJ c.toNat&&s.all fun c=>lL c.toNat
theorem tP {α:Type} {p:α→Bool} {l:List α} {k:Nat} (e:k<l.length) (h:(l.take k).all p=true) (j:p l[k]=true):(l.take (k+1)).all p=true:=by
 rw[baF e,List.all_append,h]; simp[j]
theorem tQ {α:Type} {p:α→Bool} {l:List α} {k:Nat} (e:k<l.length) (j:p l[k]=false):l.all p=false:=by
 rw[List.all_eq_false];exact⟨l[k],a8G e,by simp[j]⟩
def Vs (s:List UInt8) (k:Nat):PF:=((PF.nil.set 0 (.str s)).set 3 (.int .i64 k))
theorem aNQ {C:Ctx} (B:∀ n:Nat,aH C 126 [.int .u8 n] .nil (aI (.bool (jJ n)))) (E:∀ n:Nat,aH C 125 [.int .u8 n] .nil (aI (.bool (lL n)))) (s:List UInt8) :
  yP.wp C (aT O6.res (aI (.bool (isName s)))) (PF.args [.str s]) .nil:=by
 have fin:∀ (F:PF) (b:Bool),F 2=some (.bool b)→b=isName s→aT O6.res (aI (.bool (isName s))) .ret F .nil:=by intro F b h e;subst e;refine aR (.inr rfl) (vs:=[.bool (isName s)]) (by simp only[go_sem,O6,h]) rfl
 cases s with
 | nil =>simp only[go_sem,yP,PL,PN,PO];exact fin _ _ rfl rfl
 | cons c t =>
  have J:(c::t)[0]?=some c:=rfl;have w:(c::t==[])=false:=rfl;have u:isName (c::t)=(decide ((c::t).length≤16)&&jJ c.toNat&&(c::t).all fun c=>lL c.toNat):=rfl;generalize c::t=s at *
  by_cases A:s.length≤16
  ·have l:¬ (s.length:Int)>16:=Om;rw[decide_eq_true A,a8U] at u;simp only[go_sem,yP,PL,PN,w,l,J,a9J];refine aB (B c.toNat) rfl ?_;cases y:jJ c.toNat with
   | false =>simp only[go_sem,a8X,PO];exact fin _ _ rfl (by rw[u,y]; rfl)
   | true =>
    rw[y,a8U] at u;simp only[go_sem,a8Q,Vu];refine wp_loop (α:=Nat) (fun k=>Vs s k) (fun _=>.nil) (fun k=>k≤s.length∧(s.take k).all (fun c=>lL c.toNat)=true) (fun k=>s.length-k) 0 ⟨a8K _,rfl⟩ ?_ a_ ?_
    ·unfold Vs;exact Lq
    rintro k ⟨K,x⟩;simp only[go_sem,Vt,Vv,Vs];by_cases hlt:k<s.length
    ·have j:(k:Int)<(s.length:Nat):=Om;have I:s[k]?=some s[k]:=a8L hlt;simp only[go_sem,j,Vw,I,a9J];refine aB (E (s[k]).toNat) rfl ?_;cases hi:lL (s[k]).toNat with
     | false =>simp only[go_sem,a8X,Vx];refine fin _ false rfl ?_;rw[u,tQ hlt hi]
     | true =>simp only[go_sem,a8Q,Vy,wZz k];refine aG (k+1) ⟨hlt,a9I.1 (tP hlt x hi)⟩ Om ?_ a_;exact Lq
    ·have j:¬ (k:Int)<(s.length:Nat):=Om;simp only[go_sem,j,Vz];have:k=s.length:=Om;subst this;rw[a8V (a8J _)] at x;exact fin _ true rfl (by rw[u,x])
  ·have l:(s.length:Int)>16:=Om;simp only[go_sem,yP,PL,PN,PO,w,l];exact fin _ _ rfl (by rw[u,decide_eq_false A]; rfl)
abbrev eJ (x:Int):Prop:=-9223372036854775808≤x∧x≤9223372036854775807
structure dC where
 name:List UInt8
 start:List RF
 a6U:List (List RF)
 exit:List RF
structure dN where
 name:List UInt8
 a7G:Int
 port:Int
 law:Int
structure dB where
 name:List UInt8
 level:Int
 parent:Int
 a7K:Int
 a7F:RF
structure eT where
 name:List UInt8
 model:Int
 machine:Int
structure dX where
 name:List UInt8
 k:Int
 m:Int
 a7O:Int
 s0:Int
 s1:Int
 s2:Int
 s3:Int
 s4:Int
 a6Q:List Int
 repair:List RF
 target:RF
 a7A:RF
structure fZ where
 name:List UInt8
 a7C:Int
structure aE where
 a7V:Int
 a6X:List dC
 a6Q:List dN
 a6S:List dB
 a6P:List eT
 a6T:List dX
 a6R:List fZ
abbrev aDJ (l:List (List RF)):PV:=.sl 1 (l.map fun r=>[frs r])
abbrev dC.cells (x:dC):List PV:=[.str x.name,frs x.start,aDJ x.a6U,frs x.exit]
abbrev dN.cells (x:dN):List PV:=[.str x.name,.int .i64 x.a7G,.int .i64 x.port,.int .i64 x.law]
abbrev dB.cells (x:dB):List PV:=[.str x.name,.int .i64 x.level,.int .i64 x.parent,.int .i64 x.a7K,.bool x.a7F.neg,aK x.a7F.num,aK x.a7F.den]
abbrev eT.cells (x:eT):List PV:=[.str x.name,.int .i64 x.model,.int .i64 x.machine]
abbrev dX.cells (x:dX):List PV:=[.str x.name,.int .i64 x.k,.int .i64 x.m,.int .i64 x.a7O,.int .i64 x.s0,.int .i64 x.s1,.int .i64 x.s2,.int .i64 x.s3,.int .i64 x.s4,ints x.a6Q,frs x.repair,
 .bool x.target.neg,aK x.target.num,aK x.target.den,.bool x.a7A.neg,aK x.a7A.num,aK x.a7A.den]
abbrev fZ.cells (x:fZ):List PV:=[.str x.name,.int .i64 x.a7C]
abbrev aE.cells (f:aE):List PV:=[.int .i64 f.a7V,.sl 4 (f.a6X.map dC.cells),.sl 4 (f.a6Q.map dN.cells),.sl 7 (f.a6S.map dB.cells),.sl 3 (f.a6P.map eT.cells),.sl 17 (f.a6T.map dX.cells),.sl 2 (f.a6R.map fZ.cells)]
def dX.spread (p:dX) (level:Nat):Int:=match level with
 | 0=>p.s0
 | 1=>p.s1
 | 2=>p.s2
 | 3=>p.s3
 | _=>p.s4
abbrev Fits {α:Type} (l:List α):Prop:=l.length≤9223372036854775807
structure lI (l:List RF):Prop where
 fits:Fits l
 all:∀ x∈l,x.Ok
structure dC.Ok (x:dC):Prop where
 start:lI x.start
 exit:lI x.exit
 a6U:Fits x.a6U
 row:∀ r∈x.a6U,lI r
structure dX.Ok (x:dX):Prop where
 k:eJ x.k
 m:eJ x.m
 a7O:eJ x.a7O
 a6Q:Fits x.a6Q
 each:∀ m∈x.a6Q,eJ m
 repair:lI x.repair
 target:x.target.Ok
 a7A:x.a7A.Ok
structure aE.Ok (f:aE):Prop where
 a6X:Fits f.a6X
 a6Q:Fits f.a6Q
 a6S:Fits f.a6S
 a6P:Fits f.a6P
 a6T:Fits f.a6T
 a6R:Fits f.a6R
 law:∀ x∈f.a6X,x.Ok
 dom:∀ x∈f.a6S,x.a7F.Ok∧eJ x.level∧eJ x.parent
 drive:∀ x∈f.a6P,eJ x.model∧eJ x.machine
 a7C:∀ x∈f.a6T,x.Ok
 volume:∀ x∈f.a6R,eJ x.a7C
def tJ (x:RF):FR:=if dS (val x.num) (val x.den) then lG x.neg (val x.num) (val x.den) else .error 1
theorem aDE (x:RF):cl x.neg (val x.num) (val x.den)=frV (tJ x):=by
 unfold cl tJ;split
 ·exact Cd _ _ _
 ·rfl
def dP (x:RF):Bool:=match tJ x with
 | .ok (n,a,b)=>!n&&(decide (dJ a≤32)&&decide (dJ b≤32))
 | .error _=>false
def dH (x:RF):Bool:=decide (val x.num≠0)
def CR (x:RF):Bool:=dS (val x.num) (val x.den)&&decide (wZ x.neg (val x.num) (val x.den) false 1 1≤0)
def within (n lo hi:Int):Bool:=decide (lo≤n)&&decide (n≤hi)
def dT (R:List Bool) (i:Nat) (row:List RF):Nat→List Bool
 | 0=>R
 | k+1=>let e:=dT R i row k
  e.set i (e.getD i false||(row.map dH).getD k false&&e.getD k false)
def HA (l:dC) (R:List Bool) (i:Nat):List Bool :=
 dT (R.set i (R.getD i false||(l.exit.map dH).getD i false)) i (l.a6U.getD i []) (l.a6U.getD i []).length
def eK (l:dC) (R:List Bool):Nat→List Bool
 | 0=>R
 | i+1=>HA l (eK l R i) i
def eR (l:dC):Nat→List Bool
 | 0=>a8F l.exit.length false
 | r+1=>eK l (eR l r) l.exit.length
def DE (l:dC):Bool:=(eR l (l.exit.length+1)).all id
def qB (l:dC):Bool :=
 within l.start.length 1 4&&decide (l.exit.length=l.start.length)&&decide (l.a6U.length=l.start.length)&&l.start.all dP&&l.exit.all dP
 && (a8D l.a6U.length).all (fun i=>decide ((l.a6U.getD i []).length=l.start.length)&&(l.a6U.getD i []).all dP&&!((l.a6U.getD i []).map dH).getD i false)
 && (match uH (l.start.map RF.v) with
  | .ok (n,a,b)=>decide (wZ n a b false 1 1=0)
  | .error _=>false)&&DE l
def distinct (l:List (List UInt8)):Bool:=(a8D l.length).all fun i=>isName (l.getD i [])&&!(l.take i).contains (l.getD i [])
def i5 (f:aE) (i:Nat) (d:dB):Bool :=
 within d.parent 0 i&&decide ((f.a6S.map dB.level).getD d.parent.toNat 0=IntKind.i64.wrap (d.level-1))&&within d.level 1 4&&within d.a7K 1 64&&dP d.a7F
def bd (f:aE) (r:dB) (t:List dB):Bool :=
 decide (r.name=[])&&decide (r.level=0)&&decide (r.parent=-1)&&decide (r.a7K=0)&&dP r.a7F&&!dH r.a7F
  && (a8D t.length).all fun i=>match t[i]? with
   | some d=>i5 f i d
   | none=>false
def wH (f:aE):Bool:=match f.a6S with
 | []=>false
 | r::t=>bd f r t
def XV (p:dX):Bool :=
 within p.k 1 6&&within p.m 0 4&&decide (p.k+p.m≤8)&&within p.a7O p.k (p.k+p.m)&&decide (p.s0=0)&&([p.s0,p.s1,p.s2,p.s3,p.s4].all fun n=>within n 0 8)
def RP (p:dX):Bool :=
 decide ((p.repair.length:Int)=max p.m 1)&&(p.repair.all fun x=>dP x&&dH x)&&dP p.target&&CR p.target&&dP p.a7A
def oU (a6Q:Nat) (p:dX):Bool :=
 XV p&&decide (p.a6Q.length≠0)&&RP p&&(a8D p.a6Q.length).all fun j=>within (p.a6Q.getD j 0) 0 ((a6Q:Int)-1)&&!(p.a6Q.take j).contains (p.a6Q.getD j 0)
def oI (f:aE) (m:dN):Bool:=within m.a7G 1 16&&within m.port 1 64&&within m.law 0 ((f.a6X.length:Int)-1)
def mE (f:aE) (d:eT):Bool:=within d.model 0 ((f.a6Q.length:Int)-1)&&within d.machine 0 ((f.a6S.length:Int)-1)&&decide ((f.a6S.map dB.level).getD d.machine.toNat 0=4)
def tK (f:aE) (v:fZ):Bool:=within v.a7C 0 ((f.a6T.length:Int)-1)
def sV (f:aE):Bool:=within f.a7V 1 4&&decide (f.a6X.length≤4)&&decide (f.a6Q.length≤4)&&decide (f.a6S.length≤40)&&decide (f.a6P.length≤24)&&decide (f.a6T.length≤4)&&decide (f.a6R.length≤12)
def dL (f:aE):Bool :=
 sV f&&wH f&&(f.a6X.all qB&&f.a6Q.all (oI f)&&f.a6P.all (mE f)&&f.a6T.all (oU f.a6Q.length)&&f.a6R.all (tK f))
 && (distinct (f.a6X.map dC.name)&&distinct (f.a6Q.map dN.name)&&distinct ((f.a6S.drop 1).map dB.name++f.a6P.map eT.name)&&distinct (f.a6T.map dX.name)&&distinct (f.a6R.map fZ.name))
theorem bG {t:Nat} {b j:Bool} {F:PF} {H:PH} (h:F t=some (.bool b)) (e:b=j):aT [.tmp t] (cP (.bool j)) .ret F H:=by
 subst e;exact bA (.inr rfl) .nil (vs:=[.bool b]) (by rw[nZ,rO,h,tE]) a_ ⟨.refl _,rfl⟩
theorem aYD {C:Ctx} (n lo hi:Int):GI.wp C (aT gin.res (cP (.bool (within n lo hi)))) (PF.args [.int .i64 n,.int .i64 lo,.int .i64 hi]) .nil:=by
 by_cases a:lo≤n
 ·by_cases b:n≤hi
  ·simp only[go_sem,GI,ti,tj,gin,show n≥lo from a,b];exact bG Ev (by simp[within,a,b])
  ·simp only[go_sem,GI,ti,tj,gin,show n≥lo from a,b];exact bG Ev (by simp[within,a,b])
 ·have e:¬ n≥lo:=a;simp only[go_sem,GI,ti,tj,gin,e];exact bG Ev (by simp[within,a])
theorem aGM {C:Ctx} (L:yC C) (x:RF) (e:x.Ok):JN.wp C (aT Sz.res (cP (.bool (dH x)))) (PF.args [.agg x.cells]) .nil:=by
 simp only[go_sem,JN,Fq,Fr,Sz];refine aB (L.bits x.num e.1 e.2.2.1) Ev ?_;simp only[go_sem];refine bG Ev ?_;have:=@nG (val x.num);rw[dH,decide_eq_decide];omega
structure O1 (C:Ctx):Prop extends NR C where
 frac:∀ n d:Int,eJ n→eJ d→aH C 115 [.int .i64 n,.int .i64 d] .nil (aI (t8 n d))
 red:∀ x:RF,x.Ok→aH C 116 [.agg x.cells] .nil (aI (frV (tJ x)))
 ord:∀ x y:RF,x.Ok→y.Ok→aH C 114 [.agg x.cells,.agg y.cells] .nil (aI (HV x.neg (val x.num) (val x.den) y.neg (val y.num) (val y.den)))
 plus:∀ x y:RF,x.Ok→y.Ok→aH C 113 [.agg x.cells,.agg y.cells] .nil (aI (frV (lT x.v y.v)))
 tot:∀ l:List RF,lI l→aH C 117 [frs l] .nil (aI (frV (uH (l.map RF.v))))
theorem PP {neg:Bool} {a b:Nat} {e:Int} (h:lG neg a b=.error e):e=2:=by
 unfold lG at h;split at h
 ·injection h with h; exact h.symm
 ·cases h
theorem abQ {x:RF} {e:Int} (h:tJ x=.error e):e≠0:=by
 unfold tJ at h;split at h
 ·rw[PP h]; decide
 ·injection h with h; subst h; decide
theorem aVX {x:RF} {r:FV} (h:tJ x=.ok r):r.rf.Ok:=by
 unfold tJ at h;split at h
 ·exact (yQ h).2
 ·cases h
theorem aTT {C:Ctx} (L:O1 C) (x:RF) (y:x.Ok):WE.wp C (aT aMY.res (cP (.bool (dP x)))) (PF.args [.agg x.cells]) .nil:=by
 simp only[go_sem,WE,anL,anM,aMY];refine aB (L.red x y) Ev ?_;unfold dP;cases u:tJ x with
 | error e =>have:=bD (abQ u);simp only[go_sem,frV];refine aO fun o w=>?_;simp only[go_sem,bs,this];exact bG Ev rfl
 | ok r =>
  obtain⟨n,a,b⟩:=r;obtain⟨A,B,E,F⟩:=aVX u;simp only[go_sem,frV];refine aO fun o w=>?_;cases n with
  | true =>simp only[go_sem,bs];exact bG Ev rfl
  | false =>
   simp only[go_sem,bs];refine aB (L.bits _ A E) Ev ?_;rw[show val (FV.rf (false,a,b)).num=a from aU a];by_cases l:dJ a≤32
   ·have j:((dJ a:Nat):Int)≤32:=Om;simp only[go_sem,j];refine aB (L.bits _ B F) Ev ?_;rw[show val (FV.rf (false,a,b)).den=b from aU b];simp only[go_sem];refine bG Ev ?_;rw[decide_eq_true l];simp;omega
   ·have j:¬ ((dJ a:Nat):Int)≤32:=Om;simp only[go_sem,j];refine bG Ev ?_;rw[decide_eq_false l];rfl
theorem V3:lG false 1 1=.ok (false,1,1):=by
 have:dJ 1=1:=by rw[tR (by decide),mS]
 simp[lG,this]
theorem V8:t8 1 1=frV (.ok (false,1,1)):=by
 rw[t8,if_neg (by decide),Cd];show frV (lG false 1 1)=_;rw[V3]
theorem aIH:(FV.rf (false,1,1)).Ok:=(yQ V3).2
theorem Mq:dS 1 1=true:=by
 have:dJ 1=1:=by rw[tR (by decide),mS]
 simp[dS,this]
theorem aTV {C:Ctx} (L:O1 C) (x:RF) (e:x.Ok):WH.wp C (aT gone.res (cP (.bool (CR x)))) (PF.args [.agg x.cells]) .nil:=by
 simp only[go_sem,WH,anS,anT,gone];refine aB (L.frac 1 1 (by decide) (by decide)) Ev ?_;rw[V8];simp only[go_sem,frV];refine aO fun o j=>?_;simp only[go_sem,anU];refine aB (L.ord x (FV.rf (false,1,1)) e aIH) Ev ?_;rw[show val (FV.rf (false,1,1)).num=1 from aU 1,show val (FV.rf (false,1,1)).den=1 from aU 1,show (FV.rf (false,1,1)).neg=false from rfl];unfold HV CR;rw[Mq,baI];cases l:dS (val x.num) (val x.den) with
 | false =>simp only[go_sem,B6];exact bG Ev rfl
 | true =>simp only[go_sem,B6];exact bG Ev rfl
theorem aMT {C:Ctx} (p:RF→Bool) (fn:Nat) (l:List RF) (y:Fits l) (h:∀ x∈l,aH C fn [.agg x.cells] .nil (aI (.bool (p x)))) :
  OQ.wp C (aT aAW.res (cP (.bool (l.all p)))) (PF.args [frs l,.fn fn []]) .nil:=by
 simp only[go_sem,OQ,Tc,Td,aAW];refine wp_loop (α:=Nat) (fun k=>((((PF.nil.set 1 (.fn fn [])).set 7 (frs l)).set 8 (.int .i64 (l.length:Nat))).set 9 (.int .i64 k))) (fun _=>.nil) (fun k=>k≤l.length∧(l.take k).all p=true) (fun k=>l.length-k) 0 ⟨a8K _,rfl⟩ ?_ a_ ?_
 ·(repeat' (first|exact c_|refine d_ ?_ ?_))<;>first|(simp only[go_sem,a8E]<;>rfl)|rfl
 rintro k ⟨A,j⟩;simp only[go_sem,Tb,Te];by_cases hlt:k<l.length
 ·have e:(k:Int)<(l.length:Nat):=Om;have w:(l.map RF.cells)[k]?=some (l[k]).cells:=by simp[hlt]
  simp only[go_sem,e,Tf,w];refine aO fun o B=>?_;simp only[go_sem,Tg];refine aB (h _ (a8G hlt)) Ev ?_;cases u:p l[k] with
  | false =>simp only[go_sem,Th];exact bG (b:=false) Ev (tQ (p:=p) hlt u).symm
  | true =>simp only[go_sem,Ti,wZz k];refine aG (k+1) ⟨hlt,a9I.1 (tP hlt j u)⟩ Om ?_ a_;exact Lq
 ·have e:¬ (k:Int)<(l.length:Nat):=Om;simp only[go_sem,e,Tj];have:k=l.length:=Om;subst this;rw[a8V (a8J _)] at j;exact bG Ev j.symm
theorem aMU {C:Ctx} (p:Int→Bool) (fn:Nat) (l:List Int) (y:Fits l) (h:∀ x∈l,aH C fn [.int .i64 x] .nil (aI (.bool (p x)))) :
  OR.wp C (aT aAX.res (cP (.bool (l.all p)))) (PF.args [ints l,.fn fn []]) .nil:=by
 simp only[go_sem,OR,Tn,To,aAX];refine wp_loop (α:=Nat) (fun k=>((((PF.nil.set 1 (.fn fn [])).set 7 (ints l)).set 8 (.int .i64 (l.length:Nat))).set 9 (.int .i64 k))) (fun _=>.nil) (fun k=>k≤l.length∧(l.take k).all p=true) (fun k=>l.length-k) 0 ⟨a8K _,rfl⟩ ?_ a_ ?_
 ·(repeat' (first|exact c_|refine d_ ?_ ?_))<;>first|(simp only[go_sem,a8E]<;>rfl)|rfl
 rintro k ⟨A,j⟩;simp only[go_sem,Tl,Tq];by_cases hlt:k<l.length
 ·have e:(k:Int)<(l.length:Nat):=Om;have w:(l.map fun n=>[PV.int .i64 n])[k]?=some [.int .i64 l[k]]:=by simp[hlt]
  simp only[go_sem,e,Tr,w,Ts];refine aB (h _ (a8G hlt)) Ev ?_;cases u:p l[k] with
  | false =>simp only[go_sem,Tt];exact bG (b:=false) Ev (tQ (p:=p) hlt u).symm
  | true =>simp only[go_sem,Tu,wZz k];refine aG (k+1) ⟨hlt,a9I.1 (tP hlt j u)⟩ Om ?_ a_;exact Lq
 ·have e:¬ (k:Int)<(l.length:Nat):=Om;simp only[go_sem,e,Tv];have:k=l.length:=Om;subst this;rw[a8V (a8J _)] at j;exact bG Ev j.symm
abbrev iJ (l:List Bool):PV:=.sl 1 (l.map fun b=>[PV.bool b])
theorem aMS {C:Ctx} (p:Bool→Bool) (fn:Nat) (l:List Bool) (y:Fits l) (h:∀ x∈l,aH C fn [.bool x] .nil (aI (.bool (p x)))) :
  OP.wp C (aT aAV.res (cP (.bool (l.all p)))) (PF.args [iJ l,.fn fn []]) .nil:=by
 simp only[go_sem,OP,S1,S3,aAV];refine wp_loop (α:=Nat) (fun k=>((((PF.nil.set 1 (.fn fn [])).set 7 (iJ l)).set 8 (.int .i64 (l.length:Nat))).set 9 (.int .i64 k))) (fun _=>.nil) (fun k=>k≤l.length∧(l.take k).all p=true) (fun k=>l.length-k) 0 ⟨a8K _,rfl⟩ ?_ a_ ?_
 ·(repeat' (first|exact c_|refine d_ ?_ ?_))<;>first|(simp only[go_sem,a8E]<;>rfl)|rfl
 rintro k ⟨A,j⟩;simp only[go_sem,S0,S4];by_cases hlt:k<l.length
 ·have e:(k:Int)<(l.length:Nat):=Om;have w:(l.map fun b=>[PV.bool b])[k]?=some [.bool l[k]]:=by simp[hlt]
  simp only[go_sem,e,S5,w,S6];refine aB (h _ (a8G hlt)) Ev ?_;cases u:p l[k] with
  | false =>simp only[go_sem,S7];exact bG (b:=false) Ev (tQ (p:=p) hlt u).symm
  | true =>simp only[go_sem,S8,wZz k];refine aG (k+1) ⟨hlt,a9I.1 (tP hlt j u)⟩ Om ?_ a_;exact Lq
 ·have e:¬ (k:Int)<(l.length:Nat):=Om;simp only[go_sem,e,S9];have:k=l.length:=Om;subst this;rw[a8V (a8J _)] at j;exact bG Ev j.symm
theorem aGN {C:Ctx} (b:Bool):JO.wp C (aT T1.res (cP (.bool b))) (PF.args [.bool b]) .nil:=by
 simp only[go_sem,JO,Fv,Fw,T1];exact bG Ev rfl
theorem aNA {C:Ctx} (e:∀ n lo hi:Int,aH C 104 [.int .i64 n,.int .i64 lo,.int .i64 hi] .nil (aI (.bool (within n lo hi)))) (n:Int):OV.wp C (aT aBD.res (cP (.bool (within n 0 8)))) (PF.args [.int .i64 n]) .nil:=by
 simp only[go_sem,OV,Uc,Ud,aBD];refine aB (e n 0 8) Ev ?_;simp only[go_sem];exact bG Ev rfl
theorem aGQ {C:Ctx} (j:∀ x:RF,x.Ok→aH C 105 [.agg x.cells] .nil (aI (.bool (dP x)))) (l:∀ x:RF,x.Ok→aH C 97 [.agg x.cells] .nil (aI (.bool (dH x)))) (x:RF) (e:x.Ok) :
  JP.wp C (aT Ui.res (cP (.bool (dP x&&dH x)))) (PF.args [.agg x.cells]) .nil:=by
 simp only[go_sem,JP,F9,Ga,Ui];refine aB (j x e) Ev ?_;cases u:dP x with
 | false =>simp only[go_sem];exact bG Ev rfl
 | true =>simp only[go_sem];refine aB (l x e) Ev ?_;simp only[go_sem];exact bG Ev rfl
structure yA (C:Ctx):Prop extends O1 C where
 inn:∀ n lo hi:Int,aH C 104 [.int .i64 n,.int .i64 lo,.int .i64 hi] .nil (aI (.bool (within n lo hi)))
 yE:∀ x:RF,x.Ok→aH C 97 [.agg x.cells] .nil (aI (.bool (dH x)))
 lim:∀ x:RF,x.Ok→aH C 105 [.agg x.cells] .nil (aI (.bool (dP x)))
 one:∀ x:RF,x.Ok→aH C 101 [.agg x.cells] .nil (aI (.bool (CR x)))
 allf:∀ (p:RF→Bool) (fn:Nat) (l:List RF),Fits l→(∀ x∈l,aH C fn [.agg x.cells] .nil (aI (.bool (p x))))→aH C 99 [frs l,.fn fn []] .nil (aI (.bool (l.all p)))
 alli:∀ (p:Int→Bool) (fn:Nat) (l:List Int),Fits l→(∀ x∈l,aH C fn [.int .i64 x] .nil (aI (.bool (p x))))→aH C 100 [ints l,.fn fn []] .nil (aI (.bool (l.all p)))
 allb:∀ (p:Bool→Bool) (fn:Nat) (l:List Bool),Fits l→(∀ x∈l,aH C fn [.bool x] .nil (aI (.bool (p x))))→aH C 98 [iJ l,.fn fn []] .nil (aI (.bool (l.all p)))
 ends1:∀ b:Bool,aH C 103 [.bool b] .nil (aI (.bool b))
 num1:∀ n:Int,aH C 107 [.int .i64 n] .nil (aI (.bool (within n 0 8)))
 rate1:∀ x:RF,x.Ok→aH C 109 [.agg x.cells] .nil (aI (.bool (dP x&&dH x)))
 name:∀ s:List UInt8,aH C 123 [.str s] .nil (aI (.bool (isName s)))
theorem yA.aNP {C:Ctx} (L:yA C) (l:List RF) (h:lI l):aH C 99 [frs l,.fn 105 []] .nil (aI (.bool (l.all dP))) :=
 L.allf dP 105 l h.fits fun x e=>L.lim x (h.all x e)
theorem within_iff {n lo hi:Int}:within n lo hi=true↔lo≤n∧n≤hi:=by simp[within]
theorem aTU {C:Ctx} (L:yA C) (p:dX) (F:p.Ok) :
  WG.wp C (aT aMZ.res (cP (.bool (XV p)))) (PF.args [.int .i64 p.k,.int .i64 p.m,.int .i64 p.a7O,.agg [.int .i64 p.s0,.int .i64 p.s1,.int .i64 p.s2,.int .i64 p.s3,.int .i64 p.s4]]) .nil:=by
 simp only[go_sem,WG,anO,anP,aMZ];refine aB (L.inn p.k 1 6) rfl ?_;unfold XV;cases y:within p.k 1 6 with
 | false =>simp only[go_sem,a8X,FF];exact bG rfl (by simp only[a8O])
 | true =>
  obtain⟨k1,k2⟩:=within_iff.1 y;simp only[go_sem,a8Q];refine aB (L.inn p.m 0 4) rfl ?_;cases A:within p.m 0 4 with
  | false =>simp only[go_sem,a8X,FF];exact bG rfl (by simp only[a8O,a9Q])
  | true =>
   obtain⟨I,J⟩:=within_iff.1 A;have w:IntKind.i64.wrap (p.k+p.m)=p.k+p.m:=wrap_i64 Om Om;by_cases u:p.k+p.m≤8
   ·have e:¬ p.k+p.m>8:=Om;simp only[go_sem,a8Q,w,e];refine aB (L.inn p.a7O p.k (p.k+p.m)) rfl ?_;cases E:within p.a7O p.k (p.k+p.m) with
    | false =>simp only[go_sem,a8X,FF];exact bG rfl (by simp only[a8O,a9Q])
    | true =>
     have j:(0:Int)<((5:Nat):Int):=by decide
     by_cases h5:p.s0=0
     ·have l:chunks 1 5 [PV.int .i64 p.s0,.int .i64 p.s1,.int .i64 p.s2,.int .i64 p.s3,.int .i64 p.s4]=([p.s0,p.s1,p.s2,p.s3,p.s4].map fun n=>[PV.int .i64 n]):=rfl;have B:5≤maxLen:=by decide
      simp only[go_sem,a8Q,j,bJ h5,anQ,l,B];refine aB (L.alli (fun n=>within n 0 8) 107 [p.s0,p.s1,p.s2,p.s3,p.s4] (show 5≤9223372036854775807 by decide) fun x _=>L.num1 x) rfl ?_;simp only[go_sem];exact bG rfl (by rw[decide_eq_true u,decide_eq_true h5]; simp only[a8U])
     ·simp only[go_sem,a8Q,j,cM h5,FF];exact bG rfl (by rw[decide_eq_false h5]; simp only[a8O,a9Q])
   ·have e:p.k+p.m>8:=Om;simp only[go_sem,a8Q,w,e,FF];exact bG rfl (by rw[decide_eq_false u]; simp only[a8O,a9Q])
theorem max_eq (a b:Int):(if a<b then b else a)=max a b:=by
 rw[Int.max_def];by_cases h:a<b
 ·rw[if_pos h,if_pos Om]
 ·by_cases e:a≤b
  ·rw[if_neg h,if_pos e]; omega
  ·rw[if_neg h,if_neg e]
theorem aNC {C:Ctx} (L:yA C) (p:dX) (e:p.Ok) :
  OW.wp C (aT aBE.res (cP (.bool (RP p)))) (PF.args [.int .i64 p.m,frs p.repair,.agg p.target.cells,.agg p.a7A.cells]) .nil:=by
 simp only[go_sem,OW,Uj,Uk,aBE,max_eq,a8E];unfold RP;by_cases j:(p.repair.length:Int)=max p.m 1
 ·simp only[go_sem,bP j];refine aB (L.allf (fun x=>dP x&&dH x) 109 p.repair e.repair.fits fun x l=>L.rate1 x (e.repair.all x l)) rfl ?_;rw[decide_eq_true j,a8U];cases u:p.repair.all fun x=>dP x&&dH x with
  | false =>simp only[go_sem];exact bG rfl rfl
  | true =>
   simp only[go_sem];refine aB (L.lim _ e.target) rfl ?_;cases w:dP p.target with
   | false =>simp only[go_sem];exact bG rfl rfl
   | true =>
    simp only[go_sem];refine aB (L.one _ e.target) rfl ?_;cases y:CR p.target with
    | false =>simp only[go_sem];exact bG rfl rfl
    | true =>simp only[go_sem];refine aB (L.lim _ e.a7A) rfl ?_;simp only[go_sem];exact bG rfl rfl
 ·simp only[go_sem,bD j];exact bG rfl (by rw[decide_eq_false j]; rfl)
def vJ (l:List (List UInt8)) (k:List KS):Option PV:=match k with
 | [.str s]=>if l.contains s then some (.bool true) else none
 | _=>none
theorem aJR (l:List (List UInt8)) (s:List UInt8):(fun k=>if k=[KS.str s] then some (PV.bool true) else vJ l k)=vJ (l++[s]):=by
 funext k
 match k with
 | []=>rfl
 | [.int a b]=>simp[vJ]
 | [.bool a]=>simp[vJ]
 | [.str t] =>
  by_cases h:t=s
  ·subst h; simp[vJ]
  ·simp[vJ,h]
 | a::b::c=>simp[vJ]
abbrev texts (l:List (List UInt8)):PV:=.sl 1 (l.map fun s=>[PV.str s])
theorem aJQ:vJ []=(fun _=>none:mX):=by
 funext k
 match k with
 | []=>rfl
 | [.int a b]=>rfl
 | [.bool a]=>rfl
 | [.str t]=>rfl
 | a::b::c=>cases a<;>rfl
theorem aJS (l:List (List UInt8)) (s:List UInt8):mX.upd (vJ l) [KS.str s] (.bool true)=vJ (l++[s]):=aJR l s
theorem acD (l:List (List UInt8)) (s:List UInt8):(vJ l [KS.str s]).getD (.bool false)=.bool (l.contains s):=by
 show (if l.contains s then some (PV.bool true) else none).getD (.bool false)=_;cases l.contains s<;>rfl
theorem Dk {p:Nat→Bool} {k:Nat} (h:(a8D k).all p=true) (e:p k=true):(a8D (k+1)).all p=true:=by
 rw[baT,List.all_append,h]; simp[e]
theorem gS {p:Nat→Bool} {n k:Nat} (e:k<n) (j:p k=false):(a8D n).all p=false:=by
 rw[List.all_eq_false];exact⟨k,a9B.2 e,by simp[j]⟩
def wF (p:Nat→Bool) (k:Nat):Prop:=(a8D k).all p=true
theorem wF.zero {p:Nat→Bool}:wF p 0:=rfl
theorem wF.step {p:Nat→Bool} {k:Nat} (h:wF p k) (e:p k=true):wF p (k+1):=Dk h e
def aED (l:List (List UInt8)) (o k:Nat):PF:=((((PF.nil.set 3 (.map o)).set 7 (texts l)).set 8 (.int .i64 (l.length:Nat))).set 9 (.int .i64 k))
theorem aNE {C:Ctx} (L:yA C) (l:List (List UInt8)) (F:Fits l):OX.wp C (aT aBH.res (cP (.bool (distinct l)))) (PF.args [texts l]) .nil:=by
 simp only[go_sem,OX,Uo,Uq,aBH];refine aO fun o J=>?_;simp only[go_sem,Ur];have A:(PH.nil.set o (.map (false,[.str]) (fun _=>none)))=PH.nil.set o (.map (false,[.str]) (vJ (l.take 0))):=by rw[List.take_zero,aJQ]
 unfold distinct;generalize B:(fun i=>isName (l.getD i [])&&!(l.take i).contains (l.getD i []))=p;have w:∀ k (h:k<l.length),p k=(isName l[k]&&!(l.take k).contains l[k]):=by intro k h;rw[← B];simp only[a8M,a8L h,baW]
 refine wp_loop (α:=Nat) (fun k=>aED l o k) (fun k=>PH.nil.set o (.map (false,[.str]) (vJ (l.take k)))) (fun k=>k≤l.length∧wF p k) (fun k=>l.length-k) 0 ⟨a8K _,.zero⟩ ?_ ?_ ?_
 ·unfold aED
  (repeat' (first|exact c_|refine d_ ?_ ?_))<;>first|(simp only[go_sem,a8E]<;>rfl)|rfl
 ·rw[A]; exact b_
 rintro k ⟨I,y⟩;simp only[go_sem,Un,Us,aED];by_cases hlt:k<l.length
 ·have j:(k:Int)<(l.length:Nat):=Om;have E:(l.map fun s=>[PV.str s])[k]?=some [.str l[k]]:=by simp[hlt]
  simp only[go_sem,j,Uu,E,Uv];refine aB (L.name l[k]) rfl ?_;have e:=w k hlt;cases x:isName l[k] with
  | false =>rw[x,a8O] at e;simp only[go_sem,a8X,jx];exact bG (b:=false) rfl (gS hlt e).symm
  | true =>
   rw[x,a8U] at e;cases u:(l.take k).contains l[k] with
   | true =>rw[u] at e;simp only[go_sem,a8Q,acD,u,jx];exact bG (b:=false) rfl (gS hlt e).symm
   | false =>
    rw[u] at e;simp only[go_sem,a8Q,acD,u,Uw,aJS,Ux,wZz k];refine aG (k+1) ⟨hlt,y.step e⟩ Om ?_ ?_
    ·exact Lq
    ·rw[baF hlt];exact e_ a_ Sq
 ·have j:¬ (k:Int)<(l.length:Nat):=Om;simp only[go_sem,j,Gc];have:k=l.length:=Om;subst this;exact bG (b:=true) rfl (show wF p l.length from y).symm
def marks (n:Nat) (l:List Int):List Bool:=(a8D n).map fun (i:Nat)=>l.contains (i:Int)
theorem aHA (n:Nat) (l:List Int):(marks n l).length=n:=by simp[marks]
theorem Gu (n:Nat):marks n []=a8F n false:=by
 refine List.ext_getElem (by simp[marks]) fun i e j=>by simp[marks]
theorem kq {n:Nat} {l:List Int} {m:Int} (e:0≤m) (j:m<n):(marks n l)[m.toNat]?=some (l.contains m):=by
 have:m.toNat<n:=Om;simp only[marks,a8Y,baS this,a9J];rw[Int.toNat_of_nonneg e]
theorem Gw {n:Nat} {l:List Int} {m:Int} (j:0≤m) (u:m<n):(marks n l).set m.toNat true=marks n (l++[m]):=by
 refine List.ext_getElem (by simp[marks]) fun i w x=>?_;simp only[marks,bbF,List.getElem_range,List.getElem_set,List.contains_append];by_cases h:m.toNat=i
 ·subst h;rw[if_pos rfl,Int.toNat_of_nonneg j]; simp
 ·have e:((i:Nat):Int)≠m:=Om;rw[if_neg h]; simp[e]
abbrev aZ (l:List Bool):List (List PV):=l.map fun b=>[PV.bool b]
theorem iD (l:List Bool) (i:Nat) (b:Bool):(aZ l).set i [.bool b]=aZ (l.set i b):=by unfold aZ; rw[List.map_set]
structure Pp (C:Ctx):Prop extends yA C where
 num:∀ p:dX,p.Ok→aH C 106 [.int .i64 p.k,.int .i64 p.m,.int .i64 p.a7O,.agg [.int .i64 p.s0,.int .i64 p.s1,.int .i64 p.s2,.int .i64 p.s3,.int .i64 p.s4]] .nil (aI (.bool (XV p)))
 rate:∀ p:dX,p.Ok→aH C 108 [.int .i64 p.m,frs p.repair,.agg p.target.cells,.agg p.a7A.cells] .nil (aI (.bool (RP p)))
 uniq:∀ l:List (List UInt8),Fits l→aH C 110 [texts l] .nil (aI (.bool (distinct l)))
def aPH (p:dX) (a6Q:Nat) (o k:Nat):PF:=(((((PF.nil.set 1 (.int .i64 a6Q)).set 5 (.osl o 1 0 a6Q)).set 39 (ints p.a6Q)).set 40 (.int .i64 (p.a6Q.length:Nat))).set 41 (.int .i64 k))
theorem aTW {C:Ctx} (L:Pp C) (p:dX) (I:p.Ok) (a6Q:Nat) (V:a6Q≤4):WI.wp C (aT aNB.res (cP (.bool (oU a6Q p)))) (PF.args [.agg p.cells,.int .i64 a6Q]) .nil:=by
 simp only[go_sem,WI,anW,anX,aNB];refine aB (L.num p I) rfl ?_;unfold oU;cases x:XV p with
 | false =>simp only[go_sem,a8X,bu];exact bG rfl (by simp only[a8O])
 | true =>
  by_cases w:p.a6Q.length=0
  ·simp only[go_sem,a8Q,a8E,bP (Om:(p.a6Q.length:Int)=0),bu];refine bG rfl ?_;have:decide (p.a6Q.length≠0)=false:=by simp[w]
   rw[this]; simp only[a8O,a9Q]
  ·have B:decide (p.a6Q.length≠0)=true:=by simp[w]
   simp only[go_sem,a8Q,a8E,bD (Om:(p.a6Q.length:Int)≠0)];refine aB (L.rate p I) rfl ?_;rw[B];cases S:RP p with
   | false =>simp only[go_sem,a8X,bu];exact bG rfl (by simp only[a8O,a9Q])
   | true =>
    have E:((a6Q:Nat):Int)*((1:Nat):Int)≤140737488355328:=Om;have F:((a6Q:Nat):Int)≤9223372036854775807:=Om;simp only[a8U];simp only[go_sem,a8Q,anY,E,F];refine aO fun o W=>?_;simp only[go_sem,anZ];have N:a8F a6Q [PV.bool false]=aZ (marks a6Q (p.a6Q.take 0)):=by rw[List.take_zero,Gu]; simp[aZ]
    rw[N];generalize hq:(fun j=>within (p.a6Q.getD j 0) 0 ((a6Q:Int)-1)&&!(p.a6Q.take j).contains (p.a6Q.getD j 0))=q;have J:∀ k (h:k<p.a6Q.length),q k=(within p.a6Q[k] 0 ((a6Q:Int)-1)&&!(p.a6Q.take k).contains p.a6Q[k]):=by intro k h;rw[← hq];simp only[a8M,a8L h,baW]
    refine wp_loop (α:=Nat) (fun k=>aPH p a6Q o k) (fun k=>PH.nil.set o (.rows 1 (aZ (marks a6Q (p.a6Q.take k))))) (fun k=>k≤p.a6Q.length∧wF q k) (fun k=>p.a6Q.length-k) 0 ⟨a8K _,.zero⟩ ?_ (b_) ?_
    ·unfold aPH
     (repeat' (first|exact c_|refine d_ ?_ ?_))<;>first|(simp only[go_sem,a8E]<;>rfl)|rfl
    rintro k ⟨U,K⟩;simp only[go_sem,Uf,aoA,aPH];have M:=I.a6Q;by_cases hlt:k<p.a6Q.length
    ·have l:(k:Int)<(p.a6Q.length:Nat):=Om;have O:(p.a6Q.map fun n=>[PV.int .i64 n])[k]?=some [.int .i64 p.a6Q[k]]:=by simp[hlt]
     have R:IntKind.i64.wrap ((a6Q:Int)-1)=(a6Q:Int)-1:=wrap_i64 Om Om;simp only[go_sem,l,aoB,O,aoC,R];refine aB (L.inn p.a6Q[k] 0 ((a6Q:Int)-1)) rfl ?_;have e:=J k hlt;cases x:within p.a6Q[k] 0 ((a6Q:Int)-1) with
     | false =>rw[x,a8O] at e;simp only[go_sem,a8X,B7];exact bG (b:=false) rfl (gS hlt e).symm
     | true =>
      rw[x,a8U] at e;obtain⟨y,X⟩:=within_iff.1 x;have A:p.a6Q[k]<(a6Q:Nat):=Om;have u:(aZ (marks a6Q (p.a6Q.take k)))[p.a6Q[k].toNat]?=some [.bool ((p.a6Q.take k).contains p.a6Q[k])]:=by unfold aZ;rw[a8Y,kq y A]; rfl
      cases w:(p.a6Q.take k).contains p.a6Q[k] with
      | true =>rw[w] at e u;simp only[go_sem,a8Q,y,A,a8R,u,B7];exact bG (b:=false) rfl (gS hlt e).symm
      | false =>
       rw[w] at e u;simp only[go_sem,a8Q,y,A,a8R,u,aoD,iD,Gw y A,Ug,wZz k];refine aG (k+1) ⟨hlt,K.step e⟩ Om ?_ ?_
       ·exact Lq
       ·rw[baF hlt];exact e_ a_ Sq
    ·have l:¬ (k:Int)<(p.a6Q.length:Nat):=Om;simp only[go_sem,l,Uh];have:k=p.a6Q.length:=Om;subst this;exact bG (b:=true) rfl (show wF q p.a6Q.length from K).symm
def aMB:PV→RF
 | .agg [.bool n,a,b]=>⟨n,mD a,mD b⟩
 | _=>⟨false,[],[]⟩
theorem aAE (x:RF):aMB (.agg x.cells)=x:=by
 show (⟨x.neg,mD (aK x.num),mD (aK x.den)⟩:RF)=x;rw[fQ,fQ]
def flS:Spec:=fun name vs=>match name,vs with
 | 104,[.int _ n,.int _ lo,.int _ hi]=>some ([],fun _=>aI (.bool (within n lo hi)))
 | 105,[x]=>some ([],fun _=>aI (.bool (dP (aMB x))))
 | 97,[x]=>some ([],fun _=>aI (.bool (dH (aMB x))))
 | _,_=>none
theorem Q6 (n lo hi:Int):flS 104 [.int .i64 n,.int .i64 lo,.int .i64 hi]=some ([],fun _=>aI (.bool (within n lo hi))):=rfl
theorem aTK (x:RF):flS 105 [.agg x.cells]=some ([],fun _=>aI (.bool (dP x))):=by
 show some _=_; rw[aAE]
def aBA (f:aE) (t:List dB) (k:Nat):PF:=((((PF.nil.set 1 (.bO f.cells)).set 45 (.sl 7 (t.map dB.cells))).set 46 (.int .i64 (t.length:Nat))).set 47 (.int .i64 k))
theorem aTR {C:Ctx} (L:yA C) (f:aE) (hf:f.Ok):HZ.wp C (aT aAZ.res (cP (.bool (wH f)))) (PF.args [.agg f.cells]) .nil:=by
 obtain⟨a7V,a6X,a6Q,a6S,a6P,a6T,a6R⟩:=f;cases a6S with
 | nil =>rw[show wH ⟨a7V,a6X,a6Q,[],a6P,a6T,a6R⟩=false from rfl];simp only[go_sem,HZ,B0,B5,aAZ,bbA,baX];have:(((0:Nat):Int)==0)=true:=rfl;simp only[go_sem,this,amV];exact bG rfl rfl
 | cons r t =>
  generalize hF:(⟨a7V,a6X,a6Q,r::t,a6P,a6T,a6R⟩:aE)=f at *
  have B:f.a6S=r::t:=by rw[← hF]
  have hP:wH f=bd f r t:=by unfold wH; rw[B]
  rw[hP];unfold bd;have j:f.a6S.length=t.length+1:=by rw[B]; rfl
  have β:=hf.a6S;have J:(f.a6S.map dB.cells)[0]?=some r.cells:=by rw[B]; rfl
  have γ:(f.a6S.map dB.cells)[Int.toNat 0]?=some r.cells:=J;have F:=hf.dom;have w:=F r (by rw[B]; exact List.mem_cons_self ..);simp only[go_sem,HZ,B0,B5,aAZ,a8E,j,bD (Om:((t.length+1:Nat):Int)≠0),amW,J];refine aO fun o ho=>?_;by_cases x:r.name=[]
  ·rw[decide_eq_true x];by_cases A:r.level=0
   ·rw[decide_eq_true A];by_cases E:r.parent=-1
    ·rw[decide_eq_true E];by_cases K:r.a7K=0
     ·rw[decide_eq_true K];simp only[go_sem,FC,uP x,a8Q,bJ A,bJ E,bJ K];refine aB (L.lim r.a7F w.1) rfl ?_;cases c5:dP r.a7F with
      | false =>simp only[go_sem,a8X,AA];exact bG rfl (by simp only[a9Q,a8O])
      | true =>
       simp only[go_sem,a8Q];refine aB (L.yE r.a7F w.1) rfl ?_;cases c6:dH r.a7F with
       | true =>simp only[go_sem,AA];exact bG rfl (by simp only[a8Q,a9Q,a8O])
       | false =>
        have V:(0:Int)≤1∧(1:Int)≤((t.length+1:Nat):Int):=Om;have y:((f.a6S.map dB.cells).take (t.length+1)).drop (Int.toNat 1)=t.map dB.cells:=by rw[a8V (by simp[j]),B]; rfl
        have u:((f.a6S.map dB.cells).take (t.length+1)).drop 1=t.map dB.cells:=y;simp only[go_sem,amX,a8E,j,V,u,bbI];generalize hq:(fun i=>match t[i]? with | some d=>i5 f i d | none=>false)=q;have S:∀ k (h:k<t.length),q k=i5 f k t[k]:=by intro k h;rw[← hq];simp only[a8L h]
        refine wp_loop (α:=Nat) (fun k=>aBA f t k) (fun k=>.nil) (fun k=>k≤t.length∧wF q k) (fun k=>t.length-k) 0 ⟨a8K _,.zero⟩ ?_ a_ ?_
        ·unfold aBA
         (repeat' (first|exact c_|refine d_ ?_ ?_))<;>first|(simp only[go_sem,a8E]<;>rfl)|rfl
        rintro k ⟨hk,Z⟩;simp only[go_sem,Tx,amY,aBA];by_cases hlt:k<t.length
        ·have l:(k:Int)<(t.length:Nat):=Om;have U:(t.map dB.cells)[k]?=some (t[k]).cells:=by simp[hlt]
         have O:=F t[k] (by rw[B]; exact bbB _ (a8G hlt));have e:=S k hlt;unfold i5 at e;simp only[go_sem,l,amZ,U];refine aO fun o2 δ=>?_;simp only[go_sem];refine aV .nil flS a_ ?_;simp only[go_sem,anA];refine cC (Q6 _ 0 k) (L.inn (t[k]).parent 0 k) rfl a_ ?_;cases N:within (t[k]).parent 0 k with
         | false =>simp only[N,a8O] at e;simp only[go_sem,a8X,zZ];exact bG (b:=false) rfl (gS hlt e).symm
         | true =>
          obtain⟨i1,i2⟩:=within_iff.1 N;have i3:(t[k]).parent.toNat<f.a6S.length:=Om;have I:(f.a6S.map dB.cells)[(t[k]).parent.toNat]?=some (f.a6S[(t[k]).parent.toNat]).cells:=by simp[i3]
          have R:(f.a6S.map dB.level).getD (t[k]).parent.toNat 0=(f.a6S[(t[k]).parent.toNat]).level:=by simp[i3]
          rw[R,N,a8U] at e;by_cases M:(f.a6S[(t[k]).parent.toNat]).level=IntKind.i64.wrap ((t[k]).level-1)
          ·rw[decide_eq_true M,a8U] at e;simp only[go_sem,a8Q,i1,I,bJ M];refine cC (Q6 _ 1 4) (L.inn (t[k]).level 1 4) rfl a_ ?_;cases W:within (t[k]).level 1 4 with
           | false =>simp only[W,a8O] at e;simp only[go_sem,a8X,zZ];exact bG (b:=false) rfl (gS hlt e).symm
           | true =>
            rw[W,a8U] at e;simp only[go_sem,a8Q];refine cC (Q6 _ 1 64) (L.inn (t[k]).a7K 1 64) rfl a_ ?_;cases X:within (t[k]).a7K 1 64 with
            | false =>simp only[X,a8O] at e;simp only[go_sem,a8X,zZ];exact bG (b:=false) rfl (gS hlt e).symm
            | true =>
             rw[X,a8U] at e;simp only[go_sem,a8Q];refine cC (aTK (t[k]).a7F) (L.lim _ O.1) rfl a_ ?_;cases Y:dP (t[k]).a7F with
             | false =>rw[Y] at e;simp only[go_sem,a8X,zZ];exact bG (b:=false) rfl (gS hlt e).symm
             | true =>rw[Y] at e;simp only[go_sem,a8Q,Tz,wZz k];refine aG (k+1) ⟨hlt,Z.step e⟩ Om ?_ a_;exact Lq
          ·simp only[decide_eq_false M,a8O] at e;simp only[go_sem,a8Q,i1,I,cM M,zZ];exact bG (b:=false) rfl (gS hlt e).symm
        ·have l:¬ (k:Int)<(t.length:Nat):=Om;simp only[go_sem,l,T0];have:k=t.length:=Om;subst this;exact bG (b:=true) rfl (show wF q t.length from Z).symm
     ·simp only[go_sem,FC,uP x,a8Q,bJ A,bJ E,cM K,AA];exact bG rfl (by rw[decide_eq_false K]; simp only[a9Q,a8O])
    ·simp only[go_sem,FC,uP x,a8Q,bJ A,cM E,AA];exact bG rfl (by rw[decide_eq_false E]; simp only[a9Q,a8O])
   ·simp only[go_sem,FC,uP x,a8Q,cM A,AA];exact bG rfl (by rw[decide_eq_false A]; simp only[a9Q,a8O])
  ·simp only[go_sem,FC,rp x,a8X,AA];exact bG rfl (by rw[decide_eq_false x]; simp only[a9Q,a8O])
end Go.PM
