/-
  Texts of ours, joined. No condition.
-/
import Derived.Test.YtjdkjdadjfbopaaGreatDoorLE1
import Derived.Test.YtjdkjdadjfbopaaGreatDoorLE2
import Derived.Test.YtjdkjdadjfbopaaGreatDoorLE3
import Derived.RangeFuncRecord
set_option linter.unusedSimpArgs false
set_option linter.unusedVariables false
open Nat renaming reduceEqDiff→γ,reduceAdd→δ,reduceSub→ε,reduceMul→ζ,reduceLT→η,reduceLeDiff→θ,reduceBEq→τ
open Int renaming reduceLT→ι,reduceLE→κ,reduceEq→μ,reduceToNat→ν,reduceAdd→ξ,reduceNeg→ο,reduceBEq→ρ,reduceBNe→σ
open List renaming reduceReplicate→υ
open List renaming length_map→a7Z,replicate→a8D,length_append→a8F,getElem_mem→a8G,length_singleton→a8J,mem_cons→a8M,getElem?_eq_getElem→a8N,length_take→a8S,take_of_length_le→a8T,getD_eq_getElem?_getD→a8V,map_cons→a9D,take_length→a9E,append_assoc→a9G,drop_zero→a9L,getElem?_eq_none→a9N,length_cons→a9O,length_set→a9R,append_nil→a9W,map_nil→baB,length_nil→baE,length_drop→baG,mem_of_getElem?→baH,drop_eq_getElem_cons→baJ,getElem?_append_left→baW,map_take→baY,set_append_right→bbB,take_append_drop→bbC,map_drop→bbR,nil_append→bbS,drop_of_length_le→bcB
open Nat renaming le_refl→a8E,zero_le→a8H,mul_add→a8O,zero_add→a8Q,lt_or_ge→a9A,mul_assoc→a9C,le_trans→a9F,mul_comm→a9H,add_mul→a9J,mul_le_mul_right→a9K,mod_eq_of_lt→a9P,add_zero→a9Y,mod_lt→a9Z,pow_succ→baD,add_assoc→baL,eq_zero_or_pos→baR,min_eq_left→baS,mul_le_mul_left→baT,pos_of_ne_zero→baU,pow_pos→bbD,div_le_self→bbH,div_lt_iff_lt_mul→bbJ,mul_le_mul→bbM,pow_le_pow_right→bbU,div_add_mod→bbX,div_eq_of_lt→bbY
open Bool renaming false_eq_true→baK
open Option renaming map_eq_some_iff→a8K,some→a9V
open Int renaming tdiv→baO
open Array renaming replicate→baF,getElem?_eq_some_iff→bbO,getElem?_eq_getElem→bbV,getD_eq_getD_getElem?→bcA
open List renaming length→Z'
set_option maxRecDepth 100000
set_option maxHeartbeats 800000
noncomputable section
namespace Go.PM
open Go Go.Na
def xM(a b:List Nat)(o i:Nat):PF:=((((PF.nil.set 0 (aN a)).set 1 (aN b)).set 5 (.osl o 1 0 (Z' a+Z' b))).set 6 (.int .i64 i))
def utG(a b:List Nat)(o i c j:Nat):PF:=((((((PF.nil.set 0 (aN a)).set 1 (aN b)).set 5 (.osl o 1 0 (Z' a+Z' b))).set 6 (.int .i64 i)).set 7 (.int .u64 c)).set 8 (.int .i64 j))
theorem aCB{C:Ctx}(a b:List Nat)(ha:Lim a)(hb:Lim b)(h1:Z' a≤35184372087808)(h2:Z' b≤35184372087808)(L:List Nat)(i:Nat)(hi:i<Z' a)(N:OK a b L i)(q:Nat)(K:cD)(F:PF)(H:PH)(J:(xM a b q i).le F)(hH:H q=some (.rows 1 (aO L)))
  (hK:∀L' F' H',OK a b L' (i+1)→(xM a b q i).le F'→H' q=some (.rows 1 (aO L'))→K .normal F' H') :
  aC.wp C (.block 1 (.seq (.region e7) (.seq (.seq (.region fa) (.block 2 (.loop VN))) (.region VO)))) K F H:=by
 have f0:=J 0 _ (by unfold xM;simp only[go_sem];rfl);have f1:=J 1 _ (by unfold xM;simp only[go_sem];rfl);have f5:=J 5 _ (by unfold xM;simp only[go_sem];rfl);have f6:=J 6 _ (by unfold xM;simp only[go_sem];rfl);have hx:=ha _ (a8G hi);have Y:=cZ a hi;generalize β:a[i]=x at *
 have V:(aO a)[i]?=some [.int .u32 ((x:Nat):Int)]:=by rw[cF a hi,β]
 simp only[go_sem,e7,fa];refine wp_loop (α:=List Nat × Nat × Nat) (λt=>utG a b q i t.2.1 t.2.2) (λt=>PH.nil.set q (.rows 1 (aO t.1)))
  (λt=>t.2.2≤Z' b∧t.1.length=Z' a+Z' b∧Lim t.1∧t.2.1<4294967296∧val t.1+4294967296^(i+t.2.2)*t.2.1=val (a.take i)*val b+4294967296^i*(x*val (b.take t.2.2))∧∀j y,i+Z' b≤j→t.1[j]?=some y→y=0) (λt=>Z' b-t.2.2) (L,0,0)
  ⟨by simp,N.len,N.lim,by simp,by simp[val,N.v],N.z⟩ ?_ (e_ a_ hH) ?_
 ·unfold utG;exact Lq
 rintro⟨M,c,j⟩ ⟨hj,U,e,X,u,Q⟩;simp only at hj U e X u Q;simp only[go_sem,VN,Og,utG];by_cases R:j<Z' b
 ·have w:(j:Int)<(Z' b:Nat):=Om;have O:=hb _ (a8G R);have Z:=cZ b R;generalize γ:b[j]=y at *
  have W:(aO b)[j]?=some [.int .u32 ((y:Nat):Int)]:=by rw[cF b R,γ]
  have d:i+j<Z' M:=Om;have E:=e _ (a8G d);have p:=PP d;generalize δ:M[i+j]=z at *
  have B:(aO M)[i+j]?=some [.int .u32 ((z:Nat):Int)]:=by rw[cF M d,δ]
  have ex:IntKind.u64.wrap ((x:Nat):Int)=((x:Nat):Int):=bP Om;have ey:IntKind.u64.wrap ((y:Nat):Int)=((y:Nat):Int):=bP Om;have ez:IntKind.u64.wrap ((z:Nat):Int)=((z:Nat):Int):=bP Om;have em:=aoZ hx O;have ζ:x*y≤4294967295*4294967295:=bbM Om Om;have e1:IntKind.u64.wrap (((x*y:Nat):Int)+(z:Int))=((x*y+z:Nat):Int):=iD Om;have e2:IntKind.u64.wrap (((x*y+z:Nat):Int)+(c:Int))=((x*y+z+c:Nat):Int):=iD Om;have A:IntKind.i64.wrap ((i:Int)+(j:Int))=((i+j:Nat):Int):=kF Om;have hlt:((i+j:Nat):Int)<((Z' a+Z' b:Nat):Int):=Om;generalize ht:x*y+z+c=t at *
  have ε:t<4294967296*4294967296:=Om;have l:(aO M).set (i+j) [.int .u32 ((t%4294967296:Nat):Int)]=aO (M.set (i+j) (t%4294967296)):=jM M (i+j) _;simp only[go_sem,w];refine cP .nil fT a_ ?_;simp only[go_sem,Oh,V,W,ex,ey,em,A,hlt,B,ez,e1,e2,Oi,dH,l,Oj,FA,Bg,wZz j];refine aJ (M.set (i+j) (t%4294967296),t/4294967296,j+1) ⟨by simp only;omega,by simp only[a9R];exact U,e.set _ (a9Z _ aV),by simp only;omega,?_,Cj Q _ _ Om⟩ (by simp only;omega) ?_ (e_ a_ Sq)
  ·simp only;have S:=p (t%4294967296);have h4:4294967296^(i+(j+1))*(t/4294967296)+4294967296^(i+j)*(t%4294967296)=4294967296^(i+j)*t:=by rw[←baL,baD,a9C,←a8O,bbX]
   have h5:4294967296^(i+j)*t=4294967296^(i+j)*(x*y)+4294967296^(i+j)*z+4294967296^(i+j)*c:=by rw[←ht,a8O,a8O]
   have h6:4294967296^i*(x*val (b.take (j+1)))=4294967296^i*(x*val (b.take j))+4294967296^(i+j)*(x*y):=by rw[Z,a8O,a8O,Nat.pow_add];congr 1;rw[Nat.mul_left_comm x,a9C]
   omega
  ·exact Lq
 ·have he:j=Z' b:=Om;have w:¬(j:Int)<(Z' b:Nat):=Om;subst he;have d:i+Z' b<Z' M:=Om;have E:M[i+Z' b]=0:=Q _ _ (a8E _) (a8N d);have p:=PP d;have B:(aO M)[i+Z' b]?=some [.int .u32 ((0:Nat):Int)]:=by rw[cF M d,E]
  have A:IntKind.i64.wrap ((i:Int)+(Z' b:Int))=((i+Z' b:Nat):Int):=kF Om;have hlt:((i+Z' b:Nat):Int)<((Z' a+Z' b:Nat):Int):=Om;have l:(aO M).set (i+Z' b) [.int .u32 ((c%4294967296:Nat):Int)]=aO (M.set (i+Z' b) c):=by rw[a9P X];exact jM M _ _
  simp only[go_sem,w,VO,A,dH,hlt,B,l];refine hK (M.set (i+Z' b) c) _ _ ⟨by rw[a9R];exact U,e.set _ X,?_,λj y hj O=>?_⟩ (by unfold xM;exact Lq) Sq
  ·have S:=p c;rw[E,Nat.mul_zero,a9Y]at S;rw[S,u,a9E,Y,a9J,a9C]
  ·rw[List.getElem?_set_ne Om]at O;exact Q j y Om O
theorem aIR{C:Ctx}(L:uN C)(a b:List Nat)(K:Lim a)(hb:Lim b)(S:Z' a≤8388608)(U:Z' b≤8388608) :
  NT.wp C (aY afT.res (cN (aN (aM (val a*val b))))) (PF.args [aN a,aN b]) .nil:=by
 have p:IntKind.i64.wrap ((Z' a:Int)+(Z' b:Int))=((Z' a+Z' b:Nat):Int):=kF Om;have A:((Z' a+Z' b:Nat):Int)*((4:Nat):Int)≤140737488355328:=Om;have B:((Z' a+Z' b:Nat):Int)≤9223372036854775807:=Om;have O:a8D (Z' a+Z' b) [PV.int .u32 0]=aO (a8D (Z' a+Z' b) 0):=by simp[aO]
 simp only[go_sem,NT,Oc,Od,afT,a7Z,p,A,B,O];refine aR λo V=>?_;simp only[go_sem,Oe];refine wp_loop (α:=List Nat × Nat) (λt=>xM a b o t.2) (λt=>PH.nil.set o (.rows 1 (aO t.1))) (λt=>t.2≤Z' a∧OK a b t.1 t.2) (λt=>Z' a-t.2) (a8D (Z' a+Z' b) 0,0)
  ⟨by simp,by simp,CP _,by simp[val,yG],λj x _ F=>by rw[List.getElem?_replicate]at F;split at F<;>simp_all⟩ ?_ (e_ a_ Sq) ?_
 ·unfold xM;exact Lq
 rintro⟨M,i⟩ ⟨hi,e⟩;simp only at hi e;simp only[go_sem,Bf,Of,xM];by_cases H:i<Z' a
 ·have l:(i:Int)<(Z' a:Nat):=Om;have u:=aCB (C:=C) a b K hb Om Om M i H e o;simp only[go_sem]at u;simp only[go_sem,l];refine u _ _ _ (by unfold xM;exact Lq) Sq ?_;intro L' Q H' y d w;have J:=d 6 _ (by unfold xM;simp only[go_sem];rfl);have g0:=d 0 _ (by unfold xM;simp only[go_sem];rfl);have g1:=d 1 _ (by unfold xM;simp only[go_sem];rfl);have R:=d 5 _ (by unfold xM;simp only[go_sem];rfl);simp only[go_sem,Bh,J,wZz i];refine aJ (L',i+1) ⟨by simp only;omega,y⟩ (by simp only;omega) ?_ (e_ a_ w);exact Lq
 ·have N:i=Z' a:=Om;subst N;have l:¬(Z' a:Int)<(Z' a:Nat):=Om;have hV:val M=val a*val b:=by rw[e.v,a9E]
  simp only[go_sem,Bi];have E:=L.trim _ e.lim (by rw[e.len];omega);rw[hV]at E;refine vO (o:=o) (s:=1) (k:=Z' a+Z' b) (rs:=aO M) (v:=aN (aM (val a*val b))) ?_ rfl Sq (by rw[cW,e.len];exact a8E _) ?_
  ·rw[a8T (by rw[cW,e.len];exact a8E _)];exact E
  ·simp only[go_sem];exact bE (.inr rfl) .nil rfl a_ ⟨.refl _,rfl⟩
structure Rm(C:Ctx):Prop extends Rj C where
 minus:∀a b,Lim a→Lim b→val b≤val a→Z' b≤Z' a→Z' a≤35184372087808→aH C 42 [aN a,aN b] .nil (aK (aN (aM (val a-val b))))
 times:∀a b,Lim a→Lim b→Z' a≤8388608→Z' b≤8388608→aH C 44 [aN a,aN b] .nil (aK (aN (aM (val a*val b))))
theorem aVN{C:Ctx}(L:Rm C)(a b:List Nat)(l:Lim a)(hb:Lim b)(w:Z' a≤35184372087808)(x:Z' b≤35184372087808) :
  d8.wp C (aY aQA.res (cN (opV (fI (val a) (val b)) (val a*val b)))) (PF.args [aN a,aN b]) .nil:=by
 unfold opV;simp only[go_sem,d8,asQ,asR,aQA];refine aB (L.large a l w) rfl ?_;by_cases e:nl (val a)>512
 ·simp only[go_sem,e,Fu];rw[aG (by simp[fI,e])];exact gG rfl
 simp only[go_sem,e];refine aB (L.large b hb x) rfl ?_;by_cases i:nl (val b)>512
 ·simp only[go_sem,i,Fu];rw[aG (by simp[fI,i])];exact gG rfl
 rw[aD (by simp[fI,e,i])];simp only[go_sem,i,asS];refine aB (L.trim a l w) rfl ?_;simp only[go_sem];refine aB (L.trim b hb x) rfl ?_;simp only[go_sem];have u:=L.times (aM (val a)) (aM (val b)) (bB _) (bB _) (by rw[bG];omega) (by rw[bG];omega);rw[aZ,aZ]at u;refine aB u rfl ?_;have y:=pT (a:=val a) (b:=val b) (m:=512) (n:=512) Om Om;have p:=L.large (aM (val a*val b)) (bB _) (by rw[bG];omega);rw[aZ]at p;simp only[go_sem,asT];refine aB p rfl ?_;unfold szV szL szE;by_cases d:nl (val a*val b)>512
 ·rw[aG d,aG d];simp only[go_sem,d,asU];exact gG rfl
 ·rw[aD d,aD d];simp only[go_sem,d,asV];exact bE (.inr rfl) .nil rfl a_ ⟨.refl _,rfl⟩
def EB(a:List Nat)(i:Nat):Nat:=a.getD i 0
theorem S5{a:List Nat}(h:Lim a)(i:Nat):EB a i<4294967296:=by
 unfold EB;rw[a8V];rcases a9A i a.length with h1|h1
 ·rw[a8N h1];exact h _ (a8G h1)
 ·rw[a9N h1];decide
theorem nj{a:List Nat}{i:Nat}(h:i<Z' a):EB a i=a[i]:=by simp[EB,a8V,h]
theorem YO{a:List Nat}{i:Nat}(h:¬i<Z' a):EB a i=0:=by simp[EB,a8V,h]
theorem fc(a:List Nat)(i:Nat):val (a.take (i+1))=val (a.take i)+4294967296^i*EB a i:=by
 rcases a9A i a.length with h|h
 ·rw[nj h];exact cZ a h
 ·rw[YO Om,a8T Om,a8T Om];simp
def zW(a b:List Nat)(v:PV)(c i:Nat):PF:=(((((PF.nil.set 0 (aN a)).set 1 (aN b)).set 5 (v)).set 6 (.int .u64 c)).set 7 (.int .i64 i))
theorem aQG{C:Ctx}(L:uN C)(a b:List Nat)(ha:Lim a)(hb:Lim b)(h1:Z' a≤8388608)(h2:Z' b≤8388608) :
  VK.wp C (aY aCA.res (cN (aN (aM (val a+val b))))) (PF.args [aN a,aN b]) .nil:=by
 simp only[go_sem,VK,afO,afP,afQ,afR,aCA];refine wp_loop (α:=List Nat × Nat × PV × PH) (λs=>zW a b s.2.2.1 s.2.1 s.1.length) (λs=>s.2.2.2)
  (λs=>s.1.length≤max a.length b.length+1∧(s.1.length≤max a.length b.length∨s.2.1=0)∧Lim s.1∧s.2.1≤1∧val s.1+4294967296^s.1.length*s.2.1=val (a.take s.1.length)+val (b.take s.1.length)∧bJ s.2.2.2 1 s.2.2.1 (aO s.1)) (λs=>max a.length b.length+1-s.1.length) ([],0,.aF,.nil)
  ⟨by simp,by simp,by simp[Lim],by simp,by simp[val],.nil⟩ ?_ a_ ?_
 ·unfold zW;exact Lq
 rintro⟨P,c,v,H0⟩ ⟨hP,δ,l,hc,E,hO⟩;simp only at hP δ l hc E hO ⊢;have ι:=S5 ha P.length;have κ:=S5 hb P.length;have η:=fc a P.length;have θ:=fc b P.length;generalize hx:EB a P.length=x at *
 generalize Z:EB b P.length=y at *
 have ex:IntKind.u64.wrap ((x:Nat):Int)=((x:Nat):Int):=bP Om;have ey:IntKind.u64.wrap ((y:Nat):Int)=((y:Nat):Int):=bP Om;have N:IntKind.u64.wrap ((c:Int)+(x:Int))=((c+x:Nat):Int):=iD Om;have e2:IntKind.u64.wrap (((c+x:Nat):Int)+(y:Int))=((c+x+y:Nat):Int):=iD Om;have ζ:Z' P<Z' a→(aO a)[Z' P]?=some [.int .u32 ((x:Nat):Int)]:=λh=>by rw[cF a h,←hx,nj h]
 have X:Z' P<Z' b→(aO b)[Z' P]?=some [.int .u32 ((y:Nat):Int)]:=λh=>by rw[cF b h,←Z,nj h]
 have Y:¬Z' P<Z' a→x=0:=λh=>by rw[←hx,YO h]
 have O:¬Z' P<Z' b→y=0:=λh=>by rw[←Z,YO h]
 have body:(Z' P≤max a.length b.length)→∀K:cD,(∀i u v' Q H2,Z' i=Z' P+1→Lim i→u≤1→(Z' P+1≤max a.length b.length∨u=0)→val i+4294967296^i.length*u=val (a.take (Z' P+1))+val (b.take (Z' P+1))→(zW a b v' u i.length).le Q→bJ H2 1 v' (aO i)→K .normal Q H2) →
   ∀F:PF,(zW a b v c P.length).le F→aC.wp C (.seq (.block 1 (.seq (.region sm) (.seq (.seq (.region sn) (.cond (.tmp 29) (.region so) .skip)) (.seq (.seq (.region VL) (.cond (.tmp 40) (.region VM) .skip)) (.seq (.region KQ) (.region KR)))))) (.region KT)) K F H0:=by
  intro μ K hK F V;have g0:F 0=some (aN a):=V 0 _ (by unfold zW;simp only[go_sem]);have g1:F 1=some (aN b):=V 1 _ (by unfold zW;simp only[go_sem]);have g5:F 5=some v:=V 5 _ (by unfold zW;simp only[go_sem]);have g6:F 6=some (.int .u64 c):=V 6 _ (by unfold zW;simp only[go_sem]);have w:F 7=some (.int .i64 P.length):=V 7 _ (by unfold zW;simp only[go_sem]);have fin:∀H:PF,H 0=some (aN a)→H 1=some (aN b)→H 5=some v→H 7=some (.int .i64 P.length)→H 8=some (.int .u64 (c+x+y:Nat)) →
    aC.wp C (.seq (.region KQ) (.region KR)) (fQ 1 (jW C (aC.wp C (.region KT)) K)) H H0:=by
   intro H q0 q1 q5 q7 q8;have ε:(1:Nat)*1≤16777216:=by decide
   generalize ht:c+x+y=t at *
   have ν:t<2*4294967296:=Om;simp only[go_sem,KQ,q5,q8,ε,dH];refine jD (src:=[[.int .u32 ((t%4294967296:Nat):Int)]]) hO rfl (vC Om) λv' H' W _=>?_;rw[vD]at W;simp only[go_sem,KR,q8,FA,KT,q7,eQ (Om:Z' P<9223372036854775807)];refine hK (P++[t%4294967296]) (t/4294967296) v' _ H' bD (l.app λy Z=>by simp at Z;subst Z;omega) Om ?_ ?_ ?_ W
   ·rcases a9A P.length (max a.length b.length)with h|h
    ·exact .inl h
    ·right;have h1:=Y Om;have h2:=O Om;omega
   ·rw[mH,a8F,a8J,η,θ,baD,a9C,baL,←a8O];rw[show t%4294967296+4294967296*(t/4294967296)=t from Nat.mod_add_div t 4294967296];have h3:4294967296^P.length*t=4294967296^P.length*c+4294967296^P.length*x+4294967296^P.length*y:=by rw[←ht,a8O,a8O]
    omega
   ·unfold zW;rw[a8F,a8J];exact Lq
  simp only[aC.wp,go_sem]at fin;simp only[go_sem,sm,g6,sn,w,g0];by_cases c1:Z' P<Z' a
  ·have e:(Z' P:Int)<(Z' a:Nat):=Om;simp only[go_sem,e,so,g0,w,ζ c1,ex,N,VL,g1];by_cases J:Z' P<Z' b
   ·have d:(Z' P:Int)<(Z' b:Nat):=Om;simp only[go_sem,d,VM,g1,w,X J,ey,e2];exact fin _ (by simp only[go_sem,g0]) (by simp only[go_sem,g1]) (by simp only[go_sem,g5]) (by simp only[go_sem,w]) rfl
   ·have d:¬(Z' P:Int)<(Z' b:Nat):=Om;have h0:=O J;simp only[go_sem,d];exact fin _ (by simp only[go_sem,g0]) (by simp only[go_sem,g1]) (by simp only[go_sem,g5]) (by simp only[go_sem,w]) (by simp only[go_sem,h0])
  ·have e:¬(Z' P:Int)<(Z' a:Nat):=Om;have h0:=Y c1;simp only[go_sem,e,VL,g1,w];by_cases J:Z' P<Z' b
   ·have d:(Z' P:Int)<(Z' b:Nat):=Om;have β:IntKind.u64.wrap ((c:Int)+(y:Int))=((c+x+y:Nat):Int):=by rw[h0];exact iD Om
    simp only[go_sem,d,VM,g1,w,X J,ey,β];exact fin _ (by simp only[go_sem,g0]) (by simp only[go_sem,g1]) (by simp only[go_sem,g5]) (by simp only[go_sem,w]) rfl
   ·have d:¬(Z' P:Int)<(Z' b:Nat):=Om;have γ:=O J;simp only[go_sem,d];exact fin _ (by simp only[go_sem,g0]) (by simp only[go_sem,g1]) (by simp only[go_sem,g5]) (by simp only[go_sem,w]) (by simp only[go_sem,h0,γ])
 simp only[aC.wp,go_sem]at body;have p:¬Z' P<Z' a→¬Z' P<Z' b→c=0→∀F:PF,F 5=some v→aC.wp C (.seq (.region ef) .ret) (aY [.tmp 4] (cN (aN (aM (val a+val b))))) F H0:=by
  intro n1 n2 n3 F f5;have hV:val P=val a+val b:=by rw[n3,a8T Om,a8T Om]at E;omega
  have hs:=L.trim _ l Om;rw[hV]at hs;simp only[go_sem,ef,f5];refine AD hs hO rfl λF1 H1 _=>?_;simp only[go_sem];exact bE (.inr rfl) .nil rfl a_ ⟨.refl _,rfl⟩
 simp only[aC.wp,go_sem]at p;simp only[go_sem,Ob,afS,zW];by_cases c1:Z' P<Z' a
 ·have e:(Z' P:Int)<(Z' a:Nat):=Om;simp only[go_sem,e];refine body Om _ ?_ _ (by unfold zW;exact Lq);intro i u v' Q H2 N e2 R A B S U;rw[←N]at B A;exact aJ (α:=List Nat × Nat × PV × PH) (i,u,v',H2) ⟨by simp only;omega,A,e2,R,B,U⟩ (by simp only;omega) S b_
 ·have e:¬(Z' P:Int)<(Z' a:Nat):=Om;simp only[go_sem,e];by_cases J:Z' P<Z' b
  ·have d:(Z' P:Int)<(Z' b:Nat):=Om;simp only[go_sem,d];refine body Om _ ?_ _ (by unfold zW;exact Lq);intro i u v' Q H2 N e2 R A B S U;rw[←N]at B A;exact aJ (α:=List Nat × Nat × PV × PH) (i,u,v',H2) ⟨by simp only;omega,A,e2,R,B,U⟩ (by simp only;omega) S b_
  ·have d:¬(Z' P:Int)<(Z' b:Nat):=Om;simp only[go_sem,d];by_cases c3:c=0
   ·have M:¬(c:Int)>0:=Om;simp only[go_sem,M];exact p c1 J c3 _ rfl
   ·have M:(c:Int)>0:=Om;simp only[go_sem,M];refine body Om _ ?_ _ (by unfold zW;exact Lq);intro i u v' Q H2 N e2 R A B S U;rw[←N]at B A;exact aJ (α:=List Nat × Nat × PV × PH) (i,u,v',H2) ⟨by simp only;omega,A,e2,R,B,U⟩ (by simp only;omega) S b_
structure tz(C:Ctx):Prop extends Rm C where
 plus:∀a b,Lim a→Lim b→Z' a≤8388608→Z' b≤8388608→aH C 43 [aN a,aN b] .nil (aK (aN (aM (val a+val b))))
theorem aVJ{C:Ctx}(L:tz C)(a b:List Nat)(l:Lim a)(hb:Lim b)(w:Z' a≤35184372087808)(x:Z' b≤35184372087808) :
  du.wp C (aY aPS.res (cN (opV (fI (val a) (val b)) (val a+val b)))) (PF.args [aN a,aN b]) .nil:=by
 unfold opV;simp only[go_sem,du,arM,arN,aPS];refine aB (L.large a l w) rfl ?_;by_cases e:nl (val a)>512
 ·simp only[go_sem,e,Fo];rw[aG (by simp[fI,e])];exact gG rfl
 simp only[go_sem,e];refine aB (L.large b hb x) rfl ?_;by_cases i:nl (val b)>512
 ·simp only[go_sem,i,Fo];rw[aG (by simp[fI,i])];exact gG rfl
 rw[aD (by simp[fI,e,i])];simp only[go_sem,i,arO];refine aB (L.trim a l w) rfl ?_;simp only[go_sem];refine aB (L.trim b hb x) rfl ?_;simp only[go_sem];have u:=L.plus (aM (val a)) (aM (val b)) (bB _) (bB _) (by rw[bG];omega) (by rw[bG];omega);rw[aZ,aZ]at u;refine aB u rfl ?_;have y:=Zy (a:=val a) (b:=val b) (m:=512) Om Om;have p:=L.large (aM (val a+val b)) (bB _) (by rw[bG];omega);rw[aZ]at p;simp only[go_sem,arP];refine aB p rfl ?_;unfold szV szL szE;by_cases d:nl (val a+val b)>512
 ·rw[aG d,aG d];simp only[go_sem,d,arQ];exact gG rfl
 ·rw[aD d,aD d];simp only[go_sem,d,arR];exact bE (.inr rfl) .nil rfl a_ ⟨.refl _,rfl⟩
theorem aVQ{C:Ctx}(L:tz C)(a b:List Nat)(l:Lim a)(hb:Lim b)(p:Z' a≤35184372087808)(u:Z' b≤35184372087808) :
  ep.wp C (aY aQI.res (cN (xK (val a) (val b)))) (PF.args [aN a,aN b]) .nil:=by
 unfold xK;simp only[go_sem,ep,asY,asZ,aQI];refine aB (L.large a l p) rfl ?_;by_cases d:nl (val a)>512
 ·simp only[go_sem,d,Fv];rw[aG (by simp[fI,d])];exact gG rfl
 simp only[go_sem,d];refine aB (L.large b hb u) rfl ?_;by_cases e:nl (val b)>512
 ·simp only[go_sem,e,Fv];rw[aG (by simp[fI,e])];exact gG rfl
 rw[aD (by simp[fI,d,e])];simp only[go_sem,e,atA];refine aB (L.cmp a b l hb p u) rfl ?_;by_cases i:val a<val b
 ·have:fA (val a) (val b)=-1:=by simp[fA,i]
  rw[aG i];simp only[go_sem,this,show((-1:Int)<0) by decide,atB];exact gG rfl
 ·have:¬fA (val a) (val b)<0:=by unfold fA;rw[aD i];split<;>decide
  rw[aD i];have y:=jS (Nat.sub_le (val a) (val b));have x:=jS (Om:val b≤val a);simp only[go_sem,this,atC];refine aB (L.trim a l p) rfl ?_;simp only[go_sem];refine aB (L.trim b hb u) rfl ?_;simp only[go_sem];have w:=L.minus (aM (val a)) (aM (val b)) (bB _) (bB _) (by rw[aZ,aZ];omega) (by rw[bG,bG];exact x) (by rw[bG];omega);rw[aZ,aZ]at w;refine aB w rfl ?_;rw[IH Om];simp only[go_sem];exact bE (.inr rfl) .nil rfl a_ ⟨.refl _,rfl⟩
def aeG(k:Nat)(v:Nat):PF:=((PF.nil.set 3 (.int .i64 k)).set 4 (.int .u32 v))
theorem aPT{C:Ctx}(L:uN C)(xs:List Nat)(J:Lim xs)(Q:Z' xs≤35184372087808) :
  VA.wp C (aY aBR.res (aK (.int .i64 (dJ (val xs):Nat)))) (PF.args [aN xs]) .nil:=by
 simp only[go_sem,VA,aeI,aeJ,aBR];refine aB (L.trim xs J Q) rfl ?_;have R:=jL J;simp only[go_sem,aeK,a7Z,bG,KP];by_cases x:nl (val xs)=0
 ·simp only[go_sem,bN x,aeL];refine aX (.inr rfl) rfl ?_;have:val xs=0:=lE.1 x;simp[bR,this,mN]
 obtain⟨n,N⟩:∃n,nl (val xs)=n+1:=⟨nl (val xs)-1,by omega⟩;obtain⟨t,w,A⟩:=adA (xs:=aM (val xs)) (bB _) (by rw[aZ];exact N);have p:t<4294967296:=bB _ t (baH w);have O:val xs=val ((aM (val xs)).take n)+4294967296^n*t:=by
  have:=aZ (val xs);have d:n<(aM (val xs)).length:=by rw[bG];omega
  have M:(aM (val xs))[n]=t:=by rw[a8N d]at w;exact a9V.inj w
  conv=>lhs;rw[←this,←a8T (l:=aM (val xs)) (i:=n+1) (by rw[bG];omega)]
  rw[cZ _ d,M]
 have hb:dJ (val xs)=32*n+dJ t:=by have F:=hZ ((bB (val xs)).take n);rw[a8S,bG,baS Om]at F;have u:=R2 (lo:=val ((aM (val xs)).take n)) (k:=32*n) (hi:=t) (by rw[Nat.pow_mul];exact F) A;rw[←u,Nat.pow_mul];exact congrArg dJ O
 have e:(aO (aM (val xs)))[n]?=some [.int .u32 (t:Nat)]:=by simp[aO,w]
 have K:IntKind.i64.wrap (((nl (val xs):Nat):Int)-1)=(n:Int):=by rw[wrap_i64 Om Om];omega
 have e2:IntKind.i64.wrap (32*(n:Int))=((32*n:Nat):Int):=by rw[wrap_i64 Om Om];omega
 simp only[go_sem,cB x,aeM,aeN,a7Z,bG,K,e2,e];refine wp_loop (α:=Nat × Nat) (λa=>aeG a.1 a.2) (λ_=>.nil) (λa=>a.1+dJ a.2=32*n+dJ t∧a.2<4294967296) (λa=>a.2) (32*n,t) ⟨rfl,p⟩ ?_ a_ ?_
 ·unfold aeG;exact Lq
 rintro⟨k,v⟩ ⟨u,hlt⟩;simp only at u hlt;have H:dJ t≤32:=(pZ t 32).2 p;simp only[go_sem,aeH,aeO,aeG];by_cases E:(v:Int)>0
 ·have B:v≠0:=Om;have y:IntKind.u32.wrap (baO (v:Int) 2)=((v/2:Nat):Int):=by rw[show baO (v:Int) 2=((v/2:Nat):Int)from Int.ofNat_tdiv v 2,dH,a9P Om]
  simp only[go_sem,E,aeP,aeQ,y,wZz k];refine aJ (k+1,v/2) ⟨?_,?_⟩ (Nat.div_lt_self Om aV) ?_ a_
  ·have:=tP B;simp only;omega
  ·simp only;omega
  ·exact Lq
 ·have:v=0:=Om;subst this;simp only[go_sem,E,Nw];refine aX (.inr rfl) rfl ?_;rw[mN]at u;simp only[bR,PV.int.injEq,true_and];omega
theorem Kp(n:Nat):4294967296^(n/32)*2^(n%32)=2^n:=by
 rw[show(4294967296:Nat)=2^32 by decide,←Nat.pow_mul,←Nat.pow_add];congr 1;omega
theorem aID(n:Nat):IntKind.i64.wrap (baO (n:Int) 32)=IntKind.i64.wrap ((n/32:Nat):Int):=by
 rw[show baO (n:Int) 32=((n/32:Nat):Int)from Int.ofNat_tdiv n 32]
theorem aIH(n:Nat):Int.tmod (n:Int) 32=((n%32:Nat):Int):=Int.ofNat_tmod n 32
def aQK(a:List Nat)(n:Nat)(v:PV)(c i:Nat):PF:=(((((PF.nil.set 0 (aN a)).set 1 (.int .i64 n)).set 5 (v)).set 6 (.int .u64 c)).set 7 (.int .i64 i))
theorem aYI{C:Ctx}(L:uN C)(a:List Nat)(n:Nat)(ha:Lim a)(h1:Z' a≤8388608)(hn:n≤8388608)(h0:Z' a=0→val a=0) :
  su.wp C (aY uup.res (rT 1 (aO (aM (val a*2^n))))) (PF.args [aN a,.int .i64 n]) .nil:=by
 simp only[go_sem,su,aIS,aIT,uup,a7Z,KP];by_cases E:Z' a=0
 ·simp only[go_sem,bN E,aIU];rw[h0 E,Nat.zero_mul,jO];exact PJ (.inr rfl) rfl
 have ez:IntKind.i64.wrap (baO (n:Int) 32)=((n/32:Nat):Int):=by rw[aID,sv Om]
 have em:=aIH n;have eu:IntKind.u64.wrap ((n%32:Nat):Int)=((n%32:Nat):Int):=bP Om;have U:=Kp n;have S:n%32<32:=a9Z _ aV;have hz:n/32≤8388608:=Om;generalize ζ:n/32=z at *
 generalize δ:n%32=s at *
 have Q:((z:Nat):Int)*((4:Nat):Int)≤140737488355328:=Om;have R:((z:Nat):Int)≤9223372036854775807:=Om;have W:a8D z [PV.int .u32 0]=aO (a8D z 0):=by simp[aO]
 have K:2^s≤2147483648:=bbU (show 0<2 by decide) (Om:s≤31);have A:0<2^s:=bbD aV;simp only[go_sem,cB E,aIV,ez,Q,R,W];refine aR λo ho=>?_;simp only[go_sem,aIW,aIX];refine wp_loop (α:=List Nat × Nat × Nat × PV × PH) (λt=>aQK a n t.2.2.2.1 t.2.1 t.2.2.1) (λt=>t.2.2.2.2)
  (λt=>t.2.2.1≤Z' a∧t.1.length=z+t.2.2.1∧Lim t.1∧t.2.1<2^s∧val t.1+4294967296^t.1.length*t.2.1=val (a.take t.2.2.1)*2^n∧bJ t.2.2.2.2 1 t.2.2.2.1 (aO t.1)) (λt=>Z' a-t.2.2.1) (a8D z 0,0,0,.osl o 1 0 z,PH.nil.set o (.rows 1 (aO (a8D z 0))))
  ⟨by simp,by simp,CP _,A,by simp[val,yG],.inr ⟨o,aO (a8D z 0),by rw[cW,List.length_replicate],by simp only[go_sem],by rw[cW];exact a8E _,a9E⟩⟩ ?_ b_ ?_
 ·unfold aQK;exact Lq
 rintro⟨P,c,i,v,H0⟩ ⟨hi,X,d,Y,p,N⟩;simp only at hi X d Y p N ⊢;simp only[go_sem,atD,aIY,aQK];by_cases F:i<Z' a
 ·have u:(i:Int)<(Z' a:Nat):=Om;have γ:=ha _ (a8G F);have V:=cZ a F;have O:=cF a F;generalize Z:a[i]=x at *
  have ε:x*2^s≤4294967295*2147483648:=bbM Om K;have ex:IntKind.u64.wrap ((x:Nat):Int)=((x:Nat):Int):=bP Om;have β:2^s*x=x*2^s:=a9H _ _;have J:shift .shl .u64 (x:Int) (s:Int)=some (.int .u64 ((2^s*x:Nat):Int)):=UN Om Om;have H:=orI (a:=2^s*x) (b:=c) (n:=c+2^s*x) Om Om (by rw[Nat.or_comm];exact aaV Y Om) Om;have B:(c+2^s*x)/4294967296<2^s:=by rw[bbJ aV];have:2^s*(x+1)≤2^s*4294967296:=baT _ Om;rw[a8O,Nat.mul_one]at this;omega
  have w:(1:Nat)*1≤16777216:=by decide
  simp only[go_sem,u,aIZ,O,ex,em,eu,J,H,aJA,dH,w];refine jD (src:=[[.int .u32 (((c+2^s*x)%4294967296:Nat):Int)]]) N rfl (vC Om) λv' H' l _=>?_;rw[vD]at l;simp only[go_sem,aJB,FA,atE,wZz i];refine aJ (P++[(c+2^s*x)%4294967296],(c+2^s*x)/4294967296,i+1,v',H') ⟨by simp only;omega,by simp;omega,d.app λy hy=>by simp at hy;subst hy;exact a9Z _ aV,B,?_,l⟩ (by simp only;omega) ?_ b_
  ·simp only;have hp:4294967296^P.length*(2^s*x)=4294967296^i*x*2^n:=by rw[X,Nat.pow_add,←U];rw[a9C,Nat.mul_left_comm (4294967296^i),←a9C (4294967296^z),a9H (4294967296^z*2^s),a9C,a9H x]
   rw[mH,a8F,a8J,baD,a9C,baL,←a8O,Nat.mod_add_div,V,a8O,a9J,←baL,p,hp]
  ·exact Lq
 ·have e:i=Z' a:=Om;subst e;have u:¬(Z' a:Int)<(Z' a:Nat):=Om;have w:(1:Nat)*1≤16777216:=by decide
  have hV:val (P++[c])=val a*2^n:=by rw[mH,p,a9E]
  have M:Lim (P++[c]):=d.app λx Z=>by simp at Z;omega
  have ec:IntKind.u32.wrap ((c:Nat):Int)=((c:Nat):Int):=by rw[dH,a9P Om]
  simp only[go_sem,u,atF,ec,w];refine jD (src:=[[.int .u32 ((c:Nat):Int)]]) N rfl (vC Om) λv' H' l _=>?_;rw[vD]at l;have S:=L.trimM _ M (by simp;omega);rw[hV]at S;refine Qf S l rfl λF1 H1 _ r H2 hr _=>?_;simp only[go_sem];exact aHI (.inr rfl) hr rfl
def dy(a:List Nat)(n:Nat)(v:PV)(i:Nat):PF:=((((PF.nil.set 0 (aN a)).set 1 (.int .i64 n)).set 5 (v)).set 6 (.int .i64 i))
theorem aPX{C:Ctx}(L:uN C)(a:List Nat)(n:Nat)(J:Lim a)(h1:Z' a≤8388608)(hn:n≤1000000000) :
  VE.wp C (aY aBV.res (cN (aN (aM (val a/2^n))))) (PF.args [aN a,.int .i64 n]) .nil:=by
 have ez:IntKind.i64.wrap (baO (n:Int) 32)=((n/32:Nat):Int):=by rw[aID,sv Om]
 have em:=aIH n;have eu:IntKind.u64.wrap ((n%32:Nat):Int)=((n%32:Nat):Int):=bP Om;have N:=Kp n;have R:n%32<32:=a9Z _ aV;have hz:n/32≤1000000000:=Om;generalize ι:n/32=z at *
 generalize θ:n%32=s at *
 simp only[go_sem,VE,aeW,aeX,aBV,a7Z,ez];by_cases c0:Z' a≤z
 ·have p:((z:Nat):Int)≥(Z' a:Nat):=Om;have hq:val a/2^n=0:=by refine bbY (Nat.lt_of_lt_of_le (hZ J) ?_);rw[←N];exact a9F (bbU aV c0) (Nat.le_mul_of_pos_right _ (bbD aV))
  simp only[go_sem,p,aeY];rw[hq,jO];exact bE (vs:=[.aF]) (.inr rfl) .nil rfl a_ ⟨.nil 1,rfl⟩
 have p:¬((z:Nat):Int)≥(Z' a:Nat):=Om;have hR:val a/2^n=val (a.drop z)/2^s:=by rw[BI J Om,←N,Nat.div_div_eq_div_mul]
 have E:Lim (a.drop z):=J.drop z;simp only[go_sem,p,aeZ,afA,ez];refine wp_loop (α:=List Nat × PV × PH) (λt=>dy a n t.2.1 (z+t.1.length)) (λt=>t.2.2)
  (λt=>z+t.1.length≤Z' a∧t.1=fH t.1.length (val (a.drop z)/2^s)∧bJ t.2.2 1 t.2.1 (aO t.1)) (λt=>Z' a-t.1.length) ([],.aF,.nil)
  ⟨by simp;omega,rfl,.nil⟩ ?_ a_ ?_
 ·unfold dy
  (repeat' (first|exact d_|refine c_ ?_ ?_))<;>first|(simp only[go_sem,baE]<;>rfl)|rfl
 rintro⟨P,v,H0⟩ ⟨hP,hD,Z⟩;simp only at hP hD Z ⊢;simp only[go_sem,Nx,afB,dy];have B:Lim P:=by rw[hD];exact qT _ _
 by_cases S:z+Z' P<Z' a
 ·have u:((z+Z' P:Nat):Int)<(Z' a:Nat):=Om;have η:=J _ (a8G S);have β:=cF a S;have δ:Z' P≤(a.drop z).length:=by rw[baG];omega
  have O:=BI E δ;have d:(a.drop z).drop P.length=a[z+Z' P]::a.drop (z+Z' P+1):=by rw[List.drop_drop,baJ S]
  generalize hx:a[z+Z' P]=x at *
  have ex:IntKind.u64.wrap ((x:Nat):Int)=((x:Nat):Int):=bP Om;have γ:(1:Nat)*1≤16777216:=by decide
  have Y:IntKind.i64.wrap (((z+Z' P:Nat):Int)+1)=((z+Z' P+1:Nat):Int):=eQ Om;have fin:∀(t:Nat)(F:PF),t<18446744073709551616→val (a.drop z)/4294967296^P.length%(4294967296*4294967296)=t→F 0=some (aN a)→F 1=some (.int .i64 n)→F 5=some v→F 6=some (.int .i64 (z+Z' P:Nat))→F 7=some (.int .u64 t) →
    ∀K:cD,(∀v' Q H2,(dy a n v' (z+(Z' P+1))).le Q→bJ H2 1 v' (aO (P++[t/2^s%4294967296]))→(P++[t/2^s%4294967296])=fH (Z' P+1) (val (a.drop z)/2^s)→K .normal Q H2) →
    aC.wp C (.region sj) (fQ 1 (jW C (aC.wp C (.region dz)) K)) F H0:=by
   intro t F ht ε f0 f1 f5 f6 f7 K hK;have A:shift .shr .u64 (t:Int) (s:Int)=some (.int .u64 ((t/2^s:Nat):Int)):=aYD Om;simp only[go_sem,sj,f5,f7,f1,em,eu,A,dH,γ];refine jD (src:=[[.int .u32 ((t/2^s%4294967296:Nat):Int)]]) Z rfl (vC Om) λv' H' H _=>?_;rw[vD]at H;simp only[go_sem,dz,f6,Y];refine hK v' _ H' ?_ H ?_
   ·unfold dy;exact Lq
   ·rw[CJ,←hD];congr 2;have e:val (a.drop z)/4294967296^P.length=t%4294967296+4294967296*(t/4294967296+4294967296*(val (a.drop z)/4294967296^P.length/(4294967296*4294967296))):=by have:=Nat.mod_add_div (val (a.drop z)/4294967296^P.length) (4294967296*4294967296);rw[ε]at this;have h2:=Nat.mod_add_div t 4294967296;rw[a8O,←baL,h2,←a9C];exact this.symm
    have:=kz R e;rw[this];congr 2;have h2:=Nat.mod_add_div t 4294967296;omega
  simp only[aC.wp,go_sem]at fin;simp only[go_sem,u,afC,β,ex,afD,Y];by_cases U:z+Z' P+1<Z' a
  ·have w:((z+Z' P+1:Nat):Int)<(Z' a:Nat):=Om;have ζ:=J _ (a8G U);have M:=cF a U;rw[baJ U]at d;generalize hy:a[z+Z' P+1]=y at *
   have ey:IntKind.u64.wrap ((y:Nat):Int)=((y:Nat):Int):=bP Om;have A:shift .shl .u64 (y:Int) ((32:Nat):Int)=some (.int .u64 ((2^32*y:Nat):Int)):=UN aV Om;have X:=orI (a:=x) (b:=2^32*y) (n:=x+2^32*y) Om Om (aaV Om Om) Om;simp only[go_sem,w,afE,Y,M,ey,show shift .shl .u64 (y:Int) 32=_ from A,X];refine fin (x+2^32*y) _ Om ?_ rfl rfl rfl rfl rfl _ ?_
   ·rw[←O,d];simp only[val];omega
   ·intro v' Q H2 V e2 W;refine aJ (α:=List Nat × PV × PH) (P++[(x+2^32*y)/2^s%4294967296],v',H2) ⟨by simp;omega,by simpa using W,e2⟩ (by simp;omega) ?_ b_;simp only[a8F,a8J];exact V
  ·have w:¬((z+Z' P+1:Nat):Int)<(Z' a:Nat):=Om;rw[bcB (l:=a) (i:=z+Z' P+1) Om]at d;simp only[go_sem,w];refine fin x _ Om ?_ rfl rfl rfl rfl rfl _ ?_
   ·rw[←O,d];simp only[val];omega
   ·intro v' Q H2 V e2 W;refine aJ (α:=List Nat × PV × PH) (P++[x/2^s%4294967296],v',H2) ⟨by simp;omega,by simpa using W,e2⟩ (by simp;omega) ?_ b_;simp only[a8F,a8J];exact V
 ·have e:z+Z' P=Z' a:=Om;have u:¬((z+Z' P:Nat):Int)<(Z' a:Nat):=Om;have hV:val P=val (a.drop z)/2^s:=by rw[hD];refine tA (Nat.lt_of_le_of_lt (bbH _ _) ?_);have:=hZ E;rw[baG]at this;rw[show P.length=Z' a-z by omega];exact this
  have R:=L.trim _ B Om;rw[hV,←hR]at R;simp only[go_sem,u,Ny];refine AD R Z rfl λF1 H1 _=>?_;simp only[go_sem];exact bE (.inr rfl) .nil rfl a_ ⟨.refl _,rfl⟩
structure XO(C:Ctx):Prop extends tz C where
 bits:∀xs,Lim xs→Z' xs≤35184372087808→aH C 31 [aN xs] .nil (aK (.int .i64 (dJ (val xs):Nat)))
 upM:∀(a:List Nat)(n:Nat),Lim a→Z' a≤8388608→n≤8388608→(Z' a=0→val a=0)→aH C 45 [aN a,.int .i64 n] .nil (rT 1 (aO (aM (val a*2^n))))
 down:∀(a:List Nat)(n:Nat),Lim a→Z' a≤8388608→n≤1000000000→aH C 40 [aN a,.int .i64 n] .nil (aK (aN (aM (val a/2^n))))
def udS:Spec:=λname vs=>match name,vs with
 |35,[.int _ v]=>some ([],λ_=>aK (aN (aM v.toNat)))
 |44,[x,y]=>some ([],λ_=>aK (aN (aM (val (mB x)*val (mB y)))))
 |32,[x,.osl q _ _ _]=>some ([q],λd r H'=>H'=d∧∀xs,Lim xs→d q=some (.rows 1 (aO xs))→r=.int .i64 (fA (val (mB x)) (val xs)))
 |_,_=>none
theorem aPW(v:Nat):udS 35 [.int .u64 v]=some ([],λ_=>aK (aN (aM v))):=rfl
theorem aIL(x y:List Nat):udS 44 [aN x,aN y]=some ([],λ_=>aK (aN (aM (val x*val y)))):=by
 show some ([],λ_=>aK (aN (aM (val (mB (aN x))*val (mB (aN y))))))=_;rw[fP,fP]
theorem aKO(q:Nat)(x L:List Nat):(PH.nil.set q (.rows 1 (aO L)))=(PH.nil.set q (.rows 1 (aO L)))∧∀xs,Lim xs→(PH.nil.set q (.rows 1 (aO L))) q=some (.rows 1 (aO xs))→(PV.int .i64 (fA (val x) (val L)))=.int .i64 (fA (val (mB (aN x))) (val xs)):=by
 refine⟨rfl,λxs d e=>?_⟩;rw[dK]at e;have:aO L=aO xs:=(aU.rows.inj (a9V.inj e)).2;rw[an this,fP]
def duF(n o e:Nat)(y:List Nat)(top i d:Nat)(k:Int):PF:=
 ((((((PF.nil.set 10 (.int .i64 n)).set 11 (.osl o 1 0 e)).set 12 (aN y)).set 13 (.int .u64 top)).set 14 (.osl i 1 0 d)).set 15 (.int .i64 k))
abbrev fJ(X:List Nat)(Z:List (List PV)):List (List PV):=aO X++Z
theorem WA{X:List Nat}{Z:List (List PV)}{i:Nat}(h:i<Z' X):(fJ X Z)[i]?=some [.int .u32 ((X[i]:Nat):Int)]:=by
 rw[fJ,baW (by rw[cW];exact h),cF X h]
theorem Pc{X:List Nat}{Z:List (List PV)}{i:Nat}(h:i<Z' X)(v:Nat):(fJ X Z).set i [.int .u32 (v:Int)]=fJ (X.set i v) Z:=by
 rw[fJ,List.set_append_left _ _ (by rw[cW];exact h),jM]
theorem Pb{X:List Nat}{Z:List (List PV)}{j m:Nat}(h:j+m≤Z' X):((fJ X Z).drop j).take m=aO ((X.drop j).take m):=by
 rw[fJ,List.drop_append_of_le_length (by rw[cW];omega),List.take_append_of_le_length (by rw[baG,cW];omega)];unfold aO;rw[←bbR,←baY]
theorem aYG{C:Ctx}(L:XO C)(n o p:Nat)(y:List Nat)(top l S j:Nat)(X:List Nat)(Z:List (List PV))(Q:l≠o)(hy:Lim y)(hX:Lim X)(γ:Z' X=p)(hl:p≤5000)(hj:j+(Z' y+1)≤p)(B:0<val y)
  (Y:aU) (g0:Nat) (hg:val ((X.drop j).take (Z' y+1))/val y≤g0) (O:g0<4294967296) (K:cD) (F:PF) (H:PH) (hF:((duF n o p y top l S j).set 17 (.int .u64 g0)).le F) (hH:((PH.nil.set o (.rows 1 (fJ X Z))).set l Y).le H)
  (hK:∀F' H',((duF n o p y top l S j).set 17 (.int .u64 (val ((X.drop j).take (Z' y+1))/val y:Nat))).le F'→((PH.nil.set o (.rows 1 (fJ X Z))).set l Y).le H'→K .normal F' H') :
  aC.wp C (.block 4 (.loop BW)) K F H:=by
 have d:¬o=l:=λh=>Q h.symm;have e:((X.drop j).take (Z' y+1)).length=Z' y+1:=by rw[a8S,baG];omega
 have u:Lim ((X.drop j).take (Z' y+1)):=(hX.drop _).take _;have w:=Pb (X:=X) (Z:=Z) (j:=j) (m:=Z' y+1) Om;have x:j+(Z' y+1)≤(fJ X Z).length:=by rw[fJ,a8F,cW];omega
 have M:aO ((X.drop j).take (Z' y+1))≠[]:=λh=>by have:=congrArg List.length h;rw[cW,e]at this;simp at this
 generalize hW:(X.drop j).take (Z' y+1)=W at *
 generalize A:val W/val y=J at *
 simp only[go_sem];refine wp_loop (α:=Nat) (λg=>(duF n o p y top l S j).set 17 (.int .u64 g)) (λ_=>(PH.nil.set o (.rows 1 (fJ X Z))).set l Y) (λg=>J≤g∧g<4294967296) (λg=>g) g0 ⟨hg,O⟩ hF hH ?_;rintro g ⟨β,hlt⟩;have e1:IntKind.i64.wrap ((j:Int)+(Z' y:Int))=((j+Z' y:Nat):Int):=kF Om;have e2:IntKind.i64.wrap (((j+Z' y:Nat):Int)+1)=((j+Z' y+1:Nat):Int):=eQ Om;have b1:(j:Int)≤((j+Z' y+1:Nat):Int):=Om;have b2:((j+Z' y+1:Nat):Int)≤(p:Nat):=Om;have b3:j+Z' y+1-j=Z' y+1:=Om;have mk:=L.make g Om;have tm:=L.times y (aM g) hy (bB _) Om (by have E:nl g≤1:=sF (by rw[Nat.pow_one];exact hlt);rw[bG];omega)
 rw[aZ]at tm;have R:(aM (val y*g)).length≤35184372087808:=by have E:nl g≤1:=sF (by rw[Nat.pow_one];exact hlt);have h2:=pT (a:=val y) (b:=g) (jL hy) E;rw[bG];omega
 have cm:=L.cmp (aM (val y*g)) W (bB _) u R Om;rw[aZ]at cm;simp only[go_sem,BW];refine cP .nil udS a_ ?_;simp only[go_sem,l6,duF];refine cR (aPW g) mk Sq a_ ?_;simp only[go_sem];have tS:=aIL y (aM g);rw[aZ]at tS;refine cR tS tm Sq a_ ?_;simp only[go_sem,a7Z,e1,e2,b1,b2,b3];refine AB (src:=aO W) ?_ ?_ (λh=>absurd h M) λ_ o' i=>?_
 ·simp only[go_sem,d,x,w]
 ·unfold roomFor;rw[cW,e];simp only[maxLen];omega
 refine⟨a_,?_⟩;rw[cW,e];have n1:¬o'=l:=(kD.1 i).1;refine aKW (o:=o') (s:=1) (rs:=aO W) (vs:=[aN (aM (val y*g)),.osl o' 1 0 (Z' y+1)]) (v:=.int .i64 (fA (val y*g) (val W))) rfl (.int _ _) Sq ?_ ?_ ?_ Sq a_ ?_
 ·rw[a9D,a9D,baB,AP (by rw[cW,e];exact a8E _),a8T (by rw[cW,e];exact a8E _)];exact cm
 ·have:=aKO o' (aM (val y*g)) W;rw[aZ]at this;exact this
 ·rintro r H' ⟨E,h2⟩;have:=h2 W u (by rw[dK]);rw[fP,aZ]at this;exact⟨this,E⟩
 simp only[go_sem];by_cases c:val W<val y*g
 ·have N:fA (val y*g) (val W)=1:=by unfold fA;rw[aD Om,aG c]
  have hq:J<g:=by rw[←A];exact(bbJ B).2 (by rw[a9H];exact c)
  have ew:IntKind.u64.wrap ((g:Int)-1)=((g-1:Nat):Int):=by rw[wrap_u64 Om Om];omega
  simp only[go_sem,N,show(1:Int)>0 by decide,l7,ew];refine aJ (g-1) ⟨by omega,by omega⟩ Om ?_ ?_
  ·exact Lq
  ·refine e_ (e_ a_ ?_) ?_
   ·have U:¬o=o':=λh=>by subst h;rw[aS,aD d,dK]at i;cases i
    simp only[go_sem,U,d]
   ·have V:¬l=o':=λh=>n1 h.symm;simp only[go_sem,V]
 ·have N:¬fA (val y*g) (val W)>0:=by unfold fA;rw[aD c];split<;>decide
  have hq:g=J:=by
   have:g≤J:=by rw[←A];exact(Nat.le_div_iff_mul_le B).2 (by rw[a9H];omega)
   omega
  simp only[go_sem,N];refine hK _ _ ?_ ?_
  ·unfold duF
   (repeat' (first|exact d_|refine c_ ?_ ?_))<;>first|(simp only[go_sem,←hq]<;>rfl)|rfl
  ·refine e_ (e_ a_ ?_) ?_
   ·have U:¬o=o':=λh=>by subst h;rw[aS,aD d,dK]at i;cases i
    simp only[go_sem,U,d]
   ·have V:¬l=o':=λh=>n1 h.symm;simp only[go_sem,V]
theorem aTT(R k:Nat)(h:k<nl R):∃l:k<(aM R).length,(aM R)[k]=R/4294967296^k%4294967296:=by
 have d:k<(aM R).length:=by rw[bG];exact h
 refine⟨d,?_⟩;have e:=BI (bB R) (Nat.le_of_lt d);rw[aZ,baJ d]at e;have i:=bB R _ (a8G d);simp only[val]at e;rw[←e,Nat.add_mul_mod_self_left,a9P i]
theorem aMX(R k:Nat)(h:nl R≤k):R/4294967296^k%4294967296=0:=by
 rw[bbY ((lS R k).1 h)]
theorem aVB{A P W Z:List Nat}{i:Nat}(d:Z' P=i)(hi:i<Z' W)(v:Nat):(A++(P++W.drop i)++Z).set (Z' A+i) v=A++((P++[v])++W.drop (i+1))++Z:=
 an (by rw[←jM];exact PN d hi v)
theorem a0W{C:Ctx}(n o x:Nat)(y:List Nat)(top u S j:Nat)(X:List Nat)(Z:List (List PV))(E:u≠o)(O:Z' X=x)(hl:x≤5000)(hj:j+(Z' y+1)≤x)
  (U:aU) (g R:Nat) (K:cD) (F:PF) (H:PH) (hF:((((duF n o x y top u S j).set 17 (.int .u64 g)).set 18 (aN (aM R))).set 19 (.int .i64 0)).le F) (hH:((PH.nil.set o (.rows 1 (fJ X Z))).set u U).le H)
  (hK:∀V H',((duF n o x y top u S j).set 17 (.int .u64 g)).le V→((PH.nil.set o (.rows 1 (fJ (X.take j++fH (Z' y+1) R++X.drop (j+(Z' y+1))) Z))).set u U).le H'→K .normal V H') :
  aC.wp C (.block 6 (.loop BY)) K F H:=by
 have l:¬o=u:=λh=>E h.symm;have hA:(X.take j).length=j:=by rw[a8S];omega
 have ε:((X.drop j).take (Z' y+1)).length=Z' y+1:=by rw[a8S,baG];omega
 have θ:(X.drop (j+(Z' y+1))).length=x-(j+(Z' y+1)):=by rw[baG,O]
 have w:X.take j++(X.drop j).take (Z' y+1)++X.drop (j+(Z' y+1))=X:=by rw[a9G,←List.drop_drop,bbC,bbC]
 rw[←w]at hH;generalize γ:X.take j=A at *
 generalize δ:(X.drop j).take (Z' y+1)=W at *
 generalize η:X.drop (j+(Z' y+1))=p at *
 simp only[go_sem];refine wp_loop (α:=List Nat) (λP=>(((duF n o x y top u S j).set 17 (.int .u64 g)).set 18 (aN (aM R))).set 19 (.int .i64 P.length)) (λP=>(PH.nil.set o (.rows 1 (fJ (A++(P++W.drop P.length)++p) Z))).set u U)
  (λP=>Z' P≤Z' y+1∧P=fH P.length R) (λP=>Z' y+1-Z' P) [] ⟨a8H _,rfl⟩ hF (by simpa using hH) ?_
 rintro P ⟨hP,hD⟩;simp only[go_sem,BY,l8,duF];by_cases c:Z' P<Z' y+1
 ·have M:(Z' P:Int)≤(Z' y:Nat):=Om;have Y:IntKind.i64.wrap ((j:Int)+(Z' P:Int))=((j+Z' P:Nat):Int):=kF Om;have β:(A++(P++W.drop P.length)++p).length=x:=by simp only[a8F,baG];omega
  have hi:j+Z' P<(A++(P++W.drop P.length)++p).length:=Om;have b1:((j+Z' P:Nat):Int)<(x:Nat):=Om;have r1:=WA (Z:=Z) hi;have s1:=Pc (Z:=Z) hi 0;have J:j+Z' P<((A++(P++W.drop P.length)++p).set (j+Z' P) 0).length:=by rw[a9R];exact hi
  have d:=λv=>aVB (A:=A) (P:=P) (W:=W) (Z:=p) (i:=Z' P) rfl Om v;rw[hA]at d;generalize ζ:A++(P++W.drop P.length)++p=XX at *
  have r2:(fJ (A++((P++[0])++W.drop (Z' P+1))++p) Z)[j+Z' P]?=some [.int .u32 ((0:Nat):Int)]:=by rw[←d 0,WA J,List.getElem_set_self]
  have s2:∀v,(fJ (A++((P++[0])++W.drop (Z' P+1))++p) Z).set (j+Z' P) [.int .u32 ((v:Nat):Int)]=fJ (A++((P++[v])++W.drop (Z' P+1))++p) Z:=by intro v;rw[←d 0,Pc J,List.set_set,d]
  have a7K:=CJ P.length R;rw[←hD]at a7K;have ew:IntKind.i64.wrap ((Z' P:Int)+1)=((Z' P+1:Nat):Int):=eQ Om;simp only[go_sem,M,l9,Y,b1,l,r1,show([PV.int .u32 (0:Int)])=[PV.int .u32 ((0:Nat):Int)]from rfl,s1,ma,bG];by_cases c2:Z' P<nl R
  ·have B:(Z' P:Int)<(nl R:Nat):=Om;obtain⟨N,Q⟩:=aTT R P.length c2;have hr:=cF (aM R) N;rw[Q]at hr;simp only[go_sem,B,mb,hr,Y,b1,l,r2,s2,List.set_set,d,NN,ew];refine aJ (P++[R/4294967296^P.length%4294967296]) ⟨by simp;omega,by rw[a8F,a8J];exact a7K.symm⟩ (by simp;omega) ?_ ?_
   ·rw[a8F,a8J];exact Lq
   ·rw[a8F,a8J];refine e_ (e_ a_ ?_) ?_<;>simp only[go_sem,l,show ¬u=o from E]
  ·have B:¬(Z' P:Int)<(nl R:Nat):=Om;have Q:=aMX R P.length Om;rw[Q]at a7K;simp only[go_sem,B,d,NN,ew];refine aJ (P++[0]) ⟨by simp;omega,by rw[a8F,a8J];exact a7K.symm⟩ (by simp;omega) ?_ ?_
   ·rw[a8F,a8J];exact Lq
   ·rw[a8F,a8J];refine e_ (e_ a_ ?_) ?_<;>simp only[go_sem,l,show ¬u=o from E]
 ·have M:¬(Z' P:Int)≤(Z' y:Nat):=Om;have e:Z' P=Z' y+1:=Om;simp only[go_sem,M];refine hK _ _ (by unfold duF;exact Lq) ?_;have h2:A++fH (Z' y+1) R++p=A++(P++W.drop P.length)++p:=by rw[bcB Om,a9W,←e,←hD]
  rw[h2];exact b_
theorem aMD{y W:List Nat}{m:Nat}(A:Lim y)(hW:Lim W)(w:Z' y=m+1)(u:Z' W=m+2)(x:0<y[m]):val W/val y≤(4294967296*W[m+1]+W[m])/y[m]:=by
 have p:=cZ y (Om:m<Z' y);rw[a8T Om]at p;have i:=cZ W (Om:m+1<Z' W);rw[a8T Om,cZ W (Om:m<Z' W)]at i;have l:=hZ (hW.take m);rw[a8S,baS Om]at l;have hp:0<4294967296^m:=bbD aV;have hb:4294967296^m*y[m]≤val y:=Om;have d:0<4294967296^m*y[m]:=Nat.mul_pos hp x;have e:val W=val (W.take m)+4294967296^m*(4294967296*W[m+1]+W[m]):=by rw[i,baD,a8O,a9C];omega
 refine a9F (Nat.div_le_div_left hb d) ?_;rw[←Nat.div_div_eq_div_mul,e,Nat.add_mul_div_left _ _ hp,bbY l,a8Q];exact a8E _
theorem aIM{C:Ctx}(L:XO C)(U0 n o i d e m:Nat)(y z:List Nat)(N:e≠o)(hy:Lim y)(E:Z' y=m+1)(ht:0<y[m])(d':i=d+(m+1))(R:i≤5000)(X:List Nat)(B:tJ U0 (val y) (m+1) i d d X (a8D d 0))(K:cD)(F:PF)(H:PH)
  (hF:(duF n o i y (y[m]) e d ((d:Int)-1)).le F) (hH:((PH.nil.set o (.rows 1 (fJ X (aO z)))).set e (.rows 1 (aO (a8D d 0)))).le H)
  (hK:∀X' Q' F' H',tJ U0 (val y) (m+1) i d 0 X' Q'→(duF n o i y (y[m]) e d (-1)).le F'→((PH.nil.set o (.rows 1 (fJ X' (aO z)))).set e (.rows 1 (aO Q'))).le H'→K .normal F' H') :
  aC.wp C (.block 2 (.loop BZ)) K F H:=by
 have l:¬o=e:=λh=>N h.symm;have m':¬e=o:=N;have hV:val y<4294967296^(m+1):=by have:=hZ hy;rw[E]at this;exact this
 have κ:0<val y:=by have h1:=cZ y (Om:m<Z' y);rw[a8T Om]at h1;have:0<4294967296^m*y[m]:=Nat.mul_pos (bbD aV) ht;omega
 have s':=hy _ (a8G (Om:m<Z' y));generalize htop:y[m]=top at *
 simp only[go_sem];refine wp_loop (α:=Nat × List Nat × List Nat) (λt=>duF n o i y top e d ((t.1:Int)-1)) (λt=>(PH.nil.set o (.rows 1 (fJ t.2.1 (aO z)))).set e (.rows 1 (aO t.2.2)))
  (λt=>t.1≤d∧tJ U0 (val y) (m+1) i d t.1 t.2.1 t.2.2) (λt=>t.1) (d,X,a8D d 0) ⟨a8E _,B⟩ hF hH ?_
 rintro⟨k,X,Q⟩ ⟨hk,B⟩;simp only at hk B;simp only[go_sem,BZ,ll,duF];by_cases h0:0<k
 ·obtain⟨j,rfl⟩:∃j,k=j+1:=⟨k-1,by omega⟩;have hz:((j+1:Nat):Int)-1=(j:Int):=Om;have Ω:(j:Int)≥0:=Om;have dst:=S8 B hV Om d';rw[show m+1+1=m+2 from rfl]at dst;obtain⟨hlt,Γ⟩:=dst;have μ:=B.lu';have n':=B.lq';have M:((X.drop j).take (m+2)).length=m+2:=by rw[a8S,baG];omega
  have Y:Lim ((X.drop j).take (m+2)):=(B.limU.drop _).take _;have q':m+1<((X.drop j).take (m+2)).length:=Om;have p':m<((X.drop j).take (m+2)).length:=Om;have a1:j+(m+1)<Z' X:=Om;have a0:j+m<Z' X:=Om;have w1:((X.drop j).take (m+2))[m+1]=X[j+(m+1)]:=by simp
  have w0:((X.drop j).take (m+2))[m]=X[j+m]:=by simp
  have ξ:=aMD hy Y E M (by rw[htop];exact ht);rw[w1,w0,htop]at ξ;have r1:=WA (Z:=aO z) a1;have r0:=WA (Z:=aO z) a0;have l1:=B.limU _ (a8G a1);have l0:=B.limU _ (a8G a0);generalize u':X[j+(m+1)]=w at *
  generalize t':X[j+m]=A at *
  have e1:IntKind.i64.wrap ((j:Int)+(Z' y:Int))=((j+(m+1):Nat):Int):=by rw[E];exact kF Om
  have e0:IntKind.i64.wrap (((j+(m+1):Nat):Int)-1)=((j+m:Nat):Int):=by rw[wrap_i64 Om Om];omega
  have b1:((j+(m+1):Nat):Int)<(i:Nat):=Om;have b0:((j+m:Nat):Int)<(i:Nat):=Om;have ψ:IntKind.u64.wrap ((w:Nat):Int)=((w:Nat):Int):=bP Om;have χ:IntKind.u64.wrap ((A:Nat):Int)=((A:Nat):Int):=bP Om;have ε:shift .shl .u64 (w:Int) 32=some (.int .u64 ((2^32*w:Nat):Int)):=UN (s:=32) Om Om;have φ:(2:Nat)^32=4294967296:=by decide
  have γ:=orI (a:=2^32*w) (b:=A) (n:=2^32*w+A) Om Om (Nat.two_pow_add_eq_or_of_lt Om w).symm Om;rw[φ]at ε γ;have Λ:¬((top:Nat):Int)=0:=Om;have σ:(4294967296*w+A)/top<18446744073709551616:=Nat.lt_of_le_of_lt (bbH _ _) Om;have δ:IntKind.u64.wrap (baO ((4294967296*w+A:Nat):Int) ((top:Nat):Int))=(((4294967296*w+A)/top:Nat):Int):=by rw[show baO ((4294967296*w+A:Nat):Int) ((top:Nat):Int)=(((4294967296*w+A)/top:Nat):Int)from rfl];exact bP σ
  have τ:val ((X.drop j).take (m+2))/val y<4294967296:=(bbJ κ).2 (by rw[a9H];exact hlt);have ν:=Pb (X:=X) (Z:=aO z) (j:=j) (m:=m+2) Om;have ο:j+(m+2)≤(fJ X (aO z)).length:=by rw[fJ,a8F,cW];omega
  have β:val ((X.drop j).take (m+2))-val y*(val ((X.drop j).take (m+2))/val y)=val ((X.drop j).take (m+2))%val y:=by have:=bbX (val ((X.drop j).take (m+2))) (val y);omega
  have x:val y*(val ((X.drop j).take (m+2))/val y)≤val ((X.drop j).take (m+2)):=Nat.mul_div_le _ _;clear w1 w0;have gu:=λg0=>aYG (C:=C) L n o i y top e d j X (aO z) N hy B.limU μ R Om κ (.rows 1 (aO Q)) g0;rw[E,show m+1+1=m+2 from rfl]at gu;generalize hW:(X.drop j).take (m+2)=W at *
  generalize r':val W/val y=J at *
  have Δ:aO W≠[]:=λh=>by have:=congrArg List.length h;rw[cW,M]at this;simp at this
  have tail:∀(g0:Nat)(F:PF)(H:PH),J≤g0→g0<4294967296→((duF n o i y top e d j).set 17 (.int .u64 g0)).le F→((PH.nil.set o (.rows 1 (fJ X (aO z)))).set e (.rows 1 (aO Q))).le H →
    aC.wp C (.seq (.block 4 (.loop BW)) (.seq (.region NL) (.seq (.seq (.region NM) (.block 6 (.loop BY))) (.region NO)))) (fQ 3 (jW C (aC.wp C (.region NP)) (gV (λ(t:Nat × List Nat × List Nat)=>duF n o i y top e d ((t.1:Int)-1)) (λt=>(PH.nil.set o (.rows 1 (fJ t.2.1 (aO z)))).set e (.rows 1 (aO t.2.2))) (λt=>t.1≤d∧tJ U0 (val y) (m+1) i d t.1 t.2.1 t.2.2) (λt=>t.1) (j+1) (fQ 2 K)))) F H:=by
   intro g0 F H hg Ψ hF hH;have gu:=gu g0 hg Ψ;simp only[go_sem]at gu;simp only[go_sem];refine gu _ F H hF hH ?_;intro S H1 p θ;have f11:S 11=some (.osl o 1 0 i):=p 11 _ (by unfold duF;simp only[go_sem]);have V:S 12=some (aN y):=p 12 _ (by unfold duF;simp only[go_sem]);have ζ:S 15=some (.int .i64 j):=p 15 _ (by unfold duF;simp only[go_sem]);have η:S 17=some (.int .u64 (J:Nat)):=p 17 _ (by unfold duF;simp only[go_sem]);have ω:S 10=some (.int .i64 n):=p 10 _ (by unfold duF;simp only[go_sem]);have f13:S 13=some (.int .u64 top):=p 13 _ (by unfold duF;simp only[go_sem]);have f14:S 14=some (.osl e 1 0 d):=p 14 _ (by unfold duF;simp only[go_sem]);have ho:H1 o=some (.rows 1 (fJ X (aO z))):=θ o _ (by simp only[go_sem,l]);have ρ:H1 e=some (.rows 1 (aO Q)):=θ e _ Sq;have b3:(j:Int)≤((j+(m+1)+1:Nat):Int):=Om;have b4:((j+(m+1)+1:Nat):Int)≤(i:Nat):=Om;have b5:j+(m+1)+1-j=m+2:=Om;have e2:IntKind.i64.wrap (((j+(m+1):Nat):Int)+1)=((j+(m+1)+1:Nat):Int):=eQ Om;simp only[go_sem,NL,f11,ζ,V,a7Z,e1,e2,b3,b4,b5];refine AB (src:=aO W) ?_ ?_ (λh=>absurd h Δ) λ_ o' O=>?_
   ·simp only[go_sem,ho,ο,ν]
   ·unfold roomFor;rw[cW,M];simp only[maxLen];omega
   rw[cW,M];have n1:¬e=o':=λh=>by subst h;rw[ρ]at O;cases O
   have n2:¬o=o':=λh=>by subst h;rw[ho]at O;cases O
   have nq:nl J≤1:=sF (by rw[Nat.pow_one];exact τ);have tm:=L.times y (aM J) hy (bB _) Om (by rw[bG];omega);rw[aZ]at tm;have nW:=jL Y;have mn:=L.minus W (aM (val y*J)) Y (bB _) (by rw[aZ];exact x) (by rw[bG];exact a9F (jS x) nW) Om;rw[aZ,β]at mn;have Θ:(aO W).take (m+2)=aO W:=a8T (by rw[cW];omega);simp only[go_sem,η];refine aB (L.make J Om) Sq ?_;simp only[go_sem,V];refine aB tm Sq ?_;simp only[go_sem];refine wM (o:=o') (s:=1) (rs:=aO W) mn Sq (by simp only[go_sem,show m+2≤W.length by omega,Θ]) ?_;simp only[go_sem,NM];have Φ:(fJ X (aO z)).map (λr=>r.map (PV.dZ o' 1 (aO W)))=fJ X (aO z):=by
    have:fJ X (aO z)=aO (X++z):=by simp[fJ,aO]
    rw[this];exact xT _ _ _ _
   have Ξ:(aO Q).map (λr=>r.map (PV.dZ o' 1 (aO W)))=aO Q:=xT _ _ _ _;have ur:=a0W (C:=C) n o i y top e d j X (aO z) N μ R Om (.rows 1 (aO Q)) J (val W%val y);rw[E,show m+1+1=m+2 from rfl]at ur;simp only[go_sem]at ur;refine ur _ _ _ ?_ ?_ ?_
   ·unfold duF
    (repeat' (first|exact d_|refine c_ ?_ ?_))<;>first|(simp only[go_sem,ω,f11,V,f13,f14,ζ,η,n1,n2]<;>rfl)|rfl
   ·refine e_ (e_ a_ ?_) ?_
    ·simp only[go_sem,l,n2,ho,aU.frz,Φ]
    ·simp only[go_sem,n1,ρ,aU.frz,Ξ]
   intro U H3 u ι;have g':U 10=some (.int .i64 n):=u 10 _ (by unfold duF;simp only[go_sem]);have h':U 11=some (.osl o 1 0 i):=u 11 _ (by unfold duF;simp only[go_sem]);have i':U 12=some (aN y):=u 12 _ (by unfold duF;simp only[go_sem]);have j':U 13=some (.int .u64 top):=u 13 _ (by unfold duF;simp only[go_sem]);have υ:U 14=some (.osl e 1 0 d):=u 14 _ (by unfold duF;simp only[go_sem]);have k':U 15=some (.int .i64 j):=u 15 _ (by unfold duF;simp only[go_sem]);have l':U 17=some (.int .u64 J):=u 17 _ (by unfold duF;simp only[go_sem]);have e':H3 o=some (.rows 1 (fJ (X.take j++fH (m+2) (val W%val y)++X.drop (j+(m+2))) (aO z))):=ι o _ (by simp only[go_sem,l]);have f':H3 e=some (.rows 1 (aO Q)):=ι e _ Sq;have b':j<Z' Q:=Om;have rq:=cF Q b';have a':(j:Int)<(d:Nat):=Om;have sq:=jM Q j J;have ec:IntKind.u32.wrap ((J:Nat):Int)=((J:Nat):Int):=by rw[dH,a9P τ]
   have ej:IntKind.i64.wrap ((j:Int)-1)=(j:Int)-1:=wrap_i64 Om Om;simp only[go_sem,NO,υ,k',l',a',f',rq,ec,sq,NP,ej];refine aJ (α:=Nat × List Nat × List Nat) (j,_,_) ⟨by simp only;omega,Γ⟩ (by simp only;omega) ?_ ?_
   ·unfold duF
    (repeat' (first|exact d_|refine c_ ?_ ?_))<;>first|(simp only[go_sem,g',h',i',j',υ]<;>rfl)|rfl
   ·refine e_ (e_ a_ ?_) ?_
    ·simp only[go_sem,l,e']
    ·simp only[go_sem]
  simp only[aC.wp,go_sem]at tail;simp only[go_sem,hz,Ω];refine cP .nil fT a_ ?_;simp only[go_sem,lm,e1,e0,b1,b0,l,r1,r0,ψ,χ,ε,γ,ln,Λ,δ,lz];by_cases c:(4294967296*w+A)/top>4294967295
  ·have c':(((4294967296*w+A)/top:Nat):Int)>4294967295:=Om;simp only[go_sem,c',l5];exact tail 4294967295 _ _ Om aV (by unfold duF;exact Lq) b_
  ·have c':¬(((4294967296*w+A)/top:Nat):Int)>4294967295:=Om;simp only[go_sem,c'];exact tail _ _ _ ξ Om (by unfold duF;exact Lq) b_
 ·have:k=0:=Om;subst this;have hz:¬((0:Nat):Int)-1≥0:=by decide
  simp only[go_sem,hz];refine hK X Q _ _ B ?_ b_;unfold duF
  (repeat' (first|exact d_|refine c_ ?_ ?_))<;>first|(simp only[go_sem,show((0:Nat):Int)-1=-1 from rfl]<;>rfl)|rfl
def aPV(a:List Nat)(d q k r:Nat):PF:=(((((PF.nil.set 0 (aN a)).set 1 (aN [d])).set 6 (.osl q 1 0 a.length)).set 7 (.int .u64 r)).set 8 (.int .i64 ((k:Int)-1)))
theorem aBT{C:Ctx}(L:XO C)(a:List Nat)(d:Nat)(ha:Lim a)(l:0<d)(hd:d<4294967296)(h1:Z' a≤1000)(F:PF)(f0:F 0=some (aN a))(f1:F 1=some (aN [d])) :
  aC.wp C (.seq (.region VB) (.seq (.region VC) (.seq (.seq (.region VD) (.block 0 (.loop NF))) (.seq (.region NG) .ret)))) (aY [.tmp 4,.tmp 5] (cN (vQ (val a) d))) F .nil:=by
 have X:(Z' a:Int)*((4:Nat):Int)≤140737488355328:=Om;have Y:(Z' a:Int)≤9223372036854775807:=Om;have hz:a8D a.length [PV.int .u32 0]=aO (a8D a.length 0++[]):=by simp[aO]
 simp only[go_sem,VB,f0,a7Z,X,Y,hz];refine aR λo ho=>?_;simp only[go_sem,VC,VD,f0,a7Z];refine wp_loop (α:=Nat × List Nat × Nat) (λt=>aPV a d o t.1 t.2.2) (λt=>PH.nil.set o (.rows 1 (aO (a8D t.1 0++t.2.1))))
  (λt=>t.1+t.2.1.length=Z' a∧Lim t.2.1∧t.2.2<d∧val t.2.1*d+t.2.2=val (a.drop t.1)) (λt=>t.1) (Z' a,[],0) ⟨by simp,by simp[Lim],l,by simp[val]⟩ ?_ ?_ ?_
 ·unfold aPV
  (repeat' (first|exact d_|refine c_ ?_ ?_))<;>first|(simp only[go_sem,f0,f1,wrap_i64 (Om:-9223372036854775808≤(Z' a:Int)-1) (Om:(Z' a:Int)-1≤9223372036854775807)]<;>rfl)|rfl
 ·exact e_ a_ Sq
 rintro⟨k,S,r⟩ ⟨hk,i,N,e⟩;simp only at hk i N e;simp only[go_sem,NF,A6,aPV];by_cases h0:0<k
 ·obtain⟨m,rfl⟩:∃m,k=m+1:=⟨k-1,by omega⟩;have w:((m+1:Nat):Int)-1=(m:Int):=Om;have V:(m:Int)≥0:=Om;have u:m<Z' a:=Om;have hlt:(m:Int)<(Z' a:Nat):=Om;have β:=ha _ (a8G u);have p:val (a.drop m)=a[m]+4294967296*val (a.drop (m+1)):=by rw[baJ u];rfl
  have R:=cF a u;generalize hx:a[m]=x at *
  have ex:IntKind.u64.wrap ((x:Nat):Int)=((x:Nat):Int):=bP Om;have ed:IntKind.u64.wrap ((d:Nat):Int)=((d:Nat):Int):=bP Om;have H:shift .shl .u64 (r:Int) 32=some (.int .u64 ((2^32*r:Nat):Int)):=UN (s:=32) Om Om;have O:(2:Nat)^32=4294967296:=by decide
  have A:=orI (a:=2^32*r) (b:=x) (n:=2^32*r+x) Om Om (Nat.two_pow_add_eq_or_of_lt Om r).symm Om;rw[O]at H A;have M:(4294967296*r+x)/d<4294967296:=by rw[bbJ l];have:4294967296*(r+1)≤4294967296*d:=baT _ N;omega
  have U:¬((d:Nat):Int)=0:=Om;have B:IntKind.u64.wrap (baO ((4294967296*r+x:Nat):Int) ((d:Nat):Int))=(((4294967296*r+x)/d:Nat):Int):=by rw[show baO ((4294967296*r+x:Nat):Int) ((d:Nat):Int)=(((4294967296*r+x)/d:Nat):Int)from rfl];exact bP Om
  have E:Int.tmod ((4294967296*r+x:Nat):Int) ((d:Nat):Int)=(((4294967296*r+x)%d:Nat):Int):=rfl;have ec:IntKind.u32.wrap (((4294967296*r+x)/d:Nat):Int)=(((4294967296*r+x)/d:Nat):Int):=by rw[dH,a9P M]
  have J:a8D (m+1) 0++S=a8D m 0++(0::S):=by rw[List.replicate_succ',a9G];rfl
  have W:(aO (a8D m 0++(0::S)))[m]?=some [.int .u32 ((0:Nat):Int)]:=by rw[cF _ bD];simp
  have K:(aO (a8D m 0++(0::S))).set m [.int .u32 (((4294967296*r+x)/d:Nat):Int)]=aO (a8D m 0++(((4294967296*r+x)/d)::S)):=by rw[jM,bbB _ _ bD];simp
  simp only[go_sem,w,V,A7,H,R,ex,A,A8,ed,U,B,ec,hlt,J,W,K,lg,E,lh];refine aJ (m,((4294967296*r+x)/d)::S,(4294967296*r+x)%d) ⟨by simp only[a9O];omega,λy hy=>?_,a9Z _ l,?_⟩ (by simp only;omega) ?_ (e_ a_ Sq)
  ·rw[a8M]at hy;rcases hy with rfl|hy
   ·exact M
   ·exact i y hy
  ·simp only[val];rw[p,←e,a9J,a8O,a9C];have:=bbX (4294967296*r+x) d;rw[a9H d]at this;omega
  ·(repeat' (first|exact d_|refine c_ ?_ ?_))<;>first|(simp only[go_sem,wrap_i64 (Om:-9223372036854775808≤(m:Int)-1) (Om:(m:Int)-1≤9223372036854775807)]<;>rfl)|rfl
 ·have:k=0:=Om;subst this;have w:¬((0:Nat):Int)-1≥0:=by decide
  rw[a9L]at e;have hS:Z' S=Z' a:=Om;have M:val S=val a/d:=by rw[←e,a9H,Nat.mul_add_div l,bbY N,a9Y]
  have Z:r=val a%d:=by rw[←e,a9H,Nat.mul_add_mod,a9P N]
  have γ:a8D 0 0++S=S:=by simp
  have hl:=L.trim S i Om;have Q:(aO S).take a.length=aO S:=a8T (by rw[cW];omega);simp only[go_sem,w,NG,bbS];refine wM (o:=o) (s:=1) (rs:=aO S) hl Sq (by simp only[go_sem,Q,show a.length≤S.length by omega]) ?_;simp only[go_sem];refine aB (L.make r Om) Sq ?_;simp only[go_sem];refine bE (vs:=[aN (aM (val S)),aN (aM r)]) (.inr rfl) .nil Ev a_ ⟨?_,rfl⟩;rw[M,Z];exact .refl _
theorem aRY{B m:Nat}(h:nl B=m+1):32*m<dJ B∧dJ B≤32*(m+1):=by
 refine⟨?_,(qA B (m+1)).2 Om⟩;rcases a9A (32*m) (dJ B)with h1|h1
 ·exact h1
 ·have:=(qA B m).1 h1;omega
theorem aRZ{B:Nat}(h:B≠0):2^(dJ B-1)≤B:=by
 rcases a9A B (2^(dJ B-1))with h1|h1
 ·have d:=(pZ B _).2 h1;have i:dJ B≠0:=λe=>h (nN.1 e);omega
 ·exact h1
theorem aBU{C:Ctx}(L:XO C)(A B:Nat)(hB:B≠0)(hA:nl A≤512)(Φ:nl B≤512) :
  IJ.wp C (aY Fq.res (cN (vQ A B))) (PF.args [aN (aM A),aN (aM B)]) .nil:=by
 have R:=bB A;have LB:=bB B;have vA:=aZ A;have vB:=aZ B;have lA:(aM A).length=nl A:=rfl;have lB:(aM B).length=nl B:=rfl;simp only[go_sem,IJ,A2,A3,Fq];refine aB (L.cmp _ _ R LB Om Om) rfl ?_;rw[vA,vB];by_cases c1:A<B
 ·have hc:fA A B<0:=by simp[fA,c1]
  simp only[go_sem,hc,A4];refine aB (L.trim _ R Om) rfl ?_;rw[vA];simp only[go_sem];refine bE (vs:=[.aF,aN (aM A)]) (.inr rfl) .nil rfl a_ ⟨?_,rfl⟩;rw[vQ,bbY c1,a9P c1,jO];exact CoL.tup (CoL.cons (.nil 1) (CoL.cons (.refl _) .nil))
 have hc:¬fA A B<0:=by unfold fA;rw[aD c1];split<;>decide
 have σ:0<B:=baU hB;have d':nl B≠0:=λh=>hB (lE.1 h);simp only[go_sem,hc,A5,a7Z,lB];by_cases c2:nl B=1
 ·have S:B<4294967296:=by have:=(lS B 1).1 Om;simpa using this
  have ψ:aM B=[B]:=sV hB S;have sh:=aBT (C:=C) L (aM A) B R σ S Om;rw[vA]at sh;simp only[aC.wp,go_sem]at sh;simp only[go_sem,cC (Om:((nl B:Nat):Int)=1)];exact sh _ rfl (by simp only[go_sem,ψ])
 obtain⟨m,hm⟩:∃m,nl B=m+1:=⟨nl B-1,by omega⟩;have c':1≤m:=Om;obtain⟨a',β⟩:=aRY hm;obtain⟨n,hn⟩:∃n,n+dJ B=32*(m+1):=⟨32*(m+1)-dJ B,by omega⟩;have δ:n<32:=Om;have K:0<2^n:=bbD aV;have V:B<2^dJ B:=(pZ B _).1 (a8E _);have U:=aRZ hB;have Y:B*2^n<4294967296^(m+1):=by have:B*2^n<2^dJ B*2^n:=Nat.mul_lt_mul_of_pos_right V K;rw[←Nat.pow_add,show dJ B+n=32*(m+1) by omega,Nat.pow_mul]at this;exact this
 have Λ:4294967296^m*2147483648≤B*2^n:=by have:2^(dJ B-1)*2^n≤B*2^n:=a9K _ U;rw[←Nat.pow_add,show dJ B-1+n=32*m+31 by omega,Nat.pow_add,Nat.pow_mul]at this;exact this
 have nV:nl (B*2^n)=m+1:=by
  have E:=(lS (B*2^n) (m+1)).2 Y;rcases a9A (nl (B*2^n)) (m+1)with h|h
  ·have:=(lS (B*2^n) m).1 Om;have Γ:0<4294967296^m:=bbD aV;omega
  ·omega
 have Ω:B*2^n≠0:=Nat.mul_ne_zero hB Om;have f':nl (A*2^n)≤nl A+1:=pT (a8E _) (sF (by rw[Nat.pow_one];exact Nat.pow_lt_pow_right (a:=2) (m:=n) (n:=32) aV δ));have φ:B*2^n≤A*2^n:=a9K _ Om;have g':m+1≤nl (A*2^n):=by rw[←nV];exact jS φ
 have Ψ:A*2^n≠0:=Om;have κ:IntKind.i64.wrap (32*((nl B:Nat):Int))=((32*(m+1):Nat):Int):=by rw[wrap_i64 Om Om];omega
 have en:IntKind.i64.wrap (((32*(m+1):Nat):Int)-((dJ B:Nat):Int))=(n:Int):=by rw[wrap_i64 Om Om];omega
 have bt:=L.bits (aM B) LB Om;rw[vB]at bt;have ua:=L.upM (aM A) n R Om Om (λh=>by have:=hZ R;rw[h]at this;omega);have ub:=(L.upM (aM B) n LB Om Om (λh=>by have:=hZ LB;rw[h]at this;omega)).freeze;rw[vA]at ua;rw[vB]at ub;have tail:∀(o:Nat)(F:PF)(H:PH),F 0=some (aN (aM A))→F 1=some (aN (aM B))→F 10=some (.int .i64 n)→F 11=some (.osl o 1 0 (nl (A*2^n)+2))→F 12=some (aN (aM (B*2^n)))→H o=some (.rows 1 (aO (aM (A*2^n))++[[.int .u32 0],[.int .u32 0]])) →
   aC.wp C (.seq (.region NH) (.seq (.region NI) (.seq (.region NJ) (.seq (.seq (.region NK) (.block 2 (.loop BZ))) (.seq (.region NQ) .ret))))) (aY [.tmp 4,.tmp 5] (cN (vQ A B))) F H:=by
  intro o F H f0 f1 μ f11 ν hH;have LU:=bB (A*2^n);have LV:=bB (B*2^n);have vU:=aZ (A*2^n);have vV:=aZ (B*2^n);have lU:(aM (A*2^n)).length=nl (A*2^n):=rfl;have lV:(aM (B*2^n)).length=m+1:=nV;have eu:IntKind.i64.wrap (((nl (A*2^n):Nat):Int)+1)=((nl (A*2^n)+1:Nat):Int):=eQ Om;have b1:((nl (A*2^n)+1:Nat):Int)≤((nl (A*2^n)+2:Nat):Int):=Om;simp only[go_sem,NH,f11,f0,μ];refine aB ua.freeze rfl ?_;obtain⟨d,b'⟩:∃d,nl (A*2^n)+1-(m+1)=d:=⟨_,rfl⟩;have ω:nl (A*2^n)+1=d+(m+1):=Om;have em:IntKind.i64.wrap (((m+1:Nat):Int)-1)=((m:Nat):Int):=by rw[wrap_i64 Om Om];omega
  have p:m<(aM (B*2^n)).length:=Om;have rm:=cF (aM (B*2^n)) p;have tl:=LV _ (a8G p);have htop:0<(aM (B*2^n))[m]:=by
   have E:=cZ (aM (B*2^n)) p;rw[a8T Om,vV]at E;have h2:=hZ (LV.take m);rw[a8S,baS Om]at h2;have Γ:0<4294967296^m:=bbD aV;rcases baR (aM (B*2^n))[m]with h|h
   ·rw[h]at E;omega
   ·exact h
  have ι:2147483648≤(aM (B*2^n))[m]:=by
   have E:=cZ (aM (B*2^n)) p;rw[a8T Om,vV]at E;have h2:=hZ (LV.take m);rw[a8S,baS Om]at h2;rcases a9A (aM (B*2^n))[m] 2147483648 with h|h
   ·exfalso;have h3:4294967296^m*((aM (B*2^n))[m]+1)≤4294967296^m*2147483648:=baT _ h;rw[a8O,Nat.mul_one]at h3;omega
   ·exact h
  have w:=aIM (C:=C) L (A*2^n) n o (nl (A*2^n)+1) d;have hI:tJ (A*2^n) (val (aM (B*2^n))) (m+1) (nl (A*2^n)+1) d d (aM (A*2^n)++[0]) (a8D d 0):=by
   refine⟨by rw[a8F,lU];rfl,List.length_replicate,LU.app λx O=>by simp at O;omega,CP _,?_,?_,λi x _ O=>ahH O⟩
   ·rw[kA,vU,yG];simp[val]
   ·have Ξ:(aM (A*2^n)++[0]).length=nl (A*2^n)+1:=by rw[a8F,lU];rfl
    have Θ:val (aM (A*2^n)++[0])=A*2^n:=by rw[kA,vU];simp[val]
    rw[BI (LU.app λx O=>by simp at O;omega) Om,Θ,vV,bbJ (bbD aV)];have E:A*2^n<4294967296^nl (A*2^n):=(lS _ _).1 (a8E _);have O:nl (A*2^n)=m+d:=Om;rw[O,Nat.pow_add]at E;have h2:4294967296^m*4294967296^d≤(B*2^n)*4294967296^d:=a9K _ Om;omega
  have M:aO (aM (A*2^n))++[[PV.int .u32 0],[PV.int .u32 0]]=fJ (aM (A*2^n)++[0]) (aO [0]):=by simp[fJ,aO]
  rw[M]at hH;generalize θ:(aM (B*2^n))[m]=top at *
  have et:IntKind.u64.wrap ((top:Nat):Int)=((top:Nat):Int):=bP Om;have k2:IntKind.i64.wrap (((nl (A*2^n)+1:Nat):Int)-((m+1:Nat):Int))=((d:Nat):Int):=by rw[wrap_i64 Om Om];omega
  have k3:((d:Nat):Int)*((4:Nat):Int)≤140737488355328:=Om;have k4:((d:Nat):Int)≤9223372036854775807:=Om;have hz:a8D d [PV.int .u32 0]=aO (a8D d 0):=by simp[aO]
  have jq:IntKind.i64.wrap ((d:Int)-1)=(d:Int)-1:=wrap_i64 Om Om;simp only[go_sem,a7Z,lU,eu,b1,NI,ν,lV,em,rm,et,NJ,k2,k3,k4,hz];refine aR λy η=>?_;have ε:y≠o:=by rintro rfl;rw[hH]at η;cases η
  have l:¬o=y:=λh=>ε h.symm;have u:=w y m (aM (B*2^n)) [0] ε LV lV (by rw[θ];exact htop) ω Om _ hI;rw[θ]at u;simp only[go_sem]at u;simp only[go_sem,NK,jq];refine u _ _ _ ?_ ?_ ?_
  ·unfold duF;exact Lq
  ·refine e_ (e_ a_ ?_) ?_
   ·simp only[go_sem,l,hH]
   ·simp only[go_sem]
  clear u w;intro X Q F1 H1 e J W;have ξ:F1 10=some (.int .i64 n):=J 10 _ (by unfold duF;simp only[go_sem]);have ο:F1 11=some (.osl o 1 0 (nl (A*2^n)+1)):=J 11 _ (by unfold duF;simp only[go_sem]);have ρ:F1 14=some (.osl y 1 0 d):=J 14 _ (by unfold duF;simp only[go_sem]);have ζ:H1 o=some (.rows 1 (fJ X (aO [0]))):=W o _ (by simp only[go_sem,l]);have Δ:H1 y=some (.rows 1 (aO Q)):=W y _ Sq;have hu:val X<val (aM (B*2^n)):=by have:=e.r;rwa[a9L]at this
  have N:=e.v;rw[vV]at hu N;have υ:val Q=A/B:=by
   have:A*2^n/(B*2^n)=val Q:=by rw[←N,Nat.add_mul_div_right _ _ Om,bbY hu,a8Q]
   rw[←this,Nat.mul_div_mul_right _ _ K]
  have χ:val X/2^n=A%B:=by
   have:A*2^n%(B*2^n)=val X:=by rw[←N,Nat.add_mul_mod_self_right,a9P hu]
   rw[←this,Nat.mul_mod_mul_right,Nat.mul_div_cancel _ K]
  have lX:=e.lu';have lQ:=e.lq';have τ:(aO Q).take d=aO Q:=a8T (by rw[cW];omega);have α:(fJ X (aO [0])).take (nl (A*2^n)+1)=aO X:=by rw[fJ,List.take_append_of_le_length (by rw[cW];omega),a8T (by rw[cW];omega)]
  have Z:nl (A*2^n)+1≤(fJ X (aO [0])).length:=by rw[fJ,a8F,cW];omega
  have γ:(fJ X (aO [0])).map (λr=>r.map (PV.dZ y 1 (aO Q)))=fJ X (aO [0]):=by
   have:fJ X (aO [0])=aO (X++[0]):=by simp[fJ,aO]
   rw[this];exact xT _ _ _ _
  have nX:=jL e.limU;have t1:=L.trim Q e.limQ Om;have t2:=L.trim X e.limU Om;have dn:=L.down (aM (val X)) n (bB _) (by rw[bG];omega) Om;rw[aZ,χ]at dn;rw[υ]at t1;generalize aO [0]=Z0 at ζ α Z γ;simp only[go_sem,NQ,ρ];refine wM (o:=y) (s:=1) (rs:=aO Q) t1 Δ (by simp only[go_sem,τ,show d≤Q.length by omega]) ?_;simp only[go_sem,ο,l];refine wM (o:=o) (s:=1) (rs:=fJ X Z0) t2 (by simp only[go_sem,l,ζ,aU.frz,γ]) (by simp only[go_sem,α,Z]) ?_;simp only[go_sem,ξ];refine aB dn rfl ?_;simp only[go_sem];exact bE (vs:=[aN (aM (A/B)),aN (aM (A%B))]) (.inr rfl) .nil rfl a_ ⟨.refl _,rfl⟩
 simp only[aC.wp,go_sem]at tail;simp only[go_sem,bO (Om:¬((nl B:Nat):Int)=1),lj,a7Z,lB];refine aB bt rfl ?_;simp only[go_sem,κ,en,lk];refine pB ua rfl a_ λr H1 hr _=>?_;have β:(2:Nat)*1≤16777216:=by decide
 rcases hr with⟨h0,_⟩|⟨o,rs,rfl,rfl,hrl,hrt⟩
 ·exfalso;have:=congrArg List.length h0;rw[cW,bG]at this;simp at this;omega
 rw[PH.uB];rw[cW,bG]at hrl hrt;simp only[go_sem,β,cW,bG];refine ahD (src:=[[.int .u32 0],[.int .u32 0]]) (rs:=rs) rfl ?_ Sq hrl ?_ λo' e'=>?_
 ·unfold roomFor;simp only[maxLen,a9O,baE];omega
 ·rw[hrt];simp only[go_sem];refine aB ub rfl ?_;simp only[go_sem];exact tail o _ _ rfl rfl rfl rfl rfl Sq
 ·rw[hrt];simp only[go_sem];refine aB ub rfl ?_;simp only[go_sem];exact tail o' _ _ rfl rfl rfl rfl rfl Sq
def bS(C:Ctx)(k:Nat)(pf:bC):Prop:=∀(args:List PV)(H:PH)(R:PV→PH→Prop),Z' args≤pf.ntmps→pf.body.wp C (aY pf.res R) (PF.args args) H→aH C k args H R
theorem bS.go{C:Ctx}{k:Nat}{pf:bC}(r:bS C k pf){args:List PV}{H:PH}{R:PV→PH→Prop}(h:pf.body.wp C (aY pf.res R) (PF.args args) H)(d:Nat.ble args.length pf.ntmps=true):aH C k args H R:=r args H R (Nat.le_of_ble_eq_true d) h
abbrev AI(C:Ctx):Prop:=∀n:Nat,n<100→aH C 195 [.int .i64 n] .nil (aK (.str (cU n)))
section
variable {C:Ctx} {F F':PF} {H:PH}
theorem dO(d:F.le F'){x:aQ}{v:PV}(h:x.ev F=some v):x.ev F'=some v:=by
 cases x
 ·exact d _ _ h
 all_goals exact h
theorem OW(d:F.le F'):∀{xs:List aQ}{vs:List PV},aQ.evs F xs=some vs→aQ.evs F' xs=some vs
 |[],_,h=>h
 |x::xs,vs,h=>by
  rw[HF]at h ⊢;cases i:x.ev F with
  |none=>simp[i]at h
  |some v=>
   cases e:aQ.evs F xs with
   |none=>simp[e]at h
   |some l =>rw[i,e]at h;rw[dO d i,OW d e];exact h
theorem Tj(d:F.le F'):∀{ps:List (Nat × Nat × aQ)}{cs ds:List PV},qI cs F ps=some ds→qI cs F' ps=some ds
 |[],_,_,h=>h
 |(l,size,x)::ps,cs,ds,h=>by
  simp only[qI]at h ⊢;cases e:x.ev F with
  |none=>simp[e]at h
  |some v=>
   rw[e]at h;rw[dO d e];simp only at h ⊢;split at h
   ·rename_i i;rw[aG i];exact Tj d h
   ·cases h
theorem LL(d:F.le F'){size:Nat}:∀{ps:List (Nat × aQ)}{cs ds:List (List PV)},iR size cs F ps=some ds→iR size cs F' ps=some ds
 |[],_,_,h=>h
 |(i,x)::ps,cs,ds,h=>by
  simp only[iR]at h ⊢;cases e:x.ev F with
  |none=>simp[e]at h
  |some v=>
   rw[e]at h;rw[dO d e];simp only at h ⊢;split at h
   ·rename_i l;rw[aG l];exact LL d h
   ·cases h
theorem XU(e:F.le F'){d n:Int}{x:Option aQ}(h:bnd F d x=some n):bnd F' d x=some n:=by
 cases x with
 |none=>exact h
 |some x=>
  simp only[bnd]at h ⊢;cases i:x.ev F with
  |none=>simp[i]at h
  |some v=>rw[dO e i,←i];exact h
theorem abA{op:POp}{v:PV}(A:F.le F')(h:aP op F H=some v):aP op F' H=some v:=by
 cases op
 case mv x=>exact dO A h
 case pick c a b=>
  simp only[aP]at h ⊢;cases K:c.ev F with
  |none=>simp[K]at h
  |some t=>
   rw[K]at h;rw[dO A K];cases t<;>simp only at h ⊢<;>try cases h
   rename_i t;cases t
   ·simp only[baK,if_false]at h ⊢;exact dO A h
   ·simp only[if_true]at h ⊢;exact dO A h
 case same x=>
  simp only[aP]at h ⊢;cases e:x.ev F with
  |none=>simp[e]at h
  |some a=>rw[dO A e,←e];exact h
 case un o x=>
  simp only[aP]at h ⊢;cases e:x.ev F with
  |none=>simp[e]at h
  |some a=>rw[dO A e,←e];exact h
 case conv k x=>
  simp only[aP]at h ⊢;cases e:x.ev F with
  |none=>simp[e]at h
  |some a=>rw[dO A e,←e];exact h
 case a7B x=>
  simp only[aP]at h ⊢;cases e:x.ev F with
  |none=>simp[e]at h
  |some a=>rw[dO A e,←e];exact h
 case a7R o x=>
  simp only[aP]at h ⊢;cases e:x.ev F with
  |none=>simp[e]at h
  |some a=>rw[dO A e,←e];exact h
 case field o n x=>
  simp only[aP]at h ⊢;cases e:x.ev F with
  |none=>simp[e]at h
  |some a=>rw[dO A e,←e];exact h
 case a7O x=>
  simp only[aP]at h ⊢;cases e:x.ev F with
  |none=>simp[e]at h
  |some a=>rw[dO A e,←e];exact h
 case isNil n x=>
  simp only[aP]at h ⊢;cases e:x.ev F with
  |none=>simp[e]at h
  |some a=>rw[dO A e,←e];exact h
 case lenM x=>
  simp only[aP]at h ⊢;cases e:x.ev F with
  |none=>simp[e]at h
  |some a=>rw[dO A e,←e];exact h
 case a7Y x=>
  simp only[aP]at h ⊢;cases e:x.ev F with
  |none=>simp[e]at h
  |some a=>rw[dO A e,←e];exact h
 case extract x i=>
  simp only[aP]at h ⊢;cases e:x.ev F with
  |none=>simp[e]at h
  |some a=>rw[dO A e,←e];exact h
 case a7C x=>
  simp only[aP]at h ⊢;cases e:x.ev F with
  |none=>simp[e]at h
  |some a=>rw[dO A e,←e];exact h
 case len x=>
  simp only[aP]at h ⊢;cases e:x.ev F with
  |none=>simp[e]at h
  |some a=>rw[dO A e,←e];exact h
 case box r x=>
  cases r
  ·cases h
  simp only[aP]at h ⊢;cases e:x.ev F with
  |none=>simp[e]at h
  |some a=>rw[dO A e,←e];exact h
 case load n p=>
  cases n
  all_goals
   simp only[aP]at h ⊢;cases e:p.ev F with
   |none=>simp[e]at h
   |some a=>rw[dO A e,←e];exact h
 case bin o x y=>
  simp only[aP]at h ⊢;cases e:x.ev F with
  |none=>simp[e]at h
  |some a=>
   cases B:y.ev F with
   |none=>simp[e,B]at h
   |some b=>rw[dO A e,dO A B,←e,←B];exact h
 case eqb n x y=>
  simp only[aP]at h ⊢;cases e:x.ev F with
  |none=>simp[e]at h
  |some a=>
   cases B:y.ev F with
   |none=>simp[e,B]at h
   |some b=>rw[dO A e,dO A B,←e,←B];exact h
 case eqs n k x y=>
  simp only[aP]at h ⊢;cases e:x.ev F with
  |none=>simp[e]at h
  |some a=>
   cases B:y.ev F with
   |none=>simp[e,B]at h
   |some b=>rw[dO A e,dO A B,←e,←B];exact h
 case a7F s x i=>
  simp only[aP]at h ⊢;cases e:x.ev F with
  |none=>simp[e]at h
  |some a=>
   cases B:i.ev F with
   |none=>simp[e,B]at h
   |some b=>rw[dO A e,dO A B,←e,←B];exact h
 case idxA n s x i=>
  simp only[aP]at h ⊢;cases e:x.ev F with
  |none=>simp[e]at h
  |some a=>
   cases B:i.ev F with
   |none=>simp[e,B]at h
   |some b=>rw[dO A e,dO A B,←e,←B];exact h
 case idxV n s g x i=>
  simp only[aP]at h ⊢;cases e:x.ev F with
  |none=>simp[e]at h
  |some a=>
   cases B:i.ev F with
   |none=>simp[e,B]at h
   |some b=>rw[dO A e,dO A B,←e,←B];exact h
 case a7P x i=>
  simp only[aP]at h ⊢;cases e:x.ev F with
  |none=>simp[e]at h
  |some a=>
   cases B:i.ev F with
   |none=>simp[e,B]at h
   |some b=>rw[dO A e,dO A B,←e,←B];exact h
 case a7J m x y=>
  simp only[aP]at h ⊢;cases e:x.ev F with
  |none=>simp[e]at h
  |some a=>
   cases B:y.ev F with
   |none=>simp[e,B]at h
   |some b=>rw[dO A e,dO A B,←e,←B];exact h
 case lookup sh z x k ok=>
  simp only[aP]at h ⊢;cases e:x.ev F with
  |none=>simp[e]at h
  |some a=>
   cases B:k.ev F with
   |none=>simp[e,B]at h
   |some b=>rw[dO A e,dO A B,←e,←B];exact h
 case build z ps =>simp only[aP,a8K]at h ⊢;obtain⟨cs,E,J⟩:=h;exact⟨cs,Tj A E,J⟩
 case a6U r s l z ps=>
  cases r
  ·cases h
  simp only[aP]at h ⊢;split at h
  ·rename_i K;rw[aG K];rw[a8K]at h ⊢;obtain⟨cs,E,J⟩:=h;exact⟨cs,LL A E,J⟩
  ·cases h
 case mkfn n cs =>simp only[aP,a8K]at h ⊢;obtain⟨vs,E,J⟩:=h;exact⟨vs,OW A E,J⟩
 case sliceA n s x lo hi mx=>
  cases lo<;>cases hi<;>cases mx<;>simp only[aP]at h ⊢<;>try cases h
  cases e:x.ev F with
  |none=>simp[e]at h
  |some a=>rw[dO A e,←e];exact h
 case a7L x lo hi=>
  simp only[aP]at h ⊢;cases e:x.ev F with
  |none=>simp[e]at h
  |some a=>
   rw[e]at h;rw[dO A e];cases a<;>simp only at h ⊢<;>try cases h
   cases E:bnd F 0 lo with
   |none=>simp[E]at h
   |some l=>
    rename_i s;cases J:bnd F s.length hi with
    |none=>simp[E,J]at h
    |some u=>rw[XU A E,XU A J,←E,←J];exact h
 case slice s x lo hi mx=>
  simp only[aP]at h ⊢;cases e:x.ev F with
  |none=>simp[e]at h
  |some a=>
   rw[e]at h;rw[dO A e];have N:∀(d:Int)(w:PV),(match bnd F 0 lo,bnd F d hi with
     |some a1,some a2=>match(generalizing:=false) mx with
      |none=>PV.slice s w a1 a2 none
      |some m=>(bnd F 0 (some m)).bind λm=>PV.slice s w a1 a2 (some m)
     |_,_=>none)=some v→(match bnd F' 0 lo,bnd F' d hi with
     |some a1,some a2=>match(generalizing:=false) mx with
      |none=>PV.slice s w a1 a2 none
      |some m=>(bnd F' 0 (some m)).bind λm=>PV.slice s w a1 a2 (some m)
     |_,_=>none)=some v:=by
    intro d w h;cases E:bnd F 0 lo with
    |none=>simp[E]at h
    |some l=>
     cases J:bnd F d hi with
     |none=>simp[E,J]at h
     |some u=>
      rw[E,J]at h;rw[XU A E,XU A J];cases mx with
      |none=>exact h
      |some m=>
       simp only at h ⊢;cases M:bnd F 0 (some m)with
       |none=>simp[M]at h
       |some q=>rw[XU A M,←M];exact h
   cases a<;>simp only at h ⊢<;>first|exact N _ _ h|cases h
 all_goals exact h
theorem Rx{op:POp}{r:(Nat→PV) × aU}(d:F.le F')(h:cT op F=some r):cT op F'=some r:=by
 cases op
 case box b x=>
  cases b
  ·simp only[cT]at h ⊢;cases e:x.ev F with
   |none=>simp[e]at h
   |some a=>rw[dO d e,←e];exact h
  ·cases h
 case a6U b s l z ps=>
  cases b
  ·simp only[cT]at h ⊢;split at h
   ·rename_i w;rw[aG w];rw[a8K]at h ⊢;obtain⟨cs,p,u⟩:=h;exact⟨cs,LL d p,u⟩
   ·cases h
  ·cases h
 case a6W s b z l c=>
  simp only[cT]at h ⊢;cases e:l.ev F with
  |none=>simp[e]at h
  |some a=>
   cases i:c.ev F with
   |none=>simp[e,i]at h
   |some b=>rw[dO d e,dO d i,←e,←i];exact h
 all_goals exact h
theorem ahF{op:POp}{K:PV→PH→Prop}(d:F.le F')(h:bZ op F H K):bZ op F' H K:=by
 cases op
 case store n x y=>
  simp only[bZ]at h ⊢;cases e:x.ev F with
  |none=>simp[e]at h
  |some a=>
   cases i:y.ev F with
   |none=>simp[e,i]at h
   |some b=>rw[dO d e,dO d i];rw[e,i]at h;exact h
 case append s b x y=>
  simp only[bZ]at h ⊢;cases e:x.ev F with
  |none=>simp[e]at h
  |some a=>
   cases i:y.ev F with
   |none=>simp[e,i]at h
   |some b=>rw[dO d e,dO d i];rw[e,i]at h;exact h
 case a7G sh x y z=>
  simp only[bZ]at h ⊢;cases e:x.ev F with
  |none=>simp[e]at h
  |some a=>
   cases i:y.ev F with
   |none=>simp[e,i]at h
   |some b=>
    cases l:z.ev F with
    |none=>simp[e,i,l]at h
    |some c=>rw[dO d e,dO d i,dO d l];rw[e,i,l]at h;exact h
 case insert sh x y z=>
  simp only[bZ]at h ⊢;cases e:x.ev F with
  |none=>simp[e]at h
  |some a=>
   cases i:y.ev F with
   |none=>simp[e,i]at h
   |some b=>
    cases l:z.ev F with
    |none=>simp[e,i,l]at h
    |some c=>rw[dO d e,dO d i,dO d l];rw[e,i,l]at h;exact h
 all_goals exact h
theorem PF.aYA(d:F.le F')(i:Nat)(v:PV):(F.set i v).le (F'.set i v):=by
 intro j u h;rw[oS]at h ⊢;split at h
 ·rename_i e;rw[aG e];exact h
 ·rename_i e;rw[aD e];exact d j u h
theorem PF.zN(e:F.le F')(d:Option Nat)(v:PV):(F.put d v).le (F'.put d v):=by
 cases d with
 |none=>exact e
 |some d=>exact PF.aYA e d v
theorem PF.aWY(d:F.le F')(o s:Nat)(rs:List (List PV)):(F.frz o s rs).le (F'.frz o s rs):=by
 intro j u h;rw[wD,a8K]at h ⊢;obtain⟨x,e,i⟩:=h;exact⟨x,d j x e,i⟩
theorem PF.le_trans{A B D:PF}(h:A.le B)(k:B.le D):A.le D:=λi v hi=>k i v (h i v hi)
theorem kC.up{i:PF}{l:PH}(h:kC F H i l):∀{F':PF},F.le F'→∃d,kC F' H d l∧i.le d:=by
 induction h with
 |refl F H=>exact λ{F'} e=>⟨F',.refl _ _,e⟩
 |step o w _ x =>intro F' e;obtain⟨d,p,u⟩:=x (PF.aWY e o _ _);exact⟨d,.step o w p,u⟩
theorem uh{name:Nat}{args:Option (List PV)}{d:Option Nat}{K1 K2:PF→PH→Prop}(y:∀F F' H,F.le F'→K1 F H→K2 F' H)(i:F.le F'){e:Option (List PV)}(A:∀vs,args=some vs→e=some vs)(h:uJ C name args d K1 F H):uJ C name e d K2 F' H:=by
 obtain⟨vs,l,R,p,u,w,x⟩:=h;exact⟨vs,l,R,A _ p,u,w,λr H' a b=>y _ _ _ (PF.zN i d r) (x r H' a b)⟩
theorem X9{cs:List PV}{args:List aQ}(d:F.le F')(vs:List PV)(h:(aQ.evs F args).map (·++cs)=some vs):(aQ.evs F' args).map (·++cs)=some vs:=by
 rw[a8K]at h ⊢;obtain⟨x,e,i⟩:=h;exact⟨x,OW d e,i⟩
theorem akZ{name:Nat}{args:List aQ}{cs:List PV}{d:Option Nat}{K1 K2:PF→PH→Prop}(l:∀F F' H,F.le F'→K1 F H→K2 F' H)(e:F.le F')(h:kY C name args cs d K1 F H):kY C name args cs d K2 F' H:=by
 rcases h with h|⟨F1,H1,h1,h2⟩
 ·exact .inl (uh l e (X9 e) h)
 ·obtain⟨i,k1,k2⟩:=h1.up e;exact .inr ⟨i,H1,k1,uh l k2 (X9 k2) h2⟩
theorem aa{op:POp}{d:Option Nat}{K1 K2:PF→PH→Prop}(p:∀F F' H,F.le F'→K1 F H→K2 F' H)(e:F.le F')(h:pX (cT op F) d K1 F H):pX (cT op F') d K2 F' H:=by
 obtain⟨w,x,i,l⟩:=h;exact⟨w,x,Rx e i,λo u=>p _ _ _ (PF.zN e d _) (l o u)⟩
theorem Dp{op:POp}{d:Option Nat}{K1 K2:PF→PH→Prop}(p:∀F F' H,F.le F'→K1 F H→K2 F' H)(e:F.le F')(h:cM (aP op F H) d K1 F H):cM (aP op F' H) d K2 F' H:=by
 obtain⟨v,i,l⟩:=h;exact⟨v,abA e i,p _ _ _ (PF.zN e d v) l⟩
theorem Q4{op:POp}{d:Option Nat}{K1 K2:PF→PH→Prop}(i:∀F F' H,F.le F'→K1 F H→K2 F' H)(e:F.le F')(h:bZ op F H λr H'=>K1 (F.put d r) H'):bZ op F' H λr H'=>K2 (F'.put d r) H':=
 ahF e (IS (λv H' l=>i _ _ _ (PF.zN e d v) l) h)
theorem aRO{op:POp}{d:Option Nat}{K1 K2:PF→PH→Prop}(i:∀F F' H,F.le F'→K1 F H→K2 F' H)(e:F.le F')(h:wpOp C op d K1 F H):wpOp C op d K2 F' H:=by
 cases op
 case call n a=>exact akZ i e h
 case a7Q x a=>
  have w:vN C (x.ev F) a d K1 F H:=h;show vN C (x.ev F') a d K2 F' H;cases M:x.ev F with
  |none=>rw[M]at w;exact w.elim
  |some u=>
   rw[dO e M];rw[M]at w;cases u<;>first|exact akZ i e w|exact w.elim|skip
   obtain⟨l,O,A⟩:=w;refine⟨l,O,?_⟩;rcases A with⟨vs,E,R,A,J,K,h5⟩|⟨F1,H1,k1,vs,E,R,A,J,K,h5⟩
   ·exact .inl ⟨vs,E,R,OW e A,J,K,λr H' p q=>i _ _ _ (PF.zN e d r) (h5 r H' p q)⟩
   ·obtain⟨B,k2,N⟩:=k1.up e;exact .inr ⟨B,H1,k2,vs,E,R,OW N A,J,K,λr H' p q=>i _ _ _ (PF.zN N d r) (h5 r H' p q)⟩
 case box r x=>cases r<;>first|exact aa (op:=.box false x) i e h|exact Dp (op:=.box true x) i e h
 case a6U r s l z ps=>cases r<;>first|exact aa (op:=.a6U false s l z ps) i e h|exact Dp (op:=.a6U true s l z ps) i e h
 case alloc cs=>exact aa (op:=.alloc cs) i e h
 case a6W s b z l c=>exact aa (op:=.a6W s b z l c) i e h
 case a7U sh=>exact aa (op:=.a7U sh) i e h
 case store n x y=>exact Q4 (op:=.store n x y) i e h
 case append s b x y=>exact Q4 (op:=.append s b x y) i e h
 case a7G sh x y z=>exact Q4 (op:=.a7G sh x y z) i e h
 case insert sh x y z=>exact Q4 (op:=.insert sh x y z) i e h
 all_goals exact Dp i e h
theorem bs{K1 K2:PF→PH→Prop}(l:∀F F' H,F.le F'→K1 F H→K2 F' H):∀{ops:List aW}{F F':PF}{H:PH},F.le F'→wpOps C ops K1 F H→wpOps C ops K2 F' H
 |[],_,_,_,i,h=>l _ _ _ i h
 |⟨d,op,none⟩::rest,_,_,_,i,h=>aRO (λ_ _ _ a b=>bs l a b) i h
 |⟨d,op,some (t,p)⟩::rest,F,F',H,i,h=>by
  rw[akG]at h ⊢;unfold CN at h;split at h
  ·rename_i b hb;rw[i t _ hb];unfold CN;simp only;split at h
   ·rename_i e;rw[aG e];exact aRO (λ_ _ _ a b=>bs l a b) i h
   ·rename_i e;rw[aD e];exact bs l (PF.zN i d _) h
  ·rename_i hb;rw[i t _ hb];exact bs l (PF.zN i d _) h
  ·exact h.elim
theorem aaO{Hs:PH}{S:Spec}{st:Bool}{op:POp}{K:PV→PH→Prop}(d:F.le F')(h:(op.kind F).run C Hs S st K H):(op.kind F').run C Hs S st K H:=by
 have new:∀op:POp,(Kind.new (cT op F)).run C Hs S st K H→(Kind.new (cT op F')).run C Hs S st K H:=λop h=>by obtain⟨M,x,e,i⟩:=h;exact⟨M,x,Rx d e,i⟩
 have calm:∀op:POp,(Kind.calm (aP op F)).run C Hs S st K H→(Kind.calm (aP op F')).run C Hs S st K H:=λop h=>by obtain⟨v,e,i⟩:=h;exact⟨v,abA d e,i⟩
 have J:∀op:POp,(Kind.write λH K=>bZ op F H K).run C Hs S st K H→(Kind.write λH K=>bZ op F' H K).run C Hs S st K H:=λop h=>ahF (op:=op) d (show bZ op F H (λr H'=>Hs.le H'∧K r H')from h);cases op
 case call n a =>obtain⟨vs,D,R,e,i⟩:=h;exact⟨vs,D,R,OW d e,i⟩
 case a7Q x a=>
  unfold POp.kind at h ⊢;simp only at h ⊢;cases p:x.ev F with
  |none=>rw[p]at h;exact h.elim
  |some u=>
   rw[p]at h;rw[dO d p];cases u<;>simp only at h ⊢<;>first|exact h|skip
   obtain⟨vs,D,R,e,i⟩:=h;exact⟨vs,D,R,X9 d _ e,i⟩
 case insert sh x k v=>
  obtain⟨o,E,B,u,g,e,i⟩:=h;refine⟨o,E,B,u,g,?_,i⟩;cases p:x.ev F with
  |none=>simp[p]at e
  |some a=>
   cases w:k.ev F with
   |none=>simp[p,w]at e
   |some b=>
    cases A:v.ev F with
    |none=>simp[p,w,A]at e
    |some c=>rw[dO d p,dO d w,dO d A];rw[p,w,A]at e;exact e
 case box r x=>cases r<;>first|exact new (.box false x) h|exact calm (.box true x) h
 case a6U r s l z ps=>cases r<;>first|exact new (.a6U false s l z ps) h|exact calm (.a6U true s l z ps) h
 case alloc cs=>exact new (.alloc cs) h
 case a6W s b z l c=>exact new (.a6W s b z l c) h
 case a7U sh=>exact new (.a7U sh) h
 case store n x y=>exact J (.store n x y) h
 case append s b x y=>exact J (.append s b x y) h
 case a7G sh x y z=>exact J (.a7G sh x y z) h
 all_goals exact calm _ h
theorem aML{Hs:PH}{S:Spec}{st:Bool}{i:aW}{K:PV→PH→Prop}(d:F.le F')(h:(i.kind F).run C Hs S st K H):(i.kind F').run C Hs S st K H:=by
 unfold aW.kind at h ⊢;split
 ·rename_i l;rw[l]at h;exact aaO d h
 ·rename_i t p l;rw[l]at h;simp only at h;split at h
  ·rename_i b hb;rw[d t _ hb];simp only;split at h
   ·rename_i e;rw[aG e];exact aaO d h
   ·rename_i e;rw[aD e];exact h
  ·rename_i hb;rw[d t _ hb];exact h
  ·exact h.elim
theorem aJK{Hs:PH}{S:Spec}{K1 K2:PF→PH→Prop}(l:∀F F' H,F.le F'→K1 F H→K2 F' H):∀{ops:List (aW × Bool)}{F F':PF}{H:PH},Hs.le H→F.le F'→wpD C Hs S ops K1 F H→wpD C Hs S ops K2 F' H
 |[],_,_,_,_,d,h=>l _ _ _ d h
 |i::rest,F,F',H,w,d,h=>by have p:(i.1.kind F).run C Hs S i.2 (λv H'=>wpD C Hs S rest K1 (F.put i.1.dst v) H') H:=h;exact aML d (Kind.xI (xD _ _) (λv H' e u=>aJK l e (PF.zN d _ v) u) w p)
class Up(K:cD):Prop where
 up:∀{e:mZ}{F F':PF}{H:PH},F.le F'→K e F H→K e F' H
theorem FL:∀(c:aC){K1 K2:cD}(_:∀e F F' H,F.le F'→K1 e F H→K2 e F' H){F F':PF}{H:PH},F.le F'→c.wp C K1 F H→c.wp C K2 F' H
 | .skip,_,_,i,_,_,_,d,h=>i _ _ _ _ d h
 | .region ops,_,_,i,_,_,_,d,h=>bs (i .normal) d h
 | .draw ops,_,_,i,_,_,_,d,⟨Hs,S,u,B⟩=>⟨Hs,S,u,aJK (i .normal) u d B⟩
 | .seq a b,K1,K2,i,_,_,_,d,h=>FL a (K1:=jW C (b.wp C) K1) (K2:=jW C (b.wp C) K2) (λe F F' H p l=>by
   cases e with
   |normal=>exact FL b i p l
   |exit id=>exact i (.exit id) _ _ _ p l
   |ret=>exact i .ret _ _ _ p l) d h
 | .cond c a b,K1,K2,i,F,F',H,d,h=>by
  rw[aQU]at h ⊢;unfold gf at h;split at h
  ·rename_i t O;rw[dO d O];unfold gf;simp only;split at h
   ·rename_i e;rw[aG e];exact FL a i d h
   ·rename_i e;rw[aD e];exact FL b i d h
  ·exact h.elim
 | .block id c,K1,K2,i,_,_,_,d,h=>FL c (K1:=fQ id K1) (K2:=fQ id K2) (λe F F' H p l=>by
   cases e with
   |normal=>exact i .normal _ _ _ p l
   |exit j=>
    rw[LC]at l ⊢;split at l
    ·rename_i e;rw[aG e];exact i .normal _ _ _ p l
    ·rename_i e;rw[aD e];exact i (.exit j) _ _ _ p l
   |ret=>exact i .ret _ _ _ p l) d h
 | .loop c,K1,K2,i,F,F',H,d,⟨α,y,Hs,A,m,J,Z,E,u,B,K,M,h5⟩=>by
  obtain⟨w,k1,k2⟩:=u.up d;refine⟨α,y,Hs,A,m,J,w,E,k1,B,PF.le_trans K k2,M,λa N=>?_⟩;refine FL c (K1:=gV y Hs A m (m a) K1) (K2:=gV y Hs A m (m a) K2) (λe F F' H p l=>?_) PF.le_refl (h5 a N);cases e with
  |normal =>obtain⟨b,F2,H2,U,V,W,X,Y⟩:=l;obtain⟨x,Q,R⟩:=U.up p;exact⟨b,x,H2,Q,V,W,PF.le_trans X R,Y⟩
  |exit id=>exact i (.exit id) _ _ _ p l
  |ret=>exact i .ret _ _ _ p l
 | .exit id,_,_,i,_,_,_,d,h=>i (.exit id) _ _ _ d h
 | .ret,_,_,i,_,_,_,d,h=>i .ret _ _ _ d h
instance Up.seq{K:cD}[Up K](b:aC):Up (jW C (b.wp C) K) where
 up {e} {F} {F'} {H} hl hh:=by
  cases e with
  |normal=>exact FL b (λe F F' H a h=>Up.up a h) hl hh
  |exit id=>exact Up.up (K:=K) (e:=.exit id) hl hh
  |ret=>exact Up.up (K:=K) (e:=.ret) hl hh
instance Up.block{K:cD}[Up K](id:Nat):Up (fQ id K) where
 up {e} {F} {F'} {H} hl hh:=by
  cases e with
  |normal=>exact Up.up (K:=K) (e:=.normal) hl hh
  |exit j=>
   rw[LC]at hh ⊢;split at hh
   ·rename_i e;rw[aG e];exact Up.up (K:=K) (e:=.normal) hl hh
   ·rename_i e;rw[aD e];exact Up.up (K:=K) (e:=.exit j) hl hh
  |ret=>exact Up.up (K:=K) (e:=.ret) hl hh
instance Up.loop{K:cD}[Up K]{α:Type}(i:α→PF)(Hs:α→PH)(l:α→Prop)(m:α→Nat)(n:Nat):Up (gV i Hs l m n K) where
 up {e} {F} {F'} {H} hl hh:=by
  cases e with
  |normal =>obtain⟨b,E,H2,w,x,y,A,B⟩:=hh;obtain⟨d,p,u⟩:=w.up hl;exact⟨b,d,H2,p,x,y,PF.le_trans A u,B⟩
  |exit id=>exact Up.up (K:=K) (e:=.exit id) hl hh
  |ret=>exact Up.up (K:=K) (e:=.ret) hl hh
theorem aXS{H:PH}(d:F.le F'){x:eN}{v:PV}(h:x.ev F H=some v):x.ev F' H=some v:=by
 cases x with
 |tmp t=>exact d t v h
 |cell t n=>
  cases n<;>simp only[eN.ev]at h ⊢<;>(cases e:F t with
   |none=>simp[e]at h
   |some a=>rw[d t a e,←e];exact h)
theorem Fc{H:PH}(d:F.le F'):∀{xs:List eN}{vs:List PV},eN.evs F H xs=some vs→eN.evs F' H xs=some vs
 |[],_,h=>h
 |x::xs,vs,h=>by
  rw[oM]at h ⊢;cases i:x.ev F H with
  |none=>simp[i]at h
  |some v=>
   cases e:eN.evs F H xs with
   |none=>simp[e]at h
   |some l =>rw[i,e]at h;rw[aXS d i,Fc d e];exact h
instance Up.ret(res:List eN)(R:PV→PH→Prop):Up (aY res R) where
 up {e} {F} {F'} {H} hl hh:=by
  cases e with
  |exit id=>exact hh
  |normal=>obtain⟨vs,d,i⟩:=hh;exact⟨vs,Fc hl d,i⟩
  |ret=>obtain⟨vs,d,i⟩:=hh;exact⟨vs,Fc hl d,i⟩
end
open Go Go.RowKit
def JA(R:PH→Prop):cD
 | .normal,_,H=>R H
 |_,_,_=>False
theorem bW.putObj{E:Env}{H:PH}{w:World}{l:Nat}{o o':Obj}(hW:bW E H w)(u:w.heap[l]?=some o)(y:∀c t b,o≠.cells c t b)(A:H l=none):bW E H (w.putObj l o'):=by
 refine⟨λb cs h=>?_,λq x h=>?_,λq n h=>?_⟩
 ·obtain⟨d,ty,fr,i⟩:=hW.g b cs h;have:b≠l:=λe=>by rw[e,u]at i;exact y _ _ _ (by injection i)
  exact⟨d,ty,fr,(World.putObj_heap_other this).trans i⟩
 ·obtain⟨d,i⟩:=hW.h q x h;have:q≠l:=λe=>by rw[e,A]at h;cases h
  exact⟨by rw[World.putObj_size];exact d,i.mono (.refl E) (World.putObj_heap_other this)⟩
 ·obtain⟨p,ty,fr,d,i⟩:=hW.s q n h;have:q≠l:=λe=>by rw[e,u]at d;exact y _ _ _ (by injection d)
  exact⟨p,ty,fr,(World.putObj_heap_other this).trans d,i⟩
theorem bW.setObj{E:Env}{H:PH}{w:World}{l:Nat}{o:Obj}{x:aU}(hW:bW E H w)(i:w.heap[l]?=some o)(u:∀c t b,o≠.cells c t b)(A:XN E w l x):bW E (H.set l x) w:=by
 refine⟨λb cs h=>?_,λq y h=>?_,hW.s⟩
 ·obtain⟨p,ty,fr,d⟩:=hW.g b cs h;have:¬b=l:=λe=>by rw[e,i]at d;exact u _ _ _ (by injection d)
  refine⟨λy B=>p y ?_,ty,fr,d⟩
  rwa[aS,aD this]at B
 ·rw[aS]at h;split at h
  ·rename_i e;cases h;subst e;exact⟨(bbO.1 i).1,A⟩
  ·exact hW.h q y h
theorem aJL{c:Code}{l m:Nat}{P:Program}{Q:Exit→Act→World→Prop}{d tm':Array Value}{ds:List Deferred}{w:World}(e:d=tm')(h:c.wpIn (Fz (some l)) m P Q { tmps:=tm',defers:=ds } w):c.wpIn (Fence.wide.inRound l) m P Q { tmps:=d,defers:=ds } w:=by
 subst e;exact h
section
variable {C:Ctx} {T:Tbl}
theorem akJ(V:C.P=T.P)(N:C.num=T.num){n t l:Nat}{J K:Code}{ζ Q:aC}(h1:T.code n J=some ζ)(h2:T.code n K=some Q)(ht:t<n){F:PF}{x:PV}{H:PH}{R:PH→Prop}(hl:H l=none)
  (Ξ:ζ.wp C (jW C (Q.wp C) (JA R)) (F.set t x) H) :
  OM C l [x] (H.set l (.loop F n t J K)) (λr H'=>r=.bool true∧∃H2,R H2∧H2 l=none∧H'=H2.set l (.loop F n t J K)):=by
 intro E w vs hN hW Λ;obtain⟨vl⟩:=vs;cases Λ with
 |cons e1 e2=>
 cases e2;rename_i v;obtain⟨hlt,rec,U,O,ε,δ,has,ι,ρ,hF⟩:=hW.h l (.loop F n t J K) (by rw[dK]);have Γ:bW E H w:=hW.weaken λo y ho=>by
  have:¬o=l:=λe=>by rw[e,hl]at ho;cases ho
  rw[aS,aD this];exact ho
 refine⟨rec.fn,_,rec.assign,rec.body,run_yield U (by rw[δ];rfl),?_⟩;rw[has,ι,δ];refine roundIn_of_wpIn (F:=Fence.wide) trivial ?_;have hA:eU [] n E (F.set t x) { tmps:=rec.tmps.setIfInBounds t v,defers:=[] }:=by
  refine⟨by simp[ρ],rfl,λi pv hi=>?_⟩;rw[oS]at hi;split at hi
  ·rename_i e;cases hi;subst e;simp only[bcA];rw[Array.getElem?_setIfInBounds_self_of_lt Om];exact e1
  ·rename_i e;simp only[bcA];rw[Array.getElem?_setIfInBounds_ne (λh=>e h.symm),←bcA];exact hF i pv hi
 rw[V];refine aJL (tm':=rec.tmps.setIfInBounds t v) bD ?_;refine uR (ro:=some l) (fu:=0) V N J ζ (jW C (Q.wp C) (JA R)) _ E (F.set t x) H _ w h1 Ξ hA Γ (hN.trans N) λe E1 F1 H1 a1 B υ φ p X=>?_;cases e with
 |exit id=>exact X.elim
 |ret=>exact X.elim
 |normal=>
  have α:B.heap[l]?=some (.loop rec):=(p.block l hlt hl).trans U;have W:H1 l=none:=by
   cases hh:H1 l with
   |none=>rfl
   |some y=>
    rcases p.new l y hh with⟨z,A⟩|hge
    ·rw[hl]at A;cases A
    ·omega
  refine⟨_,run_beginRound α O,?_⟩;have χ:=φ.putObj (o':=.loop { rec with state:=.busy }) α (λ_ _ _ h=>by cases h) W;have S:l<B.heap.size:=(bbO.1 α).1;have Θ:(B.putObj l (.loop { rec with state:=.busy })).heap[l]?=some (.loop { rec with state:=.busy }):=World.putObj_heap_same S;have σ:(B.putObj l (.loop { rec with state:=.busy })).heap.size=B.heap.size:=World.putObj_size;have γ:∀b,b≠l→(B.putObj l (.loop { rec with state:=.busy })).heap[b]?=B.heap[b]?:=λb hb=>World.putObj_heap_other hb;have ο:(B.putObj l (.loop { rec with state:=.busy })).os=B.os:=rfl;have τ:(B.putObj l (.loop { rec with state:=.busy })).tape=B.tape:=rfl;have ξ:(B.putObj l (.loop { rec with state:=.busy })).output=B.output:=rfl;generalize B.putObj l (.loop { rec with state:=.busy })=w2 at *
  refine uR (ro:=some l) (fu:=0) V N K Q (JA R) _ E1 F1 H1 a1 w2 h2 X υ χ (p.env.num.trans (hN.trans N)) λe2 E2 F2 H2 a2 w3 Φ ψ u Y=>?_;cases e2 with
  |exit id=>exact Y.elim
  |ret=>exact Y.elim
  |normal=>
   have β:w3.heap[l]?=some (.loop { rec with state:=.busy }):=(u.block l (by rw[σ];exact S) W).trans Θ;have ν:l<w3.heap.size:=(bbO.1 β).1;have θ:H2 l=none:=by
    cases hh:H2 l with
    |none=>rfl
    |some y=>
     rcases u.new l y hh with⟨z,A⟩|hge
     ·rw[W]at A;cases A
     ·omega
   have η:({ { rec with state:=.busy }with state:=if(none:Option Code).isNone then .ready else .done,pending:=none }:Loop)=rec:=by obtain⟨a,b,c,d,e,f,g,h⟩:=rec;simp only at O ε;subst O ε;rfl
   refine⟨_,_,run_endRound none β,?_⟩;rw[η];have ω:=(ψ.putObj (o':=.loop rec) β (λ_ _ _ h=>by cases h) θ);have μ:(w3.putObj l (.loop rec)).heap[l]?=some (.loop rec):=World.putObj_heap_same ν;have κ:E.le E2:=p.env.trans u.env;refine⟨.bool true,.bool true,E2,H2.set l (.loop F n t J K),rfl,ω.setObj μ (λ_ _ _ h=>by cases h) ⟨rec,μ,O,ε,δ,has,ι,ρ,λi pv hi=>(hF i pv hi).mono κ⟩,.bool true,?_,rfl,H2,Y,θ,rfl⟩;refine⟨κ,?_,?_,?_,?_,λb hb hn=>?_,λo y ho=>?_,λb cs hb=>?_⟩
   ·exact u.os.trans (ο.trans p.os)
   ·exact u.tape.trans (τ.trans p.tape)
   ·exact u.output.trans (ξ.trans p.output)
   ·have:=p.size;have:=u.size;rw[World.putObj_size];omega
   ·have Z:b≠l:=λe=>by rw[e,dK]at hn;cases hn
    rw[aS,aD Z]at hn;have Δ:H1 b=none:=by
     cases hh:H1 b with
     |none=>rfl
     |some y=>
      rcases p.new b y hh with⟨z,A⟩|hge
      ·rw[hn]at A;cases A
      ·omega
    rw[World.putObj_heap_other Z,u.block b (by have:=p.size;omega) Δ,γ b Z,p.block b hb hn]
   ·rw[aS]at ho;split at ho
    ·rename_i e;exact .inl ⟨_,by rw[e,dK]⟩
    ·rename_i e;rcases u.new o y ho with⟨z,A⟩|hge
     ·rcases p.new o z A with⟨z2,M⟩|hge
      ·exact .inl ⟨z2,by rw[aS,aD e];exact M⟩
      ·exact .inr hge
     ·have:=p.size;exact .inr Om
   ·rcases u.newG b cs hb with hg|⟨z,A⟩|hge
    ·rcases p.newG b cs hg with hg|⟨z,A⟩|hge
     ·exact .inl hg
     ·have e:¬b=l:=λe=>by rw[e,hl]at A;cases A
      exact .inr (.inl ⟨z,by rw[aS,aD e];exact A⟩)
     ·exact .inr (.inr hge)
    ·rcases p.new b z A with⟨z2,M⟩|hge
     ·have e:¬b=l:=λe=>by rw[e,hl]at M;cases M
      exact .inr (.inl ⟨z2,by rw[aS,aD e];exact M⟩)
     ·exact .inr (.inr hge)
    ·have:=p.size;exact .inr (.inr Om)
end
open Go Go.RowKit
abbrev BQ(D:Nat):Deferred:={ target:=.collected D,args:=#[] }
theorem bW.alloc{E:Env}{H:PH}{w:World}(hW:bW E H w)(o:Obj):bW E H (w.alloc o):=by
 have e:(w.alloc o).heap.size=w.heap.size+1:=World.size_alloc w o;have hb:∀b,b<w.heap.size→(w.alloc o).heap[b]?=w.heap[b]?:=λb hlt=>Below.heap_alloc w o b hlt;exact hW.same Om (λb hlt _=>hb b hlt) (λq x d=>hb q (hW.h q x d).1)
section
variable {C:Ctx} {T:Tbl} {ds:List Deferred} {fu:Nat}
theorem aWX{f:FuncId}{args:Array Value}{w:World}{P:Program}{fn:Func}(i:P.funcs[f]?=some fn)(hb:fn.body.isSome=true)(e:(fn.name=="runtime.NumGoroutine")=false):(callFunc f args).run P w=.ok (.enter f args) w:=by
 have d:fn.body.isNone=false:=by cases h:fn.body<;>simp_all
 simp only[callFunc,Sem.run_bind,Sem.run_pure,Result.andThen_ok,run_program,i,e,d,baK,if_false]
def Rb(C:Ctx)(name:Nat)(cs:List PV)(F:PF)(H:PH)(n t:Nat)(d e:Code)(i:PH→Prop):Prop:=
 ∀l,H l=none→aH C name (DG l::cs) (H.set l (.loop F n t d e)) (λ_ H'=>∃H2,i H2∧H2.le H'∧H2 l=none∧H' l=some (.loop F n t d e))
theorem ajS(β:C.P=T.P)(α:C.num=T.num){n t name:Nat}{g:Operand}{pg:aQ}{B J:Code}{cs:List PV}{E:Env}{F:PF}{H:PH}{a:Act}{w:World}{KH:PH→Prop}{Q:Exit→Act→World→Prop}(hg:T.opd g=some pg)(Γ:pg.ev F=some (.fn name cs))
  (Δ:Rb C name cs F H n t B J KH) (Z:eU ds n E F a) (hW:bW E H w) (hN:E.num=T.num)
  (hT:∀D X H2 w',eU (BQ D::ds) n X F { a with defers:=BQ D::a.defers }→bW X H2 w'→Ext E H w X H2 w'→w'.heap[D]?=some (.deferred (some []))→H2 D=none→w.heap.size≤D→KH H2→Q .normal { a with defers:=BQ D::a.defers } w') :
  (Code.rangeFunc g #[t] B J).wpIn (Fz none) fu T.P Q a w:=by
 have r:=bL hg Γ Z hN;generalize Ψ:a.eval g=vg at r;cases r with
 |fn vc ψ ω=>
 have M:∀o x,H o=some x→o<w.heap.size:=λo x ho=>(hW.h o x ho).1;have nD:H w.heap.size=none:=by
  cases h:H w.heap.size with
  |none=>rfl
  |some x=>have:=M _ x h;omega
 have nl:H (w.heap.size+1)=none:=by
  cases h:H (w.heap.size+1)with
  |none=>rfl
  |some x=>have:=M _ x h;omega
 obtain⟨⟨fn,hf,hb,Θ⟩,U⟩:=Δ (w.heap.size+1) nl;rw[β]at hf;refine wpIn_rangeFunc λξ _=>?_;obtain⟨rec,O⟩:∃rec:Loop,rec={ state:=.ready,pending:=none,fn:=ξ,tmps:=a.tmps,params:=#[t],assign:=B,body:=J,defers:=w.heap.size }:=⟨_,rfl⟩;obtain⟨l,d⟩:∃l,(w.alloc (.deferred (some []))).alloc (.loop rec)=l:=⟨_,rfl⟩;have κ:(w.alloc (.deferred (some []))).heap.size=w.heap.size+1:=World.size_alloc _ _;have a':l.heap.size=w.heap.size+2:=by rw[←d,World.size_alloc,κ]
 have θ:∀b,b<w.heap.size→l.heap[b]?=w.heap[b]?:=λb hb=>by rw[←d];exact(Below.heap_alloc _ _ b Om).trans (Below.heap_alloc _ _ b hb)
 have ρ:l.heap[w.heap.size]?=some (.deferred (some [])):=by rw[←d];exact(Below.heap_alloc _ _ _ Om).trans (World.alloc_heap_new w _)
 have ζ:l.heap[w.heap.size+1]?=some (.loop rec):=by
  rw[←d];have:=World.alloc_heap_new (w.alloc (.deferred (some []))) (.loop rec)
  rwa[κ]at this
 have φ:bW E H l:=by rw[←d];exact(hW.alloc _).alloc _
 have χ:bW E (H.set (w.heap.size+1) (.loop F n t B J)) l:=φ.setObj ζ (λ_ _ _ h=>by cases h) (by subst O;exact⟨_,ζ,rfl,rfl,rfl,rfl,rfl,Z.size,Z.t⟩);have Ξ:l.os=w.os:=by rw[←d];rfl
 have Φ:l.tape=w.tape:=by rw[←d];rfl
 have Λ:l.output=w.output:=by rw[←d];rfl
 have N:C.num name=E.num name:=by rw[α,hN]
 refine⟨w.heap.size+1,[BQ w.heap.size],l,{ target:=.fn (.func (E.num name)) vc,args:=#[.func (.yield (w.heap.size+1)) #[] #[]] },l,E.num name,#[Value.func (.yield (w.heap.size+1)) #[] #[]]++vc,l,?_,?_,?_,?_,?_,?_⟩
 ·rw[←d,O];exact run_enterLoop_outer _ _ _ _ _
 ·simp only[resolve,Ψ];simp[go_sem]
 ·exact λ_ _=>trivial
 ·simp only[invoke];exact aWX (by rw[←N];exact hf) hb Θ
 ·intro h;cases h
 ·have S:fU E (DG (w.heap.size+1)::cs) (#[Value.func (.yield (w.heap.size+1)) #[] #[]]++vc).toList:=by rw[Array.toList_append];exact .cons (.lit _) (fU.aRN (by simpa using ψ) λj p u hp hu=>ω j p u hp (by simpa using hu))
  have hc:=U E l _ (hN.trans α.symm) χ S;rw[β,N]at hc;refine Fz.calls (hc.mono λe w3 he=>?_);obtain⟨v,pv,X,H',rfl,ε,hr,A,H2,υ,V,K,τ⟩:=he;obtain⟨Ω,ν,η,μ,ι,-⟩:=ε.h _ _ τ;have W:w.heap.size≠w.heap.size+1:=Om;have σ:w3.heap[w.heap.size]?=some (.deferred (some [])):=(A.block _ Om (by rw[aS,aD W];exact nD)).trans ρ;have δ:H' w.heap.size=none:=by
   cases hh:H' w.heap.size with
   |none=>rfl
   |some y=>
    rcases A.new _ y hh with⟨z,R⟩|hge
    ·rw[aS,aD W,nD]at R;cases R
    ·omega
  have γ:H2 w.heap.size=none:=by
   cases hh:H2 w.heap.size with
   |none=>rfl
   |some y=>rw[V _ y hh]at δ;cases δ
  refine⟨ν.pending,_,run_endLoop η (by rw[μ];exact λh=>by cases h),?_⟩;rw[ι];simp only;have ο:eU (BQ w.heap.size::ds) n X F { a with defers:=BQ w.heap.size::a.defers }:=⟨Z.size,by simp only;rw[Z.defers],λi pv hi=>(Z.t i pv hi).mono A.env⟩;refine hT w.heap.size X H2 _ ο ((ε.weaken V).putObj η (λ_ _ _ h=>by cases h) K) ?_ ((World.putObj_heap_other W).trans σ) γ (a8E _) υ;refine⟨A.env,A.os.trans Ξ,A.tape.trans Φ,A.output.trans Λ,?_,λb hb hn=>?_,λo y ho=>?_,λb cs hb=>?_⟩
  ·have:=A.size;rw[World.putObj_size];omega
  ·have Y:b≠w.heap.size+1:=Om;rw[World.putObj_heap_other Y,A.block b Om (by rw[aS,aD Y];exact hn),θ b hb]
  ·have Y:o≠w.heap.size+1:=λe=>by rw[e,K]at ho;cases ho
   rcases A.new o y (V o y ho)with⟨z,R⟩|hge
   ·rw[aS,aD Y]at R;exact .inl ⟨z,R⟩
   ·exact .inr Om
  ·rcases A.newG b cs hb with h|⟨z,R⟩|hge
   ·exact .inl h
   ·by_cases Y:b=w.heap.size+1
    ·exact .inr (.inr Om)
    ·rw[aS,aD Y]at R;exact .inr (.inl ⟨z,R⟩)
   ·exact .inr (.inr Om)
end
open Go Go.RowKit
inductive uL where
 |seq (a:aC) (t:uL)
 |range (g:aQ) (n t:Nat) (asg bdy:Code) (pas pbd rest:aC)
def uL.wp (C : Ctx) : uL → cD → PF → PH → Prop
  | .seq a t, K, F, H => a.wp C (jW C (t.wp C) K) F H
  | .range g n t asg bdy pas pbd rest, K, F, H => ∃ name cs KH, g.ev F = some (.fn name cs) ∧
      ((∀ (l : Nat) (x : PV) (J : PH) (J' : PH → Prop), J l = none → pas.wp C (jW C (pbd.wp C) (JA J')) (F.set t x) J →
        OM C l [x] (J.set l (.loop F n t asg bdy)) (fun r H' => r = .bool true ∧ ∃ H2, J' H2 ∧ H2 l = none ∧ H' = H2.set l (.loop F n t asg bdy))) → Rb C name cs F H n t asg bdy KH) ∧
      ∀ H2, KH H2 → rest.wp C K F H2
namespace Tbl
variable (T:Tbl)
def tail(n:Nat):Code→Option uL
 | .seq (.rangeFunc g ps d e) rest=>match T.opd g,T.code n d,T.code n e,T.code n rest with
  |some u,some i,some l,some w=>match ps.toList with
   |[t]=>if t<n then some (.range u n t d e i l w)else none
   |_=>none
  |_,_,_,_=>none
 | .seq (.seq a (.block _ (.rangeFunc g ps d e))) rest=>match T.code n a,T.opd g,T.code n d,T.code n e,T.code n rest with
  |some p,some u,some i,some l,some w=>match ps.toList with
   |[t]=>if t<n then some (.seq p (.range u n t d e i l w))else none
   |_=>none
  |_,_,_,_,_=>none
 | .seq a b=>match T.code n a,tail n b with
  |some p,some x=>some (.seq p x)
  |_,_=>none
 |_=>none
end Tbl
section
variable {C:Ctx} {T:Tbl} {fu:Nat}
def GT(n:Nat)(E:Env)(H:PH)(w:World)(K:cD)(Q:Exit→Act→World→Prop):Prop:=
 ∀ds,(ds=[]∨∃D,ds=[BQ D])→∀e i l H' p d,eU ds n i l p→bW i H' d→Ext E H w i H' d→(∀D,ds=[BQ D]→d.heap[D]?=some (.deferred (some []))∧H' D=none∧w.heap.size≤D)→K e l H'→Q e.out p d
theorem GT.after{n:Nat}{E l:Env}{H H':PH}{w u:World}{K:cD}{Q:Exit→Act→World→Prop}(h:GT n E H w K Q)(p:Ext E H w l H' u):GT n l H' u K Q:=
 λds d e x y H2 a2 J A hW F i B=>h ds d e x y H2 a2 J A hW (p.trans F) (λD hD=>⟨(i D hD).1,(i D hD).2.1,a9F p.size (i D hD).2.2⟩) B
theorem GT.plain{n:Nat}{E:Env}{H:PH}{w:World}{K:cD}{Q:Exit→Act→World→Prop}(h:GT n E H w K Q):XP [] n E H w K Q:=
 λe d i H' l y p hW x u=>h [] (.inl rfl) e d i H' l y p hW x (λD hD=>by cases hD) u
theorem zi(A:C.P=T.P)(u:C.num=T.num){n t:Nat}{g:Operand}{pg:aQ}{ps:Array Tmp}{i p rest:Code}{O R pr:aC}{K:cD}{Q Q0:Exit→Act→World→Prop}{E:Env}{F:PF}{H:PH}{a:Act}{w:World}(hQ:∀a w,rest.wpIn (Fz none) fu T.P Q a w→Q0 .normal a w)
  (h1:T.opd g=some pg) (h2:T.code n i=some O) (h3:T.code n p=some R) (h4:T.code n rest=some pr) (h5:ps.toList=[t]) (ht:t<n)
  (β:(uL.range pg n t i p O R pr).wp C K F H) (hA:eU [] n E F a) (hW:bW E H w) (hN:E.num=T.num) (hT:GT n E H w K Q) :
  (Code.rangeFunc g ps i p).wpIn (Fz none) fu T.P Q0 a w:=by
 obtain⟨name,cs,KH,k1,k2,k3⟩:=β;have α:ps=#[t]:=by obtain⟨l⟩:=ps;simp only at h5;subst h5;rfl
 subst α;refine ajS (ds:=[]) A u h1 k1 (k2 λl x J J' hJ hw=>akJ A u h2 h3 ht hJ hw) hA hW hN λD E' H2 w' S Y M hD N V X=>?_;refine hQ _ w' ?_;refine uR (ro:=none) (fu:=fu) (ds:=[BQ D]) A u rest pr K Q E' F H2 _ w' h4 (k3 H2 X) S Y (M.env.num.trans hN) λe E3 F3 H3 a3 w3 U Z B W=>?_;refine hT [BQ D] (.inr ⟨D,rfl⟩) e E3 F3 H3 a3 w3 U Z (M.trans B) (λD' d=>?_) W;injection d with d _
 injection d with d _
 injection d with d
 subst d;have hlt:D<w'.heap.size:=(bbO.1 hD).1;refine⟨(B.block D hlt N).trans hD,?_,V⟩;cases hh:H3 D with
 |none=>rfl
 |some y=>
  rcases B.new D y hh with⟨z,hz⟩|hge
  ·rw[N]at hz;cases hz
  ·omega
theorem aBJ(p:C.P=T.P)(l:C.num=T.num){n:Nat}:∀(c:Code)(t:uL)(K:cD)(Q:Exit→Act→World→Prop)(E:Env)(F:PF)(H:PH)(a:Act)(w:World),
  T.tail n c=some t→t.wp C K F H→eU [] n E F a→bW E H w→E.num=T.num→GT n E H w K Q→c.wpIn (Fz none) fu T.P Q a w:=by
 intro c
 induction c with
 |seq x y γ α=>
  intro t K Q E F H a w d J hA hW W B;unfold Tbl.tail at d;split at d
  ·rename_i g ps u A rest e;cases e;split at d
   ·rename_i pg M N pr V e2 Y Z;split at d
    ·rename_i t0 e5;split at d
     ·rename_i e6;cases d;exact wpIn_seq (zi p l (λ_ _ h=>h) V e2 Y Z e5 e6 J hA hW W B)
     ·cases d
    ·cases d
   ·cases d
  ·rename_i a0 β g ps u A rest e;cases e;split at d
   ·rename_i X pg M N pr e0 V e2 Y Z;split at d
    ·rename_i t0 e5;split at d
     ·rename_i e6;cases d;have i:X.wp C (jW C ((uL.range pg n t0 u A M N pr).wp C) K) F H:=J;refine wpIn_seq (wpIn_seq (uR (ro:=none) (fu:=fu) (ds:=[]) p l a0 X (jW C ((uL.range pg n t0 u A M N pr).wp C) K) _ E F H a w e0 i hA hW W λe O R H' S U g1 g2 g3 g4=>?_));cases e with
      |normal=>exact wpIn_block (zi p l (λ_ _ h=>h) V e2 Y Z e5 e6 g4 g1 g2 (g3.env.num.trans W) (B.after g3))
      |exit id=>exact B.plain (.exit id) O R H' S U g1 g2 g3 g4
      |ret=>exact B.plain .ret O R H' S U g1 g2 g3 g4
     ·cases d
    ·cases d
   ·cases d
  ·rename_i a0 b0 _ _ e;cases e;split at d
   ·rename_i X tb V e2;cases d;have i:X.wp C (jW C (tb.wp C) K) F H:=J;refine wpIn_seq (uR (ro:=none) (fu:=fu) (ds:=[]) p l x X (jW C (tb.wp C) K) _ E F H a w V i hA hW W λe O R H' S U g1 g2 g3 g4=>?_);cases e with
    |normal=>exact α tb K Q O R H' S U e2 g4 g1 g2 (g3.env.num.trans W) (B.after g3)
    |exit id=>exact B.plain (.exit id) O R H' S U g1 g2 g3 g4
    |ret=>exact B.plain .ret O R H' S U g1 g2 g3 g4
   ·cases d
  ·cases d
 |_=>intro t K Q E F H a w d;simp[Tbl.tail]at d
end
structure GQ where
 nparams:Nat
 ntmps:Nat
 body:uL
 res:List eN
namespace Tbl
variable (T:Tbl)
def ayB(fn:Func):Option GQ:=
 match fn.body with
 |some c=>match T.tail fn.ntmps c,T.Fa fn.results.toList with
  |some b,some rs=>some ⟨fn.params.size,fn.ntmps,b,rs⟩
  |_,_=>none
 |none=>none
end Tbl
theorem axQ{C:Ctx}{T:Tbl}{H:PH}(J:C.P=T.P)(F:C.num=T.num){name:Nat}{args:List PV}{R:PV→PH→Prop}{fn:Func}{pf:GQ}(hf:C.P.funcs[C.num name]?=some fn)(γ:(fn.name=="runtime.NumGoroutine")=false)
  (d:T.ayB fn=some pf) (O:Z' args≤pf.ntmps) (h:pf.body.wp C (aY pf.res R) (PF.args args) H):aH C name args H R:=by
 unfold Tbl.ayB at d;split at d
 ·rename_i c hb;split at d
  ·rename_i b rs x A;cases d;refine⟨⟨fn,hf,by simp[hb],γ⟩,λE w vs hN hW U=>?_⟩;have ζ:vs.size=Z' args:=by simpa using U.len
   refine(callsIn_wide (n:=0)).1 (callsIn_of_wp_marks hf hb trivial ?_ rfl);rw[J];have hA:eU [] fn.ntmps E (PF.args args) { tmps:=vs++baF (fn.ntmps-vs.size) undef,defers:=[] }:=by
    refine⟨by simp only at O;simp;omega,rfl,λi pv hi=>?_⟩;have y:i<vs.size:=by
     rw[ζ];rcases a9A i args.length with h'|h'
     ·exact h'
     ·simp[PF.args,a9N h']at hi
    simp only[bcA];rw[Array.getElem?_append_left y,bbV y];exact U.at_ i pv _ hi (by simp[y])
   refine aBJ (fu:=0) J F c b (aY rs R) _ E (PF.args args) H _ w x h hA hW (hN.trans F) λds α e l F' H' W u B K p hm Z=>?_;have fin:∀X,bW l H' X→Ext E H w l H' X→aY rs R .ret F' H'→LeavesIn Fence.wide 0 T.P fn W.tmps (λe u=>∃v pv l H',e=.returned v∧bW l H' u∧bF l pv v∧Ext E H w l H' u∧R pv H') [] .returning X:=by
    rintro X M Y ⟨η,Q,F1,H1,H2,β,N,v0,ε,hR⟩;obtain⟨us,g1,g2⟩:=UC B M fn.results.toList rs η A Q;have δ:=zf g2;obtain⟨E2,k1,k2,k3⟩:=β.sound M;have S:=k3 (λ_=>if h:us.toArray.size=1 then us.toArray[0]else .tuple us.toArray) (λi pv hi=>by
     simp only[PF.set,upd]at hi;split at hi
     ·cases hi;exact δ
     ·cases hi) 0 v0 ε
    refine⟨_,?_,_,v0,E2,H2,rfl,k1.weaken N,S,(Y.trans k2).drop N,hR⟩;rw[zu,Array.mapM_eq_mapM_toList];simp[g1]
   have V:aY rs R .ret F' H'→bodyPostM Fence.wide 0 T.P fn (λe u=>∃v pv l H',e=.returned v∧bW l H' u∧bF l pv v∧Ext E H w l H' u∧R pv H') .ret W u:=by
    intro hr;show LeavesInM Fence.wide 0 T.P fn W.tmps _ W.defers .returning u;rw[B.defers];rcases α with rfl|⟨D,rfl⟩
    ·exact fin u K p hr
    ·obtain⟨m1,m2,m3⟩:=hm D rfl;refine⟨(λh=>by cases h),.inl ⟨D,_,rfl,run_takeDeferred m1,?_⟩⟩;refine fin _ (K.putObj m1 (λ_ _ _ h=>by cases h) m2) ⟨p.env,p.os,p.tape,p.output,?_,λb hb hn=>?_,p.new,p.newG⟩ hr
     ·rw[World.putObj_size];exact p.size
     ·rw[World.putObj_heap_other Om];exact p.block b hb hn
   cases e with
   |normal=>exact V Z
   |exit id=>exact Z.elim
   |ret=>exact V Z
  ·cases d
 ·cases d
end Go.PM
namespace Go.PM
open Go
def t8(C:Ctx)(k:Nat)(pf:GQ):Prop:=∀(args:List PV)(H:PH)(R:PV→PH→Prop),Z' args≤pf.ntmps→pf.body.wp C (aY pf.res R) (PF.args args) H→aH C k args H R
theorem t8.go{C:Ctx}{k:Nat}{pf:GQ}(r:t8 C k pf){args:List PV}{H:PH}{R:PV→PH→Prop}(h:pf.body.wp C (aY pf.res R) (PF.args args) H)(d:Nat.ble args.length pf.ntmps=true):aH C k args H R:=r args H R (Nat.le_of_ble_eq_true d) h
end Go.PM
