/-
  Texts of ours, joined. No condition.
-/
import Derived.Test.YtkknafmijabgaaaGreatDoorFD1
import Derived.Test.YtkknafmijabgaaaGreatDoorFD2
import Derived.Test.YtkknafmijabgaaaGreatDoorFD3
import Derived.RangeFuncRecord
set_option linter.unusedSimpArgs false
set_option linter.unusedVariables false
open Nat renaming reduceEqDiff→γ,reduceAdd→δ,reduceSub→ε,reduceMul→ζ,reduceLT→η,reduceLeDiff→θ,reduceBEq→τ
open Int renaming reduceLT→ι,reduceLE→κ,reduceEq→μ,reduceToNat→ν,reduceAdd→ξ,reduceNeg→ο,reduceBEq→ρ,reduceBNe→σ
open List renaming reduceReplicate→υ
open List renaming length_map→bfY,replicate→bgA,length_append→bgB,getElem_mem→bgD,getD_eq_getElem?_getD→bgF,getElem?_eq_getElem→bgH,length_singleton→bgI,mem_cons→bgN,length_take→bgP,take_of_length_le→bgR,append_assoc→bgX,take_length→bhA,append_nil→bhH,map_cons→bhJ,drop_zero→bhP,getElem?_eq_none→bhQ,length_drop→bhR,length_cons→bhT,length_set→bhU,mem_of_getElem?→bhX,getElem?_append_left→biA,drop_eq_getElem_cons→biL,length_nil→biM,map_nil→biS,take_append_drop→biZ,nil_append→bjH,length_replicate→bjP,set_append_right→bjU,drop_of_length_le→bkA,getElem?_replicate→bkC
open Nat renaming zero_le→bgE,le_refl→bgG,zero_add→bgL,mul_add→bgQ,lt_or_ge→bgV,mul_assoc→bhB,mul_comm→bhE,mul_le_mul_right→bhF,add_zero→bhL,add_mul→bhN,mod_eq_of_lt→bhS,mod_lt→bhZ,eq_zero_or_pos→biC,pow_succ→biD,le_trans→biJ,min_eq_left→biP,add_assoc→biV,mul_le_mul_left→biW,pos_of_ne_zero→biX,mul_one→bjB,pow_pos→bjC,div_eq_of_lt→bjI,div_le_self→bjJ,div_lt_iff_lt_mul→bjK,mul_le_mul→bjL,div_add_mod→bjV
open Bool renaming false_eq_true→bjE
open Option renaming map_eq_some_iff→bgM,some→biQ
open Array renaming getElem?_eq_some_iff→bkE
open List renaming length→Z'
set_option maxRecDepth 100000
set_option maxHeartbeats 800000
noncomputable section
namespace Go.PM
open Go Go.Na
def zO(a b:List Nat)(o i:Nat):PF:=((((PF.nil.set 0 (aN a)).set 1 (aN b)).set 5 (.osl o 1 0 (Z' a+Z' b))).set 6 (.int .i64 i))
def utG(a b:List Nat)(o i c j:Nat):PF:=((((((PF.nil.set 0 (aN a)).set 1 (aN b)).set 5 (.osl o 1 0 (Z' a+Z' b))).set 6 (.int .i64 i)).set 7 (.int .u64 c)).set 8 (.int .i64 j))
theorem aKM{C:Ctx}(a b:List Nat)(ha:Lim a)(hb:Lim b)(h1:Z' a≤35184372087808)(h2:Z' b≤35184372087808)(L:List Nat)(i:Nat)(hi:i<Z' a)(O:QJ a b L i)(q:Nat)(K:cQ)(F:PF)(H:PH)(N:(zO a b q i).le F)(hH:H q=some (.rows 1 (aP L)))
  (hK:∀L' F' H',QJ a b L' (i+1)→(zO a b q i).le F'→H' q=some (.rows 1 (aP L'))→K .normal F' H') :
  aC.wp C (.block 1 (.seq (.region ia) (.seq (.seq (.region ib) (.block 2 (.loop XJ))) (.region XK)))) K F H:=by
 have f0:=N 0 _ (by unfold zO;simp only[go_sem];rfl);have f1:=N 1 _ (by unfold zO;simp only[go_sem];rfl);have f5:=N 5 _ (by unfold zO;simp only[go_sem];rfl);have f6:=N 6 _ (by unfold zO;simp only[go_sem];rfl);have hx:=ha _ (bgD hi);have β:=dP a hi;generalize δ:a[i]=x at *
 have X:(aP a)[i]?=some [.int .u32 ((x:Nat):Int)]:=by rw[cU a hi,δ]
 simp only[go_sem,ia,ib];refine wp_loop (α:=List Nat × Nat × Nat) (λt=>utG a b q i t.2.1 t.2.2) (λt=>PH.nil.set q (.rows 1 (aP t.1)))
  (λt=>t.2.2≤Z' b∧t.1.length=Z' a+Z' b∧Lim t.1∧t.2.1<4294967296∧val t.1+4294967296^(i+t.2.2)*t.2.1=val (a.take i)*val b+4294967296^i*(x*val (b.take t.2.2))∧∀j y,i+Z' b≤j→t.1[j]?=some y→y=0) (λt=>Z' b-t.2.2) (L,0,0)
  ⟨by simp,O.len,O.lim,by simp,by simp[val,O.v],O.z⟩ ?_ (e_ a_ hH) ?_
 ·unfold utG;exact Lq
 rintro⟨M,c,j⟩ ⟨hj,W,l,Z,A,S⟩;simp only at hj W l Z A S;simp only[go_sem,XJ,Sl,utG];by_cases U:j<Z' b
 ·have B:(j:Int)<(Z' b:Nat):=Om;have R:=hb _ (bgD U);have γ:=dP b U;generalize ε:b[j]=y at *
  have Y:(aP b)[j]?=some [.int .u32 ((y:Nat):Int)]:=by rw[cU b U,ε]
  have e:i+j<Z' M:=Om;have J:=l _ (bgD e);have w:=RO e;generalize ζ:M[i+j]=z at *
  have I:(aP M)[i+j]?=some [.int .u32 ((z:Nat):Int)]:=by rw[cU M e,ζ]
  have ex:IntKind.u64.wrap ((x:Nat):Int)=((x:Nat):Int):=bW Om;have ey:IntKind.u64.wrap ((y:Nat):Int)=((y:Nat):Int):=bW Om;have ez:IntKind.u64.wrap ((z:Nat):Int)=((z:Nat):Int):=bW Om;have em:=axJ hx R;have θ:x*y≤4294967295*4294967295:=bjL Om Om;have e1:IntKind.u64.wrap (((x*y:Nat):Int)+(z:Int))=((x*y+z:Nat):Int):=jV Om;have e2:IntKind.u64.wrap (((x*y+z:Nat):Int)+(c:Int))=((x*y+z+c:Nat):Int):=jV Om;have E:IntKind.i64.wrap ((i:Int)+(j:Int))=((i+j:Nat):Int):=lT Om;have hlt:((i+j:Nat):Int)<((Z' a+Z' b:Nat):Int):=Om;generalize ht:x*y+z+c=t at *
  have η:t<4294967296*4294967296:=Om;have u:(aP M).set (i+j) [.int .u32 ((t%4294967296:Nat):Int)]=aP (M.set (i+j) (t%4294967296)):=kM M (i+j) _;simp only[go_sem,B];refine bA .nil cK a_ ?_;simp only[go_sem,Sm,X,Y,ex,ey,em,E,hlt,I,ez,e1,e2,Sn,dY,u,So,GX,D7,wZz j];refine aG (M.set (i+j) (t%4294967296),t/4294967296,j+1) ⟨by simp only;omega,by simp only[bhU];exact W,l.set _ (bhZ _ aV),by simp only;omega,?_,Fa S _ _ Om⟩ (by simp only;omega) ?_ (e_ a_ Sq)
  ·simp only;have V:=w (t%4294967296);have h4:4294967296^(i+(j+1))*(t/4294967296)+4294967296^(i+j)*(t%4294967296)=4294967296^(i+j)*t:=by rw[←biV,biD,bhB,←bgQ,bjV]
   have h5:4294967296^(i+j)*t=4294967296^(i+j)*(x*y)+4294967296^(i+j)*z+4294967296^(i+j)*c:=by rw[←ht,bgQ,bgQ]
   have h6:4294967296^i*(x*val (b.take (j+1)))=4294967296^i*(x*val (b.take j))+4294967296^(i+j)*(x*y):=by rw[γ,bgQ,bgQ,Nat.pow_add];congr 1;rw[Nat.mul_left_comm x,bhB]
   omega
  ·exact Lq
 ·have he:j=Z' b:=Om;have B:¬(j:Int)<(Z' b:Nat):=Om;subst he;have e:i+Z' b<Z' M:=Om;have J:M[i+Z' b]=0:=S _ _ (bgG _) (bgH e);have w:=RO e;have I:(aP M)[i+Z' b]?=some [.int .u32 ((0:Nat):Int)]:=by rw[cU M e,J]
  have E:IntKind.i64.wrap ((i:Int)+(Z' b:Int))=((i+Z' b:Nat):Int):=lT Om;have hlt:((i+Z' b:Nat):Int)<((Z' a+Z' b:Nat):Int):=Om;have u:(aP M).set (i+Z' b) [.int .u32 ((c%4294967296:Nat):Int)]=aP (M.set (i+Z' b) c):=by rw[bhS Z];exact kM M _ _
  simp only[go_sem,B,XK,E,dY,hlt,I,u];refine hK (M.set (i+Z' b) c) _ _ ⟨by rw[bhU];exact W,l.set _ Z,?_,λj y hj R=>?_⟩ (by unfold zO;exact Lq) Sq
  ·have V:=w c;rw[J,Nat.mul_zero,bhL]at V;rw[V,A,bhA,β,bhN,bhB]
  ·rw[List.getElem?_set_ne Om]at R;exact S j y Om R
theorem aQX{C:Ctx}(L:wX C)(a b:List Nat)(O:Lim a)(hb:Lim b)(V:Z' a≤8388608)(W:Z' b≤8388608) :
  PL.wp C (aW anQ.res (cT (aN (aM (val a*val b))))) (PF.args [aN a,aN b]) .nil:=by
 have w:IntKind.i64.wrap ((Z' a:Int)+(Z' b:Int))=((Z' a+Z' b:Nat):Int):=lT Om;have E:((Z' a+Z' b:Nat):Int)*((4:Nat):Int)≤140737488355328:=Om;have F:((Z' a+Z' b:Nat):Int)≤9223372036854775807:=Om;have R:bgA (Z' a+Z' b) [PV.int .u32 0]=aP (bgA (Z' a+Z' b) 0):=by simp[aP]
 simp only[go_sem,PL,Sh,Si,anQ,bfY,w,E,F,R];refine aQ λo X=>?_;simp only[go_sem,Sj];refine wp_loop (α:=List Nat × Nat) (λt=>zO a b o t.2) (λt=>PH.nil.set o (.rows 1 (aP t.1))) (λt=>t.2≤Z' a∧QJ a b t.1 t.2) (λt=>Z' a-t.2) (bgA (Z' a+Z' b) 0,0)
  ⟨by simp,by simp,EH _,by simp[val,AF],λj x _ J=>by rw[bkC]at J;split at J<;>simp_all⟩ ?_ (e_ a_ Sq) ?_
 ·unfold zO;exact Lq
 rintro⟨M,i⟩ ⟨hi,l⟩;simp only at hi l;simp only[go_sem,D6,Sk,zO];by_cases K:i<Z' a
 ·have u:(i:Int)<(Z' a:Nat):=Om;have y:=aKM (C:=C) a b O hb Om Om M i K l o;simp only[go_sem]at y;simp only[go_sem,u];refine y _ _ _ (by unfold zO;exact Lq) Sq ?_;intro L' S H' B e A;have N:=e 6 _ (by unfold zO;simp only[go_sem];rfl);have g0:=e 0 _ (by unfold zO;simp only[go_sem];rfl);have g1:=e 1 _ (by unfold zO;simp only[go_sem];rfl);have U:=e 5 _ (by unfold zO;simp only[go_sem];rfl);simp only[go_sem,D8,N,wZz i];refine aG (L',i+1) ⟨by simp only;omega,B⟩ (by simp only;omega) ?_ (e_ a_ A);exact Lq
 ·have he:i=Z' a:=Om;subst he;have u:¬(Z' a:Int)<(Z' a:Nat):=Om;have hV:val M=val a*val b:=by rw[l.v,bhA]
  simp only[go_sem,D9];have I:=L.trim _ l.lim (by rw[l.len];omega);rw[hV]at I;refine xT (o:=o) (s:=1) (k:=Z' a+Z' b) (rs:=aP M) (v:=aN (aM (val a*val b))) ?_ rfl Sq (by rw[dK,l.len];exact bgG _) ?_
  ·rw[bgR (by rw[dK,l.len];exact bgG _)];exact I
  ·simp only[go_sem];exact bB (.inr rfl) .nil rfl a_ ⟨.refl _,rfl⟩
structure Vj(C:Ctx):Prop extends Vh C where
 minus:∀a b,Lim a→Lim b→val b≤val a→Z' b≤Z' a→Z' a≤35184372087808→aI C 42 [aN a,aN b] .nil (aK (aN (aM (val a-val b))))
 times:∀a b,Lim a→Lim b→Z' a≤8388608→Z' b≤8388608→aI C 44 [aN a,aN b] .nil (aK (aN (aM (val a*val b))))
theorem a3W{C:Ctx}(L:Vj C)(a b:List Nat)(u:Lim a)(hb:Lim b)(y:Z' a≤35184372087808)(A:Z' b≤35184372087808) :
  gv.wp C (aW aXY.res (cT (opV (gJ (val a) (val b)) (val a*val b)))) (PF.args [aN a,aN b]) .nil:=by
 unfold opV;simp only[go_sem,gv,aDG,aDH,aXY];refine aB (L.large a u y) rfl ?_;by_cases j:nl (val a)>512
 ·simp only[go_sem,j,Ja];rw[aL (by simp[gJ,j])];exact jB rfl
 simp only[go_sem,j];refine aB (L.large b hb A) rfl ?_;by_cases l:nl (val b)>512
 ·simp only[go_sem,l,Ja];rw[aL (by simp[gJ,l])];exact jB rfl
 rw[aE (by simp[gJ,j,l])];simp only[go_sem,l,aDI];refine aB (L.trim a u y) rfl ?_;simp only[go_sem];refine aB (L.trim b hb A) rfl ?_;simp only[go_sem];have x:=L.times (aM (val a)) (aM (val b)) (bC _) (bC _) (by rw[bJ];omega) (by rw[bJ];omega);rw[aZ,aZ]at x;refine aB x rfl ?_;have B:=rY (a:=val a) (b:=val b) (m:=512) (n:=512) Om Om;have w:=L.large (aM (val a*val b)) (bC _) (by rw[bJ];omega);rw[aZ]at w;simp only[go_sem,aDJ];refine aB w rfl ?_;unfold szV szL szE;by_cases e:nl (val a*val b)>512
 ·rw[aL e,aL e];simp only[go_sem,e,aDK];exact jB rfl
 ·rw[aE e,aE e];simp only[go_sem,e,aDL];exact bB (.inr rfl) .nil rfl a_ ⟨.refl _,rfl⟩
def FO(a:List Nat)(i:Nat):Nat:=a.getD i 0
theorem V5{a:List Nat}(h:Lim a)(i:Nat):FO a i<4294967296:=by
 unfold FO;rw[bgF];rcases bgV i a.length with h1|h1
 ·rw[bgH h1];exact h _ (bgD h1)
 ·rw[bhQ h1];decide
theorem qo{a:List Nat}{i:Nat}(h:i<Z' a):FO a i=a[i]:=by simp[FO,bgF,h]
theorem ZW{a:List Nat}{i:Nat}(h:¬i<Z' a):FO a i=0:=by simp[FO,bgF,h]
theorem ic(a:List Nat)(i:Nat):val (a.take (i+1))=val (a.take i)+4294967296^i*FO a i:=by
 rcases bgV i a.length with h|h
 ·rw[qo h];exact dP a h
 ·rw[ZW Om,bgR Om,bgR Om];simp
def BS(a b:List Nat)(v:PV)(c i:Nat):PF:=(((((PF.nil.set 0 (aN a)).set 1 (aN b)).set 5 (v)).set 6 (.int .u64 c)).set 7 (.int .i64 i))
theorem aYD{C:Ctx}(L:wX C)(a b:List Nat)(ha:Lim a)(hb:Lim b)(h1:Z' a≤8388608)(h2:Z' b≤8388608) :
  XG.wp C (aW aKL.res (cT (aN (aM (val a+val b))))) (PF.args [aN a,aN b]) .nil:=by
 simp only[go_sem,XG,anL,anM,anN,anO,aKL];refine wp_loop (α:=List Nat × Nat × PV × PH) (λs=>BS a b s.2.2.1 s.2.1 s.1.length) (λs=>s.2.2.2)
  (λs=>s.1.length≤max a.length b.length+1∧(s.1.length≤max a.length b.length∨s.2.1=0)∧Lim s.1∧s.2.1≤1∧val s.1+4294967296^s.1.length*s.2.1=val (a.take s.1.length)+val (b.take s.1.length)∧bH s.2.2.2 1 s.2.2.1 (aP s.1)) (λs=>max a.length b.length+1-s.1.length) ([],0,.aH,.nil)
  ⟨by simp,by simp,by simp[Lim],by simp,by simp[val],.nil⟩ ?_ a_ ?_
 ·unfold BS;exact Lq
 rintro⟨P,c,v,H0⟩ ⟨hP,η,u,hc,J,hO⟩;simp only at hP η u hc J hO ⊢;have ν:=V5 ha P.length;have ξ:=V5 hb P.length;have κ:=ic a P.length;have μ:=ic b P.length;generalize hx:FO a P.length=x at *
 generalize hy:FO b P.length=y at *
 have ex:IntKind.u64.wrap ((x:Nat):Int)=((x:Nat):Int):=bW Om;have ey:IntKind.u64.wrap ((y:Nat):Int)=((y:Nat):Int):=bW Om;have R:IntKind.u64.wrap ((c:Int)+(x:Int))=((c+x:Nat):Int):=jV Om;have S:IntKind.u64.wrap (((c+x:Nat):Int)+(y:Int))=((c+x+y:Nat):Int):=jV Om;have ι:Z' P<Z' a→(aP a)[Z' P]?=some [.int .u32 ((x:Nat):Int)]:=λh=>by rw[cU a h,←hx,qo h]
 have γ:Z' P<Z' b→(aP b)[Z' P]?=some [.int .u32 ((y:Nat):Int)]:=λh=>by rw[cU b h,←hy,qo h]
 have δ:¬Z' P<Z' a→x=0:=λh=>by rw[←hx,ZW h]
 have U:¬Z' P<Z' b→y=0:=λh=>by rw[←hy,ZW h]
 have body:(Z' P≤max a.length b.length)→∀K:cQ,(∀l A v' V H2,Z' l=Z' P+1→Lim l→A≤1→(Z' P+1≤max a.length b.length∨A=0)→val l+4294967296^l.length*A=val (a.take (Z' P+1))+val (b.take (Z' P+1))→(BS a b v' A l.length).le V→bH H2 1 v' (aP l)→K .normal V H2) →
   ∀F:PF,(BS a b v c P.length).le F→aC.wp C (.seq (.block 1 (.seq (.region xp) (.seq (.seq (.region xq) (.cond (.tmp 29) (.region xr) .skip)) (.seq (.seq (.region XH) (.cond (.tmp 40) (.region XI) .skip)) (.seq (.region MN) (.region MO)))))) (.region MP)) K F H0:=by
  intro ο K hK F Z;have g0:F 0=some (aN a):=Z 0 _ (by unfold BS;simp only[go_sem]);have g1:F 1=some (aN b):=Z 1 _ (by unfold BS;simp only[go_sem]);have g5:F 5=some v:=Z 5 _ (by unfold BS;simp only[go_sem]);have g6:F 6=some (.int .u64 c):=Z 6 _ (by unfold BS;simp only[go_sem]);have B:F 7=some (.int .i64 P.length):=Z 7 _ (by unfold BS;simp only[go_sem]);have fin:∀M:PF,M 0=some (aN a)→M 1=some (aN b)→M 5=some v→M 7=some (.int .i64 P.length)→M 8=some (.int .u64 (c+x+y:Nat)) →
    aC.wp C (.seq (.region MN) (.region MO)) (fN 1 (kJ C (aC.wp C (.region MP)) K)) M H0:=by
   intro M q0 q1 q5 q7 q8;have θ:(1:Nat)*1≤16777216:=by decide
   generalize ht:c+x+y=t at *
   have ρ:t<2*4294967296:=Om;simp only[go_sem,MN,q5,q8,θ,dY];refine hY (src:=[[.int .u32 ((t%4294967296:Nat):Int)]]) hO rfl (xJ Om) λv' H' β _=>?_;rw[xK]at β;simp only[go_sem,MO,q8,GX,MP,q7,eT (Om:Z' P<9223372036854775807)];refine hK (P++[t%4294967296]) (t/4294967296) v' _ H' aY (u.app λy hy=>by simp at hy;subst hy;omega) Om ?_ ?_ ?_ β
   ·rcases bgV P.length (max a.length b.length)with h|h
    ·exact .inl h
    ·right;have h1:=δ Om;have h2:=U Om;omega
   ·rw[oG,bgB,bgI,κ,μ,biD,bhB,biV,←bgQ];rw[show t%4294967296+4294967296*(t/4294967296)=t from Nat.mod_add_div t 4294967296];have h3:4294967296^P.length*t=4294967296^P.length*c+4294967296^P.length*x+4294967296^P.length*y:=by rw[←ht,bgQ,bgQ]
    omega
   ·unfold BS;rw[bgB,bgI];exact Lq
  simp only[aC.wp,go_sem]at fin;simp only[go_sem,xp,g6,xq,B,g0];by_cases c1:Z' P<Z' a
  ·have j:(Z' P:Int)<(Z' a:Nat):=Om;simp only[go_sem,j,xr,g0,B,ι c1,ex,R,XH,g1];by_cases N:Z' P<Z' b
   ·have e:(Z' P:Int)<(Z' b:Nat):=Om;simp only[go_sem,e,XI,g1,B,γ N,ey,S];exact fin _ (by simp only[go_sem,g0]) (by simp only[go_sem,g1]) (by simp only[go_sem,g5]) (by simp only[go_sem,B]) rfl
   ·have e:¬(Z' P:Int)<(Z' b:Nat):=Om;have h0:=U N;simp only[go_sem,e];exact fin _ (by simp only[go_sem,g0]) (by simp only[go_sem,g1]) (by simp only[go_sem,g5]) (by simp only[go_sem,B]) (by simp only[go_sem,h0])
  ·have j:¬(Z' P:Int)<(Z' a:Nat):=Om;have h0:=δ c1;simp only[go_sem,j,XH,g1,B];by_cases N:Z' P<Z' b
   ·have e:(Z' P:Int)<(Z' b:Nat):=Om;have ε:IntKind.u64.wrap ((c:Int)+(y:Int))=((c+x+y:Nat):Int):=by rw[h0];exact jV Om
    simp only[go_sem,e,XI,g1,B,γ N,ey,ε];exact fin _ (by simp only[go_sem,g0]) (by simp only[go_sem,g1]) (by simp only[go_sem,g5]) (by simp only[go_sem,B]) rfl
   ·have e:¬(Z' P:Int)<(Z' b:Nat):=Om;have ζ:=U N;simp only[go_sem,e];exact fin _ (by simp only[go_sem,g0]) (by simp only[go_sem,g1]) (by simp only[go_sem,g5]) (by simp only[go_sem,B]) (by simp only[go_sem,h0,ζ])
 simp only[aC.wp,go_sem]at body;have w:¬Z' P<Z' a→¬Z' P<Z' b→c=0→∀F:PF,F 5=some v→aC.wp C (.seq (.region gx) .ret) (aW [.tmp 4] (cT (aN (aM (val a+val b))))) F H0:=by
  intro n1 n2 n3 F f5;have hV:val P=val a+val b:=by rw[n3,bgR Om,bgR Om]at J;omega
  have hs:=L.trim _ u Om;rw[hV]at hs;simp only[go_sem,gx,f5];refine BY hs hO rfl λF1 H1 _=>?_;simp only[go_sem];exact bB (.inr rfl) .nil rfl a_ ⟨.refl _,rfl⟩
 simp only[aC.wp,go_sem]at w;simp only[go_sem,Sg,anP,BS];by_cases c1:Z' P<Z' a
 ·have j:(Z' P:Int)<(Z' a:Nat):=Om;simp only[go_sem,j];refine body Om _ ?_ _ (by unfold BS;exact Lq);intro l A v' V H2 R S W E I X Y;rw[←R]at I E;exact aG (α:=List Nat × Nat × PV × PH) (l,A,v',H2) ⟨by simp only;omega,E,S,W,I,Y⟩ (by simp only;omega) X b_
 ·have j:¬(Z' P:Int)<(Z' a:Nat):=Om;simp only[go_sem,j];by_cases N:Z' P<Z' b
  ·have e:(Z' P:Int)<(Z' b:Nat):=Om;simp only[go_sem,e];refine body Om _ ?_ _ (by unfold BS;exact Lq);intro l A v' V H2 R S W E I X Y;rw[←R]at I E;exact aG (α:=List Nat × Nat × PV × PH) (l,A,v',H2) ⟨by simp only;omega,E,S,W,I,Y⟩ (by simp only;omega) X b_
  ·have e:¬(Z' P:Int)<(Z' b:Nat):=Om;simp only[go_sem,e];by_cases c3:c=0
   ·have O:¬(c:Int)>0:=Om;simp only[go_sem,O];exact w c1 N c3 _ rfl
   ·have O:(c:Int)>0:=Om;simp only[go_sem,O];refine body Om _ ?_ _ (by unfold BS;exact Lq);intro l A v' V H2 R S W E I X Y;rw[←R]at I E;exact aG (α:=List Nat × Nat × PV × PH) (l,A,v',H2) ⟨by simp only;omega,E,S,W,I,Y⟩ (by simp only;omega) X b_
structure yk(C:Ctx):Prop extends Vj C where
 plus:∀a b,Lim a→Lim b→Z' a≤8388608→Z' b≤8388608→aI C 43 [aN a,aN b] .nil (aK (aN (aM (val a+val b))))
theorem a3S{C:Ctx}(L:yk C)(a b:List Nat)(u:Lim a)(hb:Lim b)(y:Z' a≤35184372087808)(A:Z' b≤35184372087808) :
  gl.wp C (aW aXQ.res (cT (opV (gJ (val a) (val b)) (val a+val b)))) (PF.args [aN a,aN b]) .nil:=by
 unfold opV;simp only[go_sem,gl,aCC,aCD,aXQ];refine aB (L.large a u y) rfl ?_;by_cases j:nl (val a)>512
 ·simp only[go_sem,j,I6];rw[aL (by simp[gJ,j])];exact jB rfl
 simp only[go_sem,j];refine aB (L.large b hb A) rfl ?_;by_cases l:nl (val b)>512
 ·simp only[go_sem,l,I6];rw[aL (by simp[gJ,l])];exact jB rfl
 rw[aE (by simp[gJ,j,l])];simp only[go_sem,l,aCE];refine aB (L.trim a u y) rfl ?_;simp only[go_sem];refine aB (L.trim b hb A) rfl ?_;simp only[go_sem];have x:=L.plus (aM (val a)) (aM (val b)) (bC _) (bC _) (by rw[bJ];omega) (by rw[bJ];omega);rw[aZ,aZ]at x;refine aB x rfl ?_;have B:=aeY (a:=val a) (b:=val b) (m:=512) Om Om;have w:=L.large (aM (val a+val b)) (bC _) (by rw[bJ];omega);rw[aZ]at w;simp only[go_sem,aCF];refine aB w rfl ?_;unfold szV szL szE;by_cases e:nl (val a+val b)>512
 ·rw[aL e,aL e];simp only[go_sem,e,aCG];exact jB rfl
 ·rw[aE e,aE e];simp only[go_sem,e,aCH];exact bB (.inr rfl) .nil rfl a_ ⟨.refl _,rfl⟩
theorem a3Z{C:Ctx}(L:yk C)(a b:List Nat)(u:Lim a)(hb:Lim b)(w:Z' a≤35184372087808)(x:Z' b≤35184372087808) :
  gz.wp C (aW aYF.res (cT (zN (val a) (val b)))) (PF.args [aN a,aN b]) .nil:=by
 unfold zN;simp only[go_sem,gz,aDM,aDN,aYF];refine aB (L.large a u w) rfl ?_;by_cases e:nl (val a)>512
 ·simp only[go_sem,e,Jb];rw[aL (by simp[gJ,e])];exact jB rfl
 simp only[go_sem,e];refine aB (L.large b hb x) rfl ?_;by_cases j:nl (val b)>512
 ·simp only[go_sem,j,Jb];rw[aL (by simp[gJ,j])];exact jB rfl
 rw[aE (by simp[gJ,e,j])];simp only[go_sem,j,aDO];refine aB (L.cmp a b u hb w x) rfl ?_;by_cases l:val a<val b
 ·have:fJ (val a) (val b)=-1:=by simp[fJ,l]
  rw[aL l];simp only[go_sem,this,show((-1:Int)<0) by decide,aDP];exact jB rfl
 ·have:¬fJ (val a) (val b)<0:=by unfold fJ;rw[aE l];split<;>decide
  rw[aE l];have B:=kW (Nat.sub_le (val a) (val b));have A:=kW (Om:val b≤val a);simp only[go_sem,this,aDQ];refine aB (L.trim a u w) rfl ?_;simp only[go_sem];refine aB (L.trim b hb x) rfl ?_;simp only[go_sem];have y:=L.minus (aM (val a)) (aM (val b)) (bC _) (bC _) (by rw[aZ,aZ];omega) (by rw[bJ,bJ];exact A) (by rw[bJ];omega);rw[aZ,aZ]at y;refine aB y rfl ?_;rw[JV Om];simp only[go_sem];exact bB (.inr rfl) .nil rfl a_ ⟨.refl _,rfl⟩
def amH(k:Nat)(v:Nat):PF:=((PF.nil.set 3 (.int .i64 k)).set 4 (.int .u32 v))
theorem aXR{C:Ctx}(L:wX C)(xs:List Nat)(K:Lim xs)(U:Z' xs≤35184372087808) :
  WX.wp C (aW aKD.res (aK (.int .i64 (dZ (val xs):Nat)))) (PF.args [aN xs]) .nil:=by
 simp only[go_sem,WX,amJ,amK,aKD];refine aB (L.trim xs K U) rfl ?_;have V:=kL K;simp only[go_sem,amL,bfY,bJ,MM];by_cases y:nl (val xs)=0
 ·simp only[go_sem,bX y,amM];refine aU (.inr rfl) rfl ?_;have:val xs=0:=mV.1 y;simp[cF,this,oN]
 obtain⟨n,R⟩:∃n,nl (val xs)=n+1:=⟨nl (val xs)-1,by omega⟩;obtain⟨t,x,B⟩:=alA (xs:=aM (val xs)) (bC _) (by rw[aZ];exact R);have u:t<4294967296:=bC _ t (bhX x);have S:val xs=val ((aM (val xs)).take n)+4294967296^n*t:=by
  have:=aZ (val xs);have e:n<(aM (val xs)).length:=by rw[bJ];omega
  have O:(aM (val xs))[n]=t:=by rw[bgH e]at x;exact biQ.inj x
  conv=>lhs;rw[←this,←bgR (l:=aM (val xs)) (i:=n+1) (by rw[bJ];omega)]
  rw[dP _ e,O]
 have hb:dZ (val xs)=32*n+dZ t:=by have I:=jU ((bC (val xs)).take n);rw[bgP,bJ,biP Om]at I;have w:=Vx (lo:=val ((aM (val xs)).take n)) (k:=32*n) (hi:=t) (by rw[Nat.pow_mul];exact I) B;rw[←w,Nat.pow_mul];exact congrArg dZ S
 have j:(aP (aM (val xs)))[n]?=some [.int .u32 (t:Nat)]:=by simp[aP,x]
 have M:IntKind.i64.wrap (((nl (val xs):Nat):Int)-1)=(n:Int):=by rw[wrap_i64 Om Om];omega
 have N:IntKind.i64.wrap (32*(n:Int))=((32*n:Nat):Int):=by rw[wrap_i64 Om Om];omega
 simp only[go_sem,bV y,amN,amO,bfY,bJ,M,N,j];refine wp_loop (α:=Nat × Nat) (λa=>amH a.1 a.2) (λ_=>.nil) (λa=>a.1+dZ a.2=32*n+dZ t∧a.2<4294967296) (λa=>a.2) (32*n,t) ⟨rfl,u⟩ ?_ a_ ?_
 ·unfold amH;exact Lq
 rintro⟨k,v⟩ ⟨w,hlt⟩;simp only at w hlt;have J:dZ t≤32:=(sE t 32).2 u;simp only[go_sem,amI,amP,amH];by_cases F:(v:Int)>0
 ·have E:v≠0:=Om;have A:IntKind.u32.wrap (Int.tdiv (v:Int) 2)=((v/2:Nat):Int):=by rw[show Int.tdiv (v:Int) 2=((v/2:Nat):Int)from Int.ofNat_tdiv v 2,dY,bhS Om]
  simp only[go_sem,F,amQ,amR,A,wZz k];refine aG (k+1,v/2) ⟨?_,?_⟩ (Nat.div_lt_self Om aV) ?_ a_
  ·have:=vY E;simp only;omega
  ·simp only;omega
  ·exact Lq
 ·have:v=0:=Om;subst this;simp only[go_sem,F,R2];refine aU (.inr rfl) rfl ?_;rw[oN]at w;simp only[cF,PV.int.injEq,true_and];omega
theorem Oo(n:Nat):4294967296^(n/32)*2^(n%32)=2^n:=by
 rw[show(4294967296:Nat)=2^32 by decide,←Nat.pow_mul,←Nat.pow_add];congr 1;omega
theorem aQM(n:Nat):IntKind.i64.wrap (Int.tdiv (n:Int) 32)=IntKind.i64.wrap ((n/32:Nat):Int):=by
 rw[show Int.tdiv (n:Int) 32=((n/32:Nat):Int)from Int.ofNat_tdiv n 32]
theorem aQP(n:Nat):Int.tmod (n:Int) 32=((n%32:Nat):Int):=Int.ofNat_tmod n 32
def aYH(a:List Nat)(n:Nat)(v:PV)(c i:Nat):PF:=(((((PF.nil.set 0 (aN a)).set 1 (.int .i64 n)).set 5 (v)).set 6 (.int .u64 c)).set 7 (.int .i64 i))
theorem a6M{C:Ctx}(L:wX C)(a:List Nat)(n:Nat)(ha:Lim a)(h1:Z' a≤8388608)(hn:n≤8388608)(h0:Z' a=0→val a=0) :
  xu.wp C (aW uup.res (tH 1 (aP (aM (val a*2^n))))) (PF.args [aN a,.int .i64 n]) .nil:=by
 simp only[go_sem,xu,aQY,aQZ,uup,bfY,MM];by_cases F:Z' a=0
 ·simp only[go_sem,bX F,aRA];rw[h0 F,Nat.zero_mul,kO];exact RJ (.inr rfl) rfl
 have ez:IntKind.i64.wrap (Int.tdiv (n:Int) 32)=((n/32:Nat):Int):=by rw[aQM,xv Om]
 have em:=aQP n;have eu:IntKind.u64.wrap ((n%32:Nat):Int)=((n%32:Nat):Int):=bW Om;have W:=Oo n;have V:n%32<32:=bhZ _ aV;have hz:n/32≤8388608:=Om;generalize ζ:n/32=z at *
 generalize δ:n%32=s at *
 have S:((z:Nat):Int)*((4:Nat):Int)≤140737488355328:=Om;have U:((z:Nat):Int)≤9223372036854775807:=Om;have Y:bgA z [PV.int .u32 0]=aP (bgA z 0):=by simp[aP]
 have M:2^s≤2147483648:=Nat.pow_le_pow_right (show 0<2 by decide) (Om:s≤31);have B:0<2^s:=bjC aV;simp only[go_sem,bV F,aRB,ez,S,U,Y];refine aQ λo ho=>?_;simp only[go_sem,aRC,aRD];refine wp_loop (α:=List Nat × Nat × Nat × PV × PH) (λt=>aYH a n t.2.2.2.1 t.2.1 t.2.2.1) (λt=>t.2.2.2.2)
  (λt=>t.2.2.1≤Z' a∧t.1.length=z+t.2.2.1∧Lim t.1∧t.2.1<2^s∧val t.1+4294967296^t.1.length*t.2.1=val (a.take t.2.2.1)*2^n∧bH t.2.2.2.2 1 t.2.2.2.1 (aP t.1)) (λt=>Z' a-t.2.2.1) (bgA z 0,0,0,.osl o 1 0 z,PH.nil.set o (.rows 1 (aP (bgA z 0))))
  ⟨by simp,by simp,EH _,B,by simp[val,AF],.inr ⟨o,aP (bgA z 0),by rw[dK,bjP],by simp only[go_sem],by rw[dK];exact bgG _,bhA⟩⟩ ?_ b_ ?_
 ·unfold aYH;exact Lq
 rintro⟨P,c,i,v,H0⟩ ⟨hi,Z,j,hc,u,O⟩;simp only at hi Z j hc u O ⊢;simp only[go_sem,aDR,aRE,aYH];by_cases I:i<Z' a
 ·have w:(i:Int)<(Z' a:Nat):=Om;have γ:=ha _ (bgD I);have X:=dP a I;have R:=cU a I;generalize hx:a[i]=x at *
  have ε:x*2^s≤4294967295*2147483648:=bjL Om M;have ex:IntKind.u64.wrap ((x:Nat):Int)=((x:Nat):Int):=bW Om;have β:2^s*x=x*2^s:=bhE _ _;have K:shift .shl .u64 (x:Int) (s:Int)=some (.int .u64 ((2^s*x:Nat):Int)):=WC Om Om;have J:=orI (a:=2^s*x) (b:=c) (n:=c+2^s*x) Om Om (by rw[Nat.or_comm];exact agC hc Om) Om;have E:(c+2^s*x)/4294967296<2^s:=by rw[bjK aV];have:2^s*(x+1)≤2^s*4294967296:=biW _ Om;rw[bgQ,bjB]at this;omega
  have A:(1:Nat)*1≤16777216:=by decide
  simp only[go_sem,w,aRF,R,ex,em,eu,K,J,aRG,dY,A];refine hY (src:=[[.int .u32 (((c+2^s*x)%4294967296:Nat):Int)]]) O rfl (xJ Om) λv' H' l _=>?_;rw[xK]at l;simp only[go_sem,aRH,GX,aDS,wZz i];refine aG (P++[(c+2^s*x)%4294967296],(c+2^s*x)/4294967296,i+1,v',H') ⟨by simp only;omega,by simp;omega,j.app λy hy=>by simp at hy;subst hy;exact bhZ _ aV,E,?_,l⟩ (by simp only;omega) ?_ b_
  ·simp only;have hp:4294967296^P.length*(2^s*x)=4294967296^i*x*2^n:=by rw[Z,Nat.pow_add,←W];rw[bhB,Nat.mul_left_comm (4294967296^i),←bhB (4294967296^z),bhE (4294967296^z*2^s),bhB,bhE x]
   rw[oG,bgB,bgI,biD,bhB,biV,←bgQ,Nat.mod_add_div,X,bgQ,bhN,←biV,u,hp]
  ·exact Lq
 ·have e:i=Z' a:=Om;subst e;have w:¬(Z' a:Int)<(Z' a:Nat):=Om;have A:(1:Nat)*1≤16777216:=by decide
  have hV:val (P++[c])=val a*2^n:=by rw[oG,u,bhA]
  have N:Lim (P++[c]):=j.app λx hx=>by simp at hx;omega
  have ec:IntKind.u32.wrap ((c:Nat):Int)=((c:Nat):Int):=by rw[dY,bhS Om]
  simp only[go_sem,w,aDT,ec,A];refine hY (src:=[[.int .u32 ((c:Nat):Int)]]) O rfl (xJ Om) λv' H' l _=>?_;rw[xK]at l;have V:=L.trimM _ N (by simp;omega);rw[hV]at V;refine Ul V l rfl λF1 H1 _ r H2 hr _=>?_;simp only[go_sem];exact aPQ (.inr rfl) hr rfl
def gp(a:List Nat)(n:Nat)(v:PV)(i:Nat):PF:=((((PF.nil.set 0 (aN a)).set 1 (.int .i64 n)).set 5 (v)).set 6 (.int .i64 i))
theorem aXV{C:Ctx}(L:wX C)(a:List Nat)(n:Nat)(M:Lim a)(h1:Z' a≤8388608)(hn:n≤1000000000) :
  XB.wp C (aW aKH.res (cT (aN (aM (val a/2^n))))) (PF.args [aN a,.int .i64 n]) .nil:=by
 have ez:IntKind.i64.wrap (Int.tdiv (n:Int) 32)=((n/32:Nat):Int):=by rw[aQM,xv Om]
 have em:=aQP n;have eu:IntKind.u64.wrap ((n%32:Nat):Int)=((n%32:Nat):Int):=bW Om;have O:=Oo n;have U:n%32<32:=bhZ _ aV;have hz:n/32≤1000000000:=Om;generalize κ:n/32=z at *
 generalize ι:n%32=s at *
 simp only[go_sem,XB,amX,amY,aKH,bfY,ez];by_cases c0:Z' a≤z
 ·have u:((z:Nat):Int)≥(Z' a:Nat):=Om;have hq:val a/2^n=0:=by refine bjI (Nat.lt_of_lt_of_le (jU M) ?_);rw[←O];exact biJ (Nat.pow_le_pow_right aV c0) (Nat.le_mul_of_pos_right _ (bjC aV))
  simp only[go_sem,u,amZ];rw[hq,kO];exact bB (vs:=[.aH]) (.inr rfl) .nil rfl a_ ⟨.nil 1,rfl⟩
 have u:¬((z:Nat):Int)≥(Z' a:Nat):=Om;have hR:val a/2^n=val (a.drop z)/2^s:=by rw[DD M Om,←O,Nat.div_div_eq_div_mul]
 have I:Lim (a.drop z):=M.drop z;simp only[go_sem,u,anA,anB,ez];refine wp_loop (α:=List Nat × PV × PH) (λt=>gp a n t.2.1 (z+t.1.length)) (λt=>t.2.2)
  (λt=>z+t.1.length≤Z' a∧t.1=gE t.1.length (val (a.drop z)/2^s)∧bH t.2.2 1 t.2.1 (aP t.1)) (λt=>Z' a-t.1.length) ([],.aH,.nil)
  ⟨by simp;omega,rfl,.nil⟩ ?_ a_ ?_
 ·unfold gp
  (repeat' (first|exact c_|refine d_ ?_ ?_))<;>first|(simp only[go_sem,biM]<;>rfl)|rfl
 rintro⟨P,v,H0⟩ ⟨hP,hD,hO⟩;simp only at hP hD hO ⊢;simp only[go_sem,R3,anC,gp];have E:Lim P:=by rw[hD];exact tA _ _
 by_cases V:z+Z' P<Z' a
 ·have w:((z+Z' P:Nat):Int)<(Z' a:Nat):=Om;have θ:=M _ (bgD V);have γ:=cU a V;have ε:Z' P≤(a.drop z).length:=by rw[bhR];omega
  have R:=DD I ε;have j:(a.drop z).drop P.length=a[z+Z' P]::a.drop (z+Z' P+1):=by rw[List.drop_drop,biL V]
  generalize hx:a[z+Z' P]=x at *
  have ex:IntKind.u64.wrap ((x:Nat):Int)=((x:Nat):Int):=bW Om;have δ:(1:Nat)*1≤16777216:=by decide
  have ew:IntKind.i64.wrap (((z+Z' P:Nat):Int)+1)=((z+Z' P+1:Nat):Int):=eT Om;have fin:∀(t:Nat)(F:PF),t<18446744073709551616→val (a.drop z)/4294967296^P.length%(4294967296*4294967296)=t→F 0=some (aN a)→F 1=some (.int .i64 n)→F 5=some v→F 6=some (.int .i64 (z+Z' P:Nat))→F 7=some (.int .u64 t) →
    ∀K:cQ,(∀v' S H2,(gp a n v' (z+(Z' P+1))).le S→bH H2 1 v' (aP (P++[t/2^s%4294967296]))→(P++[t/2^s%4294967296])=gE (Z' P+1) (val (a.drop z)/2^s)→K .normal S H2) →
    aC.wp C (.region xo) (fN 1 (kJ C (aC.wp C (.region gq)) K)) F H0:=by
   intro t F ht ζ f0 f1 f5 f6 f7 K hK;have B:shift .shr .u64 (t:Int) (s:Int)=some (.int .u64 ((t/2^s:Nat):Int)):=a6I Om;simp only[go_sem,xo,f5,f7,f1,em,eu,B,dY,δ];refine hY (src:=[[.int .u32 ((t/2^s%4294967296:Nat):Int)]]) hO rfl (xJ Om) λv' H' J _=>?_;rw[xK]at J;simp only[go_sem,gq,f6,ew];refine hK v' _ H' ?_ J ?_
   ·unfold gp;exact Lq
   ·rw[EB,←hD];congr 2;have e:val (a.drop z)/4294967296^P.length=t%4294967296+4294967296*(t/4294967296+4294967296*(val (a.drop z)/4294967296^P.length/(4294967296*4294967296))):=by have:=Nat.mod_add_div (val (a.drop z)/4294967296^P.length) (4294967296*4294967296);rw[ζ]at this;have h2:=Nat.mod_add_div t 4294967296;rw[bgQ,←biV,h2,←bhB];exact this.symm
    have:=nw U e;rw[this];congr 2;have h2:=Nat.mod_add_div t 4294967296;omega
  simp only[aC.wp,go_sem]at fin;simp only[go_sem,w,anD,γ,ex,anE,ew];by_cases W:z+Z' P+1<Z' a
  ·have A:((z+Z' P+1:Nat):Int)<(Z' a:Nat):=Om;have η:=M _ (bgD W);have N:=cU a W;rw[biL W]at j;generalize hy:a[z+Z' P+1]=y at *
   have ey:IntKind.u64.wrap ((y:Nat):Int)=((y:Nat):Int):=bW Om;have B:shift .shl .u64 (y:Int) ((32:Nat):Int)=some (.int .u64 ((2^32*y:Nat):Int)):=WC aV Om;have β:=orI (a:=x) (b:=2^32*y) (n:=x+2^32*y) Om Om (agC Om Om) Om;simp only[go_sem,A,anF,ew,N,ey,show shift .shl .u64 (y:Int) 32=_ from B,β];refine fin (x+2^32*y) _ Om ?_ rfl rfl rfl rfl rfl _ ?_
   ·rw[←R,j];simp only[val];omega
   ·intro v' S H2 X Y Z;refine aG (α:=List Nat × PV × PH) (P++[(x+2^32*y)/2^s%4294967296],v',H2) ⟨by simp;omega,by simpa using Z,Y⟩ (by simp;omega) ?_ b_;simp only[bgB,bgI];exact X
  ·have A:¬((z+Z' P+1:Nat):Int)<(Z' a:Nat):=Om;rw[bkA (l:=a) (i:=z+Z' P+1) Om]at j;simp only[go_sem,A];refine fin x _ Om ?_ rfl rfl rfl rfl rfl _ ?_
   ·rw[←R,j];simp only[val];omega
   ·intro v' S H2 X Y Z;refine aG (α:=List Nat × PV × PH) (P++[x/2^s%4294967296],v',H2) ⟨by simp;omega,by simpa using Z,Y⟩ (by simp;omega) ?_ b_;simp only[bgB,bgI];exact X
 ·have e:z+Z' P=Z' a:=Om;have w:¬((z+Z' P:Nat):Int)<(Z' a:Nat):=Om;have hV:val P=val (a.drop z)/2^s:=by rw[hD];refine vL (Nat.lt_of_le_of_lt (bjJ _ _) ?_);have:=jU I;rw[bhR]at this;rw[show P.length=Z' a-z by omega];exact this
  have U:=L.trim _ E Om;rw[hV,←hR]at U;simp only[go_sem,w,R4];refine BY U hO rfl λF1 H1 _=>?_;simp only[go_sem];exact bB (.inr rfl) .nil rfl a_ ⟨.refl _,rfl⟩
structure ZJ(C:Ctx):Prop extends yk C where
 bits:∀xs,Lim xs→Z' xs≤35184372087808→aI C 31 [aN xs] .nil (aK (.int .i64 (dZ (val xs):Nat)))
 upM:∀(a:List Nat)(n:Nat),Lim a→Z' a≤8388608→n≤8388608→(Z' a=0→val a=0)→aI C 45 [aN a,.int .i64 n] .nil (tH 1 (aP (aM (val a*2^n))))
 down:∀(a:List Nat)(n:Nat),Lim a→Z' a≤8388608→n≤1000000000→aI C 40 [aN a,.int .i64 n] .nil (aK (aN (aM (val a/2^n))))
def udS:Spec:=λname vs=>match name,vs with
 |35,[.int _ v]=>some ([],λ_=>aK (aN (aM v.toNat)))
 |44,[x,y]=>some ([],λ_=>aK (aN (aM (val (nS x)*val (nS y)))))
 |32,[x,.osl q _ _ _]=>some ([q],λH0 r H'=>H'=H0∧∀xs,Lim xs→H0 q=some (.rows 1 (aP xs))→r=.int .i64 (fJ (val (nS x)) (val xs)))
 |_,_=>none
theorem aXU(v:Nat):udS 35 [.int .u64 v]=some ([],λ_=>aK (aN (aM v))):=rfl
theorem aQT(x y:List Nat):udS 44 [aN x,aN y]=some ([],λ_=>aK (aN (aM (val x*val y)))):=by
 show some ([],λ_=>aK (aN (aM (val (nS (aN x))*val (nS (aN y))))))=_;rw[hJ,hJ]
theorem aSO(q:Nat)(x L:List Nat):(PH.nil.set q (.rows 1 (aP L)))=(PH.nil.set q (.rows 1 (aP L)))∧∀xs,Lim xs→(PH.nil.set q (.rows 1 (aP L))) q=some (.rows 1 (aP xs))→(PV.int .i64 (fJ (val x) (val L)))=.int .i64 (fJ (val (nS (aN x))) (val xs)):=by
 refine⟨rfl,λxs j e=>?_⟩;rw[cB]at e;have:aP L=aP xs:=(cI.rows.inj (biQ.inj e)).2;rw[cu this,hJ]
def duF(n o l:Nat)(y:List Nat)(e u j:Nat)(k:Int):PF:=
 ((((((PF.nil.set 10 (.int .i64 n)).set 11 (.osl o 1 0 l)).set 12 (aN y)).set 13 (.int .u64 e)).set 14 (.osl u 1 0 j)).set 15 (.int .i64 k))
abbrev gT(X:List Nat)(Z:List (List PV)):List (List PV):=aP X++Z
theorem XW{X:List Nat}{Z:List (List PV)}{i:Nat}(h:i<Z' X):(gT X Z)[i]?=some [.int .u32 ((X[i]:Nat):Int)]:=by
 rw[gT,biA (by rw[dK];exact h),cU X h]
theorem Td{X:List Nat}{Z:List (List PV)}{i:Nat}(h:i<Z' X)(v:Nat):(gT X Z).set i [.int .u32 (v:Int)]=gT (X.set i v) Z:=by
 rw[gT,List.set_append_left _ _ (by rw[dK];exact h),kM]
theorem Tc{X:List Nat}{Z:List (List PV)}{j m:Nat}(h:j+m≤Z' X):((gT X Z).drop j).take m=aP ((X.drop j).take m):=by
 rw[gT,List.drop_append_of_le_length (by rw[dK];omega),List.take_append_of_le_length (by rw[bhR,dK];omega)];unfold aP;rw[←List.map_drop,←List.map_take]
theorem a6L{C:Ctx}(L:ZJ C)(n o A:Nat)(y:List Nat)(B w lq j:Nat)(X:List Nat)(Z:List (List PV))(Y:w≠o)(hy:Lim y)(hX:Lim X)(δ:Z' X=A)(hl:A≤5000)(hj:j+(Z' y+1)≤A)(N:0<val y)
  (qv:cI) (g0:Nat) (hg:val ((X.drop j).take (Z' y+1))/val y≤g0) (V:g0<4294967296) (K:cQ) (F:PF) (H:PH) (hF:((duF n o A y B w lq j).set 17 (.int .u64 g0)).le F) (hH:((PH.nil.set o (.rows 1 (gT X Z))).set w qv).le H)
  (hK:∀F' H',((duF n o A y B w lq j).set 17 (.int .u64 (val ((X.drop j).take (Z' y+1))/val y:Nat))).le F'→((PH.nil.set o (.rows 1 (gT X Z))).set w qv).le H'→K .normal F' H') :
  aC.wp C (.block 4 (.loop DR)) K F H:=by
 have e:¬o=w:=λh=>Y h.symm;have l:((X.drop j).take (Z' y+1)).length=Z' y+1:=by rw[bgP,bhR];omega
 have E:Lim ((X.drop j).take (Z' y+1)):=(hX.drop _).take _;have I:=Tc (X:=X) (Z:=Z) (j:=j) (m:=Z' y+1) Om;have J:j+(Z' y+1)≤(gT X Z).length:=by rw[gT,bgB,dK];omega
 have S:aP ((X.drop j).take (Z' y+1))≠[]:=λh=>by have:=congrArg List.length h;rw[dK,l]at this;simp at this
 generalize hW:(X.drop j).take (Z' y+1)=W at *
 generalize M:val W/val y=R at *
 simp only[go_sem];refine wp_loop (α:=Nat) (λg=>(duF n o A y B w lq j).set 17 (.int .u64 g)) (λ_=>(PH.nil.set o (.rows 1 (gT X Z))).set w qv) (λg=>R≤g∧g<4294967296) (λg=>g) g0 ⟨hg,V⟩ hF hH ?_;rintro g ⟨γ,hlt⟩;have e1:IntKind.i64.wrap ((j:Int)+(Z' y:Int))=((j+Z' y:Nat):Int):=lT Om;have e2:IntKind.i64.wrap (((j+Z' y:Nat):Int)+1)=((j+Z' y+1:Nat):Int):=eT Om;have b1:(j:Int)≤((j+Z' y+1:Nat):Int):=Om;have b2:((j+Z' y+1:Nat):Int)≤(A:Nat):=Om;have b3:j+Z' y+1-j=Z' y+1:=Om;have mk:=L.make g Om;have tm:=L.times y (aM g) hy (bC _) Om (by have O:nl g≤1:=uQ (by rw[Nat.pow_one];exact hlt);rw[bJ];omega)
 rw[aZ]at tm;have β:(aM (val y*g)).length≤35184372087808:=by have O:nl g≤1:=uQ (by rw[Nat.pow_one];exact hlt);have h2:=rY (a:=val y) (b:=g) (kL hy) O;rw[bJ];omega
 have cm:=L.cmp (aM (val y*g)) W (bC _) E β Om;rw[aZ]at cm;simp only[go_sem,DR];refine bA .nil udS a_ ?_;simp only[go_sem,ot,duF];refine cO (aXU g) mk Sq a_ ?_;simp only[go_sem];have tS:=aQT y (aM g);rw[aZ]at tS;refine cO tS tm Sq a_ ?_;simp only[go_sem,bfY,e1,e2,b1,b2,b3];refine KG (src:=aP W) ?_ ?_ (λh=>absurd h S) λ_ x u=>?_
 ·simp only[go_sem,e,J,I]
 ·unfold roomFor;rw[dK,l];simp only[maxLen];omega
 refine⟨a_,?_⟩;rw[dK,l];have n1:¬x=w:=(nE.1 u).1;refine aST (o:=x) (s:=1) (rs:=aP W) (vs:=[aN (aM (val y*g)),.osl x 1 0 (Z' y+1)]) (v:=.int .i64 (fJ (val y*g) (val W))) rfl (.int _ _) Sq ?_ ?_ ?_ Sq a_ ?_
 ·rw[bhJ,bhJ,biS,zV (by rw[dK,l];exact bgG _),bgR (by rw[dK,l];exact bgG _)];exact cm
 ·have:=aSO x (aM (val y*g)) W;rw[aZ]at this;exact this
 ·rintro r H' ⟨O,h2⟩;have:=h2 W E (by rw[cB]);rw[hJ,aZ]at this;exact⟨this,O⟩
 simp only[go_sem];by_cases c:val W<val y*g
 ·have U:fJ (val y*g) (val W)=1:=by unfold fJ;rw[aE Om,aL c]
  have hq:R<g:=by rw[←M];exact(bjK N).2 (by rw[bhE];exact c)
  have ew:IntKind.u64.wrap ((g:Int)-1)=((g-1:Nat):Int):=by rw[wrap_u64 Om Om];omega
  simp only[go_sem,U,show(1:Int)>0 by decide,ou,ew];refine aG (g-1) ⟨by omega,by omega⟩ Om ?_ ?_
  ·exact Lq
  ·refine e_ (e_ a_ ?_) ?_
   ·have n2:¬o=x:=λh=>by subst h;rw[aR,aE e,cB]at u;cases u
    simp only[go_sem,n2,e]
   ·have n3:¬w=x:=λh=>n1 h.symm;simp only[go_sem,n3]
 ·have U:¬fJ (val y*g) (val W)>0:=by unfold fJ;rw[aE c];split<;>decide
  have hq:g=R:=by
   have:g≤R:=by rw[←M];exact(Nat.le_div_iff_mul_le N).2 (by rw[bhE];omega)
   omega
  simp only[go_sem,U];refine hK _ _ ?_ ?_
  ·unfold duF
   (repeat' (first|exact c_|refine d_ ?_ ?_))<;>first|(simp only[go_sem,←hq]<;>rfl)|rfl
  ·refine e_ (e_ a_ ?_) ?_
   ·have n2:¬o=x:=λh=>by subst h;rw[aR,aE e,cB]at u;cases u
    simp only[go_sem,n2,e]
   ·have n3:¬w=x:=λh=>n1 h.symm;simp only[go_sem,n3]
theorem a1S(R k:Nat)(h:k<nl R):∃u:k<(aM R).length,(aM R)[k]=R/4294967296^k%4294967296:=by
 have e:k<(aM R).length:=by rw[bJ];exact h
 refine⟨e,?_⟩;have j:=DD (bC R) (Nat.le_of_lt e);rw[aZ,biL e]at j;have l:=bC R _ (bgD e);simp only[val]at j;rw[←j,Nat.add_mul_mod_self_left,bhS l]
theorem aUM(R k:Nat)(h:nl R≤k):R/4294967296^k%4294967296=0:=by
 rw[bjI ((nJ R k).1 h)]
theorem a3I{A P W Z:List Nat}{i:Nat}(e:Z' P=i)(hi:i<Z' W)(v:Nat):(A++(P++W.drop i)++Z).set (Z' A+i) v=A++((P++[v])++W.drop (i+1))++Z:=
 cu (by rw[←kM];exact RM e hi v)
theorem a9A{C:Ctx}(n o E:Nat)(y:List Nat)(M x Y j:Nat)(X:List Nat)(Z:List (List PV))(J:x≠o)(U:Z' X=E)(hl:E≤5000)(hj:j+(Z' y+1)≤E)
  (qv:cI) (g R:Nat) (K:cQ) (F:PF) (H:PH) (hF:((((duF n o E y M x Y j).set 17 (.int .u64 g)).set 18 (aN (aM R))).set 19 (.int .i64 0)).le F) (hH:((PH.nil.set o (.rows 1 (gT X Z))).set x qv).le H)
  (hK:∀F' H',((duF n o E y M x Y j).set 17 (.int .u64 g)).le F'→((PH.nil.set o (.rows 1 (gT (X.take j++gE (Z' y+1) R++X.drop (j+(Z' y+1))) Z))).set x qv).le H'→K .normal F' H') :
  aC.wp C (.block 6 (.loop DS)) K F H:=by
 have u:¬o=x:=λh=>J h.symm;have hA:(X.take j).length=j:=by rw[bgP];omega
 have ε:((X.drop j).take (Z' y+1)).length=Z' y+1:=by rw[bgP,bhR];omega
 have θ:(X.drop (j+(Z' y+1))).length=E-(j+(Z' y+1)):=by rw[bhR,U]
 have B:X.take j++(X.drop j).take (Z' y+1)++X.drop (j+(Z' y+1))=X:=by rw[bgX,←List.drop_drop,biZ,biZ]
 rw[←B]at hH;generalize γ:X.take j=A at *
 generalize δ:(X.drop j).take (Z' y+1)=W at *
 generalize η:X.drop (j+(Z' y+1))=w at *
 simp only[go_sem];refine wp_loop (α:=List Nat) (λP=>(((duF n o E y M x Y j).set 17 (.int .u64 g)).set 18 (aN (aM R))).set 19 (.int .i64 P.length)) (λP=>(PH.nil.set o (.rows 1 (gT (A++(P++W.drop P.length)++w) Z))).set x qv)
  (λP=>Z' P≤Z' y+1∧P=gE P.length R) (λP=>Z' y+1-Z' P) [] ⟨bgE _,rfl⟩ hF (by simpa using hH) ?_
 rintro P ⟨hP,hD⟩;simp only[go_sem,DS,ov,duF];by_cases c:Z' P<Z' y+1
 ·have O:(Z' P:Int)≤(Z' y:Nat):=Om;have ei:IntKind.i64.wrap ((j:Int)+(Z' P:Int))=((j+Z' P:Nat):Int):=lT Om;have β:(A++(P++W.drop P.length)++w).length=E:=by simp only[bgB,bhR];omega
  have hi:j+Z' P<(A++(P++W.drop P.length)++w).length:=Om;have b1:((j+Z' P:Nat):Int)<(E:Nat):=Om;have r1:=XW (Z:=Z) hi;have s1:=Td (Z:=Z) hi 0;have N:j+Z' P<((A++(P++W.drop P.length)++w).set (j+Z' P) 0).length:=by rw[bhU];exact hi
  have l:=λv=>a3I (A:=A) (P:=P) (W:=W) (Z:=w) (i:=Z' P) rfl Om v;rw[hA]at l;generalize ζ:A++(P++W.drop P.length)++w=XX at *
  have r2:(gT (A++((P++[0])++W.drop (Z' P+1))++w) Z)[j+Z' P]?=some [.int .u32 ((0:Nat):Int)]:=by rw[←l 0,XW N,List.getElem_set_self]
  have s2:∀v,(gT (A++((P++[0])++W.drop (Z' P+1))++w) Z).set (j+Z' P) [.int .u32 ((v:Nat):Int)]=gT (A++((P++[v])++W.drop (Z' P+1))++w) Z:=by intro v;rw[←l 0,Td N,List.set_set,l]
  have bfH:=EB P.length R;rw[←hD]at bfH;have ew:IntKind.i64.wrap ((Z' P:Int)+1)=((Z' P+1:Nat):Int):=eT Om;simp only[go_sem,O,ow,ei,b1,u,r1,show([PV.int .u32 (0:Int)])=[PV.int .u32 ((0:Nat):Int)]from rfl,s1,oz,bJ];by_cases c2:Z' P<nl R
  ·have I:(Z' P:Int)<(nl R:Nat):=Om;obtain⟨S,V⟩:=a1S R P.length c2;have hr:=cU (aM R) S;rw[V]at hr;simp only[go_sem,I,pd,hr,ei,b1,u,r2,s2,List.set_set,l,PD,ew];refine aG (P++[R/4294967296^P.length%4294967296]) ⟨by simp;omega,by rw[bgB,bgI];exact bfH.symm⟩ (by simp;omega) ?_ ?_
   ·rw[bgB,bgI];exact Lq
   ·rw[bgB,bgI];refine e_ (e_ a_ ?_) ?_<;>simp only[go_sem,u,show ¬x=o from J]
  ·have I:¬(Z' P:Int)<(nl R:Nat):=Om;have V:=aUM R P.length Om;rw[V]at bfH;simp only[go_sem,I,l,PD,ew];refine aG (P++[0]) ⟨by simp;omega,by rw[bgB,bgI];exact bfH.symm⟩ (by simp;omega) ?_ ?_
   ·rw[bgB,bgI];exact Lq
   ·rw[bgB,bgI];refine e_ (e_ a_ ?_) ?_<;>simp only[go_sem,u,show ¬x=o from J]
 ·have O:¬(Z' P:Int)≤(Z' y:Nat):=Om;have e:Z' P=Z' y+1:=Om;simp only[go_sem,O];refine hK _ _ (by unfold duF;exact Lq) ?_;have h2:A++gE (Z' y+1) R++w=A++(P++W.drop P.length)++w:=by rw[bkA Om,bhH,←e,←hD]
  rw[h2];exact b_
theorem aUB{y W:List Nat}{m:Nat}(F:Lim y)(hW:Lim W)(B:Z' y=m+1)(A:Z' W=m+2)(E:0<y[m]):val W/val y≤(4294967296*W[m+1]+W[m])/y[m]:=by
 have x:=dP y (Om:m<Z' y);rw[bgR Om]at x;have l:=dP W (Om:m+1<Z' W);rw[bgR Om,dP W (Om:m<Z' W)]at l;have u:=jU (hW.take m);rw[bgP,biP Om]at u;have w:0<4294967296^m:=bjC aV;have hb:4294967296^m*y[m]≤val y:=Om;have j:0<4294967296^m*y[m]:=Nat.mul_pos w E;have e:val W=val (W.take m)+4294967296^m*(4294967296*W[m+1]+W[m]):=by rw[l,biD,bgQ,bhB];omega
 refine biJ (Nat.div_le_div_left hb j) ?_;rw[←Nat.div_div_eq_div_mul,e,Nat.add_mul_div_left _ _ w,bjI u,bgL];exact bgG _
theorem aQU{C:Ctx}(L:ZJ C)(U0 n o w l u m:Nat)(y z:List Nat)(S:u≠o)(hy:Lim y)(N:Z' y=m+1)(ht:0<y[m])(f':w=l+(m+1))(V:w≤5000)(X:List Nat)(M:vS U0 (val y) (m+1) w l l X (bgA l 0))(K:cQ)(F:PF)(H:PH)
  (hF:(duF n o w y (y[m]) u l ((l:Int)-1)).le F) (hH:((PH.nil.set o (.rows 1 (gT X (aP z)))).set u (.rows 1 (aP (bgA l 0)))).le H)
  (hK:∀X' Q' F' H',vS U0 (val y) (m+1) w l 0 X' Q'→(duF n o w y (y[m]) u l (-1)).le F'→((PH.nil.set o (.rows 1 (gT X' (aP z)))).set u (.rows 1 (aP Q'))).le H'→K .normal F' H') :
  aC.wp C (.block 2 (.loop DT)) K F H:=by
 have x:¬o=u:=λh=>S h.symm;have p':¬u=o:=S;have hV:val y<4294967296^(m+1):=by have:=jU hy;rw[N]at this;exact this
 have ν:0<val y:=by have h1:=dP y (Om:m<Z' y);rw[bgR Om]at h1;have:0<4294967296^m*y[m]:=Nat.mul_pos (bjC aV) ht;omega
 have u':=hy _ (bgD (Om:m<Z' y));generalize htop:y[m]=e at *
 simp only[go_sem];refine wp_loop (α:=Nat × List Nat × List Nat) (λt=>duF n o w y e u l ((t.1:Int)-1)) (λt=>(PH.nil.set o (.rows 1 (gT t.2.1 (aP z)))).set u (.rows 1 (aP t.2.2)))
  (λt=>t.1≤l∧vS U0 (val y) (m+1) w l t.1 t.2.1 t.2.2) (λt=>t.1) (l,X,bgA l 0) ⟨bgG _,M⟩ hF hH ?_
 rintro⟨k,X,Q⟩ ⟨hk,M⟩;simp only at hk M;simp only[go_sem,DT,oe,duF];by_cases h0:0<k
 ·obtain⟨j,rfl⟩:∃j,k=j+1:=⟨k-1,by omega⟩;have hz:((j+1:Nat):Int)-1=(j:Int):=Om;have b':(j:Int)≥0:=Om;have dst:=V8 M hV Om f';rw[show m+1+1=m+2 from rfl]at dst;obtain⟨hlt,Θ⟩:=dst;have ξ:=M.lu';have q':=M.lq';have R:((X.drop j).take (m+2)).length=m+2:=by rw[bgP,bhR];omega
  have γ:Lim ((X.drop j).take (m+2)):=(M.limU.drop _).take _;have s':m+1<((X.drop j).take (m+2)).length:=Om;have r':m<((X.drop j).take (m+2)).length:=Om;have a1:j+(m+1)<Z' X:=Om;have a0:j+m<Z' X:=Om;have w1:((X.drop j).take (m+2))[m+1]=X[j+(m+1)]:=by simp
  have w0:((X.drop j).take (m+2))[m]=X[j+m]:=by simp
  have ρ:=aUB hy γ N R (by rw[htop];exact ht);rw[w1,w0,htop]at ρ;have r1:=XW (Z:=aP z) a1;have r0:=XW (Z:=aP z) a0;have l1:=M.limU _ (bgD a1);have l0:=M.limU _ (bgD a0);generalize w':X[j+(m+1)]=E at *
  generalize v':X[j+m]=J at *
  have e1:IntKind.i64.wrap ((j:Int)+(Z' y:Int))=((j+(m+1):Nat):Int):=by rw[N];exact lT Om
  have e0:IntKind.i64.wrap (((j+(m+1):Nat):Int)-1)=((j+m:Nat):Int):=by rw[wrap_i64 Om Om];omega
  have b1:((j+(m+1):Nat):Int)<(w:Nat):=Om;have b0:((j+m:Nat):Int)<(w:Nat):=Om;have Γ:IntKind.u64.wrap ((E:Nat):Int)=((E:Nat):Int):=bW Om;have ω:IntKind.u64.wrap ((J:Nat):Int)=((J:Nat):Int):=bW Om;have η:shift .shl .u64 (E:Int) 32=some (.int .u64 ((2^32*E:Nat):Int)):=WC (s:=32) Om Om;have ψ:(2:Nat)^32=4294967296:=by decide
  have ε:=orI (a:=2^32*E) (b:=J) (n:=2^32*E+J) Om Om (Nat.two_pow_add_eq_or_of_lt Om E).symm Om;rw[ψ]at η ε;have Φ:¬((e:Nat):Int)=0:=Om;have υ:(4294967296*E+J)/e<18446744073709551616:=Nat.lt_of_le_of_lt (bjJ _ _) Om;have ζ:IntKind.u64.wrap (Int.tdiv ((4294967296*E+J:Nat):Int) ((e:Nat):Int))=(((4294967296*E+J)/e:Nat):Int):=by rw[show Int.tdiv ((4294967296*E+J:Nat):Int) ((e:Nat):Int)=(((4294967296*E+J)/e:Nat):Int)from rfl];exact bW υ
  have φ:val ((X.drop j).take (m+2))/val y<4294967296:=(bjK ν).2 (by rw[bhE];exact hlt);have ο:=Tc (X:=X) (Z:=aP z) (j:=j) (m:=m+2) Om;have σ:j+(m+2)≤(gT X (aP z)).length:=by rw[gT,bgB,dK];omega
  have δ:val ((X.drop j).take (m+2))-val y*(val ((X.drop j).take (m+2))/val y)=val ((X.drop j).take (m+2))%val y:=by have:=bjV (val ((X.drop j).take (m+2))) (val y);omega
  have I:val y*(val ((X.drop j).take (m+2))/val y)≤val ((X.drop j).take (m+2)):=Nat.mul_div_le _ _;clear w1 w0;have gu:=λg0=>a6L (C:=C) L n o w y e u l j X (aP z) S hy M.limU ξ V Om ν (.rows 1 (aP Q)) g0;rw[N,show m+1+1=m+2 from rfl]at gu;generalize hW:(X.drop j).take (m+2)=W at *
  generalize t':val W/val y=O at *
  have Λ:aP W≠[]:=λh=>by have:=congrArg List.length h;rw[dK,R]at this;simp at this
  have tail:∀(g0:Nat)(F:PF)(H:PH),O≤g0→g0<4294967296→((duF n o w y e u l j).set 17 (.int .u64 g0)).le F→((PH.nil.set o (.rows 1 (gT X (aP z)))).set u (.rows 1 (aP Q))).le H →
    aC.wp C (.seq (.block 4 (.loop DR)) (.seq (.region PB) (.seq (.seq (.region PC) (.block 6 (.loop DS))) (.region PE)))) (fN 3 (kJ C (aC.wp C (.region PG)) (fZ (λ(t:Nat × List Nat × List Nat)=>duF n o w y e u l ((t.1:Int)-1)) (λt=>(PH.nil.set o (.rows 1 (gT t.2.1 (aP z)))).set u (.rows 1 (aP t.2.2))) (λt=>t.1≤l∧vS U0 (val y) (m+1) w l t.1 t.2.1 t.2.2) (λt=>t.1) (j+1) (fN 2 K)))) F H:=by
   intro g0 F H hg a' hF hH;have gu:=gu g0 hg a';simp only[go_sem]at gu;simp only[go_sem];refine gu _ F H hF hH ?_;intro Y H1 A κ;have f11:Y 11=some (.osl o 1 0 w):=A 11 _ (by unfold duF;simp only[go_sem]);have β:Y 12=some (aN y):=A 12 _ (by unfold duF;simp only[go_sem]);have θ:Y 15=some (.int .i64 j):=A 15 _ (by unfold duF;simp only[go_sem]);have ι:Y 17=some (.int .u64 (O:Nat)):=A 17 _ (by unfold duF;simp only[go_sem]);have Δ:Y 10=some (.int .i64 n):=A 10 _ (by unfold duF;simp only[go_sem]);have f13:Y 13=some (.int .u64 e):=A 13 _ (by unfold duF;simp only[go_sem]);have f14:Y 14=some (.osl u 1 0 l):=A 14 _ (by unfold duF;simp only[go_sem]);have ho:H1 o=some (.rows 1 (gT X (aP z))):=κ o _ (by simp only[go_sem,x]);have τ:H1 u=some (.rows 1 (aP Q)):=κ u _ Sq;have b3:(j:Int)≤((j+(m+1)+1:Nat):Int):=Om;have b4:((j+(m+1)+1:Nat):Int)≤(w:Nat):=Om;have b5:j+(m+1)+1-j=m+2:=Om;have e2:IntKind.i64.wrap (((j+(m+1):Nat):Int)+1)=((j+(m+1)+1:Nat):Int):=eT Om;simp only[go_sem,PB,f11,θ,β,bfY,e1,e2,b3,b4,b5];refine KG (src:=aP W) ?_ ?_ (λh=>absurd h Λ) λ_ o' U=>?_
   ·simp only[go_sem,ho,σ,ο]
   ·unfold roomFor;rw[dK,R];simp only[maxLen];omega
   rw[dK,R];have n1:¬u=o':=λh=>by subst h;rw[τ]at U;cases U
   have n2:¬o=o':=λh=>by subst h;rw[ho]at U;cases U
   have nq:nl O≤1:=uQ (by rw[Nat.pow_one];exact φ);have tm:=L.times y (aM O) hy (bC _) Om (by rw[bJ];omega);rw[aZ]at tm;have nW:=kL γ;have mn:=L.minus W (aM (val y*O)) γ (bC _) (by rw[aZ];exact I) (by rw[bJ];exact biJ (kW I) nW) Om;rw[aZ,δ]at mn;have Ξ:(aP W).take (m+2)=aP W:=bgR (by rw[dK];omega);simp only[go_sem,ι];refine aB (L.make O Om) Sq ?_;simp only[go_sem,β];refine aB tm Sq ?_;simp only[go_sem];refine vM (o:=o') (s:=1) (rs:=aP W) mn Sq (by simp only[go_sem,show m+2≤W.length by omega,Ξ]) ?_;simp only[go_sem,PC];have Ω:(gT X (aP z)).map (λr=>r.map (PV.dM o' 1 (aP W)))=gT X (aP z):=by
    have:gT X (aP z)=aP (X++z):=by simp[gT,aP]
    rw[this];exact zU _ _ _ _
   have Ψ:(aP Q).map (λr=>r.map (PV.dM o' 1 (aP W)))=aP Q:=zU _ _ _ _;have ur:=a9A (C:=C) n o w y e u l j X (aP z) S ξ V Om (.rows 1 (aP Q)) O (val W%val y);rw[N,show m+1+1=m+2 from rfl]at ur;simp only[go_sem]at ur;refine ur _ _ _ ?_ ?_ ?_
   ·unfold duF
    (repeat' (first|exact c_|refine d_ ?_ ?_))<;>first|(simp only[go_sem,Δ,f11,β,f13,f14,θ,ι,n1,n2]<;>rfl)|rfl
   ·refine e_ (e_ a_ ?_) ?_
    ·simp only[go_sem,x,n2,ho,cI.frz,Ω]
    ·simp only[go_sem,n1,τ,cI.frz,Ψ]
   intro F3 H3 B μ;have i':F3 10=some (.int .i64 n):=B 10 _ (by unfold duF;simp only[go_sem]);have j':F3 11=some (.osl o 1 0 w):=B 11 _ (by unfold duF;simp only[go_sem]);have k':F3 12=some (aN y):=B 12 _ (by unfold duF;simp only[go_sem]);have l':F3 13=some (.int .u64 e):=B 13 _ (by unfold duF;simp only[go_sem]);have χ:F3 14=some (.osl u 1 0 l):=B 14 _ (by unfold duF;simp only[go_sem]);have m':F3 15=some (.int .i64 j):=B 15 _ (by unfold duF;simp only[go_sem]);have n':F3 17=some (.int .u64 O):=B 17 _ (by unfold duF;simp only[go_sem]);have g':H3 o=some (.rows 1 (gT (X.take j++gE (m+2) (val W%val y)++X.drop (j+(m+2))) (aP z))):=μ o _ (by simp only[go_sem,x]);have h':H3 u=some (.rows 1 (aP Q)):=μ u _ Sq;have e':j<Z' Q:=Om;have rq:=cU Q e';have d':(j:Int)<(l:Nat):=Om;have sq:=kM Q j O;have ec:IntKind.u32.wrap ((O:Nat):Int)=((O:Nat):Int):=by rw[dY,bhS φ]
   have ej:IntKind.i64.wrap ((j:Int)-1)=(j:Int)-1:=wrap_i64 Om Om;simp only[go_sem,PE,χ,m',n',d',h',rq,ec,sq,PG,ej];refine aG (α:=Nat × List Nat × List Nat) (j,_,_) ⟨by simp only;omega,Θ⟩ (by simp only;omega) ?_ ?_
   ·unfold duF
    (repeat' (first|exact c_|refine d_ ?_ ?_))<;>first|(simp only[go_sem,i',j',k',l',χ]<;>rfl)|rfl
   ·refine e_ (e_ a_ ?_) ?_
    ·simp only[go_sem,x,g']
    ·simp only[go_sem]
  simp only[aC.wp,go_sem]at tail;simp only[go_sem,hz,b'];refine bA .nil cK a_ ?_;simp only[go_sem,og,e1,e0,b1,b0,x,r1,r0,Γ,ω,η,ε,oi,Φ,ζ,oj];by_cases c:(4294967296*E+J)/e>4294967295
  ·have c':(((4294967296*E+J)/e:Nat):Int)>4294967295:=Om;simp only[go_sem,c',oq];exact tail 4294967295 _ _ Om aV (by unfold duF;exact Lq) b_
  ·have c':¬(((4294967296*E+J)/e:Nat):Int)>4294967295:=Om;simp only[go_sem,c'];exact tail _ _ _ ρ Om (by unfold duF;exact Lq) b_
 ·have:k=0:=Om;subst this;have hz:¬((0:Nat):Int)-1≥0:=by decide
  simp only[go_sem,hz];refine hK X Q _ _ M ?_ b_;unfold duF
  (repeat' (first|exact c_|refine d_ ?_ ?_))<;>first|(simp only[go_sem,show((0:Nat):Int)-1=-1 from rfl]<;>rfl)|rfl
def aXT(a:List Nat)(d q k r:Nat):PF:=(((((PF.nil.set 0 (aN a)).set 1 (aN [d])).set 6 (.osl q 1 0 a.length)).set 7 (.int .u64 r)).set 8 (.int .i64 ((k:Int)-1)))
theorem aKF{C:Ctx}(L:ZJ C)(a:List Nat)(d:Nat)(ha:Lim a)(l:0<d)(hd:d<4294967296)(h1:Z' a≤1000)(F:PF)(f0:F 0=some (aN a))(f1:F 1=some (aN [d])) :
  aC.wp C (.seq (.region WY) (.seq (.region WZ) (.seq (.seq (.region XA) (.block 0 (.loop OV))) (.seq (.region OW) .ret)))) (aW [.tmp 4,.tmp 5] (cT (xX (val a) d))) F .nil:=by
 have Y:(Z' a:Int)*((4:Nat):Int)≤140737488355328:=Om;have Z:(Z' a:Int)≤9223372036854775807:=Om;have hz:bgA a.length [PV.int .u32 0]=aP (bgA a.length 0++[]):=by simp[aP]
 simp only[go_sem,WY,f0,bfY,Y,Z,hz];refine aQ λo ho=>?_;simp only[go_sem,WZ,XA,f0,bfY];refine wp_loop (α:=Nat × List Nat × Nat) (λt=>aXT a d o t.1 t.2.2) (λt=>PH.nil.set o (.rows 1 (aP (bgA t.1 0++t.2.1))))
  (λt=>t.1+t.2.1.length=Z' a∧Lim t.2.1∧t.2.2<d∧val t.2.1*d+t.2.2=val (a.drop t.1)) (λt=>t.1) (Z' a,[],0) ⟨by simp,by simp[Lim],l,by simp[val]⟩ ?_ ?_ ?_
 ·unfold aXT
  (repeat' (first|exact c_|refine d_ ?_ ?_))<;>first|(simp only[go_sem,f0,f1,wrap_i64 (Om:-9223372036854775808≤(Z' a:Int)-1) (Om:(Z' a:Int)-1≤9223372036854775807)]<;>rfl)|rfl
 ·exact e_ a_ Sq
 rintro⟨k,S,r⟩ ⟨hk,j,N,e⟩;simp only at hk j N e;simp only[go_sem,OV,Dz,aXT];by_cases h0:0<k
 ·obtain⟨m,rfl⟩:∃m,k=m+1:=⟨k-1,by omega⟩;have A:((m+1:Nat):Int)-1=(m:Int):=Om;have W:(m:Int)≥0:=Om;have w:m<Z' a:=Om;have hlt:(m:Int)<(Z' a:Nat):=Om;have γ:=ha _ (bgD w);have u:val (a.drop m)=a[m]+4294967296*val (a.drop (m+1)):=by rw[biL w];rfl
  have U:=cU a w;generalize hx:a[m]=x at *
  have ex:IntKind.u64.wrap ((x:Nat):Int)=((x:Nat):Int):=bW Om;have ed:IntKind.u64.wrap ((d:Nat):Int)=((d:Nat):Int):=bW Om;have J:shift .shl .u64 (r:Int) 32=some (.int .u64 ((2^32*r:Nat):Int)):=WC (s:=32) Om Om;have O:(2:Nat)^32=4294967296:=by decide
  have B:=orI (a:=2^32*r) (b:=x) (n:=2^32*r+x) Om Om (Nat.two_pow_add_eq_or_of_lt Om r).symm Om;rw[O]at J B;have hq:(4294967296*r+x)/d<4294967296:=by rw[bjK l];have:4294967296*(r+1)≤4294967296*d:=biW _ N;omega
  have V:¬((d:Nat):Int)=0:=Om;have E:IntKind.u64.wrap (Int.tdiv ((4294967296*r+x:Nat):Int) ((d:Nat):Int))=(((4294967296*r+x)/d:Nat):Int):=by rw[show Int.tdiv ((4294967296*r+x:Nat):Int) ((d:Nat):Int)=(((4294967296*r+x)/d:Nat):Int)from rfl];exact bW Om
  have I:Int.tmod ((4294967296*r+x:Nat):Int) ((d:Nat):Int)=(((4294967296*r+x)%d:Nat):Int):=rfl;have ec:IntKind.u32.wrap (((4294967296*r+x)/d:Nat):Int)=(((4294967296*r+x)/d:Nat):Int):=by rw[dY,bhS hq]
  have K:bgA (m+1) 0++S=bgA m 0++(0::S):=by rw[List.replicate_succ',bgX];rfl
  have X:(aP (bgA m 0++(0::S)))[m]?=some [.int .u32 ((0:Nat):Int)]:=by rw[cU _ aY];simp
  have M:(aP (bgA m 0++(0::S))).set m [.int .u32 (((4294967296*r+x)/d:Nat):Int)]=aP (bgA m 0++(((4294967296*r+x)/d)::S)):=by rw[kM,bjU _ _ aY];simp
  simp only[go_sem,A,W,D0,J,U,ex,B,D1,ed,V,E,ec,hlt,K,X,M,n8,I,n9];refine aG (m,((4294967296*r+x)/d)::S,(4294967296*r+x)%d) ⟨by simp only[bhT];omega,λy hy=>?_,bhZ _ l,?_⟩ (by simp only;omega) ?_ (e_ a_ Sq)
  ·rw[bgN]at hy;rcases hy with rfl|hy
   ·exact hq
   ·exact j y hy
  ·simp only[val];rw[u,←e,bhN,bgQ,bhB];have:=bjV (4294967296*r+x) d;rw[bhE d]at this;omega
  ·(repeat' (first|exact c_|refine d_ ?_ ?_))<;>first|(simp only[go_sem,wrap_i64 (Om:-9223372036854775808≤(m:Int)-1) (Om:(m:Int)-1≤9223372036854775807)]<;>rfl)|rfl
 ·have:k=0:=Om;subst this;have A:¬((0:Nat):Int)-1≥0:=by decide
  rw[bhP]at e;have hS:Z' S=Z' a:=Om;have hq:val S=val a/d:=by rw[←e,bhE,Nat.mul_add_div l,bjI N,bhL]
  have β:r=val a%d:=by rw[←e,bhE,Nat.mul_add_mod,bhS N]
  have δ:bgA 0 0++S=S:=by simp
  have hl:=L.trim S j Om;have R:(aP S).take a.length=aP S:=bgR (by rw[dK];omega);simp only[go_sem,A,OW,bjH];refine vM (o:=o) (s:=1) (rs:=aP S) hl Sq (by simp only[go_sem,R,show a.length≤S.length by omega]) ?_;simp only[go_sem];refine aB (L.make r Om) Sq ?_;simp only[go_sem];refine bB (vs:=[aN (aM (val S)),aN (aM r)]) (.inr rfl) .nil Ev a_ ⟨?_,rfl⟩;rw[hq,β];exact .refl _
theorem aZW{B m:Nat}(h:nl B=m+1):32*m<dZ B∧dZ B≤32*(m+1):=by
 refine⟨?_,(sF B (m+1)).2 Om⟩;rcases bgV (32*m) (dZ B)with h1|h1
 ·exact h1
 ·have:=(sF B m).1 h1;omega
theorem aZX{B:Nat}(h:B≠0):2^(dZ B-1)≤B:=by
 rcases bgV B (2^(dZ B-1))with h1|h1
 ·have j:=(sE B _).2 h1;have l:dZ B≠0:=λe=>h (pJ.1 e);omega
 ·exact h1
theorem aKG{C:Ctx}(L:ZJ C)(A B:Nat)(hB:B≠0)(hA:nl A≤512)(Ψ:nl B≤512) :
  JW.wp C (aW I8.res (cT (xX A B))) (PF.args [aN (aM A),aN (aM B)]) .nil:=by
 have R:=bC A;have LB:=bC B;have vA:=aZ A;have vB:=aZ B;have lA:(aM A).length=nl A:=rfl;have lB:(aM B).length=nl B:=rfl;simp only[go_sem,JW,Dv,Dw,I8];refine aB (L.cmp _ _ R LB Om Om) rfl ?_;rw[vA,vB];by_cases c1:A<B
 ·have hc:fJ A B<0:=by simp[fJ,c1]
  simp only[go_sem,hc,Dx];refine aB (L.trim _ R Om) rfl ?_;rw[vA];simp only[go_sem];refine bB (vs:=[.aH,aN (aM A)]) (.inr rfl) .nil rfl a_ ⟨?_,rfl⟩;rw[xX,bjI c1,bhS c1,kO];exact CoL.tup (CoL.cons (.nil 1) (CoL.cons (.refl _) .nil))
 have hc:¬fJ A B<0:=by unfold fJ;rw[aE c1];split<;>decide
 have τ:0<B:=biX hB;have e':nl B≠0:=λh=>hB (mV.1 h);simp only[go_sem,hc,Dy,bfY,lB];by_cases c2:nl B=1
 ·have S:B<4294967296:=by have:=(nJ B 1).1 Om;simpa using this
  have ω:aM B=[B]:=vF hB S;have sh:=aKF (C:=C) L (aM A) B R τ S Om;rw[vA]at sh;simp only[aC.wp,go_sem]at sh;simp only[go_sem,bT (Om:((nl B:Nat):Int)=1)];exact sh _ rfl (by simp only[go_sem,ω])
 obtain⟨m,hm⟩:∃m,nl B=m+1:=⟨nl B-1,by omega⟩;have d':1≤m:=Om;obtain⟨b',β⟩:=aZW hm;obtain⟨n,hn⟩:∃n,n+dZ B=32*(m+1):=⟨32*(m+1)-dZ B,by omega⟩;have δ:n<32:=Om;have K:0<2^n:=bjC aV;have V:B<2^dZ B:=(sE B _).1 (bgG _);have U:=aZX hB;have Y:B*2^n<4294967296^(m+1):=by have:B*2^n<2^dZ B*2^n:=Nat.mul_lt_mul_of_pos_right V K;rw[←Nat.pow_add,show dZ B+n=32*(m+1) by omega,Nat.pow_mul]at this;exact this
 have Ξ:4294967296^m*2147483648≤B*2^n:=by have:2^(dZ B-1)*2^n≤B*2^n:=bhF _ U;rw[←Nat.pow_add,show dZ B-1+n=32*m+31 by omega,Nat.pow_add,Nat.pow_mul]at this;exact this
 have nV:nl (B*2^n)=m+1:=by
  have I:=(nJ (B*2^n) (m+1)).2 Y;rcases bgV (nl (B*2^n)) (m+1)with h|h
  ·have:=(nJ (B*2^n) m).1 Om;have Δ:0<4294967296^m:=bjC aV;omega
  ·omega
 have a':B*2^n≠0:=Nat.mul_ne_zero hB Om;have g':nl (A*2^n)≤nl A+1:=rY (bgG _) (uQ (by rw[Nat.pow_one];exact Nat.pow_lt_pow_right (a:=2) (m:=n) (n:=32) aV δ));have χ:B*2^n≤A*2^n:=bhF _ Om;have h':m+1≤nl (A*2^n):=by rw[←nV];exact kW χ
 have Ω:A*2^n≠0:=Om;have μ:IntKind.i64.wrap (32*((nl B:Nat):Int))=((32*(m+1):Nat):Int):=by rw[wrap_i64 Om Om];omega
 have en:IntKind.i64.wrap (((32*(m+1):Nat):Int)-((dZ B:Nat):Int))=(n:Int):=by rw[wrap_i64 Om Om];omega
 have bt:=L.bits (aM B) LB Om;rw[vB]at bt;have ua:=L.upM (aM A) n R Om Om (λh=>by have:=jU R;rw[h]at this;omega);have ub:=(L.upM (aM B) n LB Om Om (λh=>by have:=jU LB;rw[h]at this;omega)).freeze;rw[vA]at ua;rw[vB]at ub;have tail:∀(o:Nat)(F:PF)(H:PH),F 0=some (aN (aM A))→F 1=some (aN (aM B))→F 10=some (.int .i64 n)→F 11=some (.osl o 1 0 (nl (A*2^n)+2))→F 12=some (aN (aM (B*2^n)))→H o=some (.rows 1 (aP (aM (A*2^n))++[[.int .u32 0],[.int .u32 0]])) →
   aC.wp C (.seq (.region OX) (.seq (.region OY) (.seq (.region OZ) (.seq (.seq (.region PA) (.block 2 (.loop DT))) (.seq (.region PI) .ret))))) (aW [.tmp 4,.tmp 5] (cT (xX A B))) F H:=by
  intro o F H f0 f1 ν f11 ξ hH;have LU:=bC (A*2^n);have LV:=bC (B*2^n);have vU:=aZ (A*2^n);have vV:=aZ (B*2^n);have lU:(aM (A*2^n)).length=nl (A*2^n):=rfl;have lV:(aM (B*2^n)).length=m+1:=nV;have eu:IntKind.i64.wrap (((nl (A*2^n):Nat):Int)+1)=((nl (A*2^n)+1:Nat):Int):=eT Om;have b1:((nl (A*2^n)+1:Nat):Int)≤((nl (A*2^n)+2:Nat):Int):=Om;simp only[go_sem,OX,f11,f0,ν];refine aB ua.freeze rfl ?_;obtain⟨e,c'⟩:∃e,nl (A*2^n)+1-(m+1)=e:=⟨_,rfl⟩;have Γ:nl (A*2^n)+1=e+(m+1):=Om;have em:IntKind.i64.wrap (((m+1:Nat):Int)-1)=((m:Nat):Int):=by rw[wrap_i64 Om Om];omega
  have u:m<(aM (B*2^n)).length:=Om;have rm:=cU (aM (B*2^n)) u;have tl:=LV _ (bgD u);have htop:0<(aM (B*2^n))[m]:=by
   have I:=dP (aM (B*2^n)) u;rw[bgR Om,vV]at I;have h2:=jU (LV.take m);rw[bgP,biP Om]at h2;have Δ:0<4294967296^m:=bjC aV;rcases biC (aM (B*2^n))[m]with h|h
   ·rw[h]at I;omega
   ·exact h
  have κ:2147483648≤(aM (B*2^n))[m]:=by
   have I:=dP (aM (B*2^n)) u;rw[bgR Om,vV]at I;have h2:=jU (LV.take m);rw[bgP,biP Om]at h2;rcases bgV (aM (B*2^n))[m] 2147483648 with h|h
   ·exfalso;have h3:4294967296^m*((aM (B*2^n))[m]+1)≤4294967296^m*2147483648:=biW _ h;rw[bgQ,bjB]at h3;omega
   ·exact h
  have y:=aQU (C:=C) L (A*2^n) n o (nl (A*2^n)+1) e;have hI:vS (A*2^n) (val (aM (B*2^n))) (m+1) (nl (A*2^n)+1) e e (aM (A*2^n)++[0]) (bgA e 0):=by
   refine⟨by rw[bgB,lU];rfl,bjP,LU.app λx O=>by simp at O;omega,EH _,?_,?_,λi x _ O=>apH O⟩
   ·rw[lJ,vU,AF];simp[val]
   ·have Φ:(aM (A*2^n)++[0]).length=nl (A*2^n)+1:=by rw[bgB,lU];rfl
    have Λ:val (aM (A*2^n)++[0])=A*2^n:=by rw[lJ,vU];simp[val]
    rw[DD (LU.app λx O=>by simp at O;omega) Om,Λ,vV,bjK (bjC aV)];have I:A*2^n<4294967296^nl (A*2^n):=(nJ _ _).1 (bgG _);have O:nl (A*2^n)=m+e:=Om;rw[O,Nat.pow_add]at I;have h2:4294967296^m*4294967296^e≤(B*2^n)*4294967296^e:=bhF _ Om;omega
  have M:aP (aM (A*2^n))++[[PV.int .u32 0],[PV.int .u32 0]]=gT (aM (A*2^n)++[0]) (aP [0]):=by simp[gT,aP]
  rw[M]at hH;generalize θ:(aM (B*2^n))[m]=ι at *
  have et:IntKind.u64.wrap ((ι:Nat):Int)=((ι:Nat):Int):=bW Om;have k2:IntKind.i64.wrap (((nl (A*2^n)+1:Nat):Int)-((m+1:Nat):Int))=((e:Nat):Int):=by rw[wrap_i64 Om Om];omega
  have k3:((e:Nat):Int)*((4:Nat):Int)≤140737488355328:=Om;have k4:((e:Nat):Int)≤9223372036854775807:=Om;have hz:bgA e [PV.int .u32 0]=aP (bgA e 0):=by simp[aP]
  have jq:IntKind.i64.wrap ((e:Int)-1)=(e:Int)-1:=wrap_i64 Om Om;simp only[go_sem,bfY,lU,eu,b1,OY,ξ,lV,em,rm,et,OZ,k2,k3,k4,hz];refine aQ λE η=>?_;have ε:E≠o:=by rintro rfl;rw[hH]at η;cases η
  have l:¬o=E:=λh=>ε h.symm;have w:=y E m (aM (B*2^n)) [0] ε LV lV (by rw[θ];exact htop) Γ Om _ hI;rw[θ]at w;simp only[go_sem]at w;simp only[go_sem,PA,jq];refine w _ _ _ ?_ ?_ ?_
  ·unfold duF;exact Lq
  ·refine e_ (e_ a_ ?_) ?_
   ·simp only[go_sem,l,hH]
   ·simp only[go_sem]
  clear w y;intro X Q F1 H1 j J W;have ο:F1 10=some (.int .i64 n):=J 10 _ (by unfold duF;simp only[go_sem]);have ρ:F1 11=some (.osl o 1 0 (nl (A*2^n)+1)):=J 11 _ (by unfold duF;simp only[go_sem]);have σ:F1 14=some (.osl E 1 0 e):=J 14 _ (by unfold duF;simp only[go_sem]);have ζ:H1 o=some (.rows 1 (gT X (aP [0]))):=W o _ (by simp only[go_sem,l]);have Θ:H1 E=some (.rows 1 (aP Q)):=W E _ Sq;have hu:val X<val (aM (B*2^n)):=by have:=j.r;rwa[bhP]at this
  have N:=j.v;rw[vV]at hu N;have φ:val Q=A/B:=by
   have:A*2^n/(B*2^n)=val Q:=by rw[←N,Nat.add_mul_div_right _ _ Om,bjI hu,bgL]
   rw[←this,Nat.mul_div_mul_right _ _ K]
  have ψ:val X/2^n=A%B:=by
   have:A*2^n%(B*2^n)=val X:=by rw[←N,Nat.add_mul_mod_self_right,bhS hu]
   rw[←this,Nat.mul_mod_mul_right,Nat.mul_div_cancel _ K]
  have lX:=j.lu';have lQ:=j.lq';have υ:(aP Q).take e=aP Q:=bgR (by rw[dK];omega);have α:(gT X (aP [0])).take (nl (A*2^n)+1)=aP X:=by rw[gT,List.take_append_of_le_length (by rw[dK];omega),bgR (by rw[dK];omega)]
  have Z:nl (A*2^n)+1≤(gT X (aP [0])).length:=by rw[gT,bgB,dK];omega
  have γ:(gT X (aP [0])).map (λr=>r.map (PV.dM E 1 (aP Q)))=gT X (aP [0]):=by
   have:gT X (aP [0])=aP (X++[0]):=by simp[gT,aP]
   rw[this];exact zU _ _ _ _
  have nX:=kL j.limU;have t1:=L.trim Q j.limQ Om;have t2:=L.trim X j.limU Om;have dn:=L.down (aM (val X)) n (bC _) (by rw[bJ];omega) Om;rw[aZ,ψ]at dn;rw[φ]at t1;generalize aP [0]=Z0 at ζ α Z γ;simp only[go_sem,PI,σ];refine vM (o:=E) (s:=1) (rs:=aP Q) t1 Θ (by simp only[go_sem,υ,show e≤Q.length by omega]) ?_;simp only[go_sem,ρ,l];refine vM (o:=o) (s:=1) (rs:=gT X Z0) t2 (by simp only[go_sem,l,ζ,cI.frz,γ]) (by simp only[go_sem,α,Z]) ?_;simp only[go_sem,ο];refine aB dn rfl ?_;simp only[go_sem];exact bB (vs:=[aN (aM (A/B)),aN (aM (A%B))]) (.inr rfl) .nil rfl a_ ⟨.refl _,rfl⟩
 simp only[aC.wp,go_sem]at tail;simp only[go_sem,bD (Om:¬((nl B:Nat):Int)=1),oa,bfY,lB];refine aB bt rfl ?_;simp only[go_sem,μ,en,oc];refine eR ua rfl a_ λr H1 hr _=>?_;have β:(2:Nat)*1≤16777216:=by decide
 rcases hr with⟨h0,_⟩|⟨o,rs,rfl,rfl,hrl,hrt⟩
 ·exfalso;have:=congrArg List.length h0;rw[dK,bJ]at this;simp at this;omega
 rw[PH.tU];rw[dK,bJ]at hrl hrt;simp only[go_sem,β,dK,bJ];refine apB (src:=[[.int .u32 0],[.int .u32 0]]) (rs:=rs) rfl ?_ Sq hrl ?_ λo' f'=>?_
 ·unfold roomFor;simp only[maxLen,bhT,biM];omega
 ·rw[hrt];simp only[go_sem];refine aB ub rfl ?_;simp only[go_sem];exact tail o _ _ rfl rfl rfl rfl rfl Sq
 ·rw[hrt];simp only[go_sem];refine aB ub rfl ?_;simp only[go_sem];exact tail o' _ _ rfl rfl rfl rfl rfl Sq
def bL(C:Ctx)(k:Nat)(e:aX):Prop:=∀(args:List PV)(H:PH)(R:PV→PH→Prop),Z' args≤e.ntmps→e.body.wp C (aW e.res R) (PF.args args) H→aI C k args H R
theorem bL.go{C:Ctx}{k:Nat}{e:aX}(r:bL C k e){args:List PV}{H:PH}{R:PV→PH→Prop}(h:e.body.wp C (aW e.res R) (PF.args args) H)(j:Nat.ble args.length e.ntmps=true):aI C k args H R:=r args H R (Nat.le_of_ble_eq_true j) h
abbrev EY(C:Ctx):Prop:=∀n:Nat,n<100→aI C 195 [.int .i64 n] .nil (aK (.str (dH n)))
section
variable {C:Ctx} {F F':PF} {H:PH}
theorem eD(e:F.le F'){x:aS}{v:PV}(h:x.ev F=some v):x.ev F'=some v:=by
 cases x
 ·exact e _ _ h
 all_goals exact h
theorem QP(e:F.le F'):∀{xs:List aS}{vs:List PV},aS.evs F xs=some vs→aS.evs F' xs=some vs
 |[],_,h=>h
 |x::xs,vs,h=>by
  rw[IV]at h ⊢;cases l:x.ev F with
  |none=>simp[l]at h
  |some v=>
   cases j:aS.evs F xs with
   |none=>simp[j]at h
   |some ws =>rw[l,j]at h;rw[eD e l,QP e j];exact h
theorem Wo(e:F.le F'):∀{ps:List (Nat × Nat × aS)}{cs ds:List PV},xA cs F ps=some ds→xA cs F' ps=some ds
 |[],_,_,h=>h
 |(u,size,x)::ps,cs,ds,h=>by
  simp only[xA]at h ⊢;cases j:x.ev F with
  |none=>simp[j]at h
  |some v=>
   rw[j]at h;rw[eD e j];simp only at h ⊢;split at h
   ·rename_i l;rw[aL l];exact Wo e h
   ·cases h
theorem MY(e:F.le F'){size:Nat}:∀{ps:List (Nat × aS)}{cs ds:List (List PV)},mH size cs F ps=some ds→mH size cs F' ps=some ds
 |[],_,_,h=>h
 |(i,x)::ps,cs,ds,h=>by
  simp only[mH]at h ⊢;cases j:x.ev F with
  |none=>simp[j]at h
  |some v=>
   rw[j]at h;rw[eD e j];simp only at h ⊢;split at h
   ·rename_i l;rw[aL l];exact MY e h
   ·cases h
theorem ZO(e:F.le F'){d n:Int}{x:Option aS}(h:bnd F d x=some n):bnd F' d x=some n:=by
 cases x with
 |none=>exact h
 |some x=>
  simp only[bnd]at h ⊢;cases j:x.ev F with
  |none=>simp[j]at h
  |some v=>rw[eD e j,←j];exact h
theorem agJ{op:POp}{v:PV}(j:F.le F')(h:aT op F H=some v):aT op F' H=some v:=by
 cases op
 case mv x=>exact eD j h
 case pick c a b=>
  simp only[aT]at h ⊢;cases I:c.ev F with
  |none=>simp[I]at h
  |some t=>
   rw[I]at h;rw[eD j I];cases t<;>simp only at h ⊢<;>try cases h
   rename_i t;cases t
   ·simp only[bjE,if_false]at h ⊢;exact eD j h
   ·simp only[if_true]at h ⊢;exact eD j h
 case same x=>
  simp only[aT]at h ⊢;cases e:x.ev F with
  |none=>simp[e]at h
  |some a=>rw[eD j e,←e];exact h
 case un o x=>
  simp only[aT]at h ⊢;cases e:x.ev F with
  |none=>simp[e]at h
  |some a=>rw[eD j e,←e];exact h
 case conv k x=>
  simp only[aT]at h ⊢;cases e:x.ev F with
  |none=>simp[e]at h
  |some a=>rw[eD j e,←e];exact h
 case beY x=>
  simp only[aT]at h ⊢;cases e:x.ev F with
  |none=>simp[e]at h
  |some a=>rw[eD j e,←e];exact h
 case bfP o x=>
  simp only[aT]at h ⊢;cases e:x.ev F with
  |none=>simp[e]at h
  |some a=>rw[eD j e,←e];exact h
 case field o n x=>
  simp only[aT]at h ⊢;cases e:x.ev F with
  |none=>simp[e]at h
  |some a=>rw[eD j e,←e];exact h
 case bfM x=>
  simp only[aT]at h ⊢;cases e:x.ev F with
  |none=>simp[e]at h
  |some a=>rw[eD j e,←e];exact h
 case isNil n x=>
  simp only[aT]at h ⊢;cases e:x.ev F with
  |none=>simp[e]at h
  |some a=>rw[eD j e,←e];exact h
 case lenM x=>
  simp only[aT]at h ⊢;cases e:x.ev F with
  |none=>simp[e]at h
  |some a=>rw[eD j e,←e];exact h
 case bfX x=>
  simp only[aT]at h ⊢;cases e:x.ev F with
  |none=>simp[e]at h
  |some a=>rw[eD j e,←e];exact h
 case extract x i=>
  simp only[aT]at h ⊢;cases e:x.ev F with
  |none=>simp[e]at h
  |some a=>rw[eD j e,←e];exact h
 case beZ x=>
  simp only[aT]at h ⊢;cases e:x.ev F with
  |none=>simp[e]at h
  |some a=>rw[eD j e,←e];exact h
 case len x=>
  simp only[aT]at h ⊢;cases e:x.ev F with
  |none=>simp[e]at h
  |some a=>rw[eD j e,←e];exact h
 case box r x=>
  cases r
  ·cases h
  simp only[aT]at h ⊢;cases e:x.ev F with
  |none=>simp[e]at h
  |some a=>rw[eD j e,←e];exact h
 case load n p=>
  cases n
  all_goals
   simp only[aT]at h ⊢;cases e:p.ev F with
   |none=>simp[e]at h
   |some a=>rw[eD j e,←e];exact h
 case bin o x y=>
  simp only[aT]at h ⊢;cases e:x.ev F with
  |none=>simp[e]at h
  |some a=>
   cases A:y.ev F with
   |none=>simp[e,A]at h
   |some b=>rw[eD j e,eD j A,←e,←A];exact h
 case eqb n x y=>
  simp only[aT]at h ⊢;cases e:x.ev F with
  |none=>simp[e]at h
  |some a=>
   cases A:y.ev F with
   |none=>simp[e,A]at h
   |some b=>rw[eD j e,eD j A,←e,←A];exact h
 case eqs n k x y=>
  simp only[aT]at h ⊢;cases e:x.ev F with
  |none=>simp[e]at h
  |some a=>
   cases A:y.ev F with
   |none=>simp[e,A]at h
   |some b=>rw[eD j e,eD j A,←e,←A];exact h
 case bfC s x i=>
  simp only[aT]at h ⊢;cases e:x.ev F with
  |none=>simp[e]at h
  |some a=>
   cases A:i.ev F with
   |none=>simp[e,A]at h
   |some b=>rw[eD j e,eD j A,←e,←A];exact h
 case idxA n s x i=>
  simp only[aT]at h ⊢;cases e:x.ev F with
  |none=>simp[e]at h
  |some a=>
   cases A:i.ev F with
   |none=>simp[e,A]at h
   |some b=>rw[eD j e,eD j A,←e,←A];exact h
 case idxV n s g x i=>
  simp only[aT]at h ⊢;cases e:x.ev F with
  |none=>simp[e]at h
  |some a=>
   cases A:i.ev F with
   |none=>simp[e,A]at h
   |some b=>rw[eD j e,eD j A,←e,←A];exact h
 case bfN x i=>
  simp only[aT]at h ⊢;cases e:x.ev F with
  |none=>simp[e]at h
  |some a=>
   cases A:i.ev F with
   |none=>simp[e,A]at h
   |some b=>rw[eD j e,eD j A,←e,←A];exact h
 case bfG m x y=>
  simp only[aT]at h ⊢;cases e:x.ev F with
  |none=>simp[e]at h
  |some a=>
   cases A:y.ev F with
   |none=>simp[e,A]at h
   |some b=>rw[eD j e,eD j A,←e,←A];exact h
 case lookup sh z x k ok=>
  simp only[aT]at h ⊢;cases e:x.ev F with
  |none=>simp[e]at h
  |some a=>
   cases A:k.ev F with
   |none=>simp[e,A]at h
   |some b=>rw[eD j e,eD j A,←e,←A];exact h
 case build z ps =>simp only[aT,bgM]at h ⊢;obtain⟨cs,B,E⟩:=h;exact⟨cs,Wo j B,E⟩
 case beQ r s l z ps=>
  cases r
  ·cases h
  simp only[aT]at h ⊢;split at h
  ·rename_i I;rw[aL I];rw[bgM]at h ⊢;obtain⟨cs,B,E⟩:=h;exact⟨cs,MY j B,E⟩
  ·cases h
 case mkfn n cs =>simp only[aT,bgM]at h ⊢;obtain⟨vs,B,E⟩:=h;exact⟨vs,QP j B,E⟩
 case sliceA n s x lo hi mx=>
  cases lo<;>cases hi<;>cases mx<;>simp only[aT]at h ⊢<;>try cases h
  cases e:x.ev F with
  |none=>simp[e]at h
  |some a=>rw[eD j e,←e];exact h
 case bfI x lo hi=>
  simp only[aT]at h ⊢;cases e:x.ev F with
  |none=>simp[e]at h
  |some a=>
   rw[e]at h;rw[eD j e];cases a<;>simp only at h ⊢<;>try cases h
   cases B:bnd F 0 lo with
   |none=>simp[B]at h
   |some l=>
    rename_i s;cases E:bnd F s.length hi with
    |none=>simp[B,E]at h
    |some u=>rw[ZO j B,ZO j E,←B,←E];exact h
 case slice s x lo hi mx=>
  simp only[aT]at h ⊢;cases e:x.ev F with
  |none=>simp[e]at h
  |some a=>
   rw[e]at h;rw[eD j e];have K:∀(d:Int)(w:PV),(match bnd F 0 lo,bnd F d hi with
     |some a1,some a2=>match(generalizing:=false) mx with
      |none=>PV.slice s w a1 a2 none
      |some m=>(bnd F 0 (some m)).bind λm=>PV.slice s w a1 a2 (some m)
     |_,_=>none)=some v→(match bnd F' 0 lo,bnd F' d hi with
     |some a1,some a2=>match(generalizing:=false) mx with
      |none=>PV.slice s w a1 a2 none
      |some m=>(bnd F' 0 (some m)).bind λm=>PV.slice s w a1 a2 (some m)
     |_,_=>none)=some v:=by
    intro d w h;cases B:bnd F 0 lo with
    |none=>simp[B]at h
    |some l=>
     cases E:bnd F d hi with
     |none=>simp[B,E]at h
     |some u=>
      rw[B,E]at h;rw[ZO j B,ZO j E];cases mx with
      |none=>exact h
      |some m=>
       simp only at h ⊢;cases J:bnd F 0 (some m)with
       |none=>simp[J]at h
       |some q=>rw[ZO j J,←J];exact h
   cases a<;>simp only at h ⊢<;>first|exact K _ _ h|cases h
 all_goals exact h
theorem Vu{op:POp}{r:(Nat→PV) × cI}(e:F.le F')(h:eU op F=some r):eU op F'=some r:=by
 cases op
 case box b x=>
  cases b
  ·simp only[eU]at h ⊢;cases j:x.ev F with
   |none=>simp[j]at h
   |some a=>rw[eD e j,←j];exact h
  ·cases h
 case beQ b s l z ps=>
  cases b
  ·simp only[eU]at h ⊢;split at h
   ·rename_i A;rw[aL A];rw[bgM]at h ⊢;obtain⟨cs,w,y⟩:=h;exact⟨cs,MY e w,y⟩
   ·cases h
  ·cases h
 case beT s b z l c=>
  simp only[eU]at h ⊢;cases j:l.ev F with
  |none=>simp[j]at h
  |some a=>
   cases u:c.ev F with
   |none=>simp[j,u]at h
   |some b=>rw[eD e j,eD e u,←j,←u];exact h
 all_goals exact h
theorem apF{op:POp}{K:PV→PH→Prop}(e:F.le F')(h:dL op F H K):dL op F' H K:=by
 cases op
 case store n x y=>
  simp only[dL]at h ⊢;cases j:x.ev F with
  |none=>simp[j]at h
  |some a=>
   cases l:y.ev F with
   |none=>simp[j,l]at h
   |some b=>rw[eD e j,eD e l];rw[j,l]at h;exact h
 case append s b x y=>
  simp only[dL]at h ⊢;cases j:x.ev F with
  |none=>simp[j]at h
  |some a=>
   cases l:y.ev F with
   |none=>simp[j,l]at h
   |some b=>rw[eD e j,eD e l];rw[j,l]at h;exact h
 case bfD sh x y z=>
  simp only[dL]at h ⊢;cases j:x.ev F with
  |none=>simp[j]at h
  |some a=>
   cases l:y.ev F with
   |none=>simp[j,l]at h
   |some b=>
    cases u:z.ev F with
    |none=>simp[j,l,u]at h
    |some c=>rw[eD e j,eD e l,eD e u];rw[j,l,u]at h;exact h
 case insert sh x y z=>
  simp only[dL]at h ⊢;cases j:x.ev F with
  |none=>simp[j]at h
  |some a=>
   cases l:y.ev F with
   |none=>simp[j,l]at h
   |some b=>
    cases u:z.ev F with
    |none=>simp[j,l,u]at h
    |some c=>rw[eD e j,eD e l,eD e u];rw[j,l,u]at h;exact h
 all_goals exact h
theorem PF.a6H(l:F.le F')(i:Nat)(v:PV):(F.set i v).le (F'.set i v):=by
 intro j u h;rw[qK]at h ⊢;split at h
 ·rename_i e;rw[aL e];exact h
 ·rename_i e;rw[aE e];exact l j u h
theorem PF.BM(e:F.le F')(d:Option Nat)(v:PV):(F.put d v).le (F'.put d v):=by
 cases d with
 |none=>exact e
 |some d=>exact PF.a6H e d v
theorem PF.a5J(e:F.le F')(o s:Nat)(rs:List (List PV)):(F.frz o s rs).le (F'.frz o s rs):=by
 intro j u h;rw[tT,bgM]at h ⊢;obtain⟨x,l,w⟩:=h;exact⟨x,e j x l,w⟩
theorem PF.le_trans{A B D:PF}(h:A.le B)(k:B.le D):A.le D:=λi v hi=>k i v (h i v hi)
theorem mP.up{l:PF}{u:PH}(h:mP F H l u):∀{F':PF},F.le F'→∃e,mP F' H e u∧l.le e:=by
 induction h with
 |refl F H=>exact λ{F'} j=>⟨F',.refl _ _,j⟩
 |step o y _ A =>intro F' j;obtain⟨e,w,x⟩:=A (PF.a5J j o _ _);exact⟨e,.step o y w,x⟩
theorem yw{name:Nat}{args:Option (List PV)}{d:Option Nat}{K1 K2:PF→PH→Prop}(y:∀F F' H,F.le F'→K1 F H→K2 F' H)(j:F.le F'){e:Option (List PV)}(A:∀vs,args=some vs→e=some vs)(h:AH C name args d K1 F H):AH C name e d K2 F' H:=by
 obtain⟨vs,H0,R,l,u,w,x⟩:=h;exact⟨vs,H0,R,A _ l,u,w,λr H' a b=>y _ _ _ (PF.BM j d r) (x r H' a b)⟩
theorem abN{cs:List PV}{args:List aS}(e:F.le F')(vs:List PV)(h:(aS.evs F args).map (·++cs)=some vs):(aS.evs F' args).map (·++cs)=some vs:=by
 rw[bgM]at h ⊢;obtain⟨x,j,l⟩:=h;exact⟨x,QP e j,l⟩
theorem arO{name:Nat}{args:List aS}{cs:List PV}{d:Option Nat}{K1 K2:PF→PH→Prop}(l:∀F F' H,F.le F'→K1 F H→K2 F' H)(e:F.le F')(h:kF C name args cs d K1 F H):kF C name args cs d K2 F' H:=by
 rcases h with h|⟨F1,H1,h1,h2⟩
 ·exact .inl (yw l e (abN e) h)
 ·obtain⟨j,k1,k2⟩:=h1.up e;exact .inr ⟨j,H1,k1,yw l k2 (abN k2) h2⟩
theorem ck{op:POp}{d:Option Nat}{K1 K2:PF→PH→Prop}(u:∀F F' H,F.le F'→K1 F H→K2 F' H)(e:F.le F')(h:sX (eU op F) d K1 F H):sX (eU op F') d K2 F' H:=by
 obtain⟨y,x,j,l⟩:=h;exact⟨y,x,Vu e j,λo w=>u _ _ _ (PF.BM e d _) (l o w)⟩
theorem Gu{op:POp}{d:Option Nat}{K1 K2:PF→PH→Prop}(u:∀F F' H,F.le F'→K1 F H→K2 F' H)(e:F.le F')(h:cX (aT op F H) d K1 F H):cX (aT op F' H) d K2 F' H:=by
 obtain⟨v,j,l⟩:=h;exact⟨v,agJ e j,u _ _ _ (PF.BM e d v) l⟩
theorem U9{op:POp}{d:Option Nat}{K1 K2:PF→PH→Prop}(j:∀F F' H,F.le F'→K1 F H→K2 F' H)(e:F.le F')(h:dL op F H λr H'=>K1 (F.put d r) H'):dL op F' H λr H'=>K2 (F'.put d r) H':=
 apF e (KI (λv H' l=>j _ _ _ (PF.BM e d v) l) h)
theorem aZN{op:POp}{d:Option Nat}{K1 K2:PF→PH→Prop}(j:∀F F' H,F.le F'→K1 F H→K2 F' H)(e:F.le F')(h:wpOp C op d K1 F H):wpOp C op d K2 F' H:=by
 cases op
 case call n a=>exact arO j e h
 case bfO x a=>
  have w:DF C (x.ev F) a d K1 F H:=h;show DF C (x.ev F') a d K2 F' H;cases J:x.ev F with
  |none=>rw[J]at w;exact w.elim
  |some u=>
   rw[eD e J];rw[J]at w;cases u<;>first|exact arO j e w|exact w.elim|skip
   obtain⟨l,M,A⟩:=w;refine⟨l,M,?_⟩;rcases A with⟨vs,H0,R,A,E,I,h5⟩|⟨F1,H1,k1,vs,H0,R,A,E,I,h5⟩
   ·exact .inl ⟨vs,H0,R,QP e A,E,I,λr H' p q=>j _ _ _ (PF.BM e d r) (h5 r H' p q)⟩
   ·obtain⟨B,k2,K⟩:=k1.up e;exact .inr ⟨B,H1,k2,vs,H0,R,QP K A,E,I,λr H' p q=>j _ _ _ (PF.BM K d r) (h5 r H' p q)⟩
 case box r x=>cases r<;>first|exact ck (op:=.box false x) j e h|exact Gu (op:=.box true x) j e h
 case beQ r s l z ps=>cases r<;>first|exact ck (op:=.beQ false s l z ps) j e h|exact Gu (op:=.beQ true s l z ps) j e h
 case alloc cs=>exact ck (op:=.alloc cs) j e h
 case beT s b z l c=>exact ck (op:=.beT s b z l c) j e h
 case bfT sh=>exact ck (op:=.bfT sh) j e h
 case store n x y=>exact U9 (op:=.store n x y) j e h
 case append s b x y=>exact U9 (op:=.append s b x y) j e h
 case bfD sh x y z=>exact U9 (op:=.bfD sh x y z) j e h
 case insert sh x y z=>exact U9 (op:=.insert sh x y z) j e h
 all_goals exact Gu j e h
theorem dj{K1 K2:PF→PH→Prop}(l:∀F F' H,F.le F'→K1 F H→K2 F' H):∀{ops:List bN}{F F':PF}{H:PH},F.le F'→wpOps C ops K1 F H→wpOps C ops K2 F' H
 |[],_,_,_,j,h=>l _ _ _ j h
 |⟨d,op,none⟩::u,_,_,_,j,h=>aZN (λ_ _ _ a b=>dj l a b) j h
 |⟨d,op,some (t,w)⟩::u,F,F',H,j,h=>by
  rw[arA]at h ⊢;unfold EG at h;split at h
  ·rename_i b hb;rw[j t _ hb];unfold EG;simp only;split at h
   ·rename_i e;rw[aL e];exact aZN (λ_ _ _ a b=>dj l a b) j h
   ·rename_i e;rw[aE e];exact dj l (PF.BM j d _) h
  ·rename_i hb;rw[j t _ hb];exact dj l (PF.BM j d _) h
  ·exact h.elim
theorem afZ{Hs:PH}{S:Spec}{st:Bool}{op:POp}{K:PV→PH→Prop}(e:F.le F')(h:(op.kind F).run C Hs S st K H):(op.kind F').run C Hs S st K H:=by
 have new:∀op:POp,(Kind.new (eU op F)).run C Hs S st K H→(Kind.new (eU op F')).run C Hs S st K H:=λop h=>by obtain⟨N,x,j,w⟩:=h;exact⟨N,x,Vu e j,w⟩
 have calm:∀op:POp,(Kind.calm (aT op F)).run C Hs S st K H→(Kind.calm (aT op F')).run C Hs S st K H:=λop h=>by obtain⟨v,j,w⟩:=h;exact⟨v,agJ e j,w⟩
 have M:∀op:POp,(Kind.write λH K=>dL op F H K).run C Hs S st K H→(Kind.write λH K=>dL op F' H K).run C Hs S st K H:=λop h=>apF (op:=op) e (show dL op F H (λr H'=>Hs.le H'∧K r H')from h);cases op
 case call n a =>obtain⟨vs,D,R,j,w⟩:=h;exact⟨vs,D,R,QP e j,w⟩
 case bfO x a=>
  unfold POp.kind at h ⊢;simp only at h ⊢;cases A:x.ev F with
  |none=>rw[A]at h;exact h.elim
  |some u=>
   rw[A]at h;rw[eD e A];cases u<;>simp only at h ⊢<;>first|exact h|skip
   obtain⟨vs,D,R,j,w⟩:=h;exact⟨vs,D,R,abN e _ j,w⟩
 case insert sh x k v=>
  obtain⟨o,J,I,u,g,j,w⟩:=h;refine⟨o,J,I,u,g,?_,w⟩;cases A:x.ev F with
  |none=>simp[A]at j
  |some a=>
   cases B:k.ev F with
   |none=>simp[A,B]at j
   |some b=>
    cases E:v.ev F with
    |none=>simp[A,B,E]at j
    |some c=>rw[eD e A,eD e B,eD e E];rw[A,B,E]at j;exact j
 case box r x=>cases r<;>first|exact new (.box false x) h|exact calm (.box true x) h
 case beQ r s l z ps=>cases r<;>first|exact new (.beQ false s l z ps) h|exact calm (.beQ true s l z ps) h
 case alloc cs=>exact new (.alloc cs) h
 case beT s b z l c=>exact new (.beT s b z l c) h
 case bfT sh=>exact new (.bfT sh) h
 case store n x y=>exact M (.store n x y) h
 case append s b x y=>exact M (.append s b x y) h
 case bfD sh x y z=>exact M (.bfD sh x y z) h
 all_goals exact calm _ h
theorem aUH{Hs:PH}{S:Spec}{st:Bool}{i:bN}{K:PV→PH→Prop}(j:F.le F')(h:(i.kind F).run C Hs S st K H):(i.kind F').run C Hs S st K H:=by
 unfold bN.kind at h ⊢;split
 ·rename_i l;rw[l]at h;exact afZ j h
 ·rename_i t u l;rw[l]at h;simp only at h;split at h
  ·rename_i b hb;rw[j t _ hb];simp only;split at h
   ·rename_i e;rw[aL e];exact afZ j h
   ·rename_i e;rw[aE e];exact h
  ·rename_i hb;rw[j t _ hb];exact h
  ·exact h.elim
theorem aRR{Hs:PH}{S:Spec}{K1 K2:PF→PH→Prop}(u:∀F F' H,F.le F'→K1 F H→K2 F' H):∀{ops:List (bN × Bool)}{F F':PF}{H:PH},Hs.le H→F.le F'→wpD C Hs S ops K1 F H→wpD C Hs S ops K2 F' H
 |[],_,_,_,_,e,h=>u _ _ _ e h
 |i::j,F,F',H,y,e,h=>by have w:(i.1.kind F).run C Hs S i.2 (λv H'=>wpD C Hs S j K1 (F.put i.1.dst v) H') H:=h;exact aUH e (Kind.zK (zE _ _) (λv H' l x=>aRR u l (PF.BM e _ v) x) y w)
class Up(K:cQ):Prop where
 up:∀{e:oW}{F F':PF}{H:PH},F.le F'→K e F H→K e F' H
theorem uW:∀(c:aC){K1 K2:cQ}(_:∀e F F' H,F.le F'→K1 e F H→K2 e F' H){F F':PF}{H:PH},F.le F'→c.wp C K1 F H→c.wp C K2 F' H
 | .skip,_,_,u,_,_,_,l,h=>u _ _ _ _ l h
 | .region ops,_,_,u,_,_,_,l,h=>dj (u .normal) l h
 | .draw ops,_,_,u,_,_,_,l,⟨Hs,S,y,J⟩=>⟨Hs,S,y,aRR (u .normal) y l J⟩
 | .seq a b,K1,K2,u,_,_,_,l,h=>uW a (K1:=kJ C (b.wp C) K1) (K2:=kJ C (b.wp C) K2) (λe F F' H x w=>by
   cases e with
   |normal=>exact uW b u x w
   |exit id=>exact u (.exit id) _ _ _ x w
   |ret=>exact u .ret _ _ _ x w) l h
 | .cond c a b,K1,K2,u,F,F',H,l,h=>by
  rw[aYT]at h ⊢;unfold jb at h;split at h
  ·rename_i t U;rw[eD l U];unfold jb;simp only;split at h
   ·rename_i e;rw[aL e];exact uW a u l h
   ·rename_i e;rw[aE e];exact uW b u l h
  ·exact h.elim
 | .block id c,K1,K2,u,_,_,_,l,h=>uW c (K1:=fN id K1) (K2:=fN id K2) (λe F F' H x w=>by
   cases e with
   |normal=>exact u .normal _ _ _ x w
   |exit j=>
    rw[MV]at w ⊢;split at w
    ·rename_i e;rw[aL e];exact u .normal _ _ _ x w
    ·rename_i e;rw[aE e];exact u (.exit j) _ _ _ x w
   |ret=>exact u .ret _ _ _ x w) l h
 | .loop c,K1,K2,u,F,F',H,l,⟨α,E,Hs,I,m,M,F1,K,y,J,N,O,h5⟩=>by
  obtain⟨A,k1,k2⟩:=y.up l;refine⟨α,E,Hs,I,m,M,A,K,k1,J,PF.le_trans N k2,O,λa R=>?_⟩;refine uW c (K1:=fZ E Hs I m (m a) K1) (K2:=fZ E Hs I m (m a) K2) (λe F F' H x w=>?_) PF.le_refl (h5 a R);cases e with
  |normal =>obtain⟨b,F2,H2,X,Y,Z,z4,z5⟩:=w;obtain⟨B,V,W⟩:=X.up x;exact⟨b,B,H2,V,Y,Z,PF.le_trans z4 W,z5⟩
  |exit id=>exact u (.exit id) _ _ _ x w
  |ret=>exact u .ret _ _ _ x w
 | .exit id,_,_,u,_,_,_,l,h=>u (.exit id) _ _ _ l h
 | .ret,_,_,u,_,_,_,l,h=>u .ret _ _ _ l h
instance Up.seq{K:cQ}[Up K](b:aC):Up (kJ C (b.wp C) K) where
 up {e} {F} {F'} {H} hl hh:=by
  cases e with
  |normal=>exact uW b (λe F F' H a h=>Up.up a h) hl hh
  |exit id=>exact Up.up (K:=K) (e:=.exit id) hl hh
  |ret=>exact Up.up (K:=K) (e:=.ret) hl hh
instance Up.block{K:cQ}[Up K](id:Nat):Up (fN id K) where
 up {e} {F} {F'} {H} hl hh:=by
  cases e with
  |normal=>exact Up.up (K:=K) (e:=.normal) hl hh
  |exit j=>
   rw[MV]at hh ⊢;split at hh
   ·rename_i e;rw[aL e];exact Up.up (K:=K) (e:=.normal) hl hh
   ·rename_i e;rw[aE e];exact Up.up (K:=K) (e:=.exit j) hl hh
  |ret=>exact Up.up (K:=K) (e:=.ret) hl hh
instance Up.loop{K:cQ}[Up K]{α:Type}(l:α→PF)(Hs:α→PH)(u:α→Prop)(m:α→Nat)(n:Nat):Up (fZ l Hs u m n K) where
 up {e} {F} {F'} {H} hl hh:=by
  cases e with
  |normal =>obtain⟨b,J,H2,y,A,B,E,I⟩:=hh;obtain⟨j,w,x⟩:=y.up hl;exact⟨b,j,H2,w,A,B,PF.le_trans E x,I⟩
  |exit id=>exact Up.up (K:=K) (e:=.exit id) hl hh
  |ret=>exact Up.up (K:=K) (e:=.ret) hl hh
theorem a6B{H:PH}(e:F.le F'){x:fL}{v:PV}(h:x.ev F H=some v):x.ev F' H=some v:=by
 cases x with
 |tmp t=>exact e t v h
 |cell t n=>
  cases n<;>simp only[fL.ev]at h ⊢<;>(cases j:F t with
   |none=>simp[j]at h
   |some a=>rw[e t a j,←j];exact h)
theorem Iw{H:PH}(e:F.le F'):∀{xs:List fL}{vs:List PV},fL.evs F H xs=some vs→fL.evs F' H xs=some vs
 |[],_,h=>h
 |x::xs,vs,h=>by
  rw[qE]at h ⊢;cases l:x.ev F H with
  |none=>simp[l]at h
  |some v=>
   cases j:fL.evs F H xs with
   |none=>simp[j]at h
   |some ws =>rw[l,j]at h;rw[a6B e l,Iw e j];exact h
instance Up.ret(res:List fL)(R:PV→PH→Prop):Up (aW res R) where
 up {e} {F} {F'} {H} hl hh:=by
  cases e with
  |exit id=>exact hh
  |normal=>obtain⟨vs,j,l⟩:=hh;exact⟨vs,Iw hl j,l⟩
  |ret=>obtain⟨vs,j,l⟩:=hh;exact⟨vs,Iw hl j,l⟩
end
open Go Go.RowKit
def a8R(R:PH→Prop):cQ
 | .normal,_,H=>R H
 |_,_,_=>False
theorem cS.setObj{E:Env}{H:PH}{w:World}{l:Nat}{o:Obj}{x:cI}(hW:cS E H w)(u:w.heap[l]?=some o)(F:∀c t b,o≠.cells c t b)(I:ZH E w l x):cS E (H.set l x) w:=by
 refine⟨λb cs h=>?_,λq y h=>?_,hW.s⟩
 ·obtain⟨B,ty,A,j⟩:=hW.g b cs h;have:¬b=l:=λe=>by rw[e,u]at j;exact F _ _ _ (by injection j)
  refine⟨λy J=>B y ?_,ty,A,j⟩
  rwa[aR,aE this]at J
 ·rw[aR]at h;split at h
  ·rename_i e;cases h;subst e;exact⟨(bkE.1 u).1,I⟩
  ·exact hW.h q y h
section
variable {C:Ctx} {T:Tbl}
end
open Go Go.RowKit
abbrev aZK(D:Nat):Deferred:={ target:=.collected D,args:=#[] }
theorem cS.alloc{E:Env}{H:PH}{w:World}(hW:cS E H w)(o:Obj):cS E H (w.alloc o):=by
 have e:(w.alloc o).heap.size=w.heap.size+1:=World.size_alloc w o;have hb:∀b,b<w.heap.size→(w.alloc o).heap[b]?=w.heap[b]?:=λb hlt=>Below.heap_alloc w o b hlt;exact hW.same Om (λb hlt _=>hb b hlt) (λq x hq=>hb q (hW.h q x hq).1)
section
variable {C:Ctx} {T:Tbl} {ds:List Deferred} {fu:Nat}
def a4T(C:Ctx)(name:Nat)(cs:List PV)(F:PF)(H:PH)(n t:Nat)(e j:Code)(u:PH→Prop):Prop:=
 ∀l,H l=none→aI C name (a6R l::cs) (H.set l (.loop F n t e j)) (λ_ H'=>∃H2,u H2∧H2.le H'∧H2 l=none∧H' l=some (.loop F n t e j))
end
open Go Go.RowKit
inductive ye where
 |seq (a:aC) (t:ye)
 |range (g:aS) (n t:Nat) (asg bdy:Code) (pas pbd rest:aC)
def ye.wp (C : Ctx) : ye → cQ → PF → PH → Prop
  | .seq a t, K, F, H => a.wp C (kJ C (t.wp C) K) F H
  | .range g n t asg bdy pas pbd rest, K, F, H => ∃ name cs KH, g.ev F = some (.fn name cs) ∧
      ((∀ (l : Nat) (x : PV) (J : PH) (J' : PH → Prop), J l = none → pas.wp C (kJ C (pbd.wp C) (a8R J')) (F.set t x) J →
        aLT C l [x] (J.set l (.loop F n t asg bdy)) (fun r H' => r = .bool true ∧ ∃ H2, J' H2 ∧ H2 l = none ∧ H' = H2.set l (.loop F n t asg bdy))) → a4T C name cs F H n t asg bdy KH) ∧
      ∀ H2, KH H2 → rest.wp C K F H2
namespace Tbl
variable (T:Tbl)
def tail(n:Nat):Code→Option ye
 | .seq (.rangeFunc g ps e j) l=>match T.opd g,T.code n e,T.code n j,T.code n l with
  |some y,some u,some w,some A=>match ps.toList with
   |[t]=>if t<n then some (.range y n t e j u w A)else none
   |_=>none
  |_,_,_,_=>none
 | .seq (.seq a (.block _ (.rangeFunc g ps e j))) l=>match T.code n a,T.opd g,T.code n e,T.code n j,T.code n l with
  |some x,some y,some u,some w,some A=>match ps.toList with
   |[t]=>if t<n then some (.seq x (.range y n t e j u w A))else none
   |_=>none
  |_,_,_,_,_=>none
 | .seq a b=>match T.code n a,tail n b with
  |some x,some B=>some (.seq x B)
  |_,_=>none
 |_=>none
end Tbl
section
variable {C:Ctx} {T:Tbl} {fu:Nat}
def Vl(n:Nat)(E:Env)(H:PH)(w:World)(K:cQ)(Q:Exit→Act→World→Prop):Prop:=
 ∀ds,(ds=[]∨∃D,ds=[aZK D])→∀e l u H' x j,fU ds n l u x→cS l H' j→Ext E H w l H' j→(∀D,ds=[aZK D]→j.heap[D]?=some (.deferred (some []))∧H' D=none∧w.heap.size≤D)→K e u H'→Q e.out x j
theorem Vl.after{n:Nat}{E u:Env}{H H':PH}{w y:World}{K:cQ}{Q:Exit→Act→World→Prop}(h:Vl n E H w K Q)(x:Ext E H w u H' y):Vl n u H' y K Q:=
 λds j e A B H2 a2 M F hW J l I=>h ds j e A B H2 a2 M F hW (x.trans J) (λD hD=>⟨(l D hD).1,(l D hD).2.1,biJ x.size (l D hD).2.2⟩) I
end
structure aLN where
 nparams:Nat
 ntmps:Nat
 body:ye
 res:List fL
namespace Tbl
variable (T:Tbl)
end Tbl
end Go.PM
namespace Go.PM
open Go
def aZD(C:Ctx)(k:Nat)(e:aLN):Prop:=∀(args:List PV)(H:PH)(R:PV→PH→Prop),Z' args≤e.ntmps→e.body.wp C (aW e.res R) (PF.args args) H→aI C k args H R
theorem aZD.go{C:Ctx}{k:Nat}{e:aLN}(r:aZD C k e){args:List PV}{H:PH}{R:PV→PH→Prop}(h:e.body.wp C (aW e.res R) (PF.args args) H)(j:Nat.ble args.length e.ntmps=true):aI C k args H R:=r args H R (Nat.le_of_ble_eq_true j) h
end Go.PM
