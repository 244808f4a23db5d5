/-
  Texts of ours, joined. No condition.
-/
import Derived.Test.YtkknafmijabgaaaGreatDoorFR1
import Derived.Test.YtkknafmijabgaaaGreatDoorFR2
import Derived.Test.YtkknafmijabgaaaGreatDoorFR3
import Derived.RangeFuncRecord
set_option linter.unusedSimpArgs false
set_option linter.unusedVariables false
open Nat renaming reduceEqDiff→γ,reduceAdd→δ,reduceSub→ε,reduceMul→ζ,reduceLT→η,reduceLeDiff→θ,reduceBEq→τ
open Int renaming reduceLT→ι,reduceLE→κ,reduceEq→μ,reduceToNat→ν,reduceAdd→ξ,reduceNeg→ο,reduceBEq→ρ,reduceBNe→σ
open List renaming reduceReplicate→υ
open List renaming length_map→a8E,replicate→a8F,getElem_mem→a8G,length_append→a8H,length_singleton→a8N,mem_cons→a8S,take_of_length_le→a8V,length_take→a8W,append_assoc→a9L,drop_zero→a9R,map_cons→a9T,append_nil→a9W,length_set→a9X,length_cons→a9Y,length_drop→a9Z,getElem?_append_left→baB,drop_eq_getElem_cons→baR,length_nil→baX,map_nil→bbA,take_append_drop→bbC,nil_append→bbK,length_replicate→bbP,set_append_right→bbW,drop_of_length_le→bcB
open Nat renaming le_refl→a8J,zero_le→a8K,zero_add→a8R,mul_add→a8T,lt_or_ge→a8Z,mul_assoc→a9C,mul_comm→a9E,mul_le_mul_right→a9H,add_mul→a9O,add_zero→a9P,mod_eq_of_lt→a9V,mod_lt→baC,pow_succ→baG,le_trans→baK,eq_zero_or_pos→baN,min_eq_left→baO,mul_le_mul_left→baU,pos_of_ne_zero→baV,pow_pos→bbD,div_eq_of_lt→bbL,div_lt_iff_lt_mul→bbM,div_add_mod→bbX
open Bool renaming false_eq_true→bbH
open Option renaming map_eq_some_iff→a8P,some→baP
open Array renaming getElem?_eq_some_iff→bcF
set_option maxRecDepth 100000
set_option maxHeartbeats 800000
noncomputable section
namespace Go.PM
open Go Go.Na
structure UZ (C:Ctx):Prop extends rc C where
 bits:∀ xs,Lim xs→xs.length≤35184372087808→aH C 31 [aK xs] .nil (aI (.int .i64 (dJ (val xs):Nat)))
 upM:∀ (a:List Nat) (n:Nat),Lim a→a.length≤8388608→n≤8388608→(a.length=0→val a=0)→aH C 45 [aK a,.int .i64 n] .nil (rF 1 (aN (aJ (val a*2 ^ n))))
 down:∀ (a:List Nat) (n:Nat),Lim a→a.length≤8388608→n≤1000000000→aH C 40 [aK a,.int .i64 n] .nil (aI (aK (aJ (val a/2 ^ n))))
def udS:Spec:=fun name vs=>match name,vs with
 | 35,[.int _ v]=>some ([],fun _=>aI (aK (aJ v.toNat)))
 | 44,[x,y]=>some ([],fun _=>aI (aK (aJ (val (mD x)*val (mD y)))))
 | 32,[x,.osl q _ _ _]=>some ([q],fun H0 r H'=>H'=H0∧∀ xs,Lim xs→H0 q=some (.rows 1 (aN xs))→r=.int .i64 (eQ (val (mD x)) (val xs)))
 | _,_=>none
theorem aQK (v:Nat):udS 35 [.int .u64 v]=some ([],fun _=>aI (aK (aJ v))):=rfl
theorem aKC (x y:List Nat):udS 44 [aK x,aK y]=some ([],fun _=>aI (aK (aJ (val x*val y)))):=by
 show some ([],fun _=>aI (aK (aJ (val (mD (aK x))*val (mD (aK y))))))=_; rw[fQ,fQ]
theorem aLW (q:Nat) (x L:List Nat):(PH.nil.set q (.rows 1 (aN L)))=(PH.nil.set q (.rows 1 (aN L)))∧∀ xs,Lim xs→(PH.nil.set q (.rows 1 (aN L))) q=some (.rows 1 (aN xs))→(PV.int .i64 (eQ (val x) (val L)))=.int .i64 (eQ (val (mD (aK x))) (val xs)):=by
 refine⟨rfl,fun xs j e=>?_⟩;rw[bS] at e;have:aN L=aN xs:=(bZ.rows.inj (baP.inj e)).2;rw[XH this,fQ]
def duF (n o l:Nat) (y:List Nat) (e u j:Nat) (k:Int):PF :=
 ((((((PF.nil.set 10 (.int .i64 n)).set 11 (.osl o 1 0 l)).set 12 (aK y)).set 13 (.int .u64 e)).set 14 (.osl u 1 0 j)).set 15 (.int .i64 k))
abbrev fJ (X:List Nat) (Z:List (List PV)):List (List PV):=aN X++Z
theorem TP {X:List Nat} {Z:List (List PV)} {i:Nat} (h:i<X.length):(fJ X Z)[i]?=some [.int .u32 ((X[i]:Nat):Int)]:=by
 rw[fJ,baB (by rw[cV]; exact h),cF X h]
theorem Nj {X:List Nat} {Z:List (List PV)} {i:Nat} (h:i<X.length) (v:Nat):(fJ X Z).set i [.int .u32 (v:Int)]=fJ (X.set i v) Z:=by
 rw[fJ,List.set_append_left _ _ (by rw[cV]; exact h),jB]
theorem Ni {X:List Nat} {Z:List (List PV)} {j m:Nat} (h:j+m≤X.length):((fJ X Z).drop j).take m=aN ((X.drop j).take m):=by
 rw[fJ,List.drop_append_of_le_length (by rw[cV]; omega),List.take_append_of_le_length (by rw[a9Z,cV]; omega)];unfold aN;rw[← List.map_drop,← List.map_take]
theorem aYX {C:Ctx} (L:UZ C) (n o A:Nat) (y:List Nat) (B w lq j:Nat) (X:List Nat) (Z:List (List PV)) (Y:w≠o) (hy:Lim y) (hX:Lim X) (δ:X.length=A) (hl:A≤5000) (hj:j+(y.length+1)≤A) (N:0<val y)
  (qv:bZ) (g0:Nat) (hg:val ((X.drop j).take (y.length+1))/val y≤g0) (V:g0<4294967296) (K:cI) (F:PF) (H:PH) (hF:((duF n o A y B w lq j).set 17 (.int .u64 g0)).le F) (hH:((PH.nil.set o (.rows 1 (fJ X Z))).set w qv).le H)
  (hK:∀ F' H',((duF n o A y B w lq j).set 17 (.int .u64 (val ((X.drop j).take (y.length+1))/val y:Nat))).le F'→((PH.nil.set o (.rows 1 (fJ X Z))).set w qv).le H'→K .normal F' H') :
  aC.wp C (.block 4 (.loop BI)) K F H:=by
 have e:¬ o=w:=fun h=>Y h.symm;have l:((X.drop j).take (y.length+1)).length=y.length+1:=by rw[a8W,a9Z]; omega
 have E:Lim ((X.drop j).take (y.length+1)):=(hX.drop _).take _;have I:=Ni (X:=X) (Z:=Z) (j:=j) (m:=y.length+1) Om;have J:j+(y.length+1)≤(fJ X Z).length:=by rw[fJ,a8H,cV]; omega
 have S:aN ((X.drop j).take (y.length+1))≠[]:=fun h=>by have:=congrArg List.length h;rw[cV,l] at this;simp at this
 generalize hW:(X.drop j).take (y.length+1)=W at *
 generalize M:val W/val y=R at *
 simp only[go_sem];refine wp_loop (α:=Nat) (fun g=>(duF n o A y B w lq j).set 17 (.int .u64 g)) (fun _=>(PH.nil.set o (.rows 1 (fJ X Z))).set w qv) (fun g=>R≤g∧g<4294967296) (fun g=>g) g0 ⟨hg,V⟩ hF hH ?_;rintro g ⟨γ,hlt⟩;have e1:IntKind.i64.wrap ((j:Int)+(y.length:Int))=((j+y.length:Nat):Int):=jZ Om;have e2:IntKind.i64.wrap (((j+y.length:Nat):Int)+1)=((j+y.length+1:Nat):Int):=dW Om;have b1:(j:Int)≤((j+y.length+1:Nat):Int):=Om;have b2:((j+y.length+1:Nat):Int)≤(A:Nat):=Om;have b3:j+y.length+1-j=y.length+1:=Om;have mk:=L.make g Om;have tm:=L.times y (aJ g) hy (aX _) Om (by have O:nl g≤1:=sN (by rw[Nat.pow_one]; exact hlt);rw[bC]; omega)
 rw[aU] at tm;have β:(aJ (val y*g)).length≤35184372087808:=by have O:nl g≤1:=sN (by rw[Nat.pow_one]; exact hlt);have h2:=pT (a:=val y) (b:=g) (jA hy) O;rw[bC]; omega
 have cm:=L.cmp (aJ (val y*g)) W (aX _) E β Om;rw[aU] at cm;simp only[go_sem,BI];refine aV .nil udS a_ ?_;simp only[go_sem,gr,duF];refine cC (aQK g) mk Sq a_ ?_;simp only[go_sem];have tS:=aKC y (aJ g);rw[aU] at tS;refine cC tS tm Sq a_ ?_;simp only[go_sem,a8E,e1,e2,b1,b2,b3];refine HP (src:=aN W) ?_ ?_ (fun h=>absurd h S) fun _ x u=>?_
 ·simp only[go_sem,e,J,I]
 ·unfold roomFor;rw[cV,l];simp only[maxLen]; omega
 refine⟨a_,?_⟩;rw[cV,l];have n1:¬ x=w:=(lK.1 u).1;refine aLZ (o:=x) (s:=1) (rs:=aN W) (vs:=[aK (aJ (val y*g)),.osl x 1 0 (y.length+1)]) (v:=.int .i64 (eQ (val y*g) (val W))) rfl (.int _ _) Sq ?_ ?_ ?_ Sq a_ ?_
 ·rw[a9T,a9T,bbA,xM (by rw[cV,l]; exact a8J _),a8V (by rw[cV,l]; exact a8J _)];exact cm
 ·have:=aLW x (aJ (val y*g)) W;rw[aU] at this;exact this
 ·rintro r H' ⟨O,h2⟩;have:=h2 W E (by rw[bS]);rw[fQ,aU] at this;exact⟨this,O⟩
 simp only[go_sem];by_cases c:val W<val y*g
 ·have U:eQ (val y*g) (val W)=1:=by unfold eQ;rw[if_neg Om,if_pos c]
  have hq:R<g:=by rw[← M]; exact (bbM N).2 (by rw[a9E]; exact c)
  have ew:IntKind.u64.wrap ((g:Int)-1)=((g-1:Nat):Int):=by rw[wrap_u64 Om Om]; omega
  simp only[go_sem,U,show (1:Int)>0 by decide,gs,ew];refine aG (g-1) ⟨by omega,by omega⟩ Om ?_ ?_
  ·exact Lq
  ·refine e_ (e_ a_ ?_) ?_
   ·have n2:¬ o=x:=fun h=>by subst h;rw[aS,if_neg e,bS] at u;cases u
    simp only[go_sem,n2,e]
   ·have n3:¬ w=x:=fun h=>n1 h.symm;simp only[go_sem,n3]
 ·have U:¬ eQ (val y*g) (val W)>0:=by unfold eQ;rw[if_neg c];split<;>decide
  have hq:g=R:=by
   have:g≤R:=by rw[← M]; exact (Nat.le_div_iff_mul_le N).2 (by rw[a9E]; omega)
   omega
  simp only[go_sem,U];refine hK _ _ ?_ ?_
  ·unfold duF
   (repeat' (first|exact c_|refine d_ ?_ ?_))<;>first|(simp only[go_sem,← hq]<;>rfl)|rfl
  ·refine e_ (e_ a_ ?_) ?_
   ·have n2:¬ o=x:=fun h=>by subst h;rw[aS,if_neg e,bS] at u;cases u
    simp only[go_sem,n2,e]
   ·have n3:¬ w=x:=fun h=>n1 h.symm;simp only[go_sem,n3]
theorem aUM (R k:Nat) (h:k<nl R):∃ u:k<(aJ R).length,(aJ R)[k]=R/4294967296 ^ k%4294967296:=by
 have e:k<(aJ R).length:=by rw[bC]; exact h
 refine⟨e,?_⟩;have j:=AR (aX R) (Nat.le_of_lt e);rw[aU,baR e] at j;have l:=aX R _ (a8G e);simp only[val] at j;rw[← j,Nat.add_mul_mod_self_left,a9V l]
theorem aNO (R k:Nat) (h:nl R≤k):R/4294967296 ^ k%4294967296=0:=by
 rw[bbL ((lS R k).1 h)]
theorem aWB {A P W Z:List Nat} {i:Nat} (e:P.length=i) (hi:i<W.length) (v:Nat):(A++(P++W.drop i)++Z).set (A.length+i) v=A++((P++[v])++W.drop (i+1))++Z :=
 XH (by rw[← jB]; exact NM e hi v)
theorem a1M {C:Ctx} (n o E:Nat) (y:List Nat) (M x Y j:Nat) (X:List Nat) (Z:List (List PV)) (J:x≠o) (U:X.length=E) (hl:E≤5000) (hj:j+(y.length+1)≤E)
  (qv:bZ) (g R:Nat) (K:cI) (F:PF) (H:PH) (hF:((((duF n o E y M x Y j).set 17 (.int .u64 g)).set 18 (aK (aJ R))).set 19 (.int .i64 0)).le F) (hH:((PH.nil.set o (.rows 1 (fJ X Z))).set x qv).le H)
  (hK:∀ F' H',((duF n o E y M x Y j).set 17 (.int .u64 g)).le F'→((PH.nil.set o (.rows 1 (fJ (X.take j++fB (y.length+1) R++X.drop (j+(y.length+1))) Z))).set x qv).le H'→K .normal F' H') :
  aC.wp C (.block 6 (.loop BJ)) K F H:=by
 have u:¬ o=x:=fun h=>J h.symm;have hA:(X.take j).length=j:=by rw[a8W]; omega
 have ε:((X.drop j).take (y.length+1)).length=y.length+1:=by rw[a8W,a9Z]; omega
 have θ:(X.drop (j+(y.length+1))).length=E-(j+(y.length+1)):=by rw[a9Z,U]
 have B:X.take j++(X.drop j).take (y.length+1)++X.drop (j+(y.length+1))=X:=by rw[a9L,← List.drop_drop,bbC,bbC]
 rw[← B] at hH;generalize γ:X.take j=A at *
 generalize δ:(X.drop j).take (y.length+1)=W at *
 generalize η:X.drop (j+(y.length+1))=w at *
 simp only[go_sem];refine wp_loop (α:=List Nat) (fun P=>(((duF n o E y M x Y j).set 17 (.int .u64 g)).set 18 (aK (aJ R))).set 19 (.int .i64 P.length)) (fun P=>(PH.nil.set o (.rows 1 (fJ (A++(P++W.drop P.length)++w) Z))).set x qv)
  (fun P=>P.length≤y.length+1∧P=fB P.length R) (fun P=>y.length+1-P.length) [] ⟨a8K _,rfl⟩ hF (by simpa using hH) ?_
 rintro P ⟨hP,hD⟩;simp only[go_sem,BJ,gt,duF];by_cases c:P.length<y.length+1
 ·have O:(P.length:Int)≤(y.length:Nat):=Om;have ei:IntKind.i64.wrap ((j:Int)+(P.length:Int))=((j+P.length:Nat):Int):=jZ Om;have β:(A++(P++W.drop P.length)++w).length=E:=by simp only[a8H,a9Z]; omega
  have hi:j+P.length<(A++(P++W.drop P.length)++w).length:=Om;have b1:((j+P.length:Nat):Int)<(E:Nat):=Om;have r1:=TP (Z:=Z) hi;have s1:=Nj (Z:=Z) hi 0;have N:j+P.length<((A++(P++W.drop P.length)++w).set (j+P.length) 0).length:=by rw[a9X]; exact hi
  have l:=fun v=>aWB (A:=A) (P:=P) (W:=W) (Z:=w) (i:=P.length) rfl Om v;rw[hA] at l;generalize ζ:A++(P++W.drop P.length)++w=XX at *
  have r2:(fJ (A++((P++[0])++W.drop (P.length+1))++w) Z)[j+P.length]?=some [.int .u32 ((0:Nat):Int)]:=by rw[← l 0,TP N,List.getElem_set_self]
  have s2:∀ v,(fJ (A++((P++[0])++W.drop (P.length+1))++w) Z).set (j+P.length) [.int .u32 ((v:Nat):Int)]=fJ (A++((P++[v])++W.drop (P.length+1))++w) Z:=by intro v;rw[← l 0,Nj N,List.set_set,l]
  have a7M:=BR P.length R;rw[← hD] at a7M;have ew:IntKind.i64.wrap ((P.length:Int)+1)=((P.length+1:Nat):Int):=dW Om;simp only[go_sem,O,gv,ei,b1,u,r1,show ([PV.int .u32 (0:Int)])=[PV.int .u32 ((0:Nat):Int)] from rfl,s1,gw,bC];by_cases c2:P.length<nl R
  ·have I:(P.length:Int)<(nl R:Nat):=Om;obtain⟨S,V⟩:=aUM R P.length c2;have hr:=cF (aJ R) S;rw[V] at hr;simp only[go_sem,I,gx,hr,ei,b1,u,r2,s2,List.set_set,l,LL,ew];refine aG (P++[R/4294967296 ^ P.length%4294967296]) ⟨by simp; omega,by rw[a8H,a8N]; exact a7M.symm⟩ (by simp; omega) ?_ ?_
   ·rw[a8H,a8N];exact Lq
   ·rw[a8H,a8N];refine e_ (e_ a_ ?_) ?_<;>simp only[go_sem,u,show ¬ x=o from J]
  ·have I:¬ (P.length:Int)<(nl R:Nat):=Om;have V:=aNO R P.length Om;rw[V] at a7M;simp only[go_sem,I,l,LL,ew];refine aG (P++[0]) ⟨by simp; omega,by rw[a8H,a8N]; exact a7M.symm⟩ (by simp; omega) ?_ ?_
   ·rw[a8H,a8N];exact Lq
   ·rw[a8H,a8N];refine e_ (e_ a_ ?_) ?_<;>simp only[go_sem,u,show ¬ x=o from J]
 ·have O:¬ (P.length:Int)≤(y.length:Nat):=Om;have e:P.length=y.length+1:=Om;simp only[go_sem,O];refine hK _ _ (by unfold duF; exact Lq) ?_;have h2:A++fB (y.length+1) R++w=A++(P++W.drop P.length)++w:=by rw[bcB Om,a9W,← e,← hD]
  rw[h2];exact b_
theorem aND {y W:List Nat} {m:Nat} (F:Lim y) (hW:Lim W) (B:y.length=m+1) (A:W.length=m+2) (E:0<y[m]):val W/val y≤(4294967296*W[m+1]+W[m])/y[m]:=by
 have x:=cY y (Om:m<y.length);rw[a8V Om] at x;have l:=cY W (Om:m+1<W.length);rw[a8V Om,cY W (Om:m<W.length)] at l;have u:=gY (hW.take m);rw[a8W,baO Om] at u;have w:0<4294967296 ^ m:=bbD (by decide);have hb:4294967296 ^ m*y[m]≤val y:=Om;have j:0<4294967296 ^ m*y[m]:=Nat.mul_pos w E;have e:val W=val (W.take m)+4294967296 ^ m*(4294967296*W[m+1]+W[m]):=by rw[l,baG,a8T,a9C]; omega
 refine baK (Nat.div_le_div_left hb j) ?_;rw[← Nat.div_div_eq_div_mul,e,Nat.add_mul_div_left _ _ w,bbL u,a8R];exact a8J _
theorem aKD {C:Ctx} (L:UZ C) (U0 n o w l u m:Nat) (y z:List Nat) (S:u≠o) (hy:Lim y) (N:y.length=m+1) (ht:0<y[m]) (f':w=l+(m+1)) (V:w≤5000) (X:List Nat) (M:tN U0 (val y) (m+1) w l l X (a8F l 0)) (K:cI) (F:PF) (H:PH)
  (hF:(duF n o w y (y[m]) u l ((l:Int)-1)).le F) (hH:((PH.nil.set o (.rows 1 (fJ X (aN z)))).set u (.rows 1 (aN (a8F l 0)))).le H)
  (hK:∀ X' Q' F' H',tN U0 (val y) (m+1) w l 0 X' Q'→(duF n o w y (y[m]) u l (-1)).le F'→((PH.nil.set o (.rows 1 (fJ X' (aN z)))).set u (.rows 1 (aN Q'))).le H'→K .normal F' H') :
  aC.wp C (.block 2 (.loop BK)) K F H:=by
 have x:¬ o=u:=fun h=>S h.symm;have p':¬ u=o:=S;have hV:val y<4294967296 ^ (m+1):=by have:=gY hy; rw[N] at this; exact this
 have ν:0<val y:=by have h1:=cY y (Om:m<y.length);rw[a8V Om] at h1;have:0<4294967296 ^ m*y[m]:=Nat.mul_pos (bbD (by decide)) ht;omega
 have u':=hy _ (a8G (Om:m<y.length));generalize htop:y[m]=e at *
 simp only[go_sem];refine wp_loop (α:=Nat × List Nat × List Nat) (fun t=>duF n o w y e u l ((t.1:Int)-1)) (fun t=>(PH.nil.set o (.rows 1 (fJ t.2.1 (aN z)))).set u (.rows 1 (aN t.2.2)))
  (fun t=>t.1≤l∧tN U0 (val y) (m+1) w l t.1 t.2.1 t.2.2) (fun t=>t.1) (l,X,a8F l 0) ⟨a8J _,M⟩ hF hH ?_
 rintro⟨k,X,Q⟩ ⟨hk,M⟩;simp only at hk M;simp only[go_sem,BK,gl,duF];by_cases h0:0<k
 ·obtain⟨j,rfl⟩:∃ j,k=j+1:=⟨k-1,by omega⟩;have hz:((j+1:Nat):Int)-1=(j:Int):=Om;have b':(j:Int)≥0:=Om;have dst:=Ql M hV Om f';rw[show m+1+1=m+2 from rfl] at dst;obtain⟨hlt,Θ⟩:=dst;have ξ:=M.lu';have q':=M.lq';have R:((X.drop j).take (m+2)).length=m+2:=by rw[a8W,a9Z]; omega
  have γ:Lim ((X.drop j).take (m+2)):=(M.limU.drop _).take _;have s':m+1<((X.drop j).take (m+2)).length:=Om;have r':m<((X.drop j).take (m+2)).length:=Om;have a1:j+(m+1)<X.length:=Om;have a0:j+m<X.length:=Om;have w1:((X.drop j).take (m+2))[m+1]=X[j+(m+1)]:=by simp
  have w0:((X.drop j).take (m+2))[m]=X[j+m]:=by simp
  have ρ:=aND hy γ N R (by rw[htop]; exact ht);rw[w1,w0,htop] at ρ;have r1:=TP (Z:=aN z) a1;have r0:=TP (Z:=aN z) a0;have l1:=M.limU _ (a8G a1);have l0:=M.limU _ (a8G a0);generalize w':X[j+(m+1)]=E at *
  generalize v':X[j+m]=J at *
  have e1:IntKind.i64.wrap ((j:Int)+(y.length:Int))=((j+(m+1):Nat):Int):=by rw[N]; exact jZ Om
  have e0:IntKind.i64.wrap (((j+(m+1):Nat):Int)-1)=((j+m:Nat):Int):=by rw[wrap_i64 Om Om]; omega
  have b1:((j+(m+1):Nat):Int)<(w:Nat):=Om;have b0:((j+m:Nat):Int)<(w:Nat):=Om;have Γ:IntKind.u64.wrap ((E:Nat):Int)=((E:Nat):Int):=bK Om;have ω:IntKind.u64.wrap ((J:Nat):Int)=((J:Nat):Int):=bK Om;have η:shift .shl .u64 (E:Int) 32=some (.int .u64 ((2 ^ 32*E:Nat):Int)):=SE (s:=32) Om Om;have ψ:(2:Nat) ^ 32=4294967296:=by decide
  have ε:=orI (a:=2 ^ 32*E) (b:=J) (n:=2 ^ 32*E+J) Om Om (Nat.two_pow_add_eq_or_of_lt Om E).symm Om;rw[ψ] at η ε;have Φ:¬ ((e:Nat):Int)=0:=Om;have υ:(4294967296*E+J)/e<18446744073709551616:=Nat.lt_of_le_of_lt (Nat.div_le_self _ _) Om;have ζ:IntKind.u64.wrap (Int.tdiv ((4294967296*E+J:Nat):Int) ((e:Nat):Int))=(((4294967296*E+J)/e:Nat):Int):=by rw[show Int.tdiv ((4294967296*E+J:Nat):Int) ((e:Nat):Int)=(((4294967296*E+J)/e:Nat):Int) from rfl];exact bK υ
  have φ:val ((X.drop j).take (m+2))/val y<4294967296:=(bbM ν).2 (by rw[a9E]; exact hlt);have ο:=Ni (X:=X) (Z:=aN z) (j:=j) (m:=m+2) Om;have σ:j+(m+2)≤(fJ X (aN z)).length:=by rw[fJ,a8H,cV]; omega
  have δ:val ((X.drop j).take (m+2))-val y*(val ((X.drop j).take (m+2))/val y)=val ((X.drop j).take (m+2))%val y:=by have:=bbX (val ((X.drop j).take (m+2))) (val y);omega
  have I:val y*(val ((X.drop j).take (m+2))/val y)≤val ((X.drop j).take (m+2)):=Nat.mul_div_le _ _;clear w1 w0;have gu:=fun g0=>aYX (C:=C) L n o w y e u l j X (aN z) S hy M.limU ξ V Om ν (.rows 1 (aN Q)) g0;rw[N,show m+1+1=m+2 from rfl] at gu;generalize hW:(X.drop j).take (m+2)=W at *
  generalize t':val W/val y=O at *
  have Λ:aN W≠[]:=fun h=>by have:=congrArg List.length h;rw[cV,R] at this;simp at this
  have tail:∀ (g0:Nat) (F:PF) (H:PH),O≤g0→g0<4294967296→((duF n o w y e u l j).set 17 (.int .u64 g0)).le F→((PH.nil.set o (.rows 1 (fJ X (aN z)))).set u (.rows 1 (aN Q))).le H →
    aC.wp C (.seq (.block 4 (.loop BI)) (.seq (.region LJ) (.seq (.seq (.region LK) (.block 6 (.loop BJ))) (.region LM)))) (fR 3 (jY C (aC.wp C (.region LN)) (gP (fun (t:Nat × List Nat × List Nat)=>duF n o w y e u l ((t.1:Int)-1)) (fun t=>(PH.nil.set o (.rows 1 (fJ t.2.1 (aN z)))).set u (.rows 1 (aN t.2.2))) (fun t=>t.1≤l∧tN U0 (val y) (m+1) w l t.1 t.2.1 t.2.2) (fun t=>t.1) (j+1) (fR 2 K)))) F H:=by
   intro g0 F H hg a' hF hH;have gu:=gu g0 hg a';simp only[go_sem] at gu;simp only[go_sem];refine gu _ F H hF hH ?_;intro Y H1 A κ;have f11:Y 11=some (.osl o 1 0 w):=A 11 _ (by unfold duF; simp only[go_sem]);have β:Y 12=some (aK y):=A 12 _ (by unfold duF; simp only[go_sem]);have θ:Y 15=some (.int .i64 j):=A 15 _ (by unfold duF; simp only[go_sem]);have ι:Y 17=some (.int .u64 (O:Nat)):=A 17 _ (by unfold duF; simp only[go_sem]);have Δ:Y 10=some (.int .i64 n):=A 10 _ (by unfold duF; simp only[go_sem]);have f13:Y 13=some (.int .u64 e):=A 13 _ (by unfold duF; simp only[go_sem]);have f14:Y 14=some (.osl u 1 0 l):=A 14 _ (by unfold duF; simp only[go_sem]);have ho:H1 o=some (.rows 1 (fJ X (aN z))):=κ o _ (by simp only[go_sem,x]);have τ:H1 u=some (.rows 1 (aN Q)):=κ u _ Sq;have b3:(j:Int)≤((j+(m+1)+1:Nat):Int):=Om;have b4:((j+(m+1)+1:Nat):Int)≤(w:Nat):=Om;have b5:j+(m+1)+1-j=m+2:=Om;have e2:IntKind.i64.wrap (((j+(m+1):Nat):Int)+1)=((j+(m+1)+1:Nat):Int):=dW Om;simp only[go_sem,LJ,f11,θ,β,a8E,e1,e2,b3,b4,b5];refine HP (src:=aN W) ?_ ?_ (fun h=>absurd h Λ) fun _ o' U=>?_
   ·simp only[go_sem,ho,σ,ο]
   ·unfold roomFor;rw[cV,R];simp only[maxLen]; omega
   rw[cV,R];have n1:¬ u=o':=fun h=>by subst h; rw[τ] at U; cases U
   have n2:¬ o=o':=fun h=>by subst h; rw[ho] at U; cases U
   have nq:nl O≤1:=sN (by rw[Nat.pow_one]; exact φ);have tm:=L.times y (aJ O) hy (aX _) Om (by rw[bC]; omega);rw[aU] at tm;have nW:=jA γ;have mn:=L.minus W (aJ (val y*O)) γ (aX _) (by rw[aU]; exact I) (by rw[bC]; exact baK (jK I) nW) Om;rw[aU,δ] at mn;have Ξ:(aN W).take (m+2)=aN W:=a8V (by rw[cV]; omega);simp only[go_sem,ι];refine aB (L.make O Om) Sq ?_;simp only[go_sem,β];refine aB tm Sq ?_;simp only[go_sem];refine tH (o:=o') (s:=1) (rs:=aN W) mn Sq (by simp only[go_sem,show m+2≤W.length by omega,Ξ]) ?_;simp only[go_sem,LK];have Ω:(fJ X (aN z)).map (fun r=>r.map (PV.cQ o' 1 (aN W)))=fJ X (aN z):=by
    have:fJ X (aN z)=aN (X++z):=by simp[fJ,aN]
    rw[this]; exact xL _ _ _ _
   have Ψ:(aN Q).map (fun r=>r.map (PV.cQ o' 1 (aN W)))=aN Q:=xL _ _ _ _;have ur:=a1M (C:=C) n o w y e u l j X (aN z) S ξ V Om (.rows 1 (aN Q)) O (val W%val y);rw[N,show m+1+1=m+2 from rfl] at ur;simp only[go_sem] at ur;refine ur _ _ _ ?_ ?_ ?_
   ·unfold duF
    (repeat' (first|exact c_|refine d_ ?_ ?_))<;>first|(simp only[go_sem,Δ,f11,β,f13,f14,θ,ι,n1,n2]<;>rfl)|rfl
   ·refine e_ (e_ a_ ?_) ?_
    ·simp only[go_sem,x,n2,ho,bZ.frz,Ω]
    ·simp only[go_sem,n1,τ,bZ.frz,Ψ]
   intro F3 H3 B μ;have i':F3 10=some (.int .i64 n):=B 10 _ (by unfold duF; simp only[go_sem]);have j':F3 11=some (.osl o 1 0 w):=B 11 _ (by unfold duF; simp only[go_sem]);have k':F3 12=some (aK y):=B 12 _ (by unfold duF; simp only[go_sem]);have l':F3 13=some (.int .u64 e):=B 13 _ (by unfold duF; simp only[go_sem]);have χ:F3 14=some (.osl u 1 0 l):=B 14 _ (by unfold duF; simp only[go_sem]);have m':F3 15=some (.int .i64 j):=B 15 _ (by unfold duF; simp only[go_sem]);have n':F3 17=some (.int .u64 O):=B 17 _ (by unfold duF; simp only[go_sem]);have g':H3 o=some (.rows 1 (fJ (X.take j++fB (m+2) (val W%val y)++X.drop (j+(m+2))) (aN z))):=μ o _ (by simp only[go_sem,x]);have h':H3 u=some (.rows 1 (aN Q)):=μ u _ Sq;have e':j<Q.length:=Om;have rq:=cF Q e';have d':(j:Int)<(l:Nat):=Om;have sq:=jB Q j O;have ec:IntKind.u32.wrap ((O:Nat):Int)=((O:Nat):Int):=by rw[dE,a9V φ]
   have ej:IntKind.i64.wrap ((j:Int)-1)=(j:Int)-1:=wrap_i64 Om Om;simp only[go_sem,LM,χ,m',n',d',h',rq,ec,sq,LN,ej];refine aG (α:=Nat × List Nat × List Nat) (j,_,_) ⟨by simp only; omega,Θ⟩ (by simp only; omega) ?_ ?_
   ·unfold duF
    (repeat' (first|exact c_|refine d_ ?_ ?_))<;>first|(simp only[go_sem,i',j',k',l',χ]<;>rfl)|rfl
   ·refine e_ (e_ a_ ?_) ?_
    ·simp only[go_sem,x,g']
    ·simp only[go_sem]
  simp only[aC.wp,go_sem] at tail;simp only[go_sem,hz,b'];refine aV .nil cA a_ ?_;simp only[go_sem,gm,e1,e0,b1,b0,x,r1,r0,Γ,ω,η,ε,gn,Φ,ζ,gp];by_cases c:(4294967296*E+J)/e>4294967295
  ·have c':(((4294967296*E+J)/e:Nat):Int)>4294967295:=Om;simp only[go_sem,c',gq];exact tail 4294967295 _ _ Om (by decide) (by unfold duF; exact Lq) b_
  ·have c':¬ (((4294967296*E+J)/e:Nat):Int)>4294967295:=Om;simp only[go_sem,c'];exact tail _ _ _ ρ Om (by unfold duF; exact Lq) b_
 ·have:k=0:=Om;subst this;have hz:¬ ((0:Nat):Int)-1≥0:=by decide
  simp only[go_sem,hz];refine hK X Q _ _ M ?_ b_;unfold duF
  (repeat' (first|exact c_|refine d_ ?_ ?_))<;>first|(simp only[go_sem,show ((0:Nat):Int)-1=-1 from rfl]<;>rfl)|rfl
def aQJ (a:List Nat) (d q k r:Nat):PF:=(((((PF.nil.set 0 (aK a)).set 1 (aK [d])).set 6 (.osl q 1 0 a.length)).set 7 (.int .u64 r)).set 8 (.int .i64 ((k:Int)-1)))
theorem aDY {C:Ctx} (L:UZ C) (a:List Nat) (d:Nat) (ha:Lim a) (l:0<d) (hd:d<4294967296) (h1:a.length≤1000) (F:PF) (f0:F 0=some (aK a)) (f1:F 1=some (aK [d])) :
  aC.wp C (.seq (.region SQ) (.seq (.region SR) (.seq (.seq (.region SS) (.block 0 (.loop KZ))) (.seq (.region LC) .ret)))) (aT [.tmp 4,.tmp 5] (cP (vS (val a) d))) F .nil:=by
 have Y:(a.length:Int)*((4:Nat):Int)≤140737488355328:=Om;have Z:(a.length:Int)≤9223372036854775807:=Om;have hz:a8F a.length [PV.int .u32 0]=aN (a8F a.length 0++[]):=by simp[aN]
 simp only[go_sem,SQ,f0,a8E,Y,Z,hz];refine aO fun o ho=>?_;simp only[go_sem,SR,SS,f0,a8E];refine wp_loop (α:=Nat × List Nat × Nat) (fun t=>aQJ a d o t.1 t.2.2) (fun t=>PH.nil.set o (.rows 1 (aN (a8F t.1 0++t.2.1))))
  (fun t=>t.1+t.2.1.length=a.length∧Lim t.2.1∧t.2.2<d∧val t.2.1*d+t.2.2=val (a.drop t.1)) (fun t=>t.1) (a.length,[],0) ⟨by simp,by simp[Lim],l,by simp[val]⟩ ?_ ?_ ?_
 ·unfold aQJ
  (repeat' (first|exact c_|refine d_ ?_ ?_))<;>first|(simp only[go_sem,f0,f1,wrap_i64 (Om:-9223372036854775808≤(a.length:Int)-1) (Om:(a.length:Int)-1≤9223372036854775807)]<;>rfl)|rfl
 ·exact e_ a_ Sq
 rintro⟨k,S,r⟩ ⟨hk,j,N,e⟩;simp only at hk j N e;simp only[go_sem,KZ,yh,aQJ];by_cases h0:0<k
 ·obtain⟨m,rfl⟩:∃ m,k=m+1:=⟨k-1,by omega⟩;have A:((m+1:Nat):Int)-1=(m:Int):=Om;have W:(m:Int)≥0:=Om;have w:m<a.length:=Om;have hlt:(m:Int)<(a.length:Nat):=Om;have γ:=ha _ (a8G w);have u:val (a.drop m)=a[m]+4294967296*val (a.drop (m+1)):=by rw[baR w]; rfl
  have U:=cF a w;generalize hx:a[m]=x at *
  have ex:IntKind.u64.wrap ((x:Nat):Int)=((x:Nat):Int):=bK Om;have ed:IntKind.u64.wrap ((d:Nat):Int)=((d:Nat):Int):=bK Om;have J:shift .shl .u64 (r:Int) 32=some (.int .u64 ((2 ^ 32*r:Nat):Int)):=SE (s:=32) Om Om;have O:(2:Nat) ^ 32=4294967296:=by decide
  have B:=orI (a:=2 ^ 32*r) (b:=x) (n:=2 ^ 32*r+x) Om Om (Nat.two_pow_add_eq_or_of_lt Om r).symm Om;rw[O] at J B;have hq:(4294967296*r+x)/d<4294967296:=by rw[bbM l];have:4294967296*(r+1)≤4294967296*d:=baU _ N;omega
  have V:¬ ((d:Nat):Int)=0:=Om;have E:IntKind.u64.wrap (Int.tdiv ((4294967296*r+x:Nat):Int) ((d:Nat):Int))=(((4294967296*r+x)/d:Nat):Int):=by rw[show Int.tdiv ((4294967296*r+x:Nat):Int) ((d:Nat):Int)=(((4294967296*r+x)/d:Nat):Int) from rfl];exact bK Om
  have I:Int.tmod ((4294967296*r+x:Nat):Int) ((d:Nat):Int)=(((4294967296*r+x)%d:Nat):Int):=rfl;have ec:IntKind.u32.wrap (((4294967296*r+x)/d:Nat):Int)=(((4294967296*r+x)/d:Nat):Int):=by rw[dE,a9V hq]
  have K:a8F (m+1) 0++S=a8F m 0++(0::S):=by rw[List.replicate_succ',a9L]; rfl
  have X:(aN (a8F m 0++(0::S)))[m]?=some [.int .u32 ((0:Nat):Int)]:=by rw[cF _ (by simp)]; simp
  have M:(aN (a8F m 0++(0::S))).set m [.int .u32 (((4294967296*r+x)/d:Nat):Int)]=aN (a8F m 0++(((4294967296*r+x)/d)::S)):=by rw[jB,bbW _ _ (by simp)]; simp
  simp only[go_sem,A,W,yi,J,U,ex,B,yj,ed,V,E,ec,hlt,K,X,M,gh,I,gi];refine aG (m,((4294967296*r+x)/d)::S,(4294967296*r+x)%d) ⟨by simp only[a9Y]; omega,fun y hy=>?_,baC _ l,?_⟩ (by simp only; omega) ?_ (e_ a_ Sq)
  ·rw[a8S] at hy;rcases hy with rfl | hy
   ·exact hq
   ·exact j y hy
  ·simp only[val];rw[u,← e,a9O,a8T,a9C];have:=bbX (4294967296*r+x) d;rw[a9E d] at this;omega
  ·(repeat' (first|exact c_|refine d_ ?_ ?_))<;>first|(simp only[go_sem,wrap_i64 (Om:-9223372036854775808≤(m:Int)-1) (Om:(m:Int)-1≤9223372036854775807)]<;>rfl)|rfl
 ·have:k=0:=Om;subst this;have A:¬ ((0:Nat):Int)-1≥0:=by decide
  rw[a9R] at e;have hS:S.length=a.length:=Om;have hq:val S=val a/d:=by rw[← e,a9E,Nat.mul_add_div l,bbL N,a9P]
  have β:r=val a%d:=by rw[← e,a9E,Nat.mul_add_mod,a9V N]
  have δ:a8F 0 0++S=S:=by simp
  have hl:=L.trim S j Om;have R:(aN S).take a.length=aN S:=a8V (by rw[cV]; omega);simp only[go_sem,A,LC,bbK];refine tH (o:=o) (s:=1) (rs:=aN S) hl Sq (by simp only[go_sem,R,show a.length≤S.length by omega]) ?_;simp only[go_sem];refine aB (L.make r Om) Sq ?_;simp only[go_sem];refine bA (vs:=[aK (aJ (val S)),aK (aJ r)]) (.inr rfl) .nil Ev a_ ⟨?_,rfl⟩;rw[hq,β];exact .refl _
theorem aSQ {B m:Nat} (h:nl B=m+1):32*m<dJ B∧dJ B≤32*(m+1):=by
 refine⟨?_,(qD B (m+1)).2 Om⟩;rcases a8Z (32*m) (dJ B) with h1 | h1
 ·exact h1
 ·have:=(qD B m).1 h1;omega
theorem aSR {B:Nat} (h:B≠0):2 ^ (dJ B-1)≤B:=by
 rcases a8Z B (2 ^ (dJ B-1)) with h1 | h1
 ·have j:=(qC B _).2 h1;have l:dJ B≠0:=fun e=>h (nG.1 e);omega
 ·exact h1
theorem aDZ {C:Ctx} (L:UZ C) (A B:Nat) (hB:B≠0) (hA:nl A≤512) (Ψ:nl B≤512) :
  HH.wp C (aT Du.res (cP (vS A B))) (PF.args [aK (aJ A),aK (aJ B)]) .nil:=by
 have R:=aX A;have LB:=aX B;have vA:=aU A;have vB:=aU B;have lA:(aJ A).length=nl A:=rfl;have lB:(aJ B).length=nl B:=rfl;simp only[go_sem,HH,yd,ye,Du];refine aB (L.cmp _ _ R LB Om Om) rfl ?_;rw[vA,vB];by_cases c1:A<B
 ·have hc:eQ A B<0:=by simp[eQ,c1]
  simp only[go_sem,hc,yf];refine aB (L.trim _ R Om) rfl ?_;rw[vA];simp only[go_sem];refine bA (vs:=[.aD,aK (aJ A)]) (.inr rfl) .nil rfl a_ ⟨?_,rfl⟩;rw[vS,bbL c1,a9V c1,jD];exact CoL.tup (CoL.cons (.nil 1) (CoL.cons (.refl _) .nil))
 have hc:¬ eQ A B<0:=by unfold eQ;rw[if_neg c1];split<;>decide
 have τ:0<B:=baV hB;have e':nl B≠0:=fun h=>hB (kX.1 h);simp only[go_sem,hc,yg,a8E,lB];by_cases c2:nl B=1
 ·have S:B<4294967296:=by have:=(lS B 1).1 Om; simpa using this
  have ω:aJ B=[B]:=sZ hB S;have sh:=aDY (C:=C) L (aJ A) B R τ S Om;rw[vA] at sh;simp only[aC.wp,go_sem] at sh;simp only[go_sem,bP (Om:((nl B:Nat):Int)=1)];exact sh _ rfl (by simp only[go_sem,ω])
 obtain⟨m,hm⟩:∃ m,nl B=m+1:=⟨nl B-1,by omega⟩;have d':1≤m:=Om;obtain⟨b',β⟩:=aSQ hm;obtain⟨n,hn⟩:∃ n,n+dJ B=32*(m+1):=⟨32*(m+1)-dJ B,by omega⟩;have δ:n<32:=Om;have K:0<2 ^ n:=bbD (by decide);have V:B<2 ^ dJ B:=(qC B _).1 (a8J _);have U:=aSR hB;have Y:B*2 ^ n<4294967296 ^ (m+1):=by have:B*2 ^ n<2 ^ dJ B*2 ^ n:=Nat.mul_lt_mul_of_pos_right V K;rw[← Nat.pow_add,show dJ B+n=32*(m+1) by omega,Nat.pow_mul] at this;exact this
 have Ξ:4294967296 ^ m*2147483648≤B*2 ^ n:=by have:2 ^ (dJ B-1)*2 ^ n≤B*2 ^ n:=a9H _ U;rw[← Nat.pow_add,show dJ B-1+n=32*m+31 by omega,Nat.pow_add,Nat.pow_mul] at this;exact this
 have nV:nl (B*2 ^ n)=m+1:=by
  have I:=(lS (B*2 ^ n) (m+1)).2 Y;rcases a8Z (nl (B*2 ^ n)) (m+1) with h | h
  ·have:=(lS (B*2 ^ n) m).1 Om;have Δ:0<4294967296 ^ m:=bbD (by decide);omega
  ·omega
 have a':B*2 ^ n≠0:=Nat.mul_ne_zero hB Om;have g':nl (A*2 ^ n)≤nl A+1:=pT (a8J _) (sN (by rw[Nat.pow_one]; exact Nat.pow_lt_pow_right (a:=2) (m:=n) (n:=32) (by decide) δ));have χ:B*2 ^ n≤A*2 ^ n:=a9H _ Om;have h':m+1≤nl (A*2 ^ n):=by rw[← nV]; exact jK χ
 have Ω:A*2 ^ n≠0:=Om;have μ:IntKind.i64.wrap (32*((nl B:Nat):Int))=((32*(m+1):Nat):Int):=by rw[wrap_i64 Om Om]; omega
 have en:IntKind.i64.wrap (((32*(m+1):Nat):Int)-((dJ B:Nat):Int))=(n:Int):=by rw[wrap_i64 Om Om]; omega
 have bt:=L.bits (aJ B) LB Om;rw[vB] at bt;have ua:=L.upM (aJ A) n R Om Om (fun h=>by have:=gY R; rw[h] at this; omega);have ub:=(L.upM (aJ B) n LB Om Om (fun h=>by have:=gY LB; rw[h] at this; omega)).freeze;rw[vA] at ua;rw[vB] at ub;have tail:∀ (o:Nat) (F:PF) (H:PH),F 0=some (aK (aJ A))→F 1=some (aK (aJ B))→F 10=some (.int .i64 n)→F 11=some (.osl o 1 0 (nl (A*2 ^ n)+2))→F 12=some (aK (aJ (B*2 ^ n)))→H o=some (.rows 1 (aN (aJ (A*2 ^ n))++[[.int .u32 0],[.int .u32 0]])) →
   aC.wp C (.seq (.region LD) (.seq (.region LF) (.seq (.region LG) (.seq (.seq (.region LH) (.block 2 (.loop BK))) (.seq (.region LO) .ret))))) (aT [.tmp 4,.tmp 5] (cP (vS A B))) F H:=by
  intro o F H f0 f1 ν f11 ξ hH;have LU:=aX (A*2 ^ n);have LV:=aX (B*2 ^ n);have vU:=aU (A*2 ^ n);have vV:=aU (B*2 ^ n);have lU:(aJ (A*2 ^ n)).length=nl (A*2 ^ n):=rfl;have lV:(aJ (B*2 ^ n)).length=m+1:=nV;have eu:IntKind.i64.wrap (((nl (A*2 ^ n):Nat):Int)+1)=((nl (A*2 ^ n)+1:Nat):Int):=dW Om;have b1:((nl (A*2 ^ n)+1:Nat):Int)≤((nl (A*2 ^ n)+2:Nat):Int):=Om;simp only[go_sem,LD,f11,f0,ν];refine aB ua.freeze rfl ?_;obtain⟨e,c'⟩:∃ e,nl (A*2 ^ n)+1-(m+1)=e:=⟨_,rfl⟩;have Γ:nl (A*2 ^ n)+1=e+(m+1):=Om;have em:IntKind.i64.wrap (((m+1:Nat):Int)-1)=((m:Nat):Int):=by rw[wrap_i64 Om Om]; omega
  have u:m<(aJ (B*2 ^ n)).length:=Om;have rm:=cF (aJ (B*2 ^ n)) u;have tl:=LV _ (a8G u);have htop:0<(aJ (B*2 ^ n))[m]:=by
   have I:=cY (aJ (B*2 ^ n)) u;rw[a8V Om,vV] at I;have h2:=gY (LV.take m);rw[a8W,baO Om] at h2;have Δ:0<4294967296 ^ m:=bbD (by decide);rcases baN (aJ (B*2 ^ n))[m] with h | h
   ·rw[h] at I; omega
   ·exact h
  have κ:2147483648≤(aJ (B*2 ^ n))[m]:=by
   have I:=cY (aJ (B*2 ^ n)) u;rw[a8V Om,vV] at I;have h2:=gY (LV.take m);rw[a8W,baO Om] at h2;rcases a8Z (aJ (B*2 ^ n))[m] 2147483648 with h | h
   ·exfalso;have h3:4294967296 ^ m*((aJ (B*2 ^ n))[m]+1)≤4294967296 ^ m*2147483648:=baU _ h;rw[a8T,Nat.mul_one] at h3;omega
   ·exact h
  have y:=aKD (C:=C) L (A*2 ^ n) n o (nl (A*2 ^ n)+1) e;have hI:tN (A*2 ^ n) (val (aJ (B*2 ^ n))) (m+1) (nl (A*2 ^ n)+1) e e (aJ (A*2 ^ n)++[0]) (a8F e 0):=by
   refine⟨by rw[a8H,lU]; rfl,bbP,LU.app fun x O=>by simp at O; omega,BW _,?_,?_,fun i x _ O=>ahH O⟩
   ·rw[jT,vU,xW]; simp[val]
   ·have Φ:(aJ (A*2 ^ n)++[0]).length=nl (A*2 ^ n)+1:=by rw[a8H,lU]; rfl
    have Λ:val (aJ (A*2 ^ n)++[0])=A*2 ^ n:=by rw[jT,vU]; simp[val]
    rw[AR (LU.app fun x O=>by simp at O; omega) Om,Λ,vV,bbM (bbD (by decide))];have I:A*2 ^ n<4294967296 ^ nl (A*2 ^ n):=(lS _ _).1 (a8J _);have O:nl (A*2 ^ n)=m+e:=Om;rw[O,Nat.pow_add] at I;have h2:4294967296 ^ m*4294967296 ^ e≤(B*2 ^ n)*4294967296 ^ e:=a9H _ Om;omega
  have M:aN (aJ (A*2 ^ n))++[[PV.int .u32 0],[PV.int .u32 0]]=fJ (aJ (A*2 ^ n)++[0]) (aN [0]):=by simp[fJ,aN]
  rw[M] at hH;generalize θ:(aJ (B*2 ^ n))[m]=ι at *
  have et:IntKind.u64.wrap ((ι:Nat):Int)=((ι:Nat):Int):=bK Om;have k2:IntKind.i64.wrap (((nl (A*2 ^ n)+1:Nat):Int)-((m+1:Nat):Int))=((e:Nat):Int):=by rw[wrap_i64 Om Om]; omega
  have k3:((e:Nat):Int)*((4:Nat):Int)≤140737488355328:=Om;have k4:((e:Nat):Int)≤9223372036854775807:=Om;have hz:a8F e [PV.int .u32 0]=aN (a8F e 0):=by simp[aN]
  have jq:IntKind.i64.wrap ((e:Int)-1)=(e:Int)-1:=wrap_i64 Om Om;simp only[go_sem,a8E,lU,eu,b1,LF,ξ,lV,em,rm,et,LG,k2,k3,k4,hz];refine aO fun E η=>?_;have ε:E≠o:=by rintro rfl; rw[hH] at η; cases η
  have l:¬ o=E:=fun h=>ε h.symm;have w:=y E m (aJ (B*2 ^ n)) [0] ε LV lV (by rw[θ]; exact htop) Γ Om _ hI;rw[θ] at w;simp only[go_sem] at w;simp only[go_sem,LH,jq];refine w _ _ _ ?_ ?_ ?_
  ·unfold duF;exact Lq
  ·refine e_ (e_ a_ ?_) ?_
   ·simp only[go_sem,l,hH]
   ·simp only[go_sem]
  clear w y;intro X Q F1 H1 j J W;have ο:F1 10=some (.int .i64 n):=J 10 _ (by unfold duF; simp only[go_sem]);have ρ:F1 11=some (.osl o 1 0 (nl (A*2 ^ n)+1)):=J 11 _ (by unfold duF; simp only[go_sem]);have σ:F1 14=some (.osl E 1 0 e):=J 14 _ (by unfold duF; simp only[go_sem]);have ζ:H1 o=some (.rows 1 (fJ X (aN [0]))):=W o _ (by simp only[go_sem,l]);have Θ:H1 E=some (.rows 1 (aN Q)):=W E _ Sq;have hu:val X<val (aJ (B*2 ^ n)):=by have:=j.r; rwa [a9R] at this
  have N:=j.v;rw[vV] at hu N;have φ:val Q=A/B:=by
   have:A*2 ^ n/(B*2 ^ n)=val Q:=by rw[← N,Nat.add_mul_div_right _ _ Om,bbL hu,a8R]
   rw[← this,Nat.mul_div_mul_right _ _ K]
  have ψ:val X/2 ^ n=A%B:=by
   have:A*2 ^ n%(B*2 ^ n)=val X:=by rw[← N,Nat.add_mul_mod_self_right,a9V hu]
   rw[← this,Nat.mul_mod_mul_right,Nat.mul_div_cancel _ K]
  have lX:=j.lu';have lQ:=j.lq';have υ:(aN Q).take e=aN Q:=a8V (by rw[cV]; omega);have α:(fJ X (aN [0])).take (nl (A*2 ^ n)+1)=aN X:=by rw[fJ,List.take_append_of_le_length (by rw[cV]; omega),a8V (by rw[cV]; omega)]
  have Z:nl (A*2 ^ n)+1≤(fJ X (aN [0])).length:=by rw[fJ,a8H,cV]; omega
  have γ:(fJ X (aN [0])).map (fun r=>r.map (PV.cQ E 1 (aN Q)))=fJ X (aN [0]):=by
   have:fJ X (aN [0])=aN (X++[0]):=by simp[fJ,aN]
   rw[this]; exact xL _ _ _ _
  have nX:=jA j.limU;have t1:=L.trim Q j.limQ Om;have t2:=L.trim X j.limU Om;have dn:=L.down (aJ (val X)) n (aX _) (by rw[bC]; omega) Om;rw[aU,ψ] at dn;rw[φ] at t1;generalize aN [0]=Z0 at ζ α Z γ;simp only[go_sem,LO,σ];refine tH (o:=E) (s:=1) (rs:=aN Q) t1 Θ (by simp only[go_sem,υ,show e≤Q.length by omega]) ?_;simp only[go_sem,ρ,l];refine tH (o:=o) (s:=1) (rs:=fJ X Z0) t2 (by simp only[go_sem,l,ζ,bZ.frz,γ]) (by simp only[go_sem,α,Z]) ?_;simp only[go_sem,ο];refine aB dn rfl ?_;simp only[go_sem];exact bA (vs:=[aK (aJ (A/B)),aK (aJ (A%B))]) (.inr rfl) .nil rfl a_ ⟨.refl _,rfl⟩
 simp only[aC.wp,go_sem] at tail;simp only[go_sem,bD (Om:¬ ((nl B:Nat):Int)=1),gj,a8E,lB];refine aB bt rfl ?_;simp only[go_sem,μ,en,gk];refine dV ua rfl a_ fun r H1 hr _=>?_;have β:(2:Nat)*1≤16777216:=by decide
 rcases hr with ⟨h0,_⟩ | ⟨o,rs,rfl,rfl,hrl,hrt⟩
 ·exfalso;have:=congrArg List.length h0;rw[cV,bC] at this;simp at this;omega
 rw[PH.uD];rw[cV,bC] at hrl hrt;simp only[go_sem,β,cV,bC];refine ahB (src:=[[.int .u32 0],[.int .u32 0]]) (rs:=rs) rfl ?_ Sq hrl ?_ fun o' f'=>?_
 ·unfold roomFor;simp only[maxLen,a9Y,baX]; omega
 ·rw[hrt];simp only[go_sem];refine aB ub rfl ?_;simp only[go_sem];exact tail o _ _ rfl rfl rfl rfl rfl Sq
 ·rw[hrt];simp only[go_sem];refine aB ub rfl ?_;simp only[go_sem];exact tail o' _ _ rfl rfl rfl rfl rfl Sq
def bH (C:Ctx) (k:Nat) (e:aW):Prop:=∀ (args:List PV) (H:PH) (R:PV→PH→Prop),args.length≤e.ntmps→e.body.wp C (aT e.res R) (PF.args args) H→aH C k args H R
theorem bH.go {C:Ctx} {k:Nat} {e:aW} (r:bH C k e) {args:List PV} {H:PH} {R:PV→PH→Prop} (h:e.body.wp C (aT e.res R) (PF.args args) H) (j:Nat.ble args.length e.ntmps=true):aH C k args H R:=r args H R (Nat.le_of_ble_eq_true j) h
abbrev FU (C:Ctx):Prop:=∀ n:Nat,n<100→aH C 195 [.int .i64 n] .nil (aI (.str (dU n)))
section
variable {C:Ctx} {F F':PF} {H:PH}
theorem dM (e:F.le F') {x:aP} {v:PV} (h:x.ev F=some v):x.ev F'=some v:=by
 cases x
 ·exact e _ _ h
 all_goals exact h
theorem MS (e:F.le F'):∀ {xs:List aP} {vs:List PV},aP.evs F xs=some vs→aP.evs F' xs=some vs
 | [],_,h=>h
 | x::xs,vs,h=>by
  rw[GF] at h ⊢;cases l:x.ev F with
  | none=>simp[l] at h
  | some v =>
   cases j:aP.evs F xs with
   | none=>simp[j] at h
   | some ws =>rw[l,j] at h;rw[dM e l,MS e j];exact h
theorem Q1 (e:F.le F'):∀ {ps:List (Nat × Nat × aP)} {cs ds:List PV},uR cs F ps=some ds→uR cs F' ps=some ds
 | [],_,_,h=>h
 | (u,size,x)::ps,cs,ds,h=>by
  simp only[uR] at h ⊢;cases j:x.ev F with
  | none=>simp[j] at h
  | some v =>
   rw[j] at h;rw[dM e j];simp only at h ⊢;split at h
   ·rename_i l; rw[if_pos l]; exact Q1 e h
   ·cases h
theorem JH (e:F.le F') {size:Nat}:∀ {ps:List (Nat × aP)} {cs ds:List (List PV)},kF size cs F ps=some ds→kF size cs F' ps=some ds
 | [],_,_,h=>h
 | (i,x)::ps,cs,ds,h=>by
  simp only[kF] at h ⊢;cases j:x.ev F with
  | none=>simp[j] at h
  | some v =>
   rw[j] at h;rw[dM e j];simp only at h ⊢;split at h
   ·rename_i l; rw[if_pos l]; exact JH e h
   ·cases h
theorem VE (e:F.le F') {d n:Int} {x:Option aP} (h:bnd F d x=some n):bnd F' d x=some n:=by
 cases x with
 | none=>exact h
 | some x =>
  simp only[bnd] at h ⊢;cases j:x.ev F with
  | none=>simp[j] at h
  | some v=>rw[dM e j,← j]; exact h
theorem Zr {op:POp} {v:PV} (j:F.le F') (h:aQ op F H=some v):aQ op F' H=some v:=by
 cases op
 case mv x=>exact dM j h
 case pick c a b =>
  simp only[aQ] at h ⊢;cases I:c.ev F with
  | none=>simp[I] at h
  | some t =>
   rw[I] at h;rw[dM j I];cases t<;>simp only at h ⊢<;>try cases h
   rename_i t;cases t
   ·simp only[bbH,if_false] at h ⊢; exact dM j h
   ·simp only[if_true] at h ⊢; exact dM j h
 case same x =>
  simp only[aQ] at h ⊢;cases e:x.ev F with
  | none=>simp[e] at h
  | some a=>rw[dM j e,← e]; exact h
 case un o x =>
  simp only[aQ] at h ⊢;cases e:x.ev F with
  | none=>simp[e] at h
  | some a=>rw[dM j e,← e]; exact h
 case conv k x =>
  simp only[aQ] at h ⊢;cases e:x.ev F with
  | none=>simp[e] at h
  | some a=>rw[dM j e,← e]; exact h
 case a7D x =>
  simp only[aQ] at h ⊢;cases e:x.ev F with
  | none=>simp[e] at h
  | some a=>rw[dM j e,← e]; exact h
 case a7U o x =>
  simp only[aQ] at h ⊢;cases e:x.ev F with
  | none=>simp[e] at h
  | some a=>rw[dM j e,← e]; exact h
 case field o n x =>
  simp only[aQ] at h ⊢;cases e:x.ev F with
  | none=>simp[e] at h
  | some a=>rw[dM j e,← e]; exact h
 case a7R x =>
  simp only[aQ] at h ⊢;cases e:x.ev F with
  | none=>simp[e] at h
  | some a=>rw[dM j e,← e]; exact h
 case isNil n x =>
  simp only[aQ] at h ⊢;cases e:x.ev F with
  | none=>simp[e] at h
  | some a=>rw[dM j e,← e]; exact h
 case lenM x =>
  simp only[aQ] at h ⊢;cases e:x.ev F with
  | none=>simp[e] at h
  | some a=>rw[dM j e,← e]; exact h
 case a8C x =>
  simp only[aQ] at h ⊢;cases e:x.ev F with
  | none=>simp[e] at h
  | some a=>rw[dM j e,← e]; exact h
 case extract x i =>
  simp only[aQ] at h ⊢;cases e:x.ev F with
  | none=>simp[e] at h
  | some a=>rw[dM j e,← e]; exact h
 case a7E x =>
  simp only[aQ] at h ⊢;cases e:x.ev F with
  | none=>simp[e] at h
  | some a=>rw[dM j e,← e]; exact h
 case len x =>
  simp only[aQ] at h ⊢;cases e:x.ev F with
  | none=>simp[e] at h
  | some a=>rw[dM j e,← e]; exact h
 case box r x =>
  cases r
  ·cases h
  simp only[aQ] at h ⊢;cases e:x.ev F with
  | none=>simp[e] at h
  | some a=>rw[dM j e,← e]; exact h
 case load n p =>
  cases n
  all_goals
   simp only[aQ] at h ⊢;cases e:p.ev F with
   | none=>simp[e] at h
   | some a=>rw[dM j e,← e]; exact h
 case bin o x y =>
  simp only[aQ] at h ⊢;cases e:x.ev F with
  | none=>simp[e] at h
  | some a =>
   cases A:y.ev F with
   | none=>simp[e,A] at h
   | some b=>rw[dM j e,dM j A,← e,← A]; exact h
 case eqb n x y =>
  simp only[aQ] at h ⊢;cases e:x.ev F with
  | none=>simp[e] at h
  | some a =>
   cases A:y.ev F with
   | none=>simp[e,A] at h
   | some b=>rw[dM j e,dM j A,← e,← A]; exact h
 case eqs n k x y =>
  simp only[aQ] at h ⊢;cases e:x.ev F with
  | none=>simp[e] at h
  | some a =>
   cases A:y.ev F with
   | none=>simp[e,A] at h
   | some b=>rw[dM j e,dM j A,← e,← A]; exact h
 case a7H s x i =>
  simp only[aQ] at h ⊢;cases e:x.ev F with
  | none=>simp[e] at h
  | some a =>
   cases A:i.ev F with
   | none=>simp[e,A] at h
   | some b=>rw[dM j e,dM j A,← e,← A]; exact h
 case idxA n s x i =>
  simp only[aQ] at h ⊢;cases e:x.ev F with
  | none=>simp[e] at h
  | some a =>
   cases A:i.ev F with
   | none=>simp[e,A] at h
   | some b=>rw[dM j e,dM j A,← e,← A]; exact h
 case idxV n s g x i =>
  simp only[aQ] at h ⊢;cases e:x.ev F with
  | none=>simp[e] at h
  | some a =>
   cases A:i.ev F with
   | none=>simp[e,A] at h
   | some b=>rw[dM j e,dM j A,← e,← A]; exact h
 case a7S x i =>
  simp only[aQ] at h ⊢;cases e:x.ev F with
  | none=>simp[e] at h
  | some a =>
   cases A:i.ev F with
   | none=>simp[e,A] at h
   | some b=>rw[dM j e,dM j A,← e,← A]; exact h
 case a7L m x y =>
  simp only[aQ] at h ⊢;cases e:x.ev F with
  | none=>simp[e] at h
  | some a =>
   cases A:y.ev F with
   | none=>simp[e,A] at h
   | some b=>rw[dM j e,dM j A,← e,← A]; exact h
 case lookup sh z x k ok =>
  simp only[aQ] at h ⊢;cases e:x.ev F with
  | none=>simp[e] at h
  | some a =>
   cases A:k.ev F with
   | none=>simp[e,A] at h
   | some b=>rw[dM j e,dM j A,← e,← A]; exact h
 case build z ps =>simp only[aQ,a8P] at h ⊢;obtain⟨cs,B,E⟩:=h;exact⟨cs,Q1 j B,E⟩
 case a6V r s l z ps =>
  cases r
  ·cases h
  simp only[aQ] at h ⊢;split at h
  ·rename_i I;rw[if_pos I];rw[a8P] at h ⊢;obtain⟨cs,B,E⟩:=h;exact⟨cs,JH j B,E⟩
  ·cases h
 case mkfn n cs =>simp only[aQ,a8P] at h ⊢;obtain⟨vs,B,E⟩:=h;exact⟨vs,MS j B,E⟩
 case sliceA n s x lo hi mx =>
  cases lo<;>cases hi<;>cases mx<;>simp only[aQ] at h ⊢<;>try cases h
  cases e:x.ev F with
  | none=>simp[e] at h
  | some a=>rw[dM j e,← e]; exact h
 case a7N x lo hi =>
  simp only[aQ] at h ⊢;cases e:x.ev F with
  | none=>simp[e] at h
  | some a =>
   rw[e] at h;rw[dM j e];cases a<;>simp only at h ⊢<;>try cases h
   cases B:bnd F 0 lo with
   | none=>simp[B] at h
   | some l =>
    rename_i s;cases E:bnd F s.length hi with
    | none=>simp[B,E] at h
    | some u=>rw[VE j B,VE j E,← B,← E]; exact h
 case slice s x lo hi mx =>
  simp only[aQ] at h ⊢;cases e:x.ev F with
  | none=>simp[e] at h
  | some a =>
   rw[e] at h;rw[dM j e];have K:∀ (d:Int) (w:PV),(match bnd F 0 lo,bnd F d hi with
     | some a1,some a2=>match (generalizing:=false) mx with
      | none=>PV.slice s w a1 a2 none
      | some m=>(bnd F 0 (some m)).bind fun m=>PV.slice s w a1 a2 (some m)
     | _,_=>none)=some v→(match bnd F' 0 lo,bnd F' d hi with
     | some a1,some a2=>match (generalizing:=false) mx with
      | none=>PV.slice s w a1 a2 none
      | some m=>(bnd F' 0 (some m)).bind fun m=>PV.slice s w a1 a2 (some m)
     | _,_=>none)=some v:=by
    intro d w h;cases B:bnd F 0 lo with
    | none=>simp[B] at h
    | some l =>
     cases E:bnd F d hi with
     | none=>simp[B,E] at h
     | some u =>
      rw[B,E] at h;rw[VE j B,VE j E];cases mx with
      | none=>exact h
      | some m =>
       simp only at h ⊢;cases J:bnd F 0 (some m) with
       | none=>simp[J] at h
       | some q=>rw[VE j J,← J]; exact h
   cases a<;>simp only at h ⊢<;>first | exact K _ _ h | cases h
 all_goals exact h
theorem P5 {op:POp} {r:(Nat→PV) × bZ} (e:F.le F') (h:eC op F=some r):eC op F'=some r:=by
 cases op
 case box b x =>
  cases b
  ·simp only[eC] at h ⊢;cases j:x.ev F with
   | none=>simp[j] at h
   | some a=>rw[dM e j,← j]; exact h
  ·cases h
 case a6V b s l z ps =>
  cases b
  ·simp only[eC] at h ⊢;split at h
   ·rename_i A;rw[if_pos A];rw[a8P] at h ⊢;obtain⟨cs,w,y⟩:=h;exact⟨cs,JH e w,y⟩
   ·cases h
  ·cases h
 case a6Y s b z l c =>
  simp only[eC] at h ⊢;cases j:l.ev F with
  | none=>simp[j] at h
  | some a =>
   cases u:c.ev F with
   | none=>simp[j,u] at h
   | some b=>rw[dM e j,dM e u,← j,← u]; exact h
 all_goals exact h
theorem ahF {op:POp} {K:PV→PH→Prop} (e:F.le F') (h:cW op F H K):cW op F' H K:=by
 cases op
 case store n x y =>
  simp only[cW] at h ⊢;cases j:x.ev F with
  | none=>simp[j] at h
  | some a =>
   cases l:y.ev F with
   | none=>simp[j,l] at h
   | some b=>rw[dM e j,dM e l]; rw[j,l] at h; exact h
 case append s b x y =>
  simp only[cW] at h ⊢;cases j:x.ev F with
  | none=>simp[j] at h
  | some a =>
   cases l:y.ev F with
   | none=>simp[j,l] at h
   | some b=>rw[dM e j,dM e l]; rw[j,l] at h; exact h
 case a7I sh x y z =>
  simp only[cW] at h ⊢;cases j:x.ev F with
  | none=>simp[j] at h
  | some a =>
   cases l:y.ev F with
   | none=>simp[j,l] at h
   | some b =>
    cases u:z.ev F with
    | none=>simp[j,l,u] at h
    | some c=>rw[dM e j,dM e l,dM e u]; rw[j,l,u] at h; exact h
 case insert sh x y z =>
  simp only[cW] at h ⊢;cases j:x.ev F with
  | none=>simp[j] at h
  | some a =>
   cases l:y.ev F with
   | none=>simp[j,l] at h
   | some b =>
    cases u:z.ev F with
    | none=>simp[j,l,u] at h
    | some c=>rw[dM e j,dM e l,dM e u]; rw[j,l,u] at h; exact h
 all_goals exact h
theorem PF.aYV (l:F.le F') (i:Nat) (v:PV):(F.set i v).le (F'.set i v):=by
 intro j u h;rw[oJ] at h ⊢;split at h
 ·rename_i e; rw[if_pos e]; exact h
 ·rename_i e; rw[if_neg e]; exact l j u h
theorem PF.zD (e:F.le F') (d:Option Nat) (v:PV):(F.put d v).le (F'.put d v):=by
 cases d with
 | none=>exact e
 | some d=>exact PF.aYV e d v
theorem PF.aYC (e:F.le F') (o s:Nat) (rs:List (List PV)):(F.frz o s rs).le (F'.frz o s rs):=by
 intro j u h;rw[rM,a8P] at h ⊢;obtain⟨x,l,w⟩:=h;exact⟨x,e j x l,w⟩
theorem PF.le_trans {A B D:PF} (h:A.le B) (k:B.le D):A.le D:=fun i v hi=>k i v (h i v hi)
theorem kP.up {l:PF} {u:PH} (h:kP F H l u):∀ {F':PF},F.le F'→∃ e,kP F' H e u∧l.le e:=by
 induction h with
 | refl F H=>exact fun {F'} j=>⟨F',.refl _ _,j⟩
 | step o y _ A =>intro F' j;obtain⟨e,w,x⟩:=A (PF.aYC j o _ _);exact⟨e,.step o y w,x⟩
theorem rt {name:Nat} {args:Option (List PV)} {d:Option Nat} {K1 K2:PF→PH→Prop} (y:∀ F F' H,F.le F'→K1 F H→K2 F' H) (j:F.le F') {e:Option (List PV)} (A:∀ vs,args=some vs→e=some vs) (h:xY C name args d K1 F H):xY C name e d K2 F' H:=by
 obtain⟨vs,H0,R,l,u,w,x⟩:=h;exact⟨vs,H0,R,A _ l,u,w,fun r H' a b=>y _ _ _ (PF.zD j d r) (x r H' a b)⟩
theorem V9 {cs:List PV} {args:List aP} (e:F.le F') (vs:List PV) (h:(aP.evs F args).map (·++cs)=some vs):(aP.evs F' args).map (·++cs)=some vs:=by
 rw[a8P] at h ⊢;obtain⟨x,j,l⟩:=h;exact⟨x,MS e j,l⟩
theorem ajT {name:Nat} {args:List aP} {cs:List PV} {d:Option Nat} {K1 K2:PF→PH→Prop} (l:∀ F F' H,F.le F'→K1 F H→K2 F' H) (e:F.le F') (h:jU C name args cs d K1 F H):jU C name args cs d K2 F' H:=by
 rcases h with h | ⟨F1,H1,h1,h2⟩
 ·exact .inl (rt l e (V9 e) h)
 ·obtain⟨j,k1,k2⟩:=h1.up e;exact .inr ⟨j,H1,k1,rt l k2 (V9 k2) h2⟩
theorem XE {op:POp} {d:Option Nat} {K1 K2:PF→PH→Prop} (u:∀ F F' H,F.le F'→K1 F H→K2 F' H) (e:F.le F') (h:qU (eC op F) d K1 F H):qU (eC op F') d K2 F' H:=by
 obtain⟨y,x,j,l⟩:=h;exact⟨y,x,P5 e j,fun o w=>u _ _ _ (PF.zD e d _) (l o w)⟩
theorem Bl {op:POp} {d:Option Nat} {K1 K2:PF→PH→Prop} (u:∀ F F' H,F.le F'→K1 F H→K2 F' H) (e:F.le F') (h:cK (aQ op F H) d K1 F H):cK (aQ op F' H) d K2 F' H:=by
 obtain⟨v,j,l⟩:=h;exact⟨v,Zr e j,u _ _ _ (PF.zD e d v) l⟩
theorem Pk {op:POp} {d:Option Nat} {K1 K2:PF→PH→Prop} (j:∀ F F' H,F.le F'→K1 F H→K2 F' H) (e:F.le F') (h:cW op F H fun r H'=>K1 (F.put d r) H'):cW op F' H fun r H'=>K2 (F'.put d r) H' :=
 ahF e (HQ (fun v H' l=>j _ _ _ (PF.zD e d v) l) h)
theorem aSG {op:POp} {d:Option Nat} {K1 K2:PF→PH→Prop} (j:∀ F F' H,F.le F'→K1 F H→K2 F' H) (e:F.le F') (h:wpOp C op d K1 F H):wpOp C op d K2 F' H:=by
 cases op
 case call n a=>exact ajT j e h
 case a7T x a =>
  have w:AW C (x.ev F) a d K1 F H:=h;show AW C (x.ev F') a d K2 F' H;cases J:x.ev F with
  | none=>rw[J] at w; exact w.elim
  | some u =>
   rw[dM e J];rw[J] at w;cases u<;>first | exact ajT j e w | exact w.elim | skip
   obtain⟨l,M,A⟩:=w;refine⟨l,M,?_⟩;rcases A with ⟨vs,H0,R,A,E,I,h5⟩ | ⟨F1,H1,k1,vs,H0,R,A,E,I,h5⟩
   ·exact .inl ⟨vs,H0,R,MS e A,E,I,fun r H' p q=>j _ _ _ (PF.zD e d r) (h5 r H' p q)⟩
   ·obtain⟨B,k2,K⟩:=k1.up e;exact .inr ⟨B,H1,k2,vs,H0,R,MS K A,E,I,fun r H' p q=>j _ _ _ (PF.zD K d r) (h5 r H' p q)⟩
 case box r x=>cases r<;>first | exact XE (op:=.box false x) j e h | exact Bl (op:=.box true x) j e h
 case a6V r s l z ps=>cases r<;>first | exact XE (op:=.a6V false s l z ps) j e h | exact Bl (op:=.a6V true s l z ps) j e h
 case alloc cs=>exact XE (op:=.alloc cs) j e h
 case a6Y s b z l c=>exact XE (op:=.a6Y s b z l c) j e h
 case a7Y sh=>exact XE (op:=.a7Y sh) j e h
 case store n x y=>exact Pk (op:=.store n x y) j e h
 case append s b x y=>exact Pk (op:=.append s b x y) j e h
 case a7I sh x y z=>exact Pk (op:=.a7I sh x y z) j e h
 case insert sh x y z=>exact Pk (op:=.insert sh x y z) j e h
 all_goals exact Bl j e h
theorem YB {K1 K2:PF→PH→Prop} (l:∀ F F' H,F.le F'→K1 F H→K2 F' H):∀ {ops:List bE} {F F':PF} {H:PH},F.le F'→wpOps C ops K1 F H→wpOps C ops K2 F' H
 | [],_,_,_,j,h=>l _ _ _ j h
 | ⟨d,op,none⟩::u,_,_,_,j,h=>aSG (fun _ _ _ a b=>YB l a b) j h
 | ⟨d,op,some (t,w)⟩::u,F,F',H,j,h=>by
  rw[ajK] at h ⊢;unfold BU at h;split at h
  ·rename_i b hb;rw[j t _ hb];unfold BU;simp only;split at h
   ·rename_i e; rw[if_pos e]; exact aSG (fun _ _ _ a b=>YB l a b) j h
   ·rename_i e; rw[if_neg e]; exact YB l (PF.zD j d _) h
  ·rename_i hb;rw[j t _ hb];exact YB l (PF.zD j d _) h
  ·exact h.elim
theorem Zh {Hs:PH} {S:Spec} {st:Bool} {op:POp} {K:PV→PH→Prop} (e:F.le F') (h:(op.kind F).run C Hs S st K H):(op.kind F').run C Hs S st K H:=by
 have new:∀ op:POp,(Kind.new (eC op F)).run C Hs S st K H→(Kind.new (eC op F')).run C Hs S st K H:=fun op h=>by obtain⟨N,x,j,w⟩:=h;exact⟨N,x,P5 e j,w⟩
 have calm:∀ op:POp,(Kind.calm (aQ op F)).run C Hs S st K H→(Kind.calm (aQ op F')).run C Hs S st K H:=fun op h=>by obtain⟨v,j,w⟩:=h;exact⟨v,Zr e j,w⟩
 have M:∀ op:POp,(Kind.write fun H K=>cW op F H K).run C Hs S st K H→(Kind.write fun H K=>cW op F' H K).run C Hs S st K H:=fun op h=>ahF (op:=op) e (show cW op F H (fun r H'=>Hs.le H'∧K r H') from h);cases op
 case call n a =>obtain⟨vs,D,R,j,w⟩:=h;exact⟨vs,D,R,MS e j,w⟩
 case a7T x a =>
  unfold POp.kind at h ⊢;simp only at h ⊢;cases A:x.ev F with
  | none=>rw[A] at h; exact h.elim
  | some u =>
   rw[A] at h;rw[dM e A];cases u<;>simp only at h ⊢<;>first | exact h | skip
   obtain⟨vs,D,R,j,w⟩:=h;exact⟨vs,D,R,V9 e _ j,w⟩
 case insert sh x k v =>
  obtain⟨o,J,I,u,g,j,w⟩:=h;refine⟨o,J,I,u,g,?_,w⟩;cases A:x.ev F with
  | none=>simp[A] at j
  | some a =>
   cases B:k.ev F with
   | none=>simp[A,B] at j
   | some b =>
    cases E:v.ev F with
    | none=>simp[A,B,E] at j
    | some c=>rw[dM e A,dM e B,dM e E]; rw[A,B,E] at j; exact j
 case box r x=>cases r<;>first | exact new (.box false x) h | exact calm (.box true x) h
 case a6V r s l z ps=>cases r<;>first | exact new (.a6V false s l z ps) h | exact calm (.a6V true s l z ps) h
 case alloc cs=>exact new (.alloc cs) h
 case a6Y s b z l c=>exact new (.a6Y s b z l c) h
 case a7Y sh=>exact new (.a7Y sh) h
 case store n x y=>exact M (.store n x y) h
 case append s b x y=>exact M (.append s b x y) h
 case a7I sh x y z=>exact M (.a7I sh x y z) h
 all_goals exact calm _ h
theorem aNJ {Hs:PH} {S:Spec} {st:Bool} {i:bE} {K:PV→PH→Prop} (j:F.le F') (h:(i.kind F).run C Hs S st K H):(i.kind F').run C Hs S st K H:=by
 unfold bE.kind at h ⊢;split
 ·rename_i l;rw[l] at h;exact Zh j h
 ·rename_i t u l;rw[l] at h;simp only at h;split at h
  ·rename_i b hb;rw[j t _ hb];simp only;split at h
   ·rename_i e; rw[if_pos e]; exact Zh j h
   ·rename_i e; rw[if_neg e]; exact h
  ·rename_i hb;rw[j t _ hb];exact h
  ·exact h.elim
theorem aLA {Hs:PH} {S:Spec} {K1 K2:PF→PH→Prop} (u:∀ F F' H,F.le F'→K1 F H→K2 F' H):∀ {ops:List (bE × Bool)} {F F':PF} {H:PH},Hs.le H→F.le F'→wpD C Hs S ops K1 F H→wpD C Hs S ops K2 F' H
 | [],_,_,_,_,e,h=>u _ _ _ e h
 | i::j,F,F',H,y,e,h=>by have w:(i.1.kind F).run C Hs S i.2 (fun v H'=>wpD C Hs S j K1 (F.put i.1.dst v) H') H:=h;exact aNJ e (Kind.xC (wW _ _) (fun v H' l x=>aLA u l (PF.zD e _ v) x) y w)
class Up (K:cI):Prop where
 up:∀ {e:mY} {F F':PF} {H:PH},F.le F'→K e F H→K e F' H
theorem sQ:∀ (c:aC) {K1 K2:cI} (_:∀ e F F' H,F.le F'→K1 e F H→K2 e F' H) {F F':PF} {H:PH},F.le F'→c.wp C K1 F H→c.wp C K2 F' H
 | .skip,_,_,u,_,_,_,l,h=>u _ _ _ _ l h
 | .region ops,_,_,u,_,_,_,l,h=>YB (u .normal) l h
 | .draw ops,_,_,u,_,_,_,l,⟨Hs,S,y,J⟩=>⟨Hs,S,y,aLA (u .normal) y l J⟩
 | .seq a b,K1,K2,u,_,_,_,l,h=>sQ a (K1:=jY C (b.wp C) K1) (K2:=jY C (b.wp C) K2) (fun e F F' H x w=>by
   cases e with
   | normal=>exact sQ b u x w
   | exit id=>exact u (.exit id) _ _ _ x w
   | ret=>exact u .ret _ _ _ x w) l h
 | .cond c a b,K1,K2,u,F,F',H,l,h=>by
  rw[aRH] at h ⊢;unfold bc at h;split at h
  ·rename_i t U;rw[dM l U];unfold bc;simp only;split at h
   ·rename_i e; rw[if_pos e]; exact sQ a u l h
   ·rename_i e; rw[if_neg e]; exact sQ b u l h
  ·exact h.elim
 | .block id c,K1,K2,u,_,_,_,l,h=>sQ c (K1:=fR id K1) (K2:=fR id K2) (fun e F F' H x w=>by
   cases e with
   | normal=>exact u .normal _ _ _ x w
   | exit j =>
    rw[JF] at w ⊢;split at w
    ·rename_i e; rw[if_pos e]; exact u .normal _ _ _ x w
    ·rename_i e; rw[if_neg e]; exact u (.exit j) _ _ _ x w
   | ret=>exact u .ret _ _ _ x w) l h
 | .loop c,K1,K2,u,F,F',H,l,⟨α,E,Hs,I,m,M,F1,K,y,J,N,O,h5⟩=>by
  obtain⟨A,k1,k2⟩:=y.up l;refine⟨α,E,Hs,I,m,M,A,K,k1,J,PF.le_trans N k2,O,fun a R=>?_⟩;refine sQ c (K1:=gP E Hs I m (m a) K1) (K2:=gP E Hs I m (m a) K2) (fun e F F' H x w=>?_) PF.le_refl (h5 a R);cases e with
  | normal =>obtain⟨b,F2,H2,X,Y,Z,z4,z5⟩:=w;obtain⟨B,V,W⟩:=X.up x;exact⟨b,B,H2,V,Y,Z,PF.le_trans z4 W,z5⟩
  | exit id=>exact u (.exit id) _ _ _ x w
  | ret=>exact u .ret _ _ _ x w
 | .exit id,_,_,u,_,_,_,l,h=>u (.exit id) _ _ _ l h
 | .ret,_,_,u,_,_,_,l,h=>u .ret _ _ _ l h
instance Up.seq {K:cI} [Up K] (b:aC):Up (jY C (b.wp C) K) where
 up {e} {F} {F'} {H} hl hh:=by
  cases e with
  | normal=>exact sQ b (fun e F F' H a h=>Up.up a h) hl hh
  | exit id=>exact Up.up (K:=K) (e:=.exit id) hl hh
  | ret=>exact Up.up (K:=K) (e:=.ret) hl hh
instance Up.block {K:cI} [Up K] (id:Nat):Up (fR id K) where
 up {e} {F} {F'} {H} hl hh:=by
  cases e with
  | normal=>exact Up.up (K:=K) (e:=.normal) hl hh
  | exit j =>
   rw[JF] at hh ⊢;split at hh
   ·rename_i e; rw[if_pos e]; exact Up.up (K:=K) (e:=.normal) hl hh
   ·rename_i e; rw[if_neg e]; exact Up.up (K:=K) (e:=.exit j) hl hh
  | ret=>exact Up.up (K:=K) (e:=.ret) hl hh
instance Up.loop {K:cI} [Up K] {α:Type} (l:α→PF) (Hs:α→PH) (u:α→Prop) (m:α→Nat) (n:Nat):Up (gP l Hs u m n K) where
 up {e} {F} {F'} {H} hl hh:=by
  cases e with
  | normal =>obtain⟨b,J,H2,y,A,B,E,I⟩:=hh;obtain⟨j,w,x⟩:=y.up hl;exact⟨b,j,H2,w,A,B,PF.le_trans E x,I⟩
  | exit id=>exact Up.up (K:=K) (e:=.exit id) hl hh
  | ret=>exact Up.up (K:=K) (e:=.ret) hl hh
theorem aYR {H:PH} (e:F.le F') {x:eS} {v:PV} (h:x.ev F H=some v):x.ev F' H=some v:=by
 cases x with
 | tmp t=>exact e t v h
 | cell t n =>
  cases n<;>simp only[eS.ev] at h ⊢<;>(cases j:F t with
   | none=>simp[j] at h
   | some a=>rw[e t a j,← j]; exact h)
theorem Dm {H:PH} (e:F.le F'):∀ {xs:List eS} {vs:List PV},eS.evs F H xs=some vs→eS.evs F' H xs=some vs
 | [],_,h=>h
 | x::xs,vs,h=>by
  rw[nZ] at h ⊢;cases l:x.ev F H with
  | none=>simp[l] at h
  | some v =>
   cases j:eS.evs F H xs with
   | none=>simp[j] at h
   | some ws =>rw[l,j] at h;rw[aYR e l,Dm e j];exact h
instance Up.ret (res:List eS) (R:PV→PH→Prop):Up (aT res R) where
 up {e} {F} {F'} {H} hl hh:=by
  cases e with
  | exit id=>exact hh
  | normal=>obtain⟨vs,j,l⟩:=hh; exact⟨vs,Dm hl j,l⟩
  | ret=>obtain⟨vs,j,l⟩:=hh; exact⟨vs,Dm hl j,l⟩
end
open Go Go.RowKit
def a1E (R:PH→Prop):cI
 | .normal,_,H=>R H
 | _,_,_=>False
theorem cD.setObj {E:Env} {H:PH} {w:World} {l:Nat} {o:Obj} {x:bZ} (hW:cD E H w) (u:w.heap[l]?=some o) (F:∀ c t b,o≠.cells c t b) (I:UY E w l x):cD E (H.set l x) w:=by
 refine⟨fun b cs h=>?_,fun q y h=>?_,hW.s⟩
 ·obtain⟨B,ty,A,j⟩:=hW.g b cs h;have:¬ b=l:=fun e=>by rw[e,u] at j; exact F _ _ _ (by injection j)
  refine⟨fun y J=>B y ?_,ty,A,j⟩
  rwa [aS,if_neg this] at J
 ·rw[aS] at h;split at h
  ·rename_i e;cases h;subst e;exact⟨(bcF.1 u).1,I⟩
  ·exact hW.h q y h
section
variable {C:Ctx} {T:Tbl}
end
open Go Go.RowKit
abbrev aSD (D:Nat):Deferred:={ target:=.collected D,args:=#[] }
theorem cD.alloc {E:Env} {H:PH} {w:World} (hW:cD E H w) (o:Obj):cD E H (w.alloc o):=by
 have e:(w.alloc o).heap.size=w.heap.size+1:=World.size_alloc w o;have hb:∀ b,b<w.heap.size→(w.alloc o).heap[b]?=w.heap[b]?:=fun b hlt=>Below.heap_alloc w o b hlt;exact hW.same Om (fun b hlt _=>hb b hlt) (fun q x hq=>hb q (hW.h q x hq).1)
section
variable {C:Ctx} {T:Tbl} {ds:List Deferred} {fu:Nat}
def aXL (C:Ctx) (name:Nat) (cs:List PV) (F:PF) (H:PH) (n t:Nat) (e j:Code) (u:PH→Prop):Prop :=
 ∀ l,H l=none→aH C name (aZC l::cs) (H.set l (.loop F n t e j)) (fun _ H'=>∃ H2,u H2∧H2.le H'∧H2 l=none∧H' l=some (.loop F n t e j))
end
open Go Go.RowKit
inductive qw where
 | seq (a:aC) (t:qw)
 | range (g:aP) (n t:Nat) (asg bdy:Code) (pas pbd rest:aC)
def qw.wp (C : Ctx) : qw → cI → PF → PH → Prop
  | .seq a t, K, F, H => a.wp C (jY C (t.wp C) K) F H
  | .range g n t asg bdy pas pbd rest, K, F, H => ∃ name cs KH, g.ev F = some (.fn name cs) ∧
      ((∀ (l : Nat) (x : PV) (J : PH) (J' : PH → Prop), J l = none → pas.wp C (jY C (pbd.wp C) (a1E J')) (F.set t x) J →
        aFL C l [x] (J.set l (.loop F n t asg bdy)) (fun r H' => r = .bool true ∧ ∃ H2, J' H2 ∧ H2 l = none ∧ H' = H2.set l (.loop F n t asg bdy))) → aXL C name cs F H n t asg bdy KH) ∧
      ∀ H2, KH H2 → rest.wp C K F H2
namespace Tbl
variable (T:Tbl)
def tail (n:Nat):Code→Option qw
 | .seq (.rangeFunc g ps e j) l=>match T.opd g,T.code n e,T.code n j,T.code n l with
  | some y,some u,some w,some A=>match ps.toList with
   | [t]=>if t<n then some (.range y n t e j u w A) else none
   | _=>none
  | _,_,_,_=>none
 | .seq (.seq a (.block _ (.rangeFunc g ps e j))) l=>match T.code n a,T.opd g,T.code n e,T.code n j,T.code n l with
  | some x,some y,some u,some w,some A=>match ps.toList with
   | [t]=>if t<n then some (.seq x (.range y n t e j u w A)) else none
   | _=>none
  | _,_,_,_,_=>none
 | .seq a b=>match T.code n a,tail n b with
  | some x,some B=>some (.seq x B)
  | _,_=>none
 | _=>none
end Tbl
section
variable {C:Ctx} {T:Tbl} {fu:Nat}
def P0 (n:Nat) (E:Env) (H:PH) (w:World) (K:cI) (Q:Exit→Act→World→Prop):Prop :=
 ∀ ds,(ds=[]∨∃ D,ds=[aSD D])→∀ e l u H' x j,eY ds n l u x→cD l H' j→Ext E H w l H' j→(∀ D,ds=[aSD D]→j.heap[D]?=some (.deferred (some []))∧H' D=none∧w.heap.size≤D)→K e u H'→Q e.out x j
theorem P0.after {n:Nat} {E u:Env} {H H':PH} {w y:World} {K:cI} {Q:Exit→Act→World→Prop} (h:P0 n E H w K Q) (x:Ext E H w u H' y):P0 n u H' y K Q :=
 fun ds j e A B H2 a2 M F hW J l I=>h ds j e A B H2 a2 M F hW (x.trans J) (fun D hD=>⟨(l D hD).1,(l D hD).2.1,baK x.size (l D hD).2.2⟩) I
end
structure aFH where
 nparams:Nat
 ntmps:Nat
 body:qw
 res:List eS
namespace Tbl
variable (T:Tbl)
end Tbl
end Go.PM
namespace Go.PM
open Go
def aRU (C:Ctx) (k:Nat) (e:aFH):Prop:=∀ (args:List PV) (H:PH) (R:PV→PH→Prop),args.length≤e.ntmps→e.body.wp C (aT e.res R) (PF.args args) H→aH C k args H R
theorem aRU.go {C:Ctx} {k:Nat} {e:aFH} (r:aRU C k e) {args:List PV} {H:PH} {R:PV→PH→Prop} (h:e.body.wp C (aT e.res R) (PF.args args) H) (j:Nat.ble args.length e.ntmps=true):aH C k args H R:=r args H R (Nat.le_of_ble_eq_true j) h
end Go.PM
