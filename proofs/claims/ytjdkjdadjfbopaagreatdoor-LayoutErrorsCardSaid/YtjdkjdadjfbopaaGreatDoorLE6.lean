/-
  Texts of ours, joined. No condition.
-/
import Derived.Test.YtjdkjdadjfbopaaGreatDoorLE1
import Derived.Test.YtjdkjdadjfbopaaGreatDoorLE2
import Derived.Test.YtjdkjdadjfbopaaGreatDoorLE3
import Derived.Test.YtjdkjdadjfbopaaGreatDoorLE4
import Derived.Test.YtjdkjdadjfbopaaGreatDoorLE5

set_option linter.unusedSimpArgs false
set_option linter.unusedVariables false
open Nat renaming reduceEqDiff→γ,reduceAdd→δ,reduceSub→ε,reduceMul→ζ,reduceLT→η,reduceLeDiff→θ
open Int renaming reduceLT→ι,reduceLE→κ,reduceEq→μ,reduceToNat→ν,reduceAdd→ξ,reduceNeg→ο,reduceBEq→ρ
open List renaming length_map→a7Z,range→a8A,replicate→a8D,length_append→a8F,getElem_mem→a8G,length_singleton→a8J,mem_cons→a8M,getElem?_eq_getElem→a8N,length_take→a8S,take_of_length_le→a8T,all_eq_true→a8U,getD_eq_getElem?_getD→a8V,not_mem_nil→a8W,getElem?_map→a8Y,map_append→a8Z,mem_map→a9B,map_cons→a9D,take_length→a9E,append_assoc→a9G,getElem?_eq_some_iff→a9I,drop_zero→a9L,mem_range→a9M,getElem?_eq_none→a9N,length_cons→a9O,length_set→a9R,mem_append→a9T,append_nil→a9W,getElem_of_mem→a9X,map_nil→baB,take_succ_eq_append_getElem→baC,length_nil→baE,mem_of_getElem?→baH,getElem?_append_right→baP,mem_singleton→baQ,getElem?_append_left→baW,map_take→baY,map_congr_left→baZ,set_append_right→bbB,map_map→bbG,all_cons→bbP,map_drop→bbR,nil_append→bbS,range_succ→bbT,getElem?_drop→bcC,getElem?_set→bcD,mem_or_eq_of_mem_set→bcE
open Nat renaming le_refl→a8E,zero_le→a8H,zero_add→a8Q,lt_or_ge→a9A,le_trans→a9F,beq→a9U,add_zero→a9Y,add_assoc→baL,sub_self→baV,mul_le_mul→bbM,pow_le_pow_right→bbU
open Bool renaming and_eq_true→a8C,not_true→a8I,not_false→a8P,false_eq_true→baK,and_true→baN,and_self→bbL
open Option renaming map_some→a8X,some→a9V,bind_some→bbN
open Int renaming toNat_natCast→baA,tdiv→baO
open List renaming length→Z'
set_option maxRecDepth 100000
set_option maxHeartbeats 800000
noncomputable section
namespace Go.PM
open Go Go.Na
structure XL(C:Ctx):Prop extends Q7 C where
 units:∀(f:aE)(lv:Int),f.Ok→eP f=true→1≤lv→lv≤5→aH C 217 [.agg f.cells,.int .i64 lv] .nil (aK (lay (jY f lv)))
theorem aOZ{C:Ctx}{K:cD}[Up K](L:XL C)(A:PV)(U:List (List Int)){n:Nat}(X:UOk n U)(S:List (List Nat))(j:Nat)(hj:j<Z' S)(s:List Nat)(Y:S[j]?=some s)(N:∀x∈s,x<Z' U)(Z:Z' s≤1000)(R v:PV)(d:Nat){F:PF}{H:PH}
  (V:((((((((((PF.nil.set 2 (A)).set 6 (lay U)).set 9 (lay (nZ S))).set 10 (R)).set 11 (.int .i64 j)).set 12 (v)).set 13 (.int .i64 d)).set 14 (.bool false)).set 15 (.int .i64 0))).le F)
  (W:K (.exit 6) (((((((((PF.nil.set 2 (A)).set 6 (lay U)).set 9 (lay (nZ S))).set 10 (R)).set 11 (.int .i64 j)).set 12 (v)).set 13 (.int .i64 d)).set 14 (.bool (mC U s d)))) H):aC.wp C (.loop cf) K F H:=by
 have w:(j:Int)<(Z' S:Nat):=Om;have l:(nZ S).length=Z' S:=a7Z _;have p:((nZ S).map λr=>[ints r])[j]?=some [ints (cA s)]:=by unfold nZ;rw[a8Y,a8Y,Y];rfl
 have y:(cA s).length=Z' s:=jE s;refine wp_loop (α:=Nat) (λk=>(((((((((PF.nil.set 2 (A)).set 6 (lay U)).set 9 (lay (nZ S))).set 10 (R)).set 11 (.int .i64 j)).set 12 (v)).set 13 (.int .i64 d)).set 14 (.bool (mC U (s.take k) d))).set 15 (.int .i64 k))) (λ_=>H) (λk=>k≤Z' s) (λk=>Z' s-k) 0 (a8H _) V b_ ?_;intro k hk;simp only[go_sem,cf,Lg,w,l,a7Z,p,y];by_cases hlt:k<Z' s
 ·have i:(k:Int)<(Z' s:Nat):=Om;have M:((cA s).map λn=>[PV.int .i64 n])[k]?=some [.int .i64 (s[k]:Nat)]:=AX hlt;have O:=N s[k] (a8G hlt);have Q:((s[k]:Nat):Int)<(Z' U:Nat):=Om;have J:=X.at_ U[s[k]] (a8G O);have E:U.getD s[k] []=U[s[k]]:=by simp[a8V,O]
  have B:(U.map λr=>[ints r])[s[k]]?=some [ints U[s[k]]]:=by simp[O]
  have e:mC U (s.take (k+1)) d=(mC U (s.take k) d||(U[s[k]]).contains (d:Int)):=by unfold mC;rw[baC hlt,List.any_append,←E];simp
  generalize U[s[k]]=u at *
  generalize s[k]=x at *
  cases hb:mC U (s.take k) d with
  |true =>rw[hb,Bool.true_or]at e;simp only[go_sem,i,cj,ck,wZz k];exact aJ (k+1) hlt Om (by(repeat' (first|exact d_|refine c_ ?_ ?_))<;>first|(simp only[go_sem,e,l]<;>rfl)|rfl) b_
  |false =>rw[hb,Bool.false_or]at e;simp only[go_sem,i,cj,w,l,a7Z,p,y,M,Q,B];refine aB (L.has u d (by have:=J.1;omega)) Sq ?_;simp only[go_sem,ck,wZz k];exact aJ (k+1) hlt Om (by(repeat' (first|exact d_|refine c_ ?_ ?_))<;>first|(simp only[go_sem,e,l]<;>rfl)|rfl) b_
 ·have i:¬(k:Int)<(Z' s:Nat):=Om;have:k=Z' s:=Om;subst this;rw[a9E];simp only[go_sem,i];exact Up.up (by(repeat' (first|exact d_|refine c_ ?_ ?_))<;>first|(simp only[go_sem,l]<;>rfl)|rfl) W
def dnL(U:List (List Int))(s:List Nat)(d:Nat):List Int:=cA ((a8A d).filter (mC U s))
theorem aLA(U:List (List Int))(s:List Nat)(d:Nat):dnL U s (d+1)=if mC U s d then dnL U s d++[(d:Int)]else dnL U s d:=by
 unfold dnL;rw[bbT,List.filter_append,Zd];by_cases h:mC U s d
 ·rw[aG h];simp[cA,h]
 ·rw[aD h];simp[cA,h]
theorem aSI(U:List (List Int))(s:List Nat)(d:Nat):(dnL U s d).length≤d:=by
 unfold dnL;rw[jE];exact a9F (List.length_filter_le ..) bD
theorem aHR{C:Ctx}{K:cD}[Up K](L:XL C)(f:aE)(V:Z' f.a6O≤24)(U:List (List Int)){n:Nat}(O:UOk n U)(S:List (List Nat))(j:Nat)(Q:j<Z' S)(s:List Nat)(R:S[j]?=some s)(A:∀x∈s,x<Z' U)(y:Z' s≤1000)(u:PV){F:PF}{H:PH}{Ls:List LI}
  (l:aT H [] Ls)
  (M:((((((((PF.nil.set 2 (.bM f.cells)).set 6 (lay U)).set 9 (lay (nZ S))).set 10 (u)).set 11 (.int .i64 j)).set 12 (.aF)).set 13 (.int .i64 0))).le F)
  (N:∀v H',aT H' [] (Ls++[(v,1,bA (dnL U s f.a6O.length))])→K (.exit 4) (((((((PF.nil.set 2 (.bM f.cells)).set 6 (lay U)).set 9 (lay (nZ S))).set 10 (u)).set 11 (.int .i64 j)).set 12 (v))) H'):aC.wp C (.loop cg) K F H:=by
 refine wp_loop (α:=Nat × PV × PH) (λt=>(((((((PF.nil.set 2 (.bM f.cells)).set 6 (lay U)).set 9 (lay (nZ S))).set 10 (u)).set 11 (.int .i64 j)).set 12 (t.2.1)).set 13 (.int .i64 t.1))) (λt=>t.2.2) (λt=>t.1≤Z' f.a6O∧aT t.2.2 [] (Ls++[(t.2.1,1,bA (dnL U s t.1))])) (λt=>Z' f.a6O-t.1) (0,.aF,H) ⟨a8H _,l.sE 1⟩ M b_ ?_;clear l;rintro⟨d,v,B⟩ ⟨w,l⟩;simp only at w l;simp only[go_sem,cg,Ld,a7Z];by_cases hlt:d<Z' f.a6O
 ·have i:(d:Int)<(Z' f.a6O:Nat):=Om;have e:=aLA U s d;have J:=aSI U s d;simp only[go_sem,i,Le,Lf];have inn:=λ{K:cD} [Up K] {F:PF} {H:PH}=>aOZ (C:=C) (K:=K) L (.bM f.cells) U O S j Q s R A y u v d (F:=F) (H:=H);refine inn Lq ?_;cases hb:mC U s d with
  |true=>
   rw[hb,aG rfl]at e;simp only[go_sem,cl,Lh];refine l.append Ls.length (rows:=bA (dnL U s d)) (src:=[[.int .i64 d]]) (GH _ _ _ rfl) Sq (by unfold roomFor;rw[dN];simp only[a8J,maxLen];omega) λv' H' E _=>?_;have p:bA (dnL U s d)++[[.int .i64 d]]=bA (dnL U s (d+1)):=by rw[e,HP];rfl
   rw[p,bbB _ _ (a8E _),baV]at E;simp only[go_sem,cn,wZz d];exact aJ (d+1,v',H') ⟨hlt,E⟩ (by simp only;omega) Lq b_
  |false =>rw[hb,aD aV]at e;rw[←e]at l;simp only[go_sem,cl,cn,wZz d];exact aJ (d+1,v,B) ⟨hlt,l⟩ (by simp only;omega) Lq b_
 ·have i:¬(d:Int)<(Z' f.a6O:Nat):=Om;have:d=Z' f.a6O:=Om;subst this;simp only[go_sem,i];exact Up.up Lq (N v B l)
theorem aHQ{C:Ctx}{K:cD}[Up K](L:XL C)(f:aE)(Q:Z' f.a6O≤24)(U:List (List Int)){n:Nat}(O:UOk n U)(S:List (List Nat))(M:∀s∈S,Z' s≤1000∧∀x∈s,x<Z' U)(N:Z' S≤1099511627776){F:PF}{H:PH}
  (B:((((((PF.nil.set 2 (.bM f.cells)).set 6 (lay U)).set 9 (lay (nZ S))).set 10 (.aF)).set 11 (.int .i64 0))).le F)
  (E:∀p ps H',aT H' [] (eZ p ps)→wls ps=S.map (λs=>dnL U s f.a6O.length)→K (.exit 2) ((PF.nil.set 10 (p))) H'):aC.wp C (.loop ch) K F H:=by
 refine wp_loop (α:=Nat × PV × WPs × PH) (λt=>(((((PF.nil.set 2 (.bM f.cells)).set 6 (lay U)).set 9 (lay (nZ S))).set 10 (t.2.1)).set 11 (.int .i64 t.1))) (λt=>t.2.2.2) (λt=>t.1≤Z' S∧wls t.2.2.1=(S.take t.1).map (λs=>dnL U s f.a6O.length)∧aT t.2.2.2 [] (eZ t.2.1 t.2.2.1)) (λt=>Z' S-t.1) (0,.aF,[],.nil) ⟨a8H _,rfl,aT.ES aT.nil⟩ B a_ ?_;rintro⟨j,p,ps,H⟩ ⟨R,y,A⟩;simp only at R y A;have l:(nZ S).length=Z' S:=a7Z _;simp only[go_sem,ch,K9,a7Z,l];by_cases hlt:j<Z' S
 ·have d:(j:Int)<(Z' S:Nat):=Om;obtain⟨s1,s2⟩:=M S[j] (a8G hlt);have V:Z' ps≤1099511627776:=by rw[←BJ,y,a7Z,a8S];omega
  have w:(S.take (j+1)).map (λs=>dnL U s f.a6O.length)=wls ps++[dnL U S[j] f.a6O.length]:=by rw[baC hlt,a8Z,←y];rfl
  have one:=λ{K:cD} [Up K] {F:PF} {H:PH}=>aHR (C:=C) (K:=K) L f Q U O S j hlt S[j] (a8N hlt) s2 s1 p (F:=F) (H:=H) (Ls:=eZ p ps);simp only[go_sem,d,La,Lc];refine one A (by(repeat' (first|exact d_|refine c_ ?_ ?_))<;>first|(simp only[go_sem,l]<;>rfl)|rfl) λv H2 h5=>?_;have J:=h5.own (eZ p ps).length (GH _ _ _ rfl);generalize dnL U S[j] f.a6O.length=D at *
  have room:roomFor (eI ps).length 1 24:=by unfold roomFor;rw[pF];simp only[maxLen];omega
  have fin:∀(i:PV)(H':PH),aT H' [] ((eZ p ps++[(v,1,bA D)]).set 0 (i,1,eI ps++[[v]]))→aT H' [] (eZ i (ps++[(v,D)]))∧wls (ps++[(v,D)])=wls ps++[D]:=by
   intro i H' u;refine⟨?_,?_⟩
   ·have e:eZ i (ps++[(v,D)])=(eZ p ps++[(v,1,bA D)]).set 0 (i,1,eI ps++[[v]]):=by unfold eZ eI rH;rw[a8Z,a8Z];rfl
    rw[e];exact u
   ·unfold wls;rw[a8Z];rfl
  rcases J with⟨-,rfl⟩|⟨q,rs,rfl,-,-,-⟩
  ·simp only[go_sem,cp,a8M,a8W,or_false,forall_eq];refine h5.append 0 (rows:=eI ps) (src:=[[PV.aF]]) rfl Sq room λi H' u _=>?_;obtain⟨k1,k2⟩:=fin i H' u;simp only[go_sem,cq,wZz j];exact aJ (j+1,i,_,H') ⟨hlt,k2.trans w.symm,k1⟩ (by simp only;omega) (by(repeat' (first|exact d_|refine c_ ?_ ?_))<;>first|(simp only[go_sem,l]<;>rfl)|rfl) b_
  ·simp only[go_sem,cp,a8M,a8W,or_false,forall_eq];refine h5.append 0 (rows:=eI ps) (src:=[[PV.osl q 1 0 (bA D).length]]) rfl Sq room λi H' u _=>?_;obtain⟨k1,k2⟩:=fin i H' u;simp only[go_sem,cq,wZz j];exact aJ (j+1,i,_,H') ⟨hlt,k2.trans w.symm,k1⟩ (by simp only;omega) (by(repeat' (first|exact d_|refine c_ ?_ ?_))<;>first|(simp only[go_sem,l]<;>rfl)|rfl) b_
 ·have d:¬(j:Int)<(Z' S:Nat):=Om;have:j=Z' S:=Om;subst this;rw[a9E]at y;simp only[go_sem,d];exact Up.up Lq (E p ps H A y)
theorem aPA{C:Ctx}(L:XL C)(f:aE)(X:f.Ok)(lv d:Int) :
  UH.wp C (aY iq.res (cN (.tup [lay (vJ f lv d),.int .i64 (eK f lv d)]))) (PF.args [.agg f.cells,oV lv d]) .nil:=by
 have hB:vJ f lv d=if eK f lv d=0 then BU f (jY f lv) d.toNat else[]:=rfl
 have B:eK f lv d=if eP f&&(decide (1≤lv)&&decide (lv≤5)&&decide (1≤d)&&decide (d≤3))then(if 12<Z' f.a6O∨512<eM ((jY f lv).length:Nat) d.toNat then 2 else 0)else 1:=rfl
 have bad:∀(e:Int)(F:PF),e≠0→eK f lv d=e→F 4=some .aF→F 5=some (.int .i64 e)→aY [.tmp 4,.tmp 5] (cN (.tup [lay (vJ f lv d),.int .i64 (eK f lv d)])) .ret F .nil:=by intro e F he l h2 h3;rw[l,aD he]at hB;rw[hB,l];exact xZ (.inr rfl) (by simp only[go_sem,h2,h3]) (aT.ES aT.nil)
 have H:(eP f&&(decide (1≤lv)&&decide (lv≤5)&&decide (1≤d)&&decide (d≤3)))=false→eK f lv d=1:=λh=>by rw[B,h];rfl
 simp only[go_sem,UH,abR,abS,iq];refine aB (L.valid f X) Ev ?_;cases hp:eP f with
 |false =>have l:=H (by rw[hp];rfl);simp only[go_sem,a8P,BD];exact bad 1 _ aV l Sq Sq
 |true=>
  have hV:=VF.of hp;by_cases y:lv<1
  ·have l:=H (by rw[cB (Om:¬1≤lv)];simp);simp only[go_sem,a8I,y,BD];exact bad 1 _ aV l Sq Sq
  by_cases A:lv>5
  ·have l:=H (by rw[cB (Om:¬lv≤5)];simp);simp only[go_sem,a8I,y,A,BD];exact bad 1 _ aV l Sq Sq
  by_cases J:d<1
  ·have l:=H (by rw[cB (Om:¬1≤d)];simp);simp only[go_sem,a8I,y,A,J,BD];exact bad 1 _ aV l Sq Sq
  by_cases M:d>3
  ·have l:=H (by rw[cB (Om:¬d≤3)];simp);simp only[go_sem,a8I,y,A,J,M,BD];exact bad 1 _ aV l Sq Sq
  obtain⟨n,rfl⟩:∃n:Nat,d=n:=⟨d.toNat,by omega⟩;rw[hp,bN (Om:1≤lv),bN (Om:lv≤5),bN (Om:(1:Int)≤(n:Int)),bN (Om:(n:Int)≤3),bbL,bbL,bbL,bbL,aG rfl,baA]at B;rw[baA]at hB;obtain⟨hU,W⟩:=afK hV lv;have u:=L.units f lv X hp Om Om;generalize jY f lv=U at *
  by_cases R:12<Z' f.a6O
  ·have l:eK f lv n=2:=by rw[B,aG (.inl R)]
   simp only[go_sem,a8I,y,A,J,M,sa,a7Z,show(Z' f.a6O:Int)>12 by omega,abT];exact bad 2 _ aV l Sq Sq
  simp only[go_sem,a8I,y,A,J,M,sa,a7Z,show ¬(Z' f.a6O:Int)>12 by omega,abU];refine aB u Ev ?_;simp only[go_sem,abV,abW];refine wp_loop (α:=Nat) (λk=>(((((PF.nil.set 2 (.bM f.cells)).set 3 (.bM [.int .i64 lv,.int .i64 n])).set 6 (lay U)).set 7 (.int .i64 (eM (Z' U:Nat) k))).set 8 (.int .i64 k))) (λ_=>.nil) (λk=>k≤n) (λk=>n-k) 0 (a8H _) (by(repeat' (first|exact d_|refine c_ ?_ ?_))<;>first|(simp only[go_sem,eM]<;>rfl)|rfl) a_ ?_;intro k hk;have O:Z' U≤1000:=Om;simp only[go_sem,K3,abX];by_cases hlt:k<n
  ·have p:(k:Int)<(n:Nat):=Om;obtain⟨b1,b2⟩:=DT O (i:=k) Om;have K:=DS O k Om;have hb:((Z' U:Int)-(k:Int)).natAbs≤1000:=Om;have E:=bbM (a9F K (bbU Om (Om:k≤2))) hb;rw[←Int.natAbs_mul]at E;have e:(1000:Nat)^2*1000=1000000000:=by decide
   have w1:IntKind.i64.wrap ((Z' U:Int)-(k:Int))=(Z' U:Int)-k:=wrap_i64 Om Om;have w2:IntKind.i64.wrap (eM (Z' U:Nat) k*((Z' U:Int)-(k:Int)))=eM (Z' U:Nat) k*((Z' U:Int)-k):=wrap_i64 Om Om;have w3:IntKind.i64.wrap ((k:Int)+1)=(k:Int)+1:=wrap_i64 Om Om;have Q:¬((k:Int)+1)=0:=Om;obtain⟨b3,b4⟩:=DT O (i:=k+1) Om;have Z:eM (Z' U:Nat) (k+1)=baO (eM (Z' U:Nat) k*((Z' U:Int)-k)) ((k:Int)+1):=by rw[eM]
   rw[Z]at b3 b4;have w4:IntKind.i64.wrap (baO (eM (Z' U:Nat) k*((Z' U:Int)-k)) ((k:Int)+1))=baO (eM (Z' U:Nat) k*((Z' U:Int)-k)) ((k:Int)+1):=wrap_i64 Om Om;simp only[go_sem,p,abY,a7Z,w1,w2,w3,Q,w4,K4,wZz k];exact aJ (k+1) hlt Om (by(repeat' (first|exact d_|refine c_ ?_ ?_))<;>first|(simp only[go_sem,Z]<;>rfl)|rfl) a_
  have p:¬(k:Int)<(n:Nat):=Om;have:k=n:=Om;subst this;by_cases V:512<eM (Z' U:Nat) k
  ·have l:eK f lv k=2:=by rw[B,aG (.inr V)]
   simp only[go_sem,p,ci,show eM (Z' U:Nat) k>512 by omega,K5];exact bad 2 _ aV l Sq Sq
  have l:eK f lv k=0:=by rw[B,aD (λh=>h.elim R V)]
  rw[l,aG rfl]at hB;rw[hB,l];have N:=L.choose k 0 U.length Om Om Om;have w:=xL U.length k 0;have γ:=IG U.length k 0;have Y:2^(Z' U-0)≤2^40:=bbU Om Om;have β:(2:Nat)^40=1099511627776:=by decide
  have hP:BU f U k=(dU U.length k 0).map λs=>dnL U s f.a6O.length:=rfl;rw[hP];generalize dU U.length k 0=S at *
  simp only[go_sem,p,ci,show ¬eM (Z' U:Nat) k>512 by omega,K6,a7Z];refine aB N (by simp only[go_sem];rfl) ?_;simp only[go_sem,K7,K8];refine aHQ (C:=C) L f Om U hU S (λs K=>⟨by have:=(w s K).1;omega,λx hx=>((w s K).2.1 x hx).2⟩) Om Lq λvo ps H' hH hw=>?_;simp only[go_sem,Li];rw[←hw];exact xZ (.inr rfl) Sq hH

abbrev bz:List PV:=[.aF,.int .i64 0,.aF,.aF,.bool false,.aF,.aF]
structure ga(C:Ctx):Prop extends aCY C where
 iq:∀(f:aE)(lv cnt:Int),f.Ok→aH C 219 [.agg f.cells,oV lv cnt] .nil (aK (.tup [lay (vJ f lv cnt),.int .i64 (eK f lv cnt)]))
 holds0:∀(f:aE),f.Ok→aH C 150 [.agg f.cells,.aF,.aF] .nil (aK (.bool (xk f [] [])))
theorem aFL{C:Ctx}(L:ga C)(f:aE)(u:f.Ok)(lv d:Int)(l:eK f lv d≠0) :
  SC.wp C (aY azK.res (aK (.tup [.agg bz,.int .i64 (eK f lv d)]))) (PF.args [.agg f.cells,oV lv d,.aF]) .nil:=by
 have k1:=L.solve f lv d u l;generalize eK f lv d=e at *
 simp only[go_sem,SC,Xq,azK];refine aR λo w=>?_;simp only[go_sem,Xr];refine aB k1 Sq ?_;simp only[go_sem];refine aR λo2 i=>?_;have p:¬o=o2:=λe=>by rw[←e,dK]at i;cases i
 simp only[go_sem,Xs,eC l,Xt,p];refine aX (.inr rfl) (vs:=[.agg bz,.int .i64 e]) ?_ rfl;simp only[go_sem,p]
theorem Wy{C:Ctx}(L:ga C)(f:aE)(l:f.Ok)(lv d:Int)(i:eK f lv d≠0) :
  DL.wp C (aY pn.res (aK (.tup [.aF,.int .i64 (eK f lv d)]))) (PF.args [.agg f.cells,oV lv d,.aF,.aF]) .nil:=by
 have k1:=L.ID f lv d l;generalize eK f lv d=e at *
 simp only[go_sem,DL,jj,pn,jk];refine aB k1 Sq ?_;simp only[go_sem,jl,eC i,jm];refine aX (.inr rfl) (vs:=[.aF,.int .i64 e]) ?_ rfl;simp only[go_sem]
theorem aFA{C:Ctx}(L:ga C)(f:aE)(l:f.Ok)(lv d:Int)(i:eK f lv d≠0) :
  SA.wp C (aY azH.res (aK (.tup [.int .i64 0,.int .i64 (eK f lv d)]))) (PF.args [.agg f.cells,oV lv d,.aF]) .nil:=by
 have k1:=L.ID f lv d l;generalize eK f lv d=e at *
 simp only[go_sem,SA,Wt,azH,Wu];refine aB k1 Sq ?_;simp only[go_sem,Wv,eC i,Ww];refine aX (.inr rfl) (vs:=[.int .i64 0,.int .i64 e]) ?_ rfl;simp only[go_sem]
theorem azG{C:Ctx}(L:ga C)(f:aE)(e:f.Ok)(lv d:Int)(i:eK f lv d≠0) :
  LX.wp C (aY Ws.res (aK (.bool false))) (PF.args [.agg f.cells,oV lv d,.aF,.agg bz]) .nil:=by
 have k1:=L.priced f lv d e i;have k2:=L.holds0 f e;simp only[go_sem,LX,Iy,Ws,Iz];refine aB k2 Sq ?_;cases xk f [] []with
 |true =>simp only[go_sem,a8I];refine aB k1 Sq ?_;simp only[go_sem,a8P,ZK];exact pC Sq rfl
 |false =>simp only[go_sem,a8P,ZK];exact pC Sq rfl
structure aDB(C:Ctx):Prop extends ga C where
 make:∀(f:aE)(lv cnt:Int),f.Ok→eK f lv cnt≠0→aH C 363 [.agg f.cells,oV lv cnt,.aF] .nil (aK (.tup [.agg bz,.int .i64 (eK f lv cnt)]))
 improve:∀(f:aE)(lv cnt:Int),f.Ok→eK f lv cnt≠0→aH C 364 [.agg f.cells,oV lv cnt,.aF,.aF] .nil (aK (.tup [.aF,.int .i64 (eK f lv cnt)]))
 cost:∀(f:aE)(lv cnt:Int),f.Ok→eK f lv cnt≠0→aH C 365 [.agg f.cells,oV lv cnt,.aF] .nil (aK (.tup [.int .i64 0,.int .i64 (eK f lv cnt)]))
 check:∀(f:aE)(lv cnt:Int),f.Ok→eK f lv cnt≠0→aH C 366 [.agg f.cells,oV lv cnt,.aF,.agg bz] .nil (aK (.bool false))
 uc:aH C 362 [] .nil (aK (.bool true))
theorem aFN{C:Ctx}(p:aDB C)(l:List Nat)(hb:∀x∈l,x<256)(H:Z' l≤9223372036854775807)(lv d:Int) :
  MA.wp C (aY xv.res (aK (.bool true))) (PF.args [.sl 1 (nL l),.int .i64 lv,.int .i64 d]) .nil:=by
 have F:=p.fleet l hb H 14 2 aV aV;obtain⟨-,w⟩:=Tr (l.take 400) 14 2 0 aV aV;generalize(lM (l.take 400) 14 2 0).1=f at *
 have k1:=p.iq f lv d w;have k2:=p.make f lv d w;have J:=p.improve f lv d w;have K:=p.cost f lv d w;have M:=p.check f lv d w;generalize eK f lv d=e at *
 simp only[go_sem,MA,I5,I6,xv];refine aB F (by simp only[go_sem];rfl) ?_;simp only[go_sem];refine aR λo N=>?_;simp only[go_sem,I7];refine aR λo8 y=>?_;have u:¬o=o8:=λe=>by rw[←e,dK]at y;cases y
 simp only[go_sem,a8M,a8W,or_false,forall_eq,forall_eq_or_imp,I8,u];refine aB k1 Sq ?_;by_cases c:e=0
 ·simp only[go_sem,ZN,cC c,I9];refine aB p.uc Ev ?_;simp only[go_sem];exact pC Sq rfl
 ·simp only[go_sem,ZN,bO c,Ja,u];refine aB (k2 c) Sq ?_;simp only[go_sem];refine aR λA i=>?_;rw[kD,kD]at i;have B:¬o8=A:=λe=>i.1 e.symm;have E:¬o=A:=λe=>i.2.1 e.symm;simp only[go_sem,Jb,u,B,E];refine aB (J c) Sq ?_;simp only[go_sem,Jc,u,B,E];refine aB (K c) Sq ?_;simp only[go_sem,Jd,cC (show e=e from rfl),u,B,E];refine aB (M c) Sq ?_;simp only[go_sem,u,B,E];refine aB p.uc Ev ?_;simp only[go_sem];exact pC Sq rfl
abbrev Ren:=Nat→Nat × List (List PV)
def up(t:Nat→Nat):Ren:=λi=>(t i,[])
mutual
def PV.ren(r:Ren):PV→PV
 | .osl o s d len=>.osl (r o).1 s (d+(r o).2.length) len
 | .ptr o s i c=>.ptr (r o).1 s (i+(r o).2.length) c
 | .map o=>.map (r o).1
 | .sl s rows=>.sl s (PV.nJ r rows)
 | .bM cs=>.bM (PV.mT r cs)
 | .fn n cs=>.fn n (PV.mT r cs)
 | .agg cs=>.agg (PV.mT r cs)
 | .tup cs=>.tup (PV.mT r cs)
 | .int k n=>.int k n
 | .bool b=>.bool b
 | .str s=>.str s
 | .aF=>.aF
 | .lit v=>.lit v
 | .junk=>.junk
def PV.mT(r:Ren):List PV→List PV
 |[]=>[]
 |v::vs=>PV.ren r v::PV.mT r vs
def PV.nJ(r:Ren):List (List PV)→List (List PV)
 |[]=>[]
 |v::vs=>PV.mT r v::PV.nJ r vs
end
theorem PV.fB(r:Ren):∀l,PV.mT r l=l.map (PV.ren r)
 |[]=>rfl
 |v::vs=>by rw[PV.mT,PV.fB r vs];rfl
theorem PV.kR(r:Ren):∀l,PV.nJ r l=l.map λx=>x.map (PV.ren r)
 |[]=>rfl
 |v::vs=>by rw[PV.nJ,PV.kR r vs,PV.fB];rfl
mutual
def PV.bound(n:Nat):PV→Bool
 | .osl o _ _ _=>decide (o<n)
 | .ptr o _ _ _=>decide (o<n)
 | .map o=>decide (o<n)
 | .sl _ rows=>PV.eR n rows
 | .bM cs=>PV.bounds n cs
 | .fn _ cs=>PV.bounds n cs
 | .agg cs=>PV.bounds n cs
 | .tup cs=>PV.bounds n cs
 | .int _ _=>true
 | .bool _=>true
 | .str _=>true
 | .aF=>true
 | .lit _=>true
 | .junk=>true
def PV.bounds(n:Nat):List PV→Bool
 |[]=>true
 |v::vs=>PV.bound n v&&PV.bounds n vs
def PV.eR(n:Nat):List (List PV)→Bool
 |[]=>true
 |v::vs=>PV.bounds n v&&PV.eR n vs
end
mutual
theorem PV.ca{n:Nat}{r r':Ren}(h:∀i,i<n→r i=r' i):∀v:PV,v.bound n=true→v.ren r=v.ren r'
 | .osl o s d len,hb=>by simp only[PV.bound,decide_eq_true_eq]at hb;simp only[PV.ren,h o hb]
 | .ptr o s i c,hb=>by simp only[PV.bound,decide_eq_true_eq]at hb;simp only[PV.ren,h o hb]
 | .map o,hb=>by simp only[PV.bound,decide_eq_true_eq]at hb;simp only[PV.ren,h o hb]
 | .sl s rows,hb=>by simp only[PV.bound]at hb;simp only[PV.ren,PV.MV h rows hb]
 | .bM cs,hb=>by simp only[PV.bound]at hb;simp only[PV.ren,PV.sJ h cs hb]
 | .fn _ cs,hb=>by simp only[PV.bound]at hb;simp only[PV.ren,PV.sJ h cs hb]
 | .agg cs,hb=>by simp only[PV.bound]at hb;simp only[PV.ren,PV.sJ h cs hb]
 | .tup cs,hb=>by simp only[PV.bound]at hb;simp only[PV.ren,PV.sJ h cs hb]
 | .int _ _,_=>rfl
 | .bool _,_=>rfl
 | .str _,_=>rfl
 | .aF,_=>rfl
 | .lit _,_=>rfl
 | .junk,_=>rfl
theorem PV.sJ{n:Nat}{r r':Ren}(h:∀i,i<n→r i=r' i):∀l:List PV,PV.bounds n l=true→PV.mT r l=PV.mT r' l
 |[],_=>rfl
 |v::vs,hb=>by simp only[PV.bounds,a8C]at hb;rw[PV.mT,PV.mT,PV.ca h v hb.1,PV.sJ h vs hb.2]
theorem PV.MV{n:Nat}{r r':Ren}(h:∀i,i<n→r i=r' i):∀l:List (List PV),PV.eR n l=true→PV.nJ r l=PV.nJ r' l
 |[],_=>rfl
 |v::vs,hb=>by simp only[PV.eR,a8C]at hb;rw[PV.nJ,PV.nJ,PV.sJ h v hb.1,PV.MV h vs hb.2]
end
mutual
theorem PV.aHF:∀v:PV,v.ren (up id)=v
 | .osl o s d len=>rfl
 | .ptr o s i c=>rfl
 | .map o=>rfl
 | .sl s rows=>by simp only[PV.ren,PV.abM rows]
 | .bM cs=>by simp only[PV.ren,PV.AZ cs]
 | .fn _ cs=>by simp only[PV.ren,PV.AZ cs]
 | .agg cs=>by simp only[PV.ren,PV.AZ cs]
 | .tup cs=>by simp only[PV.ren,PV.AZ cs]
 | .int _ _=>rfl
 | .bool _=>rfl
 | .str _=>rfl
 | .aF=>rfl
 | .lit _=>rfl
 | .junk=>rfl
theorem PV.AZ:∀l:List PV,PV.mT (up id) l=l
 |[]=>rfl
 |v::vs=>by rw[PV.mT,PV.aHF v,PV.AZ vs]
theorem PV.abM:∀l:List (List PV),PV.nJ (up id) l=l
 |[]=>rfl
 |v::vs=>by rw[PV.nJ,PV.AZ v,PV.abM vs]
end
theorem PV.nF{v:PV}(h:v.bound 0=true)(r:Ren):v.ren r=v:=(PV.ca (r':=up id) (λi hi=>absurd hi (Nat.not_lt_zero i)) v h).trans (PV.aHF v)
theorem PV.nI{l:List PV}(h:PV.bounds 0 l=true)(r:Ren):l.map (PV.ren r)=l:=by
 rw[←PV.fB];exact(PV.sJ (r':=up id) (λi hi=>absurd hi (Nat.not_lt_zero i)) l h).trans (PV.AZ l)
theorem xY(r:Ren)(v:PV):(v.ren r).cells=v.cells.map (PV.ren r):=by
 cases v<;>simp only[PV.ren,PV.cells,PV.fB,a9D,baB]
theorem aUW(r:Ren)(v:PV):(v.ren r).one=v.one:=by
 cases v<;>simp only[PV.ren,PV.one]
theorem wK(r:Ren)(l:List PV):(l.map (PV.ren r)).all PV.one=l.all PV.one:=by
 rw[List.all_map];congr 1;exact funext λv=>aUW r v
theorem HZ(r:Ren):∀(vs:List PV)(l:List PV)(c:Nat),(setCells l c vs).map (PV.ren r)=setCells (l.map (PV.ren r)) c (vs.map (PV.ren r))
 |[],_,_=>rfl
 |v::vs,l,c=>by simp only[setCells,a9D];rw[HZ r vs,List.map_set]
theorem aUV{r:Ren}{op:BinOp}{x y v:PV}(h:PV.bin op x y=some v):PV.bin op (x.ren r) (y.ren r)=some (v.ren r):=by
 have d:∀{k:IntKind}{n:Int},(PV.int k n).ren r=.int k n:=rfl;cases x<;>cases y<;>try (cases op<;>simp[PV.bin]at h;done)
 ·simp only[PV.ren];rw[h];congr 1;revert h;unfold PV.bin;cases op<;>simp only[shift,oR]<;>intro h<;>(repeat' split at h)<;>cases h<;>rfl
 ·simp only[PV.ren];rw[h];congr 1;revert h;unfold PV.bin;cases op<;>simp only[OP]<;>intro h<;>(repeat' split at h)<;>cases h<;>rfl
def aU.ren(r:Ren)(pre:List (List PV)):aU→aU
 | .rows s rs=>.rows s (pre++rs.map λx=>x.map (PV.ren r))
 | .map sh g=>.map sh λk=>(g k).map (PV.ren r)
 | .loop F n t a b=>.loop F n t a b
 | .dead=>.dead
def PF.ren(r:Ren)(F:PF):PF:=λi=>(F i).map (PV.ren r)
def KY(r:Ren)(h H:PH):Prop:=∀i x,h i=some x→H (r i).1=some (x.ren r (r i).2)
theorem KY.ex{r:Ren}{h H:PH}(d:KY r h H){i:Nat}{x:aU}(e:h i=some x):∃pre:List (List PV),(r i).2.length=Z' pre∧(r i).2=pre∧H (r i).1=some (x.ren r pre):=⟨_,rfl,rfl,d i x e⟩
theorem OV{α:Type}:∀(pre l:List α)(k:Nat),(pre++l).drop (k+Z' pre)=l.drop k
 |[],l,k=>rfl
 |x::pre,l,k=>by rw[a9O,←baL];exact OV pre l k
theorem Vc{α:Type}:∀(pre l:List α)(k:Nat),(pre++l)[k+Z' pre]?=l[k]?
 |[],l,k=>rfl
 |x::pre,l,k=>by rw[a9O,←baL,List.cons_append,List.getElem?_cons_succ];exact Vc pre l k
theorem aHY{α:Type}(y:α):∀(pre l:List α)(k:Nat),(pre++l).set (k+Z' pre) y=pre++l.set k y
 |[],l,k=>rfl
 |x::pre,l,k=>by rw[a9O,←baL,List.cons_append,List.set_cons_succ,aHY y pre l k];rfl
def aQ.clo:aQ→Bool
 | .tmp _=>true
 | .const v=>v.bound 0
section
variable {r:Ren} {F:PF} {h H:PH}
theorem cG{x:aQ}{v:PV}(d:x.clo=true)(e:x.ev F=some v):x.ev (F.ren r)=some (v.ren r):=by
 cases x with
 |tmp t=>simp only[aQ.ev]at e ⊢;simp only[PF.ren,e,a8X]
 |const u=>simp only[aQ.ev,a9V.injEq]at e ⊢;subst e;exact(PV.nF d r).symm
theorem FX:∀{l:List aQ}{vs:List PV},l.all aQ.clo=true→aQ.evs F l=some vs→aQ.evs (F.ren r) l=some (vs.map (PV.ren r))
 |[],vs,_,e=>by cases e;rfl
 |x::xs,vs,d,e=>by
  simp only[bbP,a8C]at d;simp only[aQ.evs]at e ⊢;split at e
  ·rename_i v u i p;cases e;rw[cG d.1 i,FX d.2 p];rfl
  ·cases e
theorem alK{k:Sc}{x y:PV}{b:Bool}(e:PV.eq1 k x y=some b):PV.eq1 k (x.ren r) (y.ren r)=some b:=by
 unfold PV.eq1 at e;split at e<;>first|exact e|cases e
theorem alL:∀{i:List Sc}{xs ys:List PV}{b:Bool},PV.eqs i xs ys=some b→PV.eqs i (xs.map (PV.ren r)) (ys.map (PV.ren r))=some b
 |[],[],[],_,e=>e
 |k::i,x::xs,y::ys,b,e=>by
  simp only[PV.eqs,a9D]at e ⊢;split at e
  ·rename_i d;rw[alK d];exact alL e
  ·rename_i d;rw[alK d];simpa using e
  ·cases e
 |[],_::_,_,_,e=>by simp[PV.eqs]at e
 |[],[],_::_,_,e=>by simp[PV.eqs]at e
 |_::_,[],_,_,e=>by simp[PV.eqs]at e
 |_::_,_::_,[],_,e=>by simp[PV.eqs]at e
theorem aYH{op:UnOp}{x v:PV}(e:PV.un op x=some v):PV.un op (x.ren r)=some (v.ren r):=by
 unfold PV.un at e;split at e
 ·split at e<;>cases e<;>rfl
 ·split at e<;>cases e;rfl
 ·cases e
theorem H9:∀{l:List (Nat × Nat × aQ)}{cells v:List PV},(l.all λx=>x.2.2.clo)=true→qI cells F l=some v→qI (cells.map (PV.ren r)) (F.ren r) l=some (v.map (PV.ren r))
 |[],_,_,_,e=>by cases e;rfl
 |(u,size,x)::l,cells,v,d,e=>by
  simp only[bbP,a8C]at d;simp only[qI]at e ⊢;split at e
  ·rename_i w i;rw[cG d.1 i];simp only[xY,wK,a7Z];split at e
   ·rename_i p;rw[aG p,←HZ];exact H9 d.2 e
   ·cases e
  ·cases e
theorem HG{size:Nat}:∀{l:List (Nat × aQ)}{rows v:List (List PV)},(l.all λx=>x.2.clo)=true→iR size rows F l=some v →
  iR size (rows.map λx=>x.map (PV.ren r)) (F.ren r) l=some (v.map λx=>x.map (PV.ren r))
 |[],_,_,_,e=>by cases e;rfl
 |(i,x)::l,rows,v,d,e=>by
  simp only[bbP,a8C]at d;simp only[iR]at e ⊢;split at e
  ·rename_i w p;rw[cG d.1 p];simp only[xY,wK,a7Z];split at e
   ·rename_i u;rw[aG u,←List.map_set];exact HG d.2 e
   ·cases e
  ·cases e
theorem wT(y:KY r h H){p:PV}{n:Nat}{v:List PV}(e:loadCells h p n=some v):loadCells H (p.ren r) n=some (v.map (PV.ren r)):=by
 unfold loadCells at e;split at e
 ·split at e
  ·rename_i o size i c s rs w;obtain⟨pre,d,-,u⟩:=y.ex w;simp only[aU.ren]at u;simp only[PV.ren,loadCells,u,d,Vc];split at e
   ·rename_i l;rw[aG l,a8Y];split at e
    ·rename_i q x;rw[x];simp only[a8X,a7Z];split at e
     ·rename_i h5;rw[aG h5,←bbR,←baY];cases e;rfl
     ·cases e
    ·cases e
   ·cases e
  ·cases e
 ·simp only[PV.ren,loadCells,PV.fB,a7Z];split at e
  ·rename_i l;rw[aG l,←baY];cases e;rfl
  ·cases e
 ·cases e
theorem zZ(w:KY r h H){s:Nat}{p:PV}{v:List (List PV)}(e:dW h s p=some v):dW H s (p.ren r)=some (v.map λx=>x.map (PV.ren r)):=by
 unfold dW at e;split at e
 ·cases e;rfl
 ·simp only[PV.ren,dW,PV.kR];split at e
  ·rename_i i;rw[aG i];cases e;rfl
  ·cases e
 ·split at e
  ·rename_i i;split at e
   ·rename_i u;obtain⟨pre,d,-,l⟩:=w.ex u;simp only[aU.ren]at l;simp only[PV.ren,dW,l,d,OV,a7Z,a8F];rw[aG i];split at e
    ·rename_i y;rw[aG Om,←bbR,←baY];cases e;rfl
    ·cases e
   ·cases e
  ·cases e
 ·cases e
theorem HA:∀{l:List (List PV)}{s:List UInt8},jN l=some s→jN (l.map λx=>x.map (PV.ren r))=some s
 |[],_,e=>e
 |[.int .u8 n]::rest,s,e=>by
  simp only[jN,a9D,baB,PV.ren]at e ⊢;cases d:jN rest with
  |none=>rw[d]at e;cases e
  |some t=>rw[d]at e;rw[HA d];exact e
 |[]::_,_,e=>by simp[jN]at e
 |(_::_::_)::_,_,e=>by simp[jN]at e
 |[v]::rest,s,e=>by
  cases v<;>try (simp[jN]at e;done)
  rename_i k n;cases k<;>try (simp[jN]at e;done)
  simp only[jN,a9D,baB,PV.ren]at e ⊢;cases d:jN rest with
  |none=>rw[d]at e;cases e
  |some t=>rw[d]at e;rw[HA d];exact e
theorem Rc{v:PV}{k:KS}(e:KS.of v=some k):KS.of (v.ren r)=some k:=by
 unfold KS.of at e;split at e<;>first|exact e|cases e
theorem Gg:∀{l:List PV}{d:List KS},KS.ofs l=some d→KS.ofs (l.map (PV.ren r))=some d
 |[],_,e=>e
 |v::vs,d,e=>by
  simp only[KS.ofs,a9D]at e ⊢;split at e
  ·rename_i i p;rw[Rc i,Gg p];exact e
  ·cases e
theorem CO{sh:MSh}{v:PV}{k:List KS}(e:keyOf sh v=some k):keyOf sh (v.ren r)=some k:=by
 obtain⟨b,i⟩:=sh;cases b with
 |true=>
  cases v<;>try (simp[keyOf]at e;done)
  rename_i cs;simp only[keyOf,PV.ren,PV.fB]at e ⊢;cases d:KS.ofs cs with
  |none=>rw[d]at e;cases e
  |some t=>rw[d]at e;rw[Gg d];exact e
 |false=>
  simp only[keyOf]at e ⊢;cases d:KS.of v with
  |none=>rw[d]at e;cases e
  |some t=>rw[d]at e;rw[Rc d];exact e
theorem OQ{d n:Int}{x:Option aQ}(l:(x.all aQ.clo)=true)(e:bnd F d x=some n):bnd (F.ren r) d x=some n:=by
 cases x with
 |none=>exact e
 |some x=>
  simp only[bnd]at e ⊢;cases i:x.ev F with
  |none=>rw[i]at e;cases e
  |some v =>rw[i]at e;rw[cG (by simpa using l) i];cases v<;>first|exact e|cases e
theorem Mb{size:Nat}{x v:PV}{l m:Int}{mx:Option Int}(e:PV.slice size x l m mx=some v):PV.slice size (x.ren r) l m mx=some (v.ren r):=by
 unfold PV.slice at e;split at e
 ·split at e
  ·rename_i d;cases e;simp only[PV.ren,PV.slice];rw[aG d]
  ·cases e
 ·split at e
  ·rename_i d;cases e;simp only[PV.ren,PV.slice,PV.kR,a7Z];rw[aG d,←baY,←bbR]
  ·cases e
 ·split at e
  ·rename_i d;cases e;simp only[PV.ren,PV.slice];rw[aG d,Nat.add_right_comm]
  ·cases e
 ·cases e
theorem azD{x:PV}{b:Bool}(e:PV.wG x=some b):PV.wG (x.ren r)=some b:=by
 unfold PV.wG at e;split at e<;>first|exact e|cases e
theorem aMV{x v:PV}(e:PV.tB x=some v):PV.tB (x.ren r)=some (v.ren r):=by
 unfold PV.tB at e;split at e<;>cases e<;>simp only[PV.ren,PV.tB,PV.kR,a7Z]
theorem uw(size:Nat):∀(n:Nat)(cs:List PV),chunks size n (cs.map (PV.ren r))=(chunks size n cs).map λx=>x.map (PV.ren r)
 |0,_=>rfl
 |n+1,cs=>by simp only[chunks,a9D,baY,←bbR,uw size n]
end
def POp.clo:POp→Bool
 | .mv x | .same x | .un _ x | .conv _ x | .box _ x | .load _ x | .a7B x | .a7R _ x | .field _ _ x | .len x | .a7O x | .a7Y x | .isNil _ x | .extract x _ | .a7C x=>x.clo
 | .pick c a b=>c.clo&&(a.clo&&b.clo)
 | .bin _ x y | .eqb _ x y | .eqs _ _ x y | .a7F _ x y | .idxA _ _ x y | .idxV _ _ _ x y | .a7P x y | .a7J _ x y | .store _ x y | .append _ _ x y=>x.clo&&y.clo
 | .alloc cells=>PV.bounds 0 cells
 | .build zero parts=>PV.bounds 0 zero&&parts.all λx=>x.2.2.clo
 | .a6U _ _ _ zero parts=>PV.bounds 0 zero&&parts.all λx=>x.2.clo
 | .slice _ x lo hi mx=>x.clo&&(lo.all aQ.clo&&(hi.all aQ.clo&&mx.all aQ.clo))
 | .a7L x lo hi=>x.clo&&(lo.all aQ.clo&&hi.all aQ.clo)
 | .sliceA _ _ x _ _ _=>x.clo
 | .a6W _ _ zero l c=>PV.bounds 0 zero&&(l.clo&&c.clo)
 | .mkfn _ l=>l.all aQ.clo
 | .a7U _=>true
 | .lookup _ zero x k _=>zero.bound 0&&(x.clo&&k.clo)
 | .a7G _ x k v | .insert _ x k v=>x.clo&&(k.clo&&v.clo)
 | .call _ l=>l.all aQ.clo
 | .a7Q x l=>x.clo&&l.all aQ.clo
 |_=>false
section
variable {r:Ren} {F:PF} {h H:PH}
theorem bx(K:KY r h H){op:POp}{v:PV}(u:op.clo=true)(e:aP op F h=some v):aP op (F.ren r) H=some (v.ren r):=by
 cases op<;>try (simp[aP]at e;done)
 case mv x=>exact cG u e
 case pick c a b=>
  simp only[POp.clo,a8C]at u;simp only[aP]at e ⊢;split at e
  ·rename_i t d;rw[cG u.1 d];cases t with
   |true=>exact cG u.2.1 e
   |false=>exact cG u.2.2 e
  ·cases e
 case bin op x y=>
  simp only[POp.clo,a8C]at u;simp only[aP]at e ⊢;split at e
  ·rename_i a b d A;rw[cG u.1 d,cG u.2 A];exact aUV e
  ·cases e
 case eqb n x y=>
  simp only[POp.clo,a8C]at u;simp only[aP]at e ⊢;split at e
  ·rename_i a b d A;rw[cG u.1 d,cG u.2 A];cases e;rfl
  ·cases e
 case eqs n ks x y=>
  simp only[POp.clo,a8C]at u;simp only[aP]at e ⊢;split at e
  ·rename_i a b d A;rw[cG u.1 d,cG u.2 A];simp only[PV.ren,PV.fB];cases B:PV.eqs ks a b with
   |none=>rw[B]at e;cases e
   |some t=>rw[B]at e;rw[alL B];cases e;rfl
  ·cases e
 case un op x=>
  simp only[aP]at e ⊢;split at e
  ·rename_i a d;rw[cG u d];exact aYH e
  ·cases e
 case conv k x=>
  simp only[aP]at e ⊢;split at e
  ·rename_i R n d;rw[cG u d];cases e;rfl
  ·cases e
 case same x=>
  simp only[aP]at e ⊢;split at e
  ·rename_i s d;rw[cG u d];cases e;rfl
  ·cases e
 case box ro x=>
  cases ro with
  |false=>simp[aP]at e
  |true=>
   simp only[aP]at e ⊢;split at e
   ·rename_i a d;rw[cG u d];simp only[xY,wK];split at e
    ·rename_i A;rw[aG A];cases e;simp only[PV.ren,PV.fB]
    ·cases e
   ·cases e
 case build zero parts=>
  simp only[POp.clo,a8C]at u;simp only[aP]at e ⊢;cases d:qI zero F parts with
  |none=>rw[d]at e;cases e
  |some w =>rw[d]at e;have A:=H9 (r:=r) u.2 d;rw[PV.nI u.1]at A;rw[A];cases e;simp only[a8X,PV.ren,PV.fB]
 case a6U ro size len zero parts=>
  cases ro with
  |false=>simp[aP]at e
  |true=>
   simp only[POp.clo,a8C]at u;simp only[aP]at e ⊢;split at e
   ·rename_i N;rw[aG N];cases d:iR size (a8D len zero) F parts with
    |none=>rw[d]at e;cases e
    |some w =>rw[d]at e;have A:=HG (r:=r) u.2 d;rw[List.map_replicate,PV.nI u.1]at A;rw[A];cases e;simp only[a8X,PV.ren,PV.kR]
   ·cases e
 case load n p=>
  cases n with
  |none=>
   simp only[aP]at e ⊢;split at e
   ·rename_i a d;rw[cG u d];split at e
    ·rename_i w A;have B:=wT K A;simp only[a9D,baB]at B;simp only[B];cases e;rfl
    ·cases e
   ·cases e
  |some n=>
   simp only[aP]at e ⊢;split at e
   ·rename_i a d;rw[cG u d];cases A:loadCells h a n with
    |none=>rw[A]at e;cases e
    |some w =>rw[A]at e;simp only[wT K A];cases e;simp only[a8X,PV.ren,PV.fB]
   ·cases e
 case a7B x=>
  simp only[aP]at e ⊢;split at e
  ·rename_i d;rw[cG u d];cases e;rfl
  ·rename_i d;rw[cG u d];cases e;rfl
  ·cases e
 case a7R J x=>
  simp only[aP]at e ⊢;split at e
  ·rename_i d;rw[cG u d];cases e;rfl
  ·rename_i d;rw[cG u d];cases e;simp only[PV.ren,PV.fB,bbR]
  ·cases e
 case field J n x=>
  simp only[aP]at e ⊢;split at e
  ·rename_i cs d;rw[cG u d];simp only[PV.ren,PV.fB];split at e
   ·rw[a8Y,e];rfl
   ·split at e
    ·rename_i A;rw[a7Z,aG A,←bbR,←baY];cases e;simp only[PV.ren,PV.fB]
    ·cases e
  ·cases e
 case a7F size x i=>
  simp only[POp.clo,a8C]at u;simp only[aP]at e ⊢;split at e
  ·rename_i s rows k n d A;rw[cG u.1 d,cG u.2 A];simp only[PV.ren,PV.kR];split at e
   ·rename_i B;rw[aG B,a8Y];split at e
    ·rename_i q E;rw[E];cases e;simp only[a8X,PV.ren,PV.fB]
    ·cases e
   ·cases e
  ·rename_i o s J len k n d A;rw[cG u.1 d,cG u.2 A];simp only[PV.ren];split at e
   ·rename_i B;rw[aG B];cases e;simp only[PV.ren,Nat.add_right_comm]
   ·cases e
  ·cases e
 case idxA n size x i=>
  simp only[POp.clo,a8C]at u;simp only[aP]at e ⊢;split at e
  ·rename_i d A;rw[cG u.1 d,cG u.2 A];simp only[PV.ren];split at e
   ·rename_i B;rw[aG B];cases e;rfl
   ·cases e
  ·rename_i d A;rw[cG u.1 d,cG u.2 A];simp only[PV.ren,PV.fB];split at e
   ·rename_i B;rw[aG B];cases e;simp only[PV.ren,PV.fB,bbR]
   ·cases e
  ·cases e
 case idxV n size ag x i=>
  simp only[POp.clo,a8C]at u;simp only[aP]at e ⊢;split at e
  ·rename_i d A;rw[cG u.1 d,cG u.2 A];simp only[PV.ren,PV.fB,a7Z];split at e
   ·rename_i B;rw[aG B];cases ag with
    |true=>
     simp only[if_true]at e ⊢;split at e
     ·rename_i E;rw[aG E,←bbR,←baY];cases e;simp only[PV.ren,PV.fB]
     ·cases e
    |false =>simp only[baK,if_false]at e ⊢;rw[a8Y,e];rfl
   ·cases e
  ·cases e
 case a7P x i=>
  simp only[POp.clo,a8C]at u;simp only[aP]at e ⊢;split at e
  ·rename_i s k n d A;rw[cG u.1 d,cG u.2 A];simp only[PV.ren];split at e
   ·rename_i B;rw[aG B];cases E:s[n.toNat]? with
    |none=>rw[E]at e;cases e
    |some b=>rw[E]at e;cases e;rfl
   ·cases e
  ·cases e
 case a7L x lo hi=>
  simp only[POp.clo,a8C]at u;simp only[aP]at e ⊢;split at e
  ·rename_i s d;rw[cG u.1 d];simp only[PV.ren];split at e
   ·rename_i l m A B;rw[OQ u.2.1 A,OQ u.2.2 B];simp only;split at e
    ·rename_i E;rw[aG E];cases e;rfl
    ·cases e
   ·cases e
  ·cases e
 case sliceA n size x lo hi mx=>
  cases lo<;>cases hi<;>cases mx<;>try (simp[aP]at e;done)
  simp only[aP]at e ⊢;split at e
  ·rename_i cs d;rw[cG u d];simp only[PV.ren,PV.fB,a7Z];split at e
   ·rename_i B;rw[aG B];cases e;simp only[PV.ren,PV.kR,uw]
   ·cases e
  ·cases e
 case len x=>
  simp only[aP]at e ⊢;cases d:x.ev F with
  |none=>rw[d]at e;cases e
  |some a=>rw[d]at e;rw[cG u d];exact aMV e
 case a7O x=>
  simp only[aP]at e ⊢;split at e
  ·rename_i d;rw[cG u d];cases e;rfl
  ·cases e
 case lenM x=>simp[POp.clo]at u
 case a7Y x=>
  simp only[aP]at e ⊢;split at e
  ·rename_i d;rw[cG u d];cases e;rfl
  ·cases e
 case isNil n x=>
  simp only[aP]at e ⊢;cases d:x.ev F with
  |none=>rw[d]at e;cases e
  |some a=>
   rw[d]at e;rw[cG u d];simp only[bbN]at e ⊢;cases A:a.wG with
   |none=>rw[A]at e;cases e
   |some b=>rw[A]at e;rw[azD A];cases e;rfl
 case extract x i=>
  simp only[aP]at e ⊢;split at e
  ·rename_i vs d;rw[cG u d];simp only[PV.ren,PV.fB];rw[a8Y,e];rfl
  ·cases e
 case a7J mx x y=>
  simp only[POp.clo,a8C]at u;simp only[aP]at e ⊢;split at e
  ·rename_i d A;rw[cG u.1 d,cG u.2 A];simp only[PV.ren];split at e
   ·rename_i B;rw[aG B];cases e;rfl
   ·cases e
  ·cases e
 case mkfn name l=>
  simp only[aP]at e ⊢;cases d:aQ.evs F l with
  |none=>rw[d]at e;cases e
  |some vs =>rw[d]at e;rw[FX u d];cases e;simp only[a8X,PV.ren,PV.fB]
 case lookup sh zero x k ok=>
  simp only[POp.clo,a8C]at u;simp only[aP]at e ⊢;split at e
  ·rename_i o S d A;rw[cG u.2.1 d,cG u.2.2 A];simp only[PV.ren];split at e
   ·rename_i Q g M B E;obtain⟨_,_,_,h5⟩:=K.ex B;simp only[aU.ren]at h5;simp only[h5,CO E];split at e
    ·rename_i O;rw[aG O];cases ok<;>cases h7:g M<;>rw[h7]at e<;>cases e<;>simp[PV.ren,PV.mT,PV.nF u.1]
    ·cases e
   ·cases e
  ·cases e
 case a7C x=>
  simp only[aP]at e ⊢;split at e
  ·rename_i a d;rw[cG u d];split at e
   ·rename_i rows A;simp only[zZ K A];cases B:jN rows with
    |none=>rw[B]at e;cases e
    |some s=>rw[B]at e;rw[HA B];cases e;rfl
   ·cases e
  ·cases e
 case slice size x lo hi mx=>
  simp only[POp.clo,a8C]at u;simp only[aP]at e ⊢;split at e
  ·rename_i a d;rw[cG u.1 d];cases a<;>try (simp at e;done)
   all_goals
    simp only[PV.ren,PV.kR,a7Z]at e ⊢;split at e
    ·rename_i l m A B;rw[OQ u.2.1 A,OQ u.2.2.1 B];simp only;cases mx with
     |none =>simp only at e ⊢;have E:=Mb (r:=r) e;simpa only [PV.ren,PV.kR]using E
     |some q=>
      simp only at e ⊢;cases h5:bnd F 0 (some q)with
      |none=>rw[h5]at e;cases e
      |some z =>rw[h5]at e;rw[OQ u.2.2.2 h5];have E:=Mb (r:=r) (by simpa using e);simpa only [PV.ren,PV.kR,bbN]using E
    ·cases e
  ·cases e
end
inductive Fr where
 |nil
 |node (v:Option PV) (l r:Fr)
def Fr.pf:Fr→PF
 | .nil,_=>none
 | .node v l r,i=>cond (a9U i 0) v (cond (a9U (i%2) 1) (l.pf (i/2)) (r.pf (i/2-1)))
def Fr.set:Fr→Nat→PV→Fr
 | .nil,_,_=>.nil
 | .node v l r,i,x=>cond (a9U i 0) (.node (some x) l r) (cond (a9U (i%2) 1) (.node v (l.set (i/2) x) r) (.node v l (r.set (i/2-1) x)))
def Fr.has:Fr→Nat→Bool
 | .nil,_=>false
 | .node _ l r,i=>cond (a9U i 0) true (cond (a9U (i%2) 1) (l.has (i/2)) (r.has (i/2-1)))
def Fr.put(l:Fr)(d:Option Nat)(v:PV):Fr:=match d with
 |none=>l
 |some d=>l.set d v
def Fr.fits(l:Fr)(d:Option Nat):Bool:=match d with
 |none=>true
 |some d=>l.has d
theorem R1(i j:Nat):a9U i j=decide (i=j):=by
 rw[Bool.eq_iff_iff,Nat.beq_eq,decide_eq_true_eq]
theorem Fr.Aq:∀{l:Fr}{d:Nat}{v:PV},l.has d=true→(l.set d v).pf=λi=>if i=d then some v else l.pf i
 | .nil,d,v,h=>by cases h
 | .node w l r,d,v,h=>by
  funext i;simp only[Fr.has,Fr.set,R1]at h ⊢;by_cases x:d=0
  ·subst x;simp only[decide_true,cond_true,Fr.pf,R1];by_cases u:i=0<;>simp[u]
  ·simp only[x,decide_false,cond_false]at h ⊢;by_cases y:d%2=1
   ·simp only[y,decide_true,cond_true]at h ⊢;simp only[Fr.pf,R1,Fr.Aq h];by_cases u:i=0
    ·simp only[u,decide_true,cond_true];rw[aD (λe=>x e.symm)]
    ·simp only[u,decide_false,cond_false];by_cases p:i%2=1
     ·simp only[p,decide_true,cond_true];by_cases e:i=d
      ·rw[aG e,aG (by rw[e])]
      ·rw[aD e,aD Om]
     ·simp only[p,decide_false,cond_false];rw[aD (by intro e;rw[e]at p;exact p y)]
   ·simp only[y,decide_false,cond_false]at h ⊢;simp only[Fr.pf,R1,Fr.Aq h];by_cases u:i=0
    ·simp only[u,decide_true,cond_true];rw[aD (λe=>x e.symm)]
    ·simp only[u,decide_false,cond_false];by_cases p:i%2=1
     ·simp only[p,decide_true,cond_true];rw[aD (by intro e;rw[e]at p;exact y p)]
     ·simp only[p,decide_false,cond_false];by_cases e:i=d
      ·rw[aG e,aG (by rw[e])]
      ·rw[aD e,aD Om]
theorem Fr.aHC{l:Fr}{d:Option Nat}{v:PV}(h:l.fits d=true):(l.put d v).pf=l.pf.put d v:=by
 cases d with
 |none=>rfl
 |some d =>simp only[Fr.put];rw[Fr.Aq h];rfl
def Fr.empty:Nat→Fr
 |0=>.nil
 |n+1=>.node none (Fr.empty n) (Fr.empty n)
theorem Fr.Tf:∀(n i:Nat),(Fr.empty n).pf i=none
 |0,i=>rfl
 |n+1,i=>by simp only[Fr.empty,Fr.pf,R1];cases decide (i=0)<;>cases decide (i%2=1)<;>simp[Fr.Tf n]
def Fr.args:List PV→Nat→Fr→Option Fr
 |[],_,f=>some f
 |v::vs,k,f=>cond (f.has k) (Fr.args vs (k+1) (f.set k v)) none
theorem Fr.akN:∀{vs:List PV}{k:Nat}{f g:Fr},Fr.args vs k f=some g→g.pf=λi=>if i<k then f.pf i else match vs[i-k]? with|some v=>some v|none=>f.pf i
 |[],k,f,g,h=>by cases h;funext i;split<;>simp
 |v::vs,k,f,g,h=>by
  simp only[Fr.args]at h;cases e:f.has k with
  |false=>rw[e]at h;cases h
  |true=>
   rw[e]at h;rw[Fr.akN h,Fr.Aq e];funext i;show(if i<k+1 then(if i=k then some v else f.pf i)else match vs[i-(k+1)]? with|some w=>some w|none=>(if i=k then some v else f.pf i))=if i<k then f.pf i else match(v::vs)[i-k]? with|some w=>some w|none=>f.pf i
   rcases Nat.lt_trichotomy i k with c|c|c
   ·rw[aG Om,aD Om,aG c]
   ·subst c;rw[aG Om,aG rfl,aD Om,baV];rfl
   ·rw[aD Om,aD Om,aD Om];obtain⟨d,l⟩:∃d,i-k=d+1:=⟨i-k-1,by omega⟩;rw[l,show i-(k+1)=d by omega];rfl
abbrev Hp:=List aU
def aU.live:aU→Option aU
 | .dead=>none
 | .loop ..=>none
 |x=>some x
def Hp.ph(l:Hp):PH:=⟨λo=>(l[o]?).bind aU.live,Z' l,λo d=>by simp[a9N d]⟩
theorem Hp.kL(l:Hp)(o:Nat):l.ph o=(l[o]?).bind aU.live:=rfl
def aU.Bd(n:Nat):aU→Prop
 | .rows _ rs=>PV.eR n rs=true
 | .map _ g=>∀k v,g k=some v→v.bound 0=true
 |_=>True
def Dx(n:Nat)(f:Fr):Prop:=∀i v,f.pf i=some v→v.bound n=true
structure Rl(r:Ren)(f:Fr)(h:Hp)(F:PF)(H:PH):Prop where
 fr:F=f.pf.ren r
 hp:KY r h.ph H
 inj:∀i j x y,h.ph i=some x→h.ph j=some y→(r i).1=(r j).1→i=j
 fb:Dx h.length f
 hb:∀x∈h,aU.Bd h.length x
 pc:∀i x,h.ph i=some x→PV.eR 0 (r i).2=true
def iU(n:Nat)(r r':Ren):Prop:=∀i,i<n→r i=r' i
mutual
theorem PV.uP{n m:Nat}(h:n≤m):∀v:PV,v.bound n=true→v.bound m=true
 | .osl o s d len,hb=>by simp only[PV.bound,decide_eq_true_eq]at hb ⊢;omega
 | .ptr o s i c,hb=>by simp only[PV.bound,decide_eq_true_eq]at hb ⊢;omega
 | .map o,hb=>by simp only[PV.bound,decide_eq_true_eq]at hb ⊢;omega
 | .sl s rows,hb=>by simp only[PV.bound]at hb ⊢;exact PV.yR h rows hb
 | .bM cs,hb=>by simp only[PV.bound]at hb ⊢;exact PV.qS h cs hb
 | .fn _ cs,hb=>by simp only[PV.bound]at hb ⊢;exact PV.qS h cs hb
 | .agg cs,hb=>by simp only[PV.bound]at hb ⊢;exact PV.qS h cs hb
 | .tup cs,hb=>by simp only[PV.bound]at hb ⊢;exact PV.qS h cs hb
 | .int _ _,_=>rfl
 | .bool _,_=>rfl
 | .str _,_=>rfl
 | .aF,_=>rfl
 | .lit _,_=>rfl
 | .junk,_=>rfl
theorem PV.qS{n m:Nat}(h:n≤m):∀l:List PV,PV.bounds n l=true→PV.bounds m l=true
 |[],_=>rfl
 |v::vs,hb=>by simp only[PV.bounds,a8C]at hb ⊢;exact⟨PV.uP h v hb.1,PV.qS h vs hb.2⟩
theorem PV.yR{n m:Nat}(h:n≤m):∀l:List (List PV),PV.eR n l=true→PV.eR m l=true
 |[],_=>rfl
 |v::vs,hb=>by simp only[PV.eR,a8C]at hb ⊢;exact⟨PV.qS h v hb.1,PV.yR h vs hb.2⟩
end
def PV.CF(n:Nat)(v:PV):Bool:=cond (v.bound 0) true (v.bound n)
theorem PV.yQ{n:Nat}{v:PV}(h:v.CF n=true):v.bound n=true:=by
 unfold PV.CF at h;cases e:v.bound 0 with
 |true=>exact PV.uP (a8H _) v e
 |false=>rw[e]at h;exact h
theorem aU.Bd.mono{n m:Nat}(h:n≤m){x:aU}(hb:x.Bd n):x.Bd m:=by
 cases x with
 |rows s rs=>exact PV.yR h rs hb
 |map sh g=>exact hb
 |loop=>trivial
 |dead=>trivial
theorem aU.pG{n:Nat}{r r':Ren}(h:iU n r r'){x:aU}(hb:x.Bd n)(pre:List (List PV)):x.ren r pre=x.ren r' pre:=by
 cases x with
 |rows s rs=>simp only[aU.ren,←PV.kR];rw[PV.MV h rs hb]
 |map sh g=>
  simp only[aU.ren];congr 1;funext k;cases e:g k with
  |none=>rfl
  |some v=>rw[a8X,a8X,PV.nF (hb k v e),PV.nF (hb k v e)]
 |loop=>rfl
 |dead=>rfl
theorem PF.pG{n:Nat}{r r':Ren}(h:iU n r r'){f:Fr}(hb:Dx n f):f.pf.ren r=f.pf.ren r':=by
 funext i;unfold PF.ren;cases e:f.pf i with
 |none=>rfl
 |some v=>rw[a8X,a8X,PV.ca h v (hb i v e)]
theorem PF.aUX(r:Ren)(F:PF)(d:Option Nat)(v:PV):(F.put d v).ren r=(F.ren r).put d (v.ren r):=by
 cases d with
 |none=>rfl
 |some d =>funext i;simp only[PF.put,PF.ren,PF.set,upd];split<;>rfl
theorem mL{l:Hp}{o:Nat}{x:aU}(h:l.ph o=some x):l[o]?=some x∧o<Z' l:=by
 rw[Hp.kL]at h;cases e:l[o]? with
 |none=>rw[e]at h;cases h
 |some y=>
  rw[e]at h;have hlt:=(a9I.1 e).1;cases y with
  |dead=>cases h
  |loop=>cases h
  |rows=>cases h;exact⟨rfl,hlt⟩
  |map=>cases h;exact⟨rfl,hlt⟩
theorem Hp.zM{l:Hp}{o:Nat}{x:aU}(i:o<Z' l)(q:Nat):Hp.ph (l.set o x) q=if q=o then x.live else l.ph q:=by
 rw[Hp.kL,Hp.kL,bcD];by_cases e:o=q
 ·subst e;rw[aG rfl,aG i,aG rfl];rfl
 ·rw[aD e,aD (λd=>e d.symm)]
theorem Hp.vE{l:Hp}{x:aU}(q:Nat):Hp.ph (l++[x]) q=if q=l.length then x.live else l.ph q:=by
 rw[Hp.kL,Hp.kL];by_cases e:q=Z' l
 ·subst e;rw[aG rfl,baP (a8E _),baV];rfl
 ·rw[aD e];rcases a9A q l.length with h|h
  ·rw[baW h]
  ·rw[baP h,a9N (show[x].length≤q-l.length by simp;omega),a9N h]
theorem aU.CR{x y:aU}(h:x.live=some y):x=y:=by
 cases x<;>first|cases h;done|(cases h;rfl)
section
variable {r:Ren} {f:Fr} {h:Hp} {F:PF} {H:PH}
theorem Rl.push(R:Rl r f h F H){x:aU}(B:x.Bd h.length){o:Nat}(K:H o=none) :
  Rl (λi=>if i=h.length then(o,[])else r i) f (h++[x]) F (H.set o (x.ren r []))∧iU h.length r (λi=>if i=h.length then(o,[])else r i):=by
 have u:iU h.length r (λi=>if i=h.length then(o,[])else r i):=λi hi=>by
  show r i=if i=h.length then(o,[])else r i
  rw[aD Om]
 have d:∀i y,h.ph i=some y→(r i).1≠o:=λi y hy e=>by have this:=R.hp i y hy;rw[e,K]at this;cases this
 have A:(h++[x]).length=Z' h+1:=by simp
 refine⟨⟨?_,λi y hy=>?_,λi j y z hy p e=>?_,λi v M=>?_,λy hy=>?_,λi y hy=>?_⟩,u⟩
 ·rw[R.fr];exact PF.pG u R.fb
 ·rw[Hp.vE]at hy;by_cases e:i=Z' h
  ·rw[aG e]at hy;have:=aU.CR hy;subst this;show(H.set o (x.ren r [])) (if i=h.length then((o,[]):Nat × List (List PV))else r i).1=some (x.ren _ (if i=h.length then((o,[]):Nat × List (List PV))else r i).2);rw[aG e,aU.pG u B];simp[PH.set,PH.upd,upd]
  ·rw[aD e]at hy;have w:=R.hp i y hy;show(H.set o (x.ren r [])) (if i=h.length then((o,[]):Nat × List (List PV))else r i).1=some (y.ren _ (if i=h.length then((o,[]):Nat × List (List PV))else r i).2);rw[aD e];have E:=mL hy;rw[aU.pG u (R.hb y (baH E.1))]at w;have J:=d i y hy;simp only[PH.set,PH.upd,upd];rw[aD J];exact w
 ·rw[Hp.vE]at hy p
  try simp only at e
  by_cases l:i=Z' h
  ·by_cases e2:j=Z' h
   ·omega
   ·rw[aG l,aD e2]at e;rw[aD e2]at p;exact absurd e.symm (d j z p)
  ·by_cases e2:j=Z' h
   ·rw[aD l,aG e2]at e;rw[aD l]at hy;exact absurd e (d i y hy)
   ·rw[aD l,aD e2]at e;rw[aD l]at hy;rw[aD e2]at p;exact R.inj i j y z hy p e
 ·rw[A];exact PV.uP (Nat.le_succ _) v (R.fb i v M)
 ·rw[A];rcases a9T.1 hy with hy|hy
  ·exact(R.hb y hy).mono (Nat.le_succ _)
  ·rw[baQ]at hy;subst hy;exact B.mono (Nat.le_succ _)
 ·show PV.eR 0 (if i=h.length then((o,[]):Nat × List (List PV))else r i).2=true;by_cases e:i=Z' h
  ·rw[aG e];rfl
  ·rw[aD e];rw[Hp.vE,aD e]at hy;exact R.pc i y hy
theorem Rl.aBP(R:Rl r f h F H){o:Nat}{x y:aU}(u:h.ph o=some x)(M:y.Bd h.length):Rl r f (h.set o y) F (H.set (r o).1 (y.ren r (r o).2)):=by
 have hlt:=(mL u).2;refine⟨R.fr,λi z d=>?_,λi j z w d A e=>?_,λi v K=>?_,λz d=>?_,λi z d=>?_⟩
 ·rw[Hp.zM hlt]at d;by_cases e:i=o
  ·rw[aG e]at d;have:=aU.CR d;subst this;subst e;simp[PH.set,PH.upd,upd]
  ·rw[aD e]at d;have p:=R.hp i z d;simp only[PH.set,PH.upd,upd];rw[aD (λJ=>e (R.inj i o z x d u J))];exact p
 ·rw[Hp.zM hlt]at d A;have h1:∃E,h.ph i=some E:=by
   by_cases l:i=o
   ·subst l;exact⟨x,u⟩
   ·rw[aD l]at d;exact⟨z,d⟩
  have p:∃B,h.ph j=some B:=by
   by_cases l:j=o
   ·subst l;exact⟨x,u⟩
   ·rw[aD l]at A;exact⟨w,A⟩
  obtain⟨E,h1⟩:=h1;obtain⟨B,p⟩:=p;exact R.inj i j E B h1 p e
 ·rw[a9R];exact R.fb i v K
 ·rw[a9R];rcases bcE d with h1|h1
  ·exact R.hb z h1
  ·subst h1;exact M
 ·rw[Hp.zM hlt]at d;by_cases l:i=o
  ·subst l;exact R.pc i x u
  ·rw[aD l]at d;exact R.pc i z d
theorem Rl.drop(R:Rl r f h F H)(o:Nat):Rl r f (h.set o .dead) F H:=by
 have l:∀i z,Hp.ph (h.set o .dead) i=some z→h.ph i=some z:=λi z d=>by
  rw[Hp.kL,bcD]at d;by_cases e:o=i
  ·rw[aG e]at d;split at d<;>cases d
  ·rw[aD e]at d;exact d
 refine⟨R.fr,λi z d=>R.hp i z (l i z d),λi j z w d u e=>R.inj i j z w (l i z d) (l j w u) e,λi v p=>?_,λz d=>?_,λi z d=>R.pc i z (l i z d)⟩
 ·rw[a9R];exact R.fb i v p
 ·rw[a9R];rcases bcE d with h1|h1
  ·exact R.hb z h1
  ·subst h1;trivial
theorem Rl.move(R:Rl r f h F H){o:Nat}{x y:aU}(E:h.ph o=some x)(N:y.Bd h.length)(pre:List (List PV))(u:PV.eR 0 pre=true) :
  Rl (λi=>if i=h.length then((r o).1,pre)else r i) f (h.set o .dead++[y]) F (H.set (r o).1 (y.ren r pre))∧iU h.length r (λi=>if i=h.length then((r o).1,pre)else r i):=by
 have hlt:=(mL E).2;have B:iU h.length r (λi=>if i=h.length then((r o).1,pre)else r i):=λi hi=>by
  show r i=if i=h.length then((r o).1,pre)else r i
  rw[aD Om]
 have A:(h.set o .dead).length=Z' h:=a9R ..;have d:∀i z,i≠Z' h→Hp.ph (h.set o .dead++[y]) i=some z→i≠o∧h.ph i=some z:=λi z hi hz=>by
  rw[Hp.vE,A,aD hi,Hp.zM hlt]at hz;by_cases e:i=o
  ·rw[aG e]at hz;cases hz
  ·rw[aD e]at hz;exact⟨e,hz⟩
 have K:(h.set o .dead++[y]).length=Z' h+1:=by simp
 refine⟨⟨?_,λi z hz=>?_,λi j z w hz M e=>?_,λi v Q=>?_,λz hz=>?_,λi z hz=>?_⟩,B⟩
 ·rw[R.fr];exact PF.pG B R.fb
 ·by_cases e:i=Z' h
  ·rw[Hp.vE,A,aG e]at hz;have:=aU.CR hz;subst this;show(H.set (r o).1 (y.ren r pre)) (if i=h.length then(((r o).1,pre):Nat × List (List PV))else r i).1=some (y.ren _ (if i=h.length then(((r o).1,pre):Nat × List (List PV))else r i).2);rw[aG e,←aU.pG B N];simp[PH.set,PH.upd,upd]
  ·obtain⟨h1,l⟩:=d i z e hz;have J:=R.hp i z l;show(H.set (r o).1 (y.ren r pre)) (if i=h.length then(((r o).1,pre):Nat × List (List PV))else r i).1=some (z.ren _ (if i=h.length then(((r o).1,pre):Nat × List (List PV))else r i).2);rw[aD e];rw[aU.pG B (R.hb z (baH (mL l).1))]at J;simp only[PH.set,PH.upd,upd];rw[aD (λO=>h1 (R.inj i o z x l E O))];exact J
 ·try simp only at e
  by_cases p:i=Z' h
  ·by_cases e2:j=Z' h
   ·omega
   ·rw[aG p,aD e2]at e;obtain⟨h1,l⟩:=d j w e2 M;exact absurd (R.inj o j x w E l e).symm h1
  ·by_cases e2:j=Z' h
   ·rw[aD p,aG e2]at e;obtain⟨h1,l⟩:=d i z p hz;exact absurd (R.inj i o z x l E e) h1
   ·rw[aD p,aD e2]at e;exact R.inj i j z w (d i z p hz).2 (d j w e2 M).2 e
 ·rw[K];exact PV.uP (Nat.le_succ _) v (R.fb i v Q)
 ·rw[K];rcases a9T.1 hz with hz|hz
  ·rcases bcE hz with h1|h1
   ·exact(R.hb z h1).mono (Nat.le_succ _)
   ·subst h1;trivial
  ·rw[baQ]at hz;subst hz;exact N.mono (Nat.le_succ _)
 ·show PV.eR 0 (if i=h.length then(((r o).1,pre):Nat × List (List PV))else r i).2=true;by_cases e:i=Z' h
  ·rw[aG e];exact u
  ·rw[aD e];exact R.pc i z (d i z e hz).2
theorem Rl.put(R:Rl r f h F H){d:Option Nat}{v:PV}(l:f.fits d=true)(p:v.bound h.length=true):Rl r (f.put d v) h (F.put d (v.ren r)) H:=by
 refine⟨?_,R.hp,R.inj,λi w e=>?_,R.hb,R.pc⟩
 ·rw[Fr.aHC l,PF.aUX,R.fr]
 ·rw[Fr.aHC l]at e;cases d with
  |none=>exact R.fb i w e
  |some d=>
   simp only[PF.put,PF.set,upd]at e;split at e
   ·cases e;exact p
   ·exact R.fb i w e
end
end Go.PM
namespace Go.PM
open Go
def aU.bd(n:Nat):aU→Bool
 | .rows _ rs=>PV.eR n rs
 |_=>false
theorem aU.AK{n:Nat}{x:aU}(h:x.bd n=true):x.Bd n:=by
 cases x<;>first|exact h|cases h
def Qt(n m bytes:Nat):Bool:=decide (n+m≤maxLen)&&decide ((n+m)*bytes≤140737488355328)
theorem kw{n m bytes:Nat}(h:Qt n m bytes=true):roomFor n m bytes:=by
 simp only[Qt,a8C,decide_eq_true_eq]at h;exact h
def yC(op:POp)(f:Fr)(h:Hp):Option (PV × Hp):=match op with
 | .a7U sh=>some (.map h.length,h++[.map sh λ_=>none])
 |op=>match cT op f.pf with
  |some (d,x)=>if x.bd h.length then some (d h.length,h++[x])else none
  |none=>none
def gZ(op:POp)(f:Fr)(h:Hp):Option (PV × Hp):=match op with
 | .store n p x=>match p.ev f.pf,x.ev f.pf with
  |some (.ptr o s i c),some v=>match h[o]? with
   |some (.rows s' rs)=>match rs[i]? with
    |some q=>if(decide (Z' v.cells=n)&&(decide (s'=s)&&(decide (c+Z' v.cells≤s)&&v.cells.all PV.one)))&&aU.bd h.length (.rows s' (rs.set i (setCells q c v.cells)))then
      some (.junk,h.set o (.rows s' (rs.set i (setCells q c v.cells))))else none
    |none=>none
   |_=>none
  |_,_=>none
 | .append size bytes x y=>match x.ev f.pf,y.ev f.pf with
  |some .aF,some b=>match dW h.ph size b with
   |some []=>some (.aF,h)
   |some (a::src)=>if Qt 0 (a::src).length bytes&&aU.bd h.length (.rows size (a::src))then some (.osl h.length size 0 (a::src).length,h++[.rows size (a::src)])else none
   |none=>none
  |some (.osl o s e len),some b=>match dW h.ph size b,h[o]? with
   |some src,some (.rows s' rs)=>if(decide (s=size)&&(decide (s'=size)&&(decide (e+len≤Z' rs)&&PV.eR 0 (rs.take e))))&&(Qt len src.length bytes&&aU.bd h.length (.rows size ((rs.drop e).take len++src)))then
     some (.osl h.length size 0 (len+Z' src),h.set o .dead++[.rows size ((rs.drop e).take len++src)])else none
   |_,_=>none
  |_,_=>none
 | .a7G sh x k v=>match x.ev f.pf,k.ev f.pf,v.ev f.pf with
  |some (.map o),some w,some u=>match h[o]?,keyOf sh w with
   |some (.map l g),some d=>if decide (l=sh)&&u.bound 0 then some (.junk,h.set o (.map sh (g.upd d u)))else none
   |_,_=>none
  |_,_,_=>none
 | .insert sh x k v=>match x.ev f.pf,k.ev f.pf,v.ev f.pf with
  |some (.map o),some w,some u=>match h[o]?,keyOf sh w with
   |some (.map l g),some d=>if decide (l=sh)&&(u.bound 0&&(g d).isNone)then some (.junk,h.set o (.map sh (g.upd d u)))else none
   |_,_=>none
  |_,_,_=>none
 |_=>none
noncomputable def CY(op:POp)(f:Fr)(h:Hp):Option (PV × Hp):=
 if op.clo then
  if op.jG then yC op f h else if op.eS then gZ op f h else
   match aP op f.pf h.ph with
   |some v=>if v.CF h.length then some (v,h)else none
   |none=>none
 else none
section
variable {r:Ren} {f:Fr} {h h':Hp} {F:PF} {H:PH} {K:PV→PH→Prop} {v:PV}
theorem ahZ{F:PF}{op:POp}{A:Nat→PV}{x:aU}(d:op.clo=true)(e:cT op F=some (A,x))(J:∀sh,op≠.a7U sh) :
  ∃mk',cT op (F.ren r)=some (mk',x.ren r [])∧(∀(q:Ren) n,(q n).2=[]→mk' (q n).1=(A n).ren q)∧∀n,(A n).bound (n+1)=true:=by
 cases op<;>try (simp[cT]at e;done)
 case alloc cells =>simp only[cT,a9V.injEq,Prod.mk.injEq]at e ⊢;obtain⟨rfl,rfl⟩:=e;refine⟨_,⟨rfl,?_⟩,λq n p=>by simp only[PV.ren,p,baE,a9Y],λn=>by simp[PV.bound]⟩;simp only[aU.ren,a9D,baB,PV.nI d,bbS]
 case box ro y=>
  cases ro with
  |true=>simp[cT]at e
  |false=>
   simp only[cT]at e ⊢;split at e
   ·rename_i w i;rw[cG d i];simp only[xY,wK,a7Z];split at e
    ·rename_i u;rw[aG u];cases e;exact⟨_,rfl,λq n p=>by simp only[PV.ren,p,baE,a9Y],λn=>by simp[PV.bound]⟩
    ·cases e
   ·cases e
 case a6U ro size len zero parts=>
  cases ro with
  |true=>simp[cT]at e
  |false=>
   simp only[POp.clo,a8C]at d;simp only[cT]at e ⊢;split at e
   ·rename_i B;rw[aG B];cases i:iR size (a8D len zero) F parts with
    |none=>rw[i]at e;cases e
    |some w =>rw[i]at e;have u:=HG (r:=r) d.2 i;rw[List.map_replicate,PV.nI d.1]at u;rw[u];cases e;exact⟨_,rfl,λq n p=>by simp only[PV.ren,p,baE,a9Y],λn=>by simp[PV.bound]⟩
   ·cases e
 case a6W size bytes zero l c=>
  simp only[POp.clo,a8C]at d;simp only[cT]at e ⊢;split at e
  ·rename_i k n N m i u;rw[cG d.2.1 i,cG d.2.2 u];simp only[PV.ren];split at e
   ·rename_i E;rw[aG E];cases e;have M:aU.ren r [] (.rows size (a8D n.toNat zero))=.rows size (a8D n.toNat zero):=by simp only[aU.ren,List.map_replicate,PV.nI d.1,bbS]
    rw[M];exact⟨_,rfl,λq n p=>by simp only[PV.ren,p,baE,a9Y],λn=>by simp[PV.bound]⟩
   ·cases e
  ·cases e
 case a7U sh=>exact absurd rfl (J sh)
theorem OR{n:Nat}:∀{a b:List (List PV)},PV.eR n a=true→PV.eR n b=true→PV.eR n (a++b)=true
 |[],_,_,h=>h
 |x::a,b,d,e=>by simp only[PV.eR,List.cons_append,a8C]at d ⊢;exact⟨d.1,OR d.2 e⟩
theorem iz:∀{l:List (List PV)},PV.eR 0 l=true→∀r:Ren,l.map (λx=>x.map (PV.ren r))=l
 |[],_,_=>rfl
 |x::l,h,r=>by simp only[PV.eR,a8C]at h;rw[a9D,PV.nI h.1,iz h.2]
theorem aVH{α:Type}(pre l:List α)(d len:Nat):(pre++l).take (d+Z' pre+len)=(pre++l.take d)++(l.drop d).take len:=by
 rw[List.take_append,a8T Om,show d+Z' pre+len-Z' pre=d+len by omega,List.take_add,a9G]
theorem ahC{H:PH}{size bytes o s d len:Nat}{y:PV}{K:PV→PH→Prop}{src rs:List (List PV)}(e:dW H size y=some src)(i:s=size)(l:roomFor len src.length bytes)(p:H o=some (.rows size rs))(h5:d+len≤Z' rs)
  (k1:K (.osl o size d (len+Z' src)) (H.set o (.rows size (rs.take (d+len)++src)))) (k2:∀o',H o'=none→K (.osl o' size 0 (len+Z' src)) (H.set o' (.rows size ((rs.drop d).take len++src)))):oP H size bytes (.osl o s d len) y K:=by
 cases d with
 |zero =>rw[a8Q]at h5 k1;exact⟨src,e,i,rfl,l,rs,p,h5,k1,k2⟩
 |succ d=>exact⟨src,e,i,l,rs,p,h5,k1,k2⟩
theorem XK{op:POp}{d:Option Nat}{K:PF→PH→Prop}(R:Rl r f h F H)(O:op.clo=true)(e:yC op f h=some (v,h'))
  (E:∀r' H',iU h.length r r'→Rl r' f h' F H'→v.bound h'.length=true→K (F.put d (v.ren r')) H'):pX (cT op F) d K F H:=by
 by_cases y:∃sh,op=.a7U sh
 ·obtain⟨sh,rfl⟩:=y;simp only[yC,a9V.injEq,Prod.mk.injEq]at e;obtain⟨rfl,rfl⟩:=e;refine⟨_,_,rfl,λo A=>?_⟩;obtain⟨l,w⟩:=R.push (x:=.map sh λ_=>none) (λk v S=>by cases S) A;have:=E _ _ w l (by simp[PV.bound]);simpa[PV.ren,aU.ren]using this
 ·have i:(match cT op f.pf with|some (J,x)=>if x.bd h.length then some (J h.length,h++[x])else none|none=>none)=some (v,h'):=by cases op<;>first|exact e|exact absurd ⟨_,rfl⟩ y
  cases u:cT op f.pf with
  |none=>rw[u]at i;cases i
  |some p=>
   obtain⟨J,x⟩:=p;rw[u]at i;simp only at i;split at i
   ·rename_i hb;cases i;obtain⟨mk',B,M,N⟩:=ahZ (r:=r) O u (λsh Q=>y ⟨sh,Q⟩);rw[←R.fr]at B;refine⟨mk',x.ren r [],B,λo A=>?_⟩;obtain⟨l,w⟩:=R.push (aU.AK hb) A;have:=E _ _ w l (by rw[a8F];exact N _);rw[←M _ _ bD]at this;simpa using this
   ·cases i
theorem tH{op:POp}(R:Rl r f h F H)(l:op.clo=true)(e:gZ op f h=some (v,h'))
  (Z:∀r' H',iU h.length r r'→Rl r' f h' F H'→v.bound h'.length=true→K (v.ren r') H'):bZ op F H K:=by
 have J:=R.fr;cases op<;>try (simp[gZ]at e;done)
 case store n p x=>
  simp only[POp.clo,a8C]at l;simp only[gZ]at e;split at e
  ·rename_i o s i c w Q S;split at e
   ·rename_i s' rs N;split at e
    ·rename_i q U;split at e
     ·rename_i h5;simp only[a8C,decide_eq_true_eq]at h5;obtain⟨⟨W,rfl,h7,h8⟩,h9⟩:=h5;cases e;simp only[bZ,J,cG l.1 Q,cG l.2 S];have E:h.ph o=some (.rows s' rs):=by rw[Hp.kL,N];rfl
      obtain⟨pre,d,α,X⟩:=R.hp.ex E;refine⟨by rw[xY,a7Z];exact W,_,?_,Z r _ (λ_ _=>rfl) (R.aBP E (aU.AK h9)) rfl⟩;rw[α];simp only[aU.ren]at X;simp only[PV.ren,storeAt,X,d,Vc,aHY,aU.ren,xY,wK,a7Z];rw[aG ⟨trivial,h7,h8⟩,a8Y,U];simp only[a8X,List.map_set,HZ]
     ·cases e
    ·cases e
   ·cases e
  ·cases e
 case append size bytes x y=>
  simp only[POp.clo,a8C]at l;simp only[gZ]at e;split at e
  ·rename_i b Q S;split at e
   ·rename_i N;cases e;simp only[bZ,J,cG l.1 Q,cG l.2 S];refine⟨[],zZ R.hp N,⟨by simp[maxLen],by simp⟩,λ_=>Z r H (λ_ _=>rfl) R rfl,λhn=>absurd rfl hn⟩
   ·rename_i a src N;split at e
    ·rename_i h5;simp only[a8C]at h5;cases e;simp only[bZ,J,cG l.1 Q,cG l.2 S];refine⟨_,zZ R.hp N,?_⟩;simp only[PV.ren];refine⟨by rw[a7Z];exact kw h5.1,λhn=>by simp at hn,λ_ o E=>?_⟩;obtain⟨O,ha⟩:=R.push (aU.AK h5.2) E;have:=Z _ _ ha O (by simp[PV.bound]);simpa[PV.ren,aU.ren]using this
    ·cases e
   ·cases e
  ·rename_i o s M len b Q S;split at e
   ·rename_i src s' rs N U;split at e
    ·rename_i h5;simp only[a8C,decide_eq_true_eq]at h5;obtain⟨⟨rfl,rfl,W,h9⟩,h7,h8⟩:=h5;cases e;have E:h.ph o=some (.rows s' rs):=by rw[Hp.kL,U];rfl
     simp only[bZ,J,cG l.1 Q,cG l.2 S];have Y:=R.pc o _ E;obtain⟨pre,d,α,β⟩:=R.hp.ex E;rw[α]at Y;simp only[aU.ren]at β;simp only[PV.ren];refine ahC (zZ R.hp N) rfl (by rw[a7Z];exact kw h7) β (by rw[d,a8F,a7Z];omega) ?_ λo' ε=>?_
     ·obtain⟨O,ha⟩:=R.move E (aU.AK h8) (pre++rs.take M) (OR Y h9);have:=Z _ _ ha O (by simp[PV.bound]);have δ:Z' pre+min M rs.length=M+(r o).2.length:=Om;have γ:(rs.take M).map (λx=>x.map (PV.ren r))=rs.take M:=iz h9 r;rw[d,aVH,a7Z,←d,←baY,γ];simpa[PV.ren,aU.ren,δ,a8Z,baY,bbR,a9G]using this
     ·obtain⟨O,ha⟩:=(R.drop o).push (x:=.rows s' ((rs.drop M).take len++src)) (by rw[a9R];exact aU.AK h8) ε;rw[a9R]at ha O;have:=Z _ _ ha O (by simp[PV.bound]);rw[d,OV,a7Z];simpa[PV.ren,aU.ren,a8Z,baY,bbR]using this
    ·cases e
   ·cases e
  ·cases e
 case a7G sh x k w=>
  simp only[POp.clo,a8C]at l;simp only[gZ]at e;split at e
  ·rename_i o kv vv Q S N;split at e
   ·rename_i B g A U h5;split at e
    ·rename_i W;simp only[a8C,decide_eq_true_eq]at W;obtain⟨rfl,h7⟩:=W;cases e;have E:h.ph o=some (.map B g):=by rw[Hp.kL,U];rfl
     have hb:aU.Bd h.length (.map B g):=R.hb _ (baH U);have X:=R.hp o _ E;have O:=R.aBP (y:=.map B (g.upd A vv)) E (λj u V=>by
      simp only[jV.upd]at V;split at V
      ·cases V;exact h7
      ·exact hb j u V)
     simp only[aU.ren]at X;have:=Z r _ (λ_ _=>rfl) O rfl;simp only[bZ,J,cG l.1 Q,cG l.2.1 S,cG l.2.2 N,PV.ren,X,aU.ren,CO h5];refine⟨trivial,?_⟩;have hg:(jV.upd (λk=>Option.map (PV.ren r) (g k)) A (vv.ren r))=λk=>Option.map (PV.ren r) (jV.upd g A vv k):=by funext j;simp only[jV.upd];split<;>rfl
     rw[hg];simpa[PV.ren,aU.ren]using this
    ·cases e
   ·cases e
  ·cases e
 case insert sh x k w=>
  simp only[POp.clo,a8C]at l;simp only[gZ]at e;split at e
  ·rename_i o kv vv Q S N;split at e
   ·rename_i B g A U h5;split at e
    ·rename_i W;simp only[a8C,decide_eq_true_eq]at W;obtain⟨rfl,h7,h8⟩:=W;cases e;have E:h.ph o=some (.map B g):=by rw[Hp.kL,U];rfl
     have hb:aU.Bd h.length (.map B g):=R.hb _ (baH U);have X:=R.hp o _ E;have O:=R.aBP (y:=.map B (g.upd A vv)) E (λj u V=>by
      simp only[jV.upd]at V;split at V
      ·cases V;exact h7
      ·exact hb j u V)
     simp only[aU.ren]at X;have:=Z r _ (λ_ _=>rfl) O rfl;simp only[bZ,J,cG l.1 Q,cG l.2.1 S,cG l.2.2 N,PV.ren,X,aU.ren,CO h5];refine⟨trivial,by rw[Option.isNone_iff_eq_none.1 h8];rfl,?_⟩;have hg:(jV.upd (λk=>Option.map (PV.ren r) (g k)) A (vv.ren r))=λk=>Option.map (PV.ren r) (jV.upd g A vv k):=by funext j;simp only[jV.upd];split<;>rfl
     rw[hg];simpa[PV.ren,aU.ren]using this
    ·cases e
   ·cases e
  ·cases e
end
abbrev gJ:=Nat→List PV→Hp→Option (PV × Hp)
abbrev OJ:=List (aW × Bool)→Fr→Hp→Option (Fr × Hp)
noncomputable def it(call:gJ)(op:POp)(f:Fr)(h:Hp):Option (PV × Hp):=match op with
 | .call name args=>if args.all aQ.clo then match aQ.evs f.pf args with
  |some vs=>call name vs h
  |none=>none
  else none
 | .a7Q x args=>if x.clo&&args.all aQ.clo then match x.ev f.pf,aQ.evs f.pf args with
  |some (.fn name cs),some vs=>call name (vs++cs) h
  |_,_=>none
  else none
 |op=>CY op f h
noncomputable def zQ(call:gJ):List aW→Fr→Hp→Option (Fr × Hp)
 |[],f,h=>some (f,h)
 |i::rest,f,h=>if f.fits i.dst then match i.guard with
   |none=>match it call i.op f h with
    |some (v,h')=>zQ call rest (f.put i.dst v) h'
    |none=>none
   |some (t,d)=>match f.pf t with
    |some (.bool b)=>if b=d then match it call i.op f h with
      |some (v,h')=>zQ call rest (f.put i.dst v) h'
      |none=>none
     else zQ call rest (f.put i.dst (.tup [])) h
    |some (.tup [])=>zQ call rest (f.put i.dst (.tup [])) h
    |_=>none
  else none
noncomputable def rL(call:gJ)(dr:OJ):Nat→aC→Fr→Hp→Option (mZ × Fr × Hp)
 |0,_,_,_=>none
 |n+1,c,f,h=>match c with
  | .skip=>some (.normal,f,h)
  | .region ops=>match zQ call ops f h with
   |some (f',h')=>some (.normal,f',h')
   |none=>none
  | .draw ops=>match dr ops f h with
   |some (f',h')=>some (.normal,f',h')
   |none=>none
  | .seq a b=>match rL call dr n a f h with
   |some (.normal,f',h')=>rL call dr n b f' h'
   |x=>x
  | .cond x a b=>if x.clo then match x.ev f.pf with
   |some (.bool t)=>if t then rL call dr n a f h else rL call dr n b f h
   |_=>none
   else none
  | .block id c=>match rL call dr n c f h with
   |some (.exit d,f',h')=>if d=id then some (.normal,f',h')else some (.exit d,f',h')
   |x=>x
  | .loop c=>match rL call dr n c f h with
   |some (.normal,f',h')=>rL call dr n (.loop c) f' h'
   |x=>x
  | .exit id=>some (.exit id,f,h)
  | .ret=>some (.ret,f,h)
def Comes(r:Ren)(n:Nat)(v:PV)(h':Hp)(d:PV)(H':PH):Prop:=
 ∃r',iU n r r'∧Rl r' .nil h' PF.nil H'∧d=v.ren r'∧v.bound h'.length=true∧n≤Z' h'
def Exact(r:Ren)(h:Hp)(H:PH):Prop:=∀o x,H o=some x→∃i y,h.ph i=some y∧(r i).1=o
def qC(C:Ctx)(call:gJ):Prop:=∀name vs h v h',call name vs h=some (v,h')→∀r H,Rl r .nil h PF.nil H→Exact r h H→PV.bounds h.length vs=true →
 aH C name (vs.map (PV.ren r)) H (Comes r h.length v h')
def tq(C:Ctx)(call:gJ):Prop:=∀name vs h v h',call name vs h=some (v,h')→∀r f F H d (K:PF→PH→Prop),Rl r f h F H→PV.bounds h.length vs=true →
 (∀r' H',iU h.length r r'→Z' h≤Z' h'→Rl r' f h' F H'→v.bound h'.length=true→K (F.put d (v.ren r')) H')→uJ C name (some (vs.map (PV.ren r))) d K F H
def Q9(C:Ctx)(dr:OJ):Prop:=∀ops f h f' h',dr ops f h=some (f',h')→∀r F H,Rl r f h F H→∀K:PF→PH→Prop,
 (∀r' d H',iU h.length r r'→Z' h≤Z' h'→Rl r' f' h' d H'→K d H')→∃Hs S,PH.le Hs H∧wpD C Hs S ops K F H
theorem iU.trans{n m:Nat}{r r' d:Ren}(h:iU n r r')(e:iU m r' d)(l:n≤m):iU n r d:=
 λi hi=>(h i hi).trans (e i (Nat.lt_of_lt_of_le hi l))
section
variable {C:Ctx} {call:gJ} {dr:OJ} {r:Ren} {f f':Fr} {h h':Hp} {F:PF} {H:PH} {v:PV}
theorem Rl.heap(R:Rl r f h F H):Rl r .nil h PF.nil H:=⟨rfl,R.hp,R.inj,λi v d=>by simp[Fr.pf]at d,R.hb,R.pc⟩
theorem YR{n:Nat}(hb:Dx n f):∀{l:List aQ}{vs:List PV},l.all aQ.clo=true→aQ.evs f.pf l=some vs→PV.bounds n vs=true
 |[],_,_,e=>by cases e;rfl
 |x::xs,vs,d,e=>by
  simp only[bbP,a8C]at d;simp only[aQ.evs]at e;split at e
  ·rename_i v w i p;cases e;rw[PV.bounds,YR hb d.2 p,baN];cases x with
   |tmp t=>exact hb t v i
   |const u=>cases i;exact PV.uP (a8H _) _ d.1
  ·cases e
theorem WY{n:Nat}:∀{a b:List PV},PV.bounds n a=true→PV.bounds n b=true→PV.bounds n (a++b)=true
 |[],_,_,h=>h
 |x::a,b,d,e=>by simp only[PV.bounds,List.cons_append,a8C]at d ⊢;exact⟨d.1,WY d.2 e⟩
theorem acN{op:POp}{d:Option Nat}{K:PF→PH→Prop}(R:Rl r f h F H)(e:CY op f h=some (v,h'))
  (u:∀r' H',iU h.length r r'→Rl r' f h' F H'→v.bound h'.length=true→K (F.put d (v.ren r')) H') :
  if op.jG then pX (cT op F) d K F H else if op.eS then bZ op F H (λr H'=>K (F.put d r) H')else cM (aP op F H) d K F H:=by
 unfold CY at e;split at e
 ·rename_i p;split at e
  ·rename_i i;rw[aG i];exact XK R p e u
  ·rename_i i;rw[aD i];split at e
   ·rename_i l;rw[aG l];exact tH R p e u
   ·rename_i l;rw[aD l];split at e
    ·rename_i w x;split at e
     ·rename_i hb;replace hb:=PV.yQ hb;cases e;have:=bx R.hp p x;rw[←R.fr]at this;exact⟨_,this,u r H (λ_ _=>rfl) R hb⟩
     ·cases e
    ·cases e
 ·cases e
theorem UP{op:POp}(e:CY op f h=some (v,h')):Z' h≤Z' h':=by
 unfold CY at e;split at e
 ·split at e
  ·by_cases i:∃sh,op=.a7U sh
   ·obtain⟨sh,rfl⟩:=i;simp only[yC,a9V.injEq,Prod.mk.injEq]at e;obtain⟨-,rfl⟩:=e;simp
   ·have d:(match cT op f.pf with|some (l,x)=>if x.bd h.length then some (l h.length,h++[x])else none|none=>none)=some (v,h'):=by cases op<;>first|exact e|exact absurd ⟨_,rfl⟩ i
    split at d
    ·split at d<;>cases d;simp
    ·cases d
  ·split at e
   ·cases op<;>try (simp[gZ]at e;done)
    all_goals
     simp only[gZ]at e
     (repeat' split at e)<;>cases e<;>simp
   ·split at e
    ·split at e<;>cases e;exact a8E _
    ·cases e
 ·cases e
theorem ajX(J:tq C call){op:POp}{d:Option Nat}{K:PF→PH→Prop}(R:Rl r f h F H)(e:it call op f h=some (v,h'))
  (y:∀r' H',iU h.length r r'→Z' h≤Z' h'→Rl r' f h' F H'→v.bound h'.length=true→K (F.put d (v.ren r')) H'):wpOp C op d K F H:=by
 by_cases w:∃name args,op=.call name args
 ·obtain⟨name,args,rfl⟩:=w;simp only[it]at e;split at e
  ·rename_i i;split at e
   ·rename_i vs p;have l:=FX (r:=r) i p;rw[←R.fr]at l;refine .inl ?_;rw[l];simp only[a8X,a9W];exact J _ _ _ _ _ e _ _ _ _ _ _ R (YR R.fb i p) y
   ·cases e
  ·cases e
 by_cases p:∃x args,op=.a7Q x args
 ·obtain⟨x,args,rfl⟩:=p;simp only[it]at e;split at e
  ·rename_i i;simp only[a8C]at i;split at e
   ·rename_i name cs vs l B;have h5:=FX (r:=r) i.2 B;have E:=cG (r:=r) i.1 l;rw[←R.fr]at h5 E;show vN C (x.ev F) args d K F H;rw[E];simp only[PV.ren,PV.fB,vN];refine .inl ?_;rw[h5];simp only[a8X,←a8Z];refine J _ _ _ _ _ e _ _ _ _ _ _ R (WY (YR R.fb i.2 B) ?_) y;cases x with
    |tmp t=>exact R.fb t _ l
    |const u =>simp only[aQ.ev,a9V.injEq]at l;subst l;have:=i.1;simp only[aQ.clo,PV.bound]at this;exact PV.qS (a8H _) _ this
   ·cases e
  ·cases e
 ·have A:CY op f h=some (v,h'):=by cases op<;>first|exact e|exact absurd ⟨_,_,rfl⟩ w|exact absurd ⟨_,_,rfl⟩ p
  have O:=UP A;have:=acN (d:=d) (K:=K) R A λr' H' N M hb=>y r' H' N O M hb;cases op<;>first|exact this|exact absurd ⟨_,_,rfl⟩ w|exact absurd ⟨_,_,rfl⟩ p
theorem IB(E:tq C call):∀(ops:List aW){r:Ren}{f f':Fr}{h h':Hp}{F:PF}{H:PH}{K:PF→PH→Prop},zQ call ops f h=some (f',h')→Rl r f h F H →
  (∀r' Q H',iU h.length r r'→Z' h≤Z' h'→Rl r' f' h' Q H'→K Q H')→wpOps C ops K F H
 |[],r,f,f',h,h',F,H,K,e,R,x=>by cases e;exact x r F H (λ_ _=>rfl) (a8E _) R
 |i::rest,r,f,f',h,h',F,H,K,e,R,x=>by
  simp only[zQ]at e;split at e
  ·rename_i S;have l:∀{e2:(match it call i.op f h with|some (v,h')=>zQ call rest (f.put i.dst v) h'|none=>none)=some (f',h')},wpOp C i.op i.dst (wpOps C rest K) F H:=by
    intro e2;split at e2
    ·rename_i v Z X;refine ajX E R X λr' H' Y U W hb=>?_;exact IB E rest e2 (W.put S hb) λO y A J N B=>x O y A (Y.trans J U) (a9F U N) B
    ·cases e2
   have d:∀{e2:zQ call rest (f.put i.dst (.tup [])) h=some (f',h')},wpOps C rest K (F.put i.dst (.tup [])) H:=by intro e2;exact IB E rest e2 (R.put (v:=.tup []) S rfl) x
   have p:∀t w,f.pf t=some w→F t=some (w.ren r):=λt w u=>by rw[R.fr];simp only[PF.ren,u,a8X]
   simp only[wpOps];split at e
   ·rename_i M;rw[M];exact l (e2:=e)
   ·rename_i t V M;rw[M];simp only;split at e
    ·rename_i b hb;rw[p t _ hb];simp only[PV.ren];split at e
     ·rename_i u;rw[aG u];exact l (e2:=e)
     ·rename_i u;rw[aD u];exact d (e2:=e)
    ·rename_i hb;rw[p t _ hb];exact d (e2:=e)
    ·cases e
  ·cases e
theorem aBA(hC:tq C call)(hD:Q9 C dr):∀(n:Nat)(c:aC){r:Ren}{f f':Fr}{h h':Hp}{F:PF}{H:PH}{x:mZ}{K:cD},rL call dr n c f h=some (x,f',h')→Rl r f h F H →
  (∀r' d H',iU h.length r r'→Z' h≤Z' h'→Rl r' f' h' d H'→K x d H')→c.wp C K F H:=by
 intro n
 induction n using Nat.strongRecOn with
 |_ n ih=>
 intro c r f f' h h' F H x K e R i;cases n with
 |zero=>cases e
 |succ n=>
 have J:=ih n (Nat.lt_succ_self n);cases c with
 |skip=>cases e;exact i r F H (λ_ _=>rfl) (a8E _) R
 |exit id=>cases e;exact i r F H (λ_ _=>rfl) (a8E _) R
 |ret=>cases e;exact i r F H (λ_ _=>rfl) (a8E _) R
 |region ops=>
  simp only[rL]at e;split at e
  ·rename_i f1 w u;cases e;exact IB hC ops u R i
  ·cases e
 |draw ops=>
  simp only[rL]at e;split at e
  ·rename_i f1 w u;cases e;exact hD ops f h _ _ u r F H R _ i
  ·cases e
 |cond c a b=>
  simp only[rL]at e;split at e
  ·rename_i hc;split at e
   ·rename_i t w;have M:=cG (r:=r) hc w;rw[←R.fr]at M;simp only[aC.wp,M,PV.ren];cases t with
    |true=>exact J a e R i
    |false=>exact J b e R i
   ·cases e
  ·cases e
 |seq a b=>
  simp only[rL]at e;cases w:rL call dr n a f h with
  |none=>rw[w]at e;cases e
  |some p=>
   obtain⟨y,f1,g1⟩:=p;rw[w]at e;refine J a w R λr' d H' E A B=>?_;cases y with
   |normal=>exact J b e B λY Q S V X U=>i Y Q S (E.trans V A) (a9F A X) U
   |exit id=>cases e;exact i r' d H' E A B
   |ret=>cases e;exact i r' d H' E A B
 |block id c=>
  simp only[rL]at e;cases w:rL call dr n c f h with
  |none=>rw[w]at e;cases e
  |some p=>
   obtain⟨y,f1,g1⟩:=p;rw[w]at e;refine J c w R λr' d H' E A B=>?_;cases y with
   |normal=>cases e;exact i r' d H' E A B
   |exit β=>
    simp only at e;simp only[fQ];split at e
    ·rename_i M;rw[aG M];cases e;exact i r' d H' E A B
    ·rename_i M;rw[aD M];cases e;exact i r' d H' E A B
   |ret=>cases e;exact i r' d H' E A B
 |loop c=>
  let α:=Nat × Fr × Hp × Ren × PF × PH
  refine⟨α,λa=>a.2.2.2.2.1,λa=>a.2.2.2.2.2,λa=>a.1≤n+1∧rL call dr a.1 (.loop c) a.2.1 a.2.2.1=some (x,f',h')∧Rl a.2.2.2.1 a.2.1 a.2.2.1 a.2.2.2.2.1 a.2.2.2.2.2∧iU h.length r a.2.2.2.1∧Z' h≤a.2.2.1.length,
   λa=>a.1,(n+1,f,h,r,F,H),F,H,.refl F H,⟨a8E _,e,R,λ_ _=>rfl,a8E _⟩,λ_ _ O=>O,λ_ _ O=>O,?_⟩
  rintro⟨k,f1,w,r1,F1,H1⟩ ⟨W,u,Z,N,l⟩;simp only at W u Z N l ⊢;cases k with
  |zero=>cases u
  |succ k=>
   simp only[rL]at u;cases M:rL call dr k c f1 w with
   |none=>rw[M]at u;cases u
   |some p=>
    obtain⟨y,f2,g2⟩:=p;rw[M]at u;refine ih k Om c M Z λr' d H' E A B=>?_;cases y with
    |normal=>exact⟨(k,f2,g2,r',d,H'),d,H',.refl d H',⟨by omega,u,B,N.trans E l,a9F l A⟩,Nat.lt_succ_self k,λ_ _ O=>O,λ_ _ O=>O⟩
    |exit id=>cases u;exact i r' d H' (N.trans E l) (a9F l A) B
    |ret=>cases u;exact i r' d H' (N.trans E l) (a9F l A) B
end
mutual
def PV.on(L:Nat→Bool):PV→Bool
 | .osl o _ _ _=>L o
 | .ptr o _ _ _=>L o
 | .map o=>L o
 | .sl _ rows=>PV.rJ L rows
 | .bM cs=>PV.ons L cs
 | .fn _ cs=>PV.ons L cs
 | .agg cs=>PV.ons L cs
 | .tup cs=>PV.ons L cs
 | .int _ _=>true
 | .bool _=>true
 | .str _=>true
 | .aF=>true
 | .lit _=>true
 | .junk=>true
def PV.ons(L:Nat→Bool):List PV→Bool
 |[]=>true
 |v::vs=>PV.on L v&&PV.ons L vs
def PV.rJ(L:Nat→Bool):List (List PV)→Bool
 |[]=>true
 |v::vs=>PV.ons L v&&PV.rJ L vs
end
mutual
theorem PV.abL{L:Nat→Bool}{r s:Ren}{t:Nat→Nat}(h:∀i,L i=true→r (t i)=s i):∀v:PV,v.on L=true→(v.ren (up t)).ren r=v.ren s
 | .osl o _ _ _,hb=>by simp only[PV.on]at hb;simp only[PV.ren,←h o hb,up,baE,a9Y]
 | .ptr o _ _ _,hb=>by simp only[PV.on]at hb;simp only[PV.ren,←h o hb,up,baE,a9Y]
 | .map o,hb=>by simp only[PV.on]at hb;simp only[PV.ren,←h o hb,up]
 | .sl _ rows,hb=>by simp only[PV.on]at hb;simp only[PV.ren,PV.rz h rows hb]
 | .bM cs,hb=>by simp only[PV.on]at hb;simp only[PV.ren,PV.BA h cs hb]
 | .fn _ cs,hb=>by simp only[PV.on]at hb;simp only[PV.ren,PV.BA h cs hb]
 | .agg cs,hb=>by simp only[PV.on]at hb;simp only[PV.ren,PV.BA h cs hb]
 | .tup cs,hb=>by simp only[PV.on]at hb;simp only[PV.ren,PV.BA h cs hb]
 | .int _ _,_=>rfl
 | .bool _,_=>rfl
 | .str _,_=>rfl
 | .aF,_=>rfl
 | .lit _,_=>rfl
 | .junk,_=>rfl
theorem PV.BA{L:Nat→Bool}{r s:Ren}{t:Nat→Nat}(h:∀i,L i=true→r (t i)=s i):∀l:List PV,PV.ons L l=true→PV.mT r (PV.mT (up t) l)=PV.mT s l
 |[],_=>rfl
 |v::vs,hb=>by simp only[PV.ons,a8C]at hb;simp only[PV.mT,PV.abL h v hb.1,PV.BA h vs hb.2]
theorem PV.rz{L:Nat→Bool}{r s:Ren}{t:Nat→Nat}(h:∀i,L i=true→r (t i)=s i):∀l:List (List PV),PV.rJ L l=true→PV.nJ r (PV.nJ (up t) l)=PV.nJ s l
 |[],_=>rfl
 |v::vs,hb=>by simp only[PV.rJ,a8C]at hb;simp only[PV.nJ,PV.BA h v hb.1,PV.rz h vs hb.2]
end
mutual
theorem PV.rh{L:Nat→Bool}{t:Ren}{m:Nat}(h:∀i,L i=true→(t i).1<m):∀v:PV,v.on L=true→(v.ren t).bound m=true
 | .osl o _ _ _,hb=>by simp only[PV.on]at hb;simp only[PV.ren,PV.bound,h o hb,decide_true]
 | .ptr o _ _ _,hb=>by simp only[PV.on]at hb;simp only[PV.ren,PV.bound,h o hb,decide_true]
 | .map o,hb=>by simp only[PV.on]at hb;simp only[PV.ren,PV.bound,h o hb,decide_true]
 | .sl _ rows,hb=>by simp only[PV.on]at hb;simp only[PV.ren,PV.bound,PV.TS h rows hb]
 | .bM cs,hb=>by simp only[PV.on]at hb;simp only[PV.ren,PV.bound,PV.tY h cs hb]
 | .fn _ cs,hb=>by simp only[PV.on]at hb;simp only[PV.ren,PV.bound,PV.tY h cs hb]
 | .agg cs,hb=>by simp only[PV.on]at hb;simp only[PV.ren,PV.bound,PV.tY h cs hb]
 | .tup cs,hb=>by simp only[PV.on]at hb;simp only[PV.ren,PV.bound,PV.tY h cs hb]
 | .int _ _,_=>rfl
 | .bool _,_=>rfl
 | .str _,_=>rfl
 | .aF,_=>rfl
 | .lit _,_=>rfl
 | .junk,_=>rfl
theorem PV.tY{L:Nat→Bool}{t:Ren}{m:Nat}(h:∀i,L i=true→(t i).1<m):∀l:List PV,PV.ons L l=true→PV.bounds m (PV.mT t l)=true
 |[],_=>rfl
 |v::vs,hb=>by simp only[PV.ons,a8C]at hb;simp only[PV.mT,PV.bounds,PV.rh h v hb.1,PV.tY h vs hb.2,baN]
theorem PV.TS{L:Nat→Bool}{t:Ren}{m:Nat}(h:∀i,L i=true→(t i).1<m):∀l:List (List PV),PV.rJ L l=true→PV.eR m (PV.nJ t l)=true
 |[],_=>rfl
 |v::vs,hb=>by simp only[PV.rJ,a8C]at hb;simp only[PV.nJ,PV.eR,PV.tY h v hb.1,PV.TS h vs hb.2,baN]
end
mutual
theorem PV.aGO{L L':Nat→Bool}(h:∀i,L i=true→L' i=true):∀v:PV,v.on L=true→v.on L'=true
 | .osl o _ _ _,hb=>h o hb
 | .ptr o _ _ _,hb=>h o hb
 | .map o,hb=>h o hb
 | .sl _ rows,hb=>by simp only[PV.on]at hb ⊢;exact PV.aaU h rows hb
 | .bM cs,hb=>by simp only[PV.on]at hb ⊢;exact PV.GL h cs hb
 | .fn _ cs,hb=>by simp only[PV.on]at hb ⊢;exact PV.GL h cs hb
 | .agg cs,hb=>by simp only[PV.on]at hb ⊢;exact PV.GL h cs hb
 | .tup cs,hb=>by simp only[PV.on]at hb ⊢;exact PV.GL h cs hb
 | .int _ _,_=>rfl
 | .bool _,_=>rfl
 | .str _,_=>rfl
 | .aF,_=>rfl
 | .lit _,_=>rfl
 | .junk,_=>rfl
theorem PV.GL{L L':Nat→Bool}(h:∀i,L i=true→L' i=true):∀l:List PV,PV.ons L l=true→PV.ons L' l=true
 |[],_=>rfl
 |v::vs,hb=>by simp only[PV.ons,a8C]at hb ⊢;exact⟨PV.aGO h v hb.1,PV.GL h vs hb.2⟩
theorem PV.aaU{L L':Nat→Bool}(h:∀i,L i=true→L' i=true):∀l:List (List PV),PV.rJ L l=true→PV.rJ L' l=true
 |[],_=>rfl
 |v::vs,hb=>by simp only[PV.rJ,a8C]at hb ⊢;exact⟨PV.GL h v hb.1,PV.aaU h vs hb.2⟩
end
mutual
theorem PV.GY{n:Nat}:∀v:PV,v.on (λi=>decide (i<n))=v.bound n
 | .osl o _ _ _=>rfl
 | .ptr o _ _ _=>rfl
 | .map o=>rfl
 | .sl _ rows=>by simp only[PV.on,PV.bound,PV.QB rows]
 | .bM cs=>by simp only[PV.on,PV.bound,PV.xR cs]
 | .fn _ cs=>by simp only[PV.on,PV.bound,PV.xR cs]
 | .agg cs=>by simp only[PV.on,PV.bound,PV.xR cs]
 | .tup cs=>by simp only[PV.on,PV.bound,PV.xR cs]
 | .int _ _=>rfl
 | .bool _=>rfl
 | .str _=>rfl
 | .aF=>rfl
 | .lit _=>rfl
 | .junk=>rfl
theorem PV.xR{n:Nat}:∀l:List PV,PV.ons (λi=>decide (i<n)) l=PV.bounds n l
 |[]=>rfl
 |v::vs=>by simp only[PV.ons,PV.bounds,PV.GY v,PV.xR vs]
theorem PV.QB{n:Nat}:∀l:List (List PV),PV.rJ (λi=>decide (i<n)) l=PV.eR n l
 |[]=>rfl
 |v::vs=>by simp only[PV.rJ,PV.eR,PV.xR v,PV.QB vs]
end
theorem PV.aqT{L L':Nat→Bool}(h:∀i,L i=true→L' i=true)(v:PV)(d:v.on L=true):v.on L'=true:=by
 have:=PV.aGO (L:=L) (L':=L') h v;exact this d
def PV.E9(r:Ren)(v:PV):PV:=cond (v.bound 0) v (v.ren r)
theorem PV.UB(r:Ren)(v:PV):v.E9 r=v.ren r:=by
 unfold PV.E9;cases e:v.bound 0 with
 |true=>exact(PV.nF e r).symm
 |false=>rfl
def PV.onC(L:Nat→Bool)(v:PV):Bool:=cond (v.bound 0) true (v.on L)
theorem PV.aaP{L:Nat→Bool}{v:PV}(h:v.onC L=true):v.on L=true:=by
 unfold PV.onC at h;cases e:v.bound 0 with
 |true =>rw[←PV.GY]at e;exact PV.aqT (λi hi=>by simp at hi) v e
 |false=>rw[e]at h;exact h
mutual
def PV.back(q:Nat→Nat × Nat):PV→PV
 | .osl o s d len=>.osl (q o).1 s (d-(q o).2) len
 | .ptr o s i c=>.ptr (q o).1 s (i-(q o).2) c
 | .map o=>.map (q o).1
 | .sl s rows=>.sl s (PV.XS q rows)
 | .bM cs=>.bM (PV.rY q cs)
 | .fn n cs=>.fn n (PV.rY q cs)
 | .agg cs=>.agg (PV.rY q cs)
 | .tup cs=>.tup (PV.rY q cs)
 | .int k n=>.int k n
 | .bool b=>.bool b
 | .str s=>.str s
 | .aF=>.aF
 | .lit v=>.lit v
 | .junk=>.junk
def PV.rY(q:Nat→Nat × Nat):List PV→List PV
 |[]=>[]
 |v::vs=>PV.back q v::PV.rY q vs
def PV.XS(q:Nat→Nat × Nat):List (List PV)→List (List PV)
 |[]=>[]
 |v::vs=>PV.rY q v::PV.XS q vs
end
mutual
theorem PV.PZ{L:Nat→Bool}{q:Nat→Nat × Nat}{r:Ren}(h:∀i,L i=true→q (r i).1=(i,(r i).2.length)):∀v:PV,v.on L=true→(v.ren r).back q=v
 | .osl o _ _ _,hb=>by simp only[PV.on]at hb;simp only[PV.ren,PV.back,h o hb,Nat.add_sub_cancel]
 | .ptr o _ _ _,hb=>by simp only[PV.on]at hb;simp only[PV.ren,PV.back,h o hb,Nat.add_sub_cancel]
 | .map o,hb=>by simp only[PV.on]at hb;simp only[PV.ren,PV.back,h o hb]
 | .sl _ rows,hb=>by simp only[PV.on]at hb;simp only[PV.ren,PV.back,PV.QA h rows hb]
 | .bM cs,hb=>by simp only[PV.on]at hb;simp only[PV.ren,PV.back,PV.tO h cs hb]
 | .fn _ cs,hb=>by simp only[PV.on]at hb;simp only[PV.ren,PV.back,PV.tO h cs hb]
 | .agg cs,hb=>by simp only[PV.on]at hb;simp only[PV.ren,PV.back,PV.tO h cs hb]
 | .tup cs,hb=>by simp only[PV.on]at hb;simp only[PV.ren,PV.back,PV.tO h cs hb]
 | .int _ _,_=>rfl
 | .bool _,_=>rfl
 | .str _,_=>rfl
 | .aF,_=>rfl
 | .lit _,_=>rfl
 | .junk,_=>rfl
theorem PV.tO{L:Nat→Bool}{q:Nat→Nat × Nat}{r:Ren}(h:∀i,L i=true→q (r i).1=(i,(r i).2.length)):∀l:List PV,PV.ons L l=true→PV.rY q (PV.mT r l)=l
 |[],_=>rfl
 |v::vs,hb=>by simp only[PV.ons,a8C]at hb;simp only[PV.mT,PV.rY,PV.PZ h v hb.1,PV.tO h vs hb.2]
theorem PV.QA{L:Nat→Bool}{q:Nat→Nat × Nat}{r:Ren}(h:∀i,L i=true→q (r i).1=(i,(r i).2.length)):∀l:List (List PV),PV.rJ L l=true→PV.XS q (PV.nJ r l)=l
 |[],_=>rfl
 |v::vs,hb=>by simp only[PV.rJ,a8C]at hb;simp only[PV.nJ,PV.XS,PV.tO h v hb.1,PV.QA h vs hb.2]
end
mutual
def PV.ids:PV→List Nat→List Nat
 | .osl o _ _ _,l=>o::l
 | .ptr o _ _ _,l=>o::l
 | .map o,l=>o::l
 | .sl _ rows,l=>PV.aRK rows l
 | .bM cs,l=>PV.D5 cs l
 | .fn _ cs,l=>PV.D5 cs l
 | .agg cs,l=>PV.D5 cs l
 | .tup cs,l=>PV.D5 cs l
 | .int _ _,l=>l
 | .bool _,l=>l
 | .str _,l=>l
 | .aF,l=>l
 | .lit _,l=>l
 | .junk,l=>l
def PV.D5:List PV→List Nat→List Nat
 |[],l=>l
 |v::vs,l=>PV.ids v (PV.D5 vs l)
def PV.aRK:List (List PV)→List Nat→List Nat
 |[],l=>l
 |v::vs,l=>PV.D5 v (PV.aRK vs l)
end
def PV.aMJ(v:PV)(l:List Nat):List Nat:=cond (v.bound 0) l (v.ids l)
def uU:List PV→List Nat→List Nat
 |[],l=>l
 |v::vs,l=>PV.aMJ v (uU vs l)
def Wh:List (List PV)→List Nat→List Nat
 |[],l=>l
 |v::vs,l=>uU v (Wh vs l)
def bo(L:Nat→Bool):List PV→Bool
 |[]=>true
 |v::vs=>v.onC L&&bo L vs
def ie(L:Nat→Bool):List (List PV)→Bool
 |[]=>true
 |v::vs=>bo L v&&ie L vs
theorem TP{L:Nat→Bool}:∀{l:List PV},bo L l=true→PV.ons L l=true
 |[],_=>rfl
 |v::vs,h=>by simp only[bo,PV.ons,a8C]at h ⊢;exact⟨PV.aaP h.1,TP h.2⟩
theorem zJ{L:Nat→Bool}:∀{l:List (List PV)},ie L l=true→PV.rJ L l=true
 |[],_=>rfl
 |v::vs,h=>by simp only[ie,PV.rJ,a8C]at h ⊢;exact⟨TP h.1,zJ h.2⟩
theorem PV.aXN{L:Nat→Bool}{v:PV}(h:v.on L=true):v.onC L=true:=by
 unfold PV.onC;rw[h];cases v.bound 0<;>rfl
theorem aaS{L:Nat→Bool}:∀{l:List PV},PV.ons L l=true→bo L l=true
 |[],_=>rfl
 |v::vs,h=>by simp only[bo,PV.ons,a8C]at h ⊢;exact⟨PV.aXN h.1,aaS h.2⟩
theorem ze{L:Nat→Bool}:∀{l:List (List PV)},PV.rJ L l=true→ie L l=true
 |[],_=>rfl
 |v::vs,h=>by simp only[ie,PV.rJ,a8C]at h ⊢;exact⟨aaS h.1,ze h.2⟩
def io(r:Ren):List PV→List PV
 |[]=>[]
 |v::vs=>v.E9 r::io r vs
def b9(r:Ren):List (List PV)→List (List PV)
 |[]=>[]
 |v::vs=>io r v::b9 r vs
theorem EV(r:Ren):∀l,io r l=PV.mT r l
 |[]=>rfl
 |v::vs=>by rw[io,PV.mT,PV.UB,EV r vs]
theorem HY(r:Ren):∀l,b9 r l=PV.nJ r l
 |[]=>rfl
 |v::vs=>by rw[b9,PV.nJ,EV,HY r vs]
mutual
def PV.beq:PV→PV→Bool
 | .osl a b c d,y=>match y with | .osl i l p u=>a9U a i&&(a9U b l&&(a9U c p&&a9U d u))|_=>false
 | .ptr a b c d,y=>match y with | .ptr i l p u=>a9U a i&&(a9U b l&&(a9U c p&&a9U d u))|_=>false
 | .map a,y=>match y with | .map i=>a9U a i|_=>false
 | .sl s rows,y=>match y with | .sl s' rows'=>a9U s s'&&PV.gb rows rows'|_=>false
 | .bM cs,y=>match y with | .bM e=>PV.DH cs e|_=>false
 | .fn n cs,y=>match y with | .fn w e=>a9U n w&&PV.DH cs e|_=>false
 | .agg cs,y=>match y with | .agg e=>PV.DH cs e|_=>false
 | .tup cs,y=>match y with | .tup e=>PV.DH cs e|_=>false
 | .int k n,y=>match y with | .int x w=>decide (k=x)&&decide (n=w)|_=>false
 | .bool b,y=>match y with | .bool l=>decide (b=l)|_=>false
 | .str s,y=>match y with | .str s'=>decide (s=s')|_=>false
 | .aF,y=>match y with | .aF=>true|_=>false
 | .lit _,_=>false
 | .junk,y=>match y with | .junk=>true|_=>false
def PV.DH:List PV→List PV→Bool
 |[],y=>match y with|[]=>true|_=>false
 |v::vs,y=>match y with|w::d=>PV.beq v w&&PV.DH vs d|_=>false
def PV.gb:List (List PV)→List (List PV)→Bool
 |[],y=>match y with|[]=>true|_=>false
 |v::vs,y=>match y with|w::d=>PV.DH v w&&PV.gb vs d|_=>false
end
mutual
theorem PV.beq_eq:∀v w:PV,PV.beq v w=true→v=w
 | .osl _ _ _ _,w,h=>by cases w<;>simp_all [PV.beq]
 | .ptr _ _ _ _,w,h=>by cases w<;>simp_all [PV.beq]
 | .map _,w,h=>by cases w<;>simp_all [PV.beq]
 | .sl s rows,w,h=>by cases w<;>simp only[PV.beq,a8C,baK]at h;rw[PV.m6 _ _ h.2,Nat.eq_of_beq_eq_true h.1]
 | .bM cs,w,h=>by cases w<;>simp only[PV.beq,baK]at h;rw[PV.xQ _ _ h]
 | .fn _ cs,w,h=>by cases w<;>simp only[PV.beq,a8C,baK]at h;rw[PV.xQ _ _ h.2,Nat.eq_of_beq_eq_true h.1]
 | .agg cs,w,h=>by cases w<;>simp only[PV.beq,baK]at h;rw[PV.xQ _ _ h]
 | .tup cs,w,h=>by cases w<;>simp only[PV.beq,baK]at h;rw[PV.xQ _ _ h]
 | .int _ _,w,h=>by cases w<;>simp_all [PV.beq]
 | .bool _,w,h=>by cases w<;>simp_all [PV.beq]
 | .str _,w,h=>by cases w<;>simp_all [PV.beq]
 | .aF,w,h=>by cases w<;>simp_all [PV.beq]
 | .lit _,_,h=>by simp[PV.beq]at h
 | .junk,w,h=>by cases w<;>simp_all [PV.beq]
theorem PV.xQ:∀v w:List PV,PV.DH v w=true→v=w
 |[],w,h=>by cases w<;>simp_all [PV.DH]
 |v::vs,w,h=>by cases w<;>simp only[PV.DH,a8C,baK]at h;rw[PV.beq_eq _ _ h.1,PV.xQ _ _ h.2]
theorem PV.m6:∀v w:List (List PV),PV.gb v w=true→v=w
 |[],w,h=>by cases w<;>simp_all [PV.gb]
 |v::vs,w,h=>by cases w<;>simp only[PV.gb,a8C,baK]at h;rw[PV.xQ _ _ h.1,PV.m6 _ _ h.2]
end
def posOf:List Nat→Nat→Nat
 |[],_=>0
 |x::xs,i=>if a9U x i then 0 else posOf xs i+1
def inL:List Nat→Nat→Bool
 |[],_=>false
 |x::xs,i=>a9U x i||inL xs i
def aj:List Nat→Bool
 |[]=>true
 |x::xs=>!inL xs x&&aj xs
def atN:List Nat→Nat→Nat
 |[],_=>0
 |x::_,0=>x
 |_::xs,k+1=>atN xs k
theorem AV:∀{l:List Nat}{i:Nat},inL l i=true→i∈l
 |x::xs,i,h=>by
  simp only[inL,Bool.or_eq_true]at h;rcases h with h|h
  ·rw[Nat.eq_of_beq_eq_true h];exact List.mem_cons_self ..
  ·exact List.mem_cons_of_mem _ (AV h)
theorem uY:∀{l:List Nat}{i:Nat},i∈l→inL l i=true
 |x::xs,i,h=>by
  simp only[inL,Bool.or_eq_true];rcases a8M.1 h with h|h
  ·left;rw[h];simp
  ·right;exact uY h
theorem sH:∀{l:List Nat}{i:Nat},inL l i=true→atN l (posOf l i)=i∧posOf l i<Z' l
 |x::xs,i,h=>by
  simp only[inL,Bool.or_eq_true]at h;simp only[posOf];by_cases e:a9U x i=true
  ·rw[aG e];exact⟨Nat.eq_of_beq_eq_true e,Nat.zero_lt_succ _⟩
  ·rw[aD e];have:=sH (h.resolve_left e);exact⟨this.1,Nat.succ_lt_succ this.2⟩
theorem sO:∀{l:List Nat}{k:Nat},k<Z' l→inL l (atN l k)=true
 |x::xs,0,_=>by simp[inL,atN]
 |x::xs,k+1,h=>by simp only[inL,atN,Bool.or_eq_true];exact .inr (sO (Nat.lt_of_succ_lt_succ h))
theorem CX:∀{l:List Nat}{k:Nat},aj l=true→k<Z' l→posOf l (atN l k)=k
 |x::xs,0,_,_=>by simp[posOf,atN]
 |x::xs,k+1,d,h=>by simp only[aj,a8C,Bool.not_eq_true']at d;show(if a9U x (atN xs k)=true then 0 else posOf xs (atN xs k)+1)=k+1;have i:=sO (Nat.lt_of_succ_lt_succ h);rw[aD (λe=>by rw[Nat.eq_of_beq_eq_true e,i]at d;cases d.1),CX d.2 (Nat.lt_of_succ_lt_succ h)]
theorem xC{β:Type}(g:Nat→β):∀(l:List Nat)(k:Nat),(l.map g)[k]?=if k<l.length then some (g (atN l k))else none
 |[],k=>by simp
 |x::xs,0=>by simp[atN]
 |x::xs,k+1=>by rw[a9D,List.getElem?_cons_succ,xC g xs k];simp only[atN,a9O,Nat.succ_lt_succ_iff,Nat.add_lt_add_iff_right]
def aU.on(L:Nat→Bool):aU→Bool
 | .rows _ rs=>ie L rs
 |_=>true
def aU.rn(r:Ren):aU→aU
 | .rows s rs=>.rows s (b9 r rs)
 |x=>x
theorem XC{n:Nat}{sh:MSh}{g:jV}(h:aU.Bd n (.map sh g))(r:Ren):(λk=>(g k).map (PV.ren r))=g:=by
 funext k;cases e:g k with
 |none=>rfl
 |some v=>rw[a8X,PV.nF (h k v e)]
theorem aU.aHJ{L:Nat→Bool}{n:Nat}{r s:Ren}{t:Nat→Nat}(h:∀i,L i=true→r (t i)=s i){x:aU}(hb:x.Bd n)(d:x.on L=true)(pre:List (List PV)):(x.rn (up t)).ren r pre=x.ren s pre:=by
 cases x with
 |rows sz rs=>simp only[aU.rn,aU.ren,←PV.kR,HY];rw[PV.rz h rs (zJ d)]
 |map sh g=>simp only[aU.rn,aU.ren,XC hb]
 |loop=>rfl
 |dead=>rfl
def aU.back(q:Nat→Nat × Nat)(n:Nat):aU→aU
 | .rows s rs=>.rows s (PV.XS q (rs.drop n))
 | .map sh g=>.map sh λk=>(g k).map (PV.back q)
 |x=>x
theorem aU.PZ{L:Nat→Bool}{n:Nat}{q:Nat→Nat × Nat}{r:Ren}(h:∀i,L i=true→q (r i).1=(i,(r i).2.length)){x:aU}(hb:x.Bd n)(d:x.on L=true)(pre:List (List PV)):(x.ren r pre).back q pre.length=x:=by
 cases x with
 |rows sz rs =>simp only[aU.back,aU.ren,←PV.kR];have e:=OV pre (PV.nJ r rs) 0;rw[a8Q]at e;rw[e,a9L,PV.QA h rs (zJ d)]
 |map sh g=>
  simp only[aU.back,aU.ren,XC hb];congr 1;funext k;cases e:g k with
  |none=>rfl
  |some v =>have l:v.on (λ_=>false)=true:=PV.aqT (L:=λi=>decide (i<0)) (λi hi=>by simp at hi) v ((PV.GY v).trans (hb k v e));have:=PV.PZ (L:=λ_=>false) (q:=q) (r:=r) (λi hi=>by cases hi) v l;rw[PV.nF (hb k v e)]at this;rw[a8X,this]
 |loop=>rfl
 |dead=>rfl
theorem aU.aRR{L:Nat→Bool}{n m:Nat}{t:Ren}(h:∀i,L i=true→(t i).1<m){x:aU}(hb:x.Bd n)(d:x.on L=true):(x.rn t).Bd m:=by
 cases x with
 |rows sz rs =>show PV.eR m (b9 t rs)=true;rw[HY];exact PV.TS h rs (zJ d)
 |map sh g=>exact hb
 |loop=>trivial
 |dead=>trivial
theorem aU.Fg{t:Ren}{x y:aU}(h:(x.rn t).live=some y):x.live=some x∧y=x.rn t:=by
 cases x<;>first|(cases h;done)|(cases h;exact⟨rfl,rfl⟩)
def gtH(h:Hp)(i:Nat):aU:=match h[i]? with
 |some x=>x
 |none=>.dead
theorem RN{h:Hp}{i:Nat}{x:aU}(e:(gtH h i).live=some x):h.ph i=some x∧gtH h i=x:=by
 have e2:=aU.CR e;refine⟨?_,e2⟩;unfold gtH at e;rw[Hp.kL];split at e
 ·rename_i y d;rw[d];exact e
 ·cases e
theorem aXO{h:Hp}{i:Nat}{x:aU}(e:h.ph i=some x):gtH h i=x∧x.live=some x:=by
 have d:=mL e;rw[Hp.kL,d.1]at e;refine⟨?_,e⟩;unfold gtH;rw[d.1]
def qZ(h:Hp)(t:Ren)(M:List Nat):Hp:=M.map λi=>(gtH h i).rn t
def ET(M:List Nat)(h:Hp):Bool:=aj M&&M.all λi=>(gtH h i).on (inL M)
theorem rg{M:List Nat}{h:Hp}(ok:ET M h=true){i:Nat}(hi:inL M i=true):(gtH h i).on (inL M)=true:=by
 simp only[ET,a8C,a8U]at ok;exact ok.2 i (AV hi)
theorem HV{h:Hp}{t:Ren}{M:List Nat}{k:Nat}{x:aU}(e:Hp.ph (qZ h t M) k=some x):k<Z' M∧(gtH h (atN M k)).live=some (gtH h (atN M k))∧x=(gtH h (atN M k)).rn t:=by
 rw[Hp.kL,qZ,xC]at e;split at e
 ·rename_i d;exact⟨d,aU.Fg e⟩
 ·cases e
section
variable {r:Ren} {f:Fr} {h:Hp} {F:PF} {H:PH}
theorem CM(R:Rl r f h F H)(i:Nat):(gtH h i).Bd h.length:=by
 unfold gtH;split
 ·rename_i x e;exact R.hb x (baH e)
 ·trivial
theorem Rl.cut(R:Rl r f h F H){M:List Nat}(ok:ET M h=true):Rl (λk=>r (atN M k)) .nil (qZ h (up (posOf M)) M) PF.nil H:=by
 have u:(qZ h (up (posOf M)) M).length=Z' M:=by simp[qZ]
 refine⟨rfl,λk x d=>?_,λk l x y d K e=>?_,λi v J=>by simp[Fr.pf]at J,λx d=>?_,λk x d=>?_⟩
 ·obtain⟨w,p,rfl⟩:=HV d;have A:=RN p;rw[aU.aHJ (L:=inL M) (s:=r) (t:=posOf M) (λi hi=>by rw[(sH hi).1]) (CM R _) (rg ok (sO w))];exact R.hp _ _ A.1
 ·obtain⟨w,p,-⟩:=HV d;obtain⟨E,A,-⟩:=HV K;have B:=R.inj _ _ _ _ (RN p).1 (RN A).1 e;simp only[ET,a8C]at ok;rw[←CX ok.1 w,B,CX ok.1 E]
 ·rw[u];obtain⟨i,hi,rfl⟩:=a9B.1 d;exact aU.aRR (L:=inL M) (t:=up (posOf M)) (λi hi=>(sH hi).2) (CM R _) (rg ok (uY hi))
 ·obtain⟨w,p,-⟩:=HV d;exact R.pc _ _ (RN p).1
theorem xG(H:PH)(D:List Nat)(o:Nat):(H.only D) o=if o∈D then H o else none:=rfl
theorem Rl.only(R:Rl r f h F H){D:List Nat}(e:∀i x,h.ph i=some x→(r i).1∈D):Rl r f h F (H.only D):=by
 refine⟨R.fr,λi x d=>?_,R.inj,R.fb,R.hb,R.pc⟩;rw[xG,aG (e i x d)];exact R.hp i x d
end
def reach(h:Hp):Nat→List Nat→List Nat→List Nat
 |0,_,seen=>seen
 |_+1,[],seen=>seen
 |n+1,i::d,seen=>if inL seen i then reach h n d seen else match gtH h i with
  | .rows _ rs=>reach h n (Wh rs d) (i::seen)
  | .map _ _=>reach h n d (i::seen)
  |_=>reach h n d seen
def wA:Nat→List Nat→List Nat
 |0,l=>l
 |n+1,l=>wA n (n::l)
theorem asX:∀(n:Nat)(l:List Nat)(k:Nat),atN (wA n l) k=if k<n then k else atN l (k-n)
 |0,l,k=>by simp[wA]
 |n+1,l,k=>by
  rw[wA,asX n (n::l) k];rcases Nat.lt_trichotomy k n with h|h|h
  ·rw[aG h,aG Om]
  ·subst h;rw[aD (Nat.lt_irrefl _),aG Om,baV];rfl
  ·rw[aD Om,aD Om];obtain⟨d,e⟩:∃d,k-n=d+1:=⟨k-n-1,by omega⟩;rw[e,show k-(n+1)=d by omega];rfl
theorem afM:∀(n:Nat)(l:List Nat),(wA n l).length=n+Z' l
 |0,l=>by simp[wA]
 |n+1,l=>by rw[wA,afM n];simp;omega
def zd:Hp→List Nat→List Nat
 |[],l=>l
 |x::xs,l=>match x with
  | .rows _ rs=>Wh rs (zd xs l)
  |_=>zd xs l
def trim(n:Nat)(v:PV)(h:Hp):Option (PV × Hp):=
 if a9U n h.length then some (v,h)else
 let M:=wA n ((reach h 1000 (PV.aMJ v (zd (h.take n) [])) []).filter λi=>Nat.ble n i)
 if ET M h&&v.onC (inL M)then some (v.E9 (up (posOf M)),qZ h (up (posOf M)) M)else none
noncomputable def iu(call:gJ):gJ:=λname vs h=>match call name vs h with
 |some (v,d)=>trim h.length v d
 |none=>none
theorem aBN{r:Ren}{n:Nat}{v v':PV}{h p:Hp}{w:PV}{H:PH}(e:trim n v h=some (v',p))(u:Comes r n v h w H):Comes r n v' p w H:=by
 unfold trim at e;split at e
 ·cases e;exact u
 ·simp only at e;generalize(reach h 1000 (PV.aMJ v (zd (h.take n) [])) []).filter (λi=>Nat.ble n i)=N at e;split at e
  ·rename_i d;simp only[a8C]at d;replace d:=And.intro d.1 (PV.aaP d.2);rw[PV.UB]at e;cases e;obtain⟨r',x,R,rfl,hb,y⟩:=u;have l:(qZ h (up (posOf (wA n N))) (wA n N)).length=(wA n N).length:=by simp[qZ]
   refine⟨λk=>r' (atN (wA n N) k),λi hi=>?_,R.cut d.1,(PV.abL (L:=inL (wA n N)) (s:=r') (t:=posOf (wA n N)) (λi hi=>by rw[(sH hi).1]) _ d.2).symm,?_,?_⟩
   ·show r i=r' (atN (wA n N) i);rw[asX,aG hi];exact x i hi
   ·rw[l];exact PV.rh (t:=up (posOf (wA n N))) (λi hi=>(sH hi).2) _ d.2
   ·rw[l,afM];omega
  ·cases e
theorem aH.ym{C:Ctx}{name:Nat}{vs:List PV}{H:PH}{R e:PV→PH→Prop}(h:aH C name vs H R)(A:∀i H',R i H'→e i H'):aH C name vs H e:=by
 refine⟨h.1,λE w B x hW d=>(h.2 E w B x hW d).mono λJ K y=>?_⟩;obtain⟨u,pv,l,H',g1,g2,g3,g4,p⟩:=y;exact⟨u,pv,l,H',g1,g2,g3,g4,A _ _ p⟩
theorem aPM{C:Ctx}{call:gJ}(i:qC C call):qC C (iu call):=by
 intro name vs h v p e r H R X hb;unfold iu at e;split at e
 ·rename_i w g d;exact(i name vs h w g d r H R X hb).ym λu H' l=>aBN e l
 ·cases e
def aU.wS:aU→Bool
 | .rows _ _=>true
 | .map _ _=>true
 |_=>false
theorem SB{x:aU}(h:x.wS=true):x.live=some x:=by
 cases x<;>first|rfl|cases h
def okM(M:List Nat)(h:Hp):Bool:=ET M h&&M.all λi=>(gtH h i).wS
def vS(r:Ren)(M:List Nat):List Nat:=M.map λi=>(r i).1
def bk(M:List Nat)(n:Nat)(j:Nat):Nat:=if Nat.blt j M.length then atN M j else n+(j-Z' M)
def DK(M:List Nat)(h2:Hp)(t:Ren):Nat→Hp→Hp
 |_,[]=>[]
 |i,x::xs=>(if inL M i then(gtH h2 (posOf M i)).rn t else x)::DK M h2 t (i+1) xs
def sQ(M:List Nat)(h h2:Hp):Hp:=(match M with|[]=>h|_=>DK M h2 (up (bk M h.length)) 0 h)++(h2.drop M.length).map (aU.rn (up (bk M h.length)))
theorem aoA(M:List Nat)(h2:Hp)(t:Ren):∀(h:Hp)(i k:Nat),(DK M h2 t i h)[k]?=(h[k]?).map λx=>if inL M (i+k)then(gtH h2 (posOf M (i+k))).rn t else x
 |[],i,k=>by simp[DK]
 |x::xs,i,0=>by simp[DK]
 |x::xs,i,k+1=>by simp only[DK,List.getElem?_cons_succ];rw[aoA M h2 t xs (i+1) k,show i+1+k=i+(k+1) by omega]
theorem Wq(h2:Hp)(t:Ren):∀(h:Hp)(i:Nat),DK [] h2 t i h=h
 |[],i=>rfl
 |x::xs,i=>by simp[DK,inL,Wq h2 t xs]
theorem HS(M:List Nat)(h2:Hp)(t:Ren):∀(h:Hp)(i:Nat),(DK M h2 t i h).length=Z' h
 |[],i=>rfl
 |x::xs,i=>by simp[DK,HS M h2 t xs]
theorem Yg(M:List Nat)(h h2:Hp):sQ M h h2=DK M h2 (up (bk M h.length)) 0 h++(h2.drop M.length).map (aU.rn (up (bk M h.length))):=by
 unfold sQ;split
 ·rw[Wq]
 ·rfl
theorem JS(M:List Nat)(h h2:Hp):(sQ M h h2).length=Z' h+(Z' h2-Z' M):=by
 rw[Yg];simp[HS]
theorem aTD(t:Ren)(l:Hp)(k:Nat):gtH (l.map (aU.rn t)) k=(gtH l k).rn t:=by
 unfold gtH;rw[a8Y];cases l[k]?<;>rfl
theorem aMB(l:Hp)(m k:Nat):gtH (l.drop m) k=gtH l (m+k):=by
 unfold gtH;rw[bcC]
theorem pq(M:List Nat)(h h2:Hp)(k:Nat):gtH (sQ M h h2) k=if k<h.length then(if inL M k then(gtH h2 (posOf M k)).rn (up (bk M h.length))else gtH h k)else(gtH h2 (Z' M+(k-Z' h))).rn (up (bk M h.length)):=by
 rw[Yg];by_cases d:k<Z' h
 ·rw[aG d];unfold gtH;rw[baW (by rw[HS];exact d),aoA,a8Q];rw[a8N d,a8X];by_cases e:inL M k=true
  ·simp only[aG e];rfl
  ·simp only[aD e]
 ·rw[aD d];have:gtH (DK M h2 (up (bk M h.length)) 0 h++(h2.drop M.length).map (aU.rn (up (bk M h.length)))) k=gtH ((h2.drop M.length).map (aU.rn (up (bk M h.length)))) (k-Z' h):=by unfold gtH;rw[baP (by rw[HS];omega),HS]
  rw[this,aTD,aMB]
theorem aU.aRI{n:Nat}{x:aU}(h:x.Bd n):x.on (λi=>decide (i<n))=true:=by
 cases x with
 |rows s rs=>exact ze ((PV.QB rs).trans h)
 |map=>rfl
 |loop=>rfl
 |dead=>rfl
theorem tF(h:Hp)(k:Nat):h.ph k=(gtH h k).live:=by
 unfold gtH;rw[Hp.kL];cases h[k]?<;>rfl
theorem aTU{h:Hp}{x:aU}(i:x∈h):∃k,k<Z' h∧gtH h k=x:=by
 obtain⟨k,d,e⟩:=a9X i;exact⟨k,d,by unfold gtH;rw[a8N d,←e]⟩
section
variable {r:Ren} {f:Fr} {h h2:Hp} {F:PF} {H H':PH} {v rv:PV} {M:List Nat}
theorem sG(ok:okM M h=true){i:Nat}(hi:inL M i=true):h.ph i=some (gtH h i):=by
 simp only[okM,a8C,a8U]at ok;rw[tF];exact SB (ok.2 i (AV hi))
theorem aGN(ok:okM M h=true){i:Nat}(hi:inL M i=true):i<Z' h:=(mL (sG ok hi)).2
theorem Yf(R:Rl r f h F H)(ok:okM M h=true)(hc:Comes (λk=>r (atN M k)) M.length v h2 rv H')(ap:pU H (H.only (vS r M)) H') :
  ∃r',iU h.length r r'∧Z' h≤(sQ M h h2).length∧Rl r' f (sQ M h h2) F (H.over (H.only (vS r M)) H')∧rv=(v.ren (up (bk M h.length))).ren r'∧(v.ren (up (bk M h.length))).bound (sQ M h h2).length=true:=by
 obtain⟨r2,α,E,rfl,S,γ⟩:=hc;have O:iU h.length r (λi=>if i<h.length then r i else r2 (Z' M+(i-Z' h))):=λi hi=>by
  show r i=if i<h.length then r i else _
  rw[aG hi]
 generalize β:(λi=>if i<h.length then r i else r2 (Z' M+(i-Z' h)))=r' at O;have V:∀i,Z' h≤i→r' i=r2 (Z' M+(i-Z' h)):=λi hi=>by rw[←β];exact aD Om
 have N:∀j,r' (bk M h.length j)=r2 j:=λj=>by
  unfold bk;by_cases W:j<Z' M
  ·rw[aG (by simpa[Nat.blt_eq]using W),←O _ (aGN ok (sO W)),←α j W]
  ·rw[aD (by simpa[Nat.blt_eq]using W),V _ Om];congr 1;omega
 have U:∀j,j<Z' h2→bk M h.length j<Z' h+(Z' h2-Z' M):=λj W=>by
  unfold bk;by_cases K:j<Z' M
  ·rw[aG (by simpa[Nat.blt_eq]using K)];have:=aGN ok (sO K);omega
  ·rw[aD (by simpa[Nat.blt_eq]using K)];omega
 have Z:∀j pre,((gtH h2 j).rn (up (bk M h.length))).ren r' pre=(gtH h2 j).ren r2 pre:=λj pre=>
  aU.aHJ (L:=λi=>decide (i<Z' h2)) (λi _=>N i) (CM E j) (aU.aRI (CM E j)) pre
 have J:∀j,((gtH h2 j).rn (up (bk M h.length))).Bd (Z' h+(Z' h2-Z' M)):=λj=>
  aU.aRR (L:=λi=>decide (i<Z' h2)) (t:=up (bk M h.length)) (λi hi=>U i (by simpa using hi)) (CM E j) (aU.aRI (CM E j))
 have d:∀k x,Hp.ph (sQ M h h2) k=some x→(h.ph k=some x∧r' k=r k∧H' (r k).1=none∧(H.only (vS r M)) (r k).1=none) ∨
   ∃j,h2.ph j=some (gtH h2 j)∧x=(gtH h2 j).rn (up (bk M h.length))∧r' k=r2 j∧k=bk M h.length j:=by
  intro k x p;rw[tF,pq]at p;by_cases hk:k<Z' h
  ·rw[aG hk]at p;by_cases hm:inL M k=true
   ·rw[aG hm]at p;obtain⟨u,rfl⟩:=aU.Fg p;have hp:=sH hm;have X:k=bk M h.length (posOf M k):=by unfold bk;rw[aG (by simpa[Nat.blt_eq]using hp.2),hp.1]
    refine .inr ⟨posOf M k,by rw[tF];exact u,rfl,?_,X⟩;exact(congrArg r' X).trans (N (posOf M k))
   ·rw[aD hm,←tF]at p;have Y:(r k).1 ∉ vS r M:=λhc=>by obtain⟨i,hi,e⟩:=a9B.1 hc;have:=R.inj i k _ _ (sG ok (uY hi)) p e;subst this;exact hm (uY hi)
    have ho:(H.only (vS r M)) (r k).1=none:=by rw[xG,aD Y]
    refine .inl ⟨p,(O k hk).symm,?_,ho⟩;cases e:H' (r k).1 with
    |none=>rfl
    |some y =>have:=ap _ y e ho;rw[R.hp k x p]at this;cases this
  ·rw[aD hk]at p;obtain⟨u,rfl⟩:=aU.Fg p;refine .inr ⟨Z' M+(k-Z' h),by rw[tF];exact u,rfl,V k Om,?_⟩;unfold bk;rw[aD (by simp[Nat.blt_eq])];omega
 refine⟨r',O,by rw[JS];omega,⟨?_,λk x p=>?_,λk l x y p hy e=>?_,λi w hw=>?_,λx p=>?_,λk x p=>?_⟩,(PV.abL (L:=λi=>decide (i<Z' h2)) (λi _=>N i) v ((PV.GY v).trans S)).symm,?_⟩
 ·rw[R.fr];exact PF.pG O R.fb
 ·rcases d k x p with⟨u,A,B,Q⟩|⟨j,u,rfl,B,-⟩
  ·rw[A];have this:=R.hp k x u;rw[aU.pG O (R.hb x (baH (mL u).1))]at this;simp only[PH.over,B,Q,this]
  ·rw[B,Z j];simp only[PH.over,E.hp j _ u]
 ·rcases d k x p with⟨u,A,B,Q⟩|⟨j,u,rfl,B,Q⟩<;>rcases d l y hy with⟨g1,g2,g3,g4⟩|⟨j',g1,rfl,g3,g4⟩
  ·rw[A,g2]at e;exact R.inj k l _ _ u g1 e
  ·rw[A,g3]at e;rw[e,E.hp j' _ g1]at B;cases B
  ·rw[B,g2]at e;rw[←e,E.hp j _ u]at g3;cases g3
  ·rw[B,g3]at e;rw[Q,g4,E.inj j j' _ _ u g1 e]
 ·rw[JS];exact PV.uP (Nat.le_add_right _ _) w (R.fb i w hw)
 ·rw[JS];obtain⟨k,hk,rfl⟩:=aTU p;rw[pq];split
  ·split
   ·exact J _
   ·exact(CM R k).mono (Nat.le_add_right _ _)
  ·exact J _
 ·rcases d k x p with⟨u,A,B,Q⟩|⟨j,u,rfl,B,-⟩
  ·rw[A];exact R.pc k x u
  ·rw[B];exact E.pc j _ u
 ·rw[JS];exact PV.rh (t:=up (bk M h.length)) (λi hi=>U i (by simpa using hi)) v ((PV.GY v).trans S)
theorem xi {C : Ctx} {call : gJ} (hC : qC C call) {name : Nat} {vs : List PV} (R : Rl r f h F H) (ok : okM M h = true) (hv : PV.ons (inL M) vs = true)
    (e : call name (PV.mT (up (posOf M)) vs) (qZ h (up (posOf M)) M) = some (v, h2)) : aH C name (vs.map (PV.ren r)) (H.only (vS r M)) (Comes (fun k => r (atN M k)) M.length v h2) := by
  have oks : ET M h = true := by simp only [okM, a8C] at ok; exact ok.1
  have hlen : (qZ h (up (posOf M)) M).length = M.length := by simp [qZ]
  have h1 := hC name _ _ v h2 e (fun k => r (atN M k)) (H.only (vS r M))
    ((R.cut oks).only fun k x hx => List.mem_map_of_mem (AV (sO (HV hx).1))) (fun o x hx => by
      rw [xG] at hx;split at hx
      · rename_i hm
        obtain ⟨i, hi, rfl⟩ := a9B.1 hm;have hp := sH (uY hi);have hl := sG ok (uY hi);rw [tF] at hl;refine ⟨posOf M i, (gtH h i).rn (up (posOf M)), ?_, by show (r (atN M (posOf M i))).1 = (r i).1; rw [hp.1]⟩;rw [Hp.kL, qZ, xC, aG hp.2, hp.1];show aU.live _ = _;generalize gtH h i = y at hl ⊢;cases y <;> first | rfl | cases hl
      · cases hx) (by rw [hlen]; exact PV.tY (t := up (posOf M)) (fun i hi => (sH hi).2) vs hv)
  rw [hlen] at h1;rw [← PV.fB, PV.BA (L := inL M) (s := r) (t := posOf M) (fun i hi => by show r (atN M (posOf M i)) = r i; rw [(sH hi).1]) vs hv] at h1;rw [← PV.fB];exact h1
end
noncomputable def aRJ(call:gJ)(M:List Nat)(name:Nat)(vs:List PV)(h:Hp):Option (PV × Hp):=
 if okM M h&&bo (inL M) vs then match call name (io (up (posOf M)) vs) (qZ h (up (posOf M)) M)with
  |some (v,h2)=>some (v.E9 (up (bk M h.length)),sQ M h h2)
  |none=>none
 else none
noncomputable def hand(call:gJ):gJ:=λname vs h=>aRJ call (reach h 1000 (uU vs []) []) name vs h
theorem aTM{C:Ctx}{call:gJ}(A:qC C call):tq C (hand call):=by
 intro name vs h v O e r f F H d K R hb E;unfold hand aRJ at e;generalize reach h 1000 (uU vs []) []=M at e;split at e
 ·rename_i i;simp only[a8C]at i;rw[EV]at e;split at e
  ·rename_i w h2 e2;rw[PV.UB]at e;cases e;refine⟨_,H.only (vS r M),_,rfl,λo x l=>?_,xi A R i.1 (TP i.2) e2,λrv H' N y=>?_⟩
   ·rw[xG]at l;split at l
    ·exact l
    ·cases l
   ·obtain⟨r',B,J,u,rfl,p⟩:=Yf R i.1 N y;exact E r' _ B J u p
  ·cases e
 ·cases e
theorem wB{n:Nat}:∀{l:List (List PV)},PV.eR n l=true↔∀x∈l,PV.bounds n x=true
 |[]=>by simp[PV.eR]
 |x::xs=>by simp[PV.eR,wB (l:=xs)]
theorem rZ{n:Nat}:∀{l:List PV},PV.bounds n l=true↔∀x∈l,x.bound n=true
 |[]=>by simp[PV.bounds]
 |x::xs=>by simp[PV.bounds,rZ (l:=xs)]
theorem ii{L:Nat→Bool}:∀{l:List PV},PV.ons L l=true↔∀x∈l,x.on L=true
 |[]=>by simp[PV.ons]
 |x::xs=>by simp[PV.ons,ii (l:=xs)]
theorem aaT{L:Nat→Bool}:∀{l:List (List PV)},PV.rJ L l=true↔∀x∈l,PV.ons L x=true
 |[]=>by simp[PV.rJ]
 |x::xs=>by simp[PV.rJ,aaT (l:=xs)]
section
variable {L:Nat→Bool} {r:Ren} {o s n:Nat} {rs pre:List (List PV)}
theorem RC(hp:(r o).2.length=Z' pre)(hi:∀q,L q=true→(r q).1=(r o).1→q=o)(v:PV)(i:v.on L=true):(v.dZ o s rs).ren r=(v.ren r).dZ (r o).1 s (pre++rs.map λx=>x.map (PV.ren r)):=by
 cases v with
 |osl q s' d len=>
  simp only[PV.on]at i;simp only[PV.dZ,PV.ren];by_cases e:q=o
  ·subst e;rw[aG rfl,aG rfl,hp,OV];simp only[a7Z,a8F];by_cases c:s'=s∧d+len≤Z' rs
   ·rw[aG c,aG ⟨c.1,by omega⟩];simp only[PV.ren,PV.kR,baY,bbR]
   ·rw[aD c,aD (λh=>c ⟨h.1,by omega⟩)];rfl
  ·rw[aD e,aD (λh=>e (hi q i h))];rfl
 |_=>rfl
theorem Tx(hp:(r o).2.length=Z' pre)(hi:∀q,L q=true→(r q).1=(r o).1→q=o)(v:PV)(d:v.on L=true):(v.sC o s rs).ren r=(v.ren r).sC (r o).1 s (pre++rs.map λx=>x.map (PV.ren r)):=by
 cases v with
 |agg cs =>simp only[PV.on]at d;simp only[PV.sC,PV.ren,PV.fB,bbG];congr 1;exact baZ λx e=>RC hp hi x (ii.1 d x e)
 |osl q s' i len=>exact RC hp hi _ d
 |_=>rfl
theorem aSU(hp:(r o).2.length=Z' pre)(hi:∀q,L q=true→(r q).1=(r o).1→q=o)(v:PV)(d:v.on L=true):(v.frz o s rs).ren r=(v.ren r).frz (r o).1 s (pre++rs.map λx=>x.map (PV.ren r)):=by
 cases v with
 |tup cs =>simp only[PV.on]at d;simp only[PV.frz,PV.ren,PV.fB,bbG];congr 1;exact baZ λx e=>Tx hp hi x (ii.1 d x e)
 |agg cs=>exact Tx hp hi _ d
 |osl q s' i len=>exact RC hp hi _ d
 |_=>rfl
theorem EI(e:PV.eR n rs=true)(v:PV)(d:v.bound n=true):(v.dZ o s rs).bound n=true:=by
 cases v with
 |osl q s' l len=>
  simp only[PV.dZ];split
  ·split
   ·simp only[PV.bound];exact wB.2 λx i=>wB.1 e x (List.mem_of_mem_drop (List.mem_of_mem_take i))
   ·rfl
  ·exact d
 |_=>exact d
theorem w9(e:PV.eR n rs=true)(v:PV)(d:v.bound n=true):(v.sC o s rs).bound n=true:=by
 cases v with
 |agg cs =>simp only[PV.bound]at d;simp only[PV.sC,PV.bound];refine rZ.2 λx i=>?_;obtain⟨y,l,rfl⟩:=a9B.1 i;exact EI e y (rZ.1 d y l)
 |osl q s' p len=>exact EI e _ d
 |_=>exact d
theorem aEL(e:PV.eR n rs=true)(v:PV)(d:v.bound n=true):(v.frz o s rs).bound n=true:=by
 cases v with
 |tup cs =>simp only[PV.bound]at d;simp only[PV.frz,PV.bound];refine rZ.2 λx i=>?_;obtain⟨y,l,rfl⟩:=a9B.1 i;exact w9 e y (rZ.1 d y l)
 |agg cs=>exact w9 e _ d
 |osl q s' p len=>exact EI e _ d
 |_=>exact d
theorem aiX{q:Nat}{ts:List (List PV)}{v:PV}(h:v.bound 0=true):v.dZ q s ts=v:=by
 cases v<;>first|rfl|simp[PV.bound]at h
theorem xc{q:Nat}{ts:List (List PV)}:∀{l:List (List PV)},PV.eR 0 l=true→(l.map λc=>c.map (PV.dZ q s ts))=l
 |[],_=>rfl
 |x::l,h=>by
  simp only[PV.eR,a8C]at h;have e:x.map (PV.dZ q s ts)=x:=by
   have d:=h.1;clear h
   induction x with
   |nil=>rfl
   |cons v x i =>simp only[PV.bounds,a8C]at d;rw[a9D,aiX d.1,i d.2]
  rw[a9D,e,xc h.2]
theorem aAI(hp:(r o).2.length=Z' pre)(hi:∀q,L q=true→(r q).1=(r o).1→q=o)(x:aU)(l:x.on L=true)(d:List (List PV))(e:PV.eR 0 d=true):(x.frz o s rs).ren r d=(x.ren r d).frz (r o).1 s (pre++rs.map λx=>x.map (PV.ren r)):=by
 cases x with
 |rows s' rs' =>simp only[aU.on]at l;simp only[aU.frz,aU.ren,bbG,a8Z,xc e];congr 2;refine baZ λrow p=>?_;simp only[Function.comp,bbG];exact baZ λx i=>RC hp hi x (ii.1 (aaT.1 (zJ l) row p) x i)
 |_=>rfl
theorem aGK(w:PV.eR n rs=true)(x:aU)(i:x.Bd n):(x.frz o s rs).Bd n:=by
 cases x with
 |rows s' rs' =>refine wB.2 λrow d=>?_;obtain⟨e,p,rfl⟩:=a9B.1 d;refine rZ.2 λy A=>?_;obtain⟨l,u,rfl⟩:=a9B.1 A;exact EI w l (rZ.1 (wB.1 i e p) l u)
 |_=>exact i
end
def PA(L:Nat→Bool)(o s:Nat)(rs:List (List PV))(x:aU):aU:=if x.on L then x.frz o s rs else .dead
def rF(p:PV × Hp)(o:Nat):PV × Hp:=match gtH p.2 o with
 | .rows s rs=>if PV.eR 0 rs&&p.1.onC (λi=>(gtH p.2 i).wS)then(p.1.frz o s rs,(p.2.map (PA (λi=>(gtH p.2 i).wS) o s rs)).set o .dead)else p
 |_=>p
mutual
def PV.azI:PV→List Nat→List Nat
 | .osl o _ _ _,l=>o::l
 | .ptr _ _ _ _,l=>l
 | .map _,l=>l
 | .sl _ _,l=>l
 | .bM _,l=>l
 | .fn _ _,l=>l
 | .agg cs,l=>PV.Qo cs l
 | .tup cs,l=>PV.Qo cs l
 | .int _ _,l=>l
 | .bool _,l=>l
 | .str _,l=>l
 | .aF,l=>l
 | .lit _,l=>l
 | .junk,l=>l
def PV.Qo:List PV→List Nat→List Nat
 |[],l=>l
 |v::vs,l=>PV.azI v (PV.Qo vs l)
end
def aoB:List (List PV)→List Nat→List Nat
 |[],l=>l
 |r::rs,l=>PV.Qo r (aoB rs l)
def xb(h:Hp)(n:Nat):Nat→List Nat→List Nat
 |0,l=>l
 |d+1,l=>match(l.filter λi=>Nat.ble n i).foldr (λi e=>match gtH h i with | .rows _ rs=>aoB rs e|_=>e) []with
  |[]=>l
  |l'=>xb h n d l'++l
def aEJ(n:Nat)(v:PV)(h:Hp):PV × Hp:=((xb h n 6 (PV.azI v [])).filter λi=>Nat.ble n i).foldl rF (v,h)
section
variable {r:Ren} {H:PH}
theorem aMC(g:aU→aU)(d:g .dead=.dead)(l:Hp)(k:Nat):gtH (l.map g) k=g (gtH l k):=by
 unfold gtH;rw[a8Y];cases l[k]? with
 |none=>exact d.symm
 |some x=>rfl
theorem aFK{x:aU}{L:Nat→Bool}{o s:Nat}{rs:List (List PV)}{y:aU}(h:(PA L o s rs x).live=some y):x.on L=true∧x.live=some x∧y=x.frz o s rs:=by
 unfold PA at h;split at h
 ·rename_i d;refine⟨d,?_,(aU.CR h).symm⟩;cases x<;>first|rfl|cases h
 ·cases h
theorem aEK{p:PV × Hp}(o:Nat)(R:Rl r .nil p.2 PF.nil H)(hb:p.1.bound p.2.length=true) :
  ∃K M,(∀F H2,kC K M F H2→kC (PF.nil.set 0 (p.1.ren r)) H F H2)∧K=PF.nil.set 0 ((rF p o).1.ren r)∧Rl r .nil (rF p o).2 PF.nil M∧(rF p o).1.bound (rF p o).2.length=true∧(rF p o).2.length=p.2.length:=by
 obtain⟨v,h⟩:=p;simp only at R hb;have u:∃K M,(∀F H2,kC K M F H2→kC (PF.nil.set 0 (v.ren r)) H F H2)∧K=PF.nil.set 0 (v.ren r)∧Rl r .nil h PF.nil M∧v.bound h.length=true∧Z' h=Z' h:=⟨_,H,λ_ _ h=>h,rfl,R,hb,rfl⟩;unfold rF;simp only;split
 ·rename_i s rs X;split
  ·rename_i J;simp only[a8C]at J;replace J:=And.intro J.1 (PV.aaP J.2);have A:h.ph o=some (.rows s rs):=by rw[tF,X];rfl
   have O:=(mL A).2;obtain⟨pre,hp,-,Q⟩:=R.hp.ex A;simp only[aU.ren]at Q;have hi:∀q,(gtH h q).wS=true→(r q).1=(r o).1→q=o:=λq Y e=>by
    have h1:h.ph q=some (gtH h q):=by rw[tF];exact SB Y
    exact R.inj _ _ _ _ h1 A e
   have N:PV.eR h.length rs=true:=PV.yR (a8H _) _ J.1;have B:((h.map (PA (λi=>(gtH h i).wS) o s rs)).set o .dead).length=Z' h:=by simp
   have d:∀i x,Hp.ph ((h.map (PA (λi=>(gtH h i).wS) o s rs)).set o .dead) i=some x→i≠o∧h.ph i=some (gtH h i)∧(gtH h i).on (λi=>(gtH h i).wS)=true∧x=(gtH h i).frz o s rs:=λi x l=>by
    rw[Hp.zM (by simpa using O)]at l;split at l
    ·cases l
    ·rename_i E;rw[tF,aMC _ (by rfl)]at l;obtain⟨h1,S,V⟩:=aFK l;exact⟨E,by rw[tF];exact S,h1,V⟩
   refine⟨_,H.frz (r o).1 s (pre++rs.map λx=>x.map (PV.ren r)),λF H2 Z=>.step (r o).1 Q Z,?_,⟨rfl,λi x l=>?_,λi j x y l U e=>?_,λi w hw=>by simp[Fr.pf]at hw,λx l=>?_,λi x l=>?_⟩,?_,B⟩
   ·funext i;simp only[PF.frz,PF.set,upd];split
    ·rw[a8X,aSU (L:=λi=>(gtH h i).wS) hp hi v J.2]
    ·rfl
   ·obtain⟨E,h1,S,rfl⟩:=d i x l;have W:=R.hp i _ h1;show(if(r i).1=(r o).1 then none else(H (r i).1).map (aU.frz (r o).1 s _))=_;rw[aD (λe=>E (R.inj _ _ _ _ h1 A e)),W,a8X,aAI (L:=λi=>(gtH h i).wS) hp hi _ S _ (R.pc i _ h1)]
   ·exact R.inj _ _ _ _ (d i x l).2.1 (d j y U).2.1 e
   ·rw[B];rcases bcE l with h1|h1
    ·obtain⟨y,U,rfl⟩:=a9B.1 h1;unfold PA;split
     ·exact aGK N y (R.hb y U)
     ·trivial
    ·subst h1;trivial
   ·exact R.pc i _ (d i x l).2.1
   ·rw[B];exact aEL N v hb
  ·exact u
 ·exact u
theorem xa:∀(l:List Nat){p:PV × Hp}{H:PH},Rl r .nil p.2 PF.nil H→p.1.bound p.2.length=true →
  ∃d,kC (PF.nil.set 0 (p.1.ren r)) H (PF.nil.set 0 ((l.foldl rF p).1.ren r)) d∧Rl r .nil (l.foldl rF p).2 PF.nil d∧(l.foldl rF p).1.bound (l.foldl rF p).2.length=true∧(l.foldl rF p).2.length=p.2.length
 |[],p,H,R,hb=>⟨H,.refl _ _,R,hb,rfl⟩
 |o::l,p,H,R,hb=>by obtain⟨E,d,B,rfl,u,e,i⟩:=aEK o R hb;obtain⟨H2,w,x,y,A⟩:=xa l u e;exact⟨H2,B _ _ w,x,y,A.trans i⟩
end
end Go.PM
namespace Go.PM
open Go
def t7(C:Ctx)(k:Nat)(pf:bC):Prop:=∀(args:List PV)(H:PH)(R:PV→PH→Prop),Z' args≤pf.ntmps→pf.body.wp C (aY pf.res R) (PF.args args) H→aH C k args H R
theorem Fr.acL{l:List PV}{f:Fr}(h:Fr.args l 0 (Fr.empty 9)=some f):f.pf=PF.args l:=by
 rw[Fr.akN h];funext i;simp only[Nat.not_lt_zero,if_false,Nat.sub_zero,Fr.Tf,PF.args];cases l[i]?<;>rfl
theorem aKB(r:Ren)(l:List PV):PF.args (l.map (PV.ren r))=(PF.args l).ren r:=by
 funext i;simp only[PF.args,PF.ren,a8Y]
abbrev Orc:=Nat→List PV→Option PV
def tu(C:Ctx)(d:Orc):Prop:=∀name vs v,d name vs=some v→aH C name vs PH.nil (λe _=>e=v)
noncomputable def vX(tab:Nat→Option bC)(d:Orc)(fz:Nat→Bool)(i:gJ→OJ)(m:Nat):Nat→gJ
 |0=>λ_ _ _=>none
 |n+1=>λname args h=>match d name args with
  |some v=>if v.bound 0&&h.isEmpty then some (v,h)else none
  |none=>match tab name with
  |some pf=>if args.length≤pf.ntmps then match Fr.args args 0 (Fr.empty 9)with
    |none=>none
    |some f=>match rL (hand (iu (vX tab d fz i m n))) (i (iu (vX tab d fz i m n))) m pf.body f h with
    |some (.exit _,_,_)=>none
    |some (_,l,e)=>match eN.evs l.pf e.ph pf.res with
     |some vs=>if(bR vs).CF e.length then some (if fz name then aEJ h.length (bR vs) e else(bR vs,e))else none
     |none=>none
    |none=>none
   else none
  |none=>none
section
variable {C:Ctx} {r:Ren} {f:Fr} {h:Hp} {F:PF} {H:PH}
theorem aOO{h:PH}(u:KY r h H){F:PF}{q:eN}{v:PV}(e:q.ev F h=some v):q.ev (F.ren r) H=some (v.ren r):=by
 cases q with
 |tmp t=>simp only[eN.ev]at e ⊢;simp only[PF.ren,e,a8X]
 |cell t n=>
  cases n with
  |none=>
   simp only[eN.ev]at e ⊢;split at e
   ·rename_i p i;simp only[PF.ren,i,a8X];split at e
    ·rename_i w d;have l:=wT u d;simp only[a9D,baB]at l;simp only[l];cases e;rfl
    ·cases e
   ·cases e
  |some k=>
   simp only[eN.ev]at e ⊢;split at e
   ·rename_i p i;simp only[PF.ren,i,a8X];cases d:loadCells h p k with
    |none=>rw[d]at e;cases e
    |some w =>rw[d]at e;rw[wT u d];cases e;simp only[a8X,PV.ren,PV.fB]
   ·cases e
theorem Kq{h:PH}(d:KY r h H){F:PF}:∀{l:List eN}{vs:List PV},eN.evs F h l=some vs→eN.evs (F.ren r) H l=some (vs.map (PV.ren r))
 |[],_,e=>by cases e;rfl
 |q::l,vs,e=>by
  simp only[eN.evs]at e ⊢;split at e
  ·rename_i v u i p;cases e;rw[aOO d i,Kq d p];rfl
  ·cases e
theorem ajO(vs:List PV):bR (vs.map (PV.ren r))=(bR vs).ren r:=by
 unfold bR
 match vs with
 |[]=>rfl
 |[v]=>rfl
 |a::b::l=>simp only[a9D,PV.ren,PV.fB]
theorem arH{tab:Nat→Option bC}{E:Orc}{fz:Nat→Bool}{N:gJ→OJ}(hO:tu C E)(hT:∀k pf,tab k=some pf→t7 C k pf)(hD:∀call,qC C call→Q9 C (N call))(m:Nat):∀n,qC C (vX tab E fz N m n)
 |0=>λname vs h v Q e=>by cases e
 |n+1=>λname vs h v Q e r H R X hb=>by
  have ih:=aPM (arH (fz:=fz) hO hT hD m n);simp only[vX]at e;split at e
  ·rename_i w W;split at e
   ·rename_i S;simp only[a8C,List.isEmpty_iff]at S;obtain⟨S,rfl⟩:=S;cases e;have hH:H=PH.nil:=PH.ext λo=>by
     cases O:H o with
     |none=>rfl
     |some x =>obtain⟨i,y,d,-⟩:=X o x O;simp[Hp.kL]at d
    rw[hH,PV.nI hb];exact(hO name vs v W).ym λrv H' hr=>by subst hr;exact⟨r,λ_ _=>rfl,⟨rfl,λi x A=>by simp[Hp.kL]at A,λi j x y A=>by simp[Hp.kL]at A,λi w Y=>by simp[Fr.pf]at Y,λx A=>(by cases A),λi x A=>by simp[Hp.kL]at A⟩,(PV.nF S r).symm,S,a8E _⟩
   ·cases e
  split at e
  ·rename_i pf ht;split at e
   ·rename_i hl;split at e
    ·cases e
    rename_i f0 U;have V:∀(x:mZ)(J:Fr)(d:Hp),(∀id,x≠.exit id)→rL (hand (iu (vX tab E fz N m n))) (N (iu (vX tab E fz N m n))) m pf.body f0 h=some (x,J,d) →
      (match eN.evs J.pf d.ph pf.res with|some vs=>if(bR vs).CF d.length then some (if fz name then aEJ h.length (bR vs) d else(bR vs,d))else none|none=>none)=some (v,Q)→aH C name (vs.map (PV.ren r)) H (Comes r h.length v Q):=by
     intro x J d A O e2;refine hT name pf ht _ _ _ (by rw[a7Z];exact hl) ?_;have R0:Rl r f0 h (PF.args (vs.map (PV.ren r))) H:=⟨by rw[Fr.acL U,aKB],R.hp,R.inj,λi w Y=>by
      rw[Fr.acL U]at Y;simp only[PF.args]at Y;have:∀(l:List PV)(i:Nat),PV.bounds h.length l=true→l[i]?=some w→w.bound h.length=true:=by
       intro l
       induction l with
       |nil=>intro i _ hi;simp at hi
       |cons a l α=>
        intro i hb hi;simp only[PV.bounds,a8C]at hb;cases i with
        |zero=>simp at hi;subst hi;exact hb.1
        |succ i=>exact α i hb.2 (by simpa using hi)
      exact this vs i hb Y,R.hb,R.pc⟩
     refine aBA (aTM ih) (hD _ ih) m pf.body O R0 λr' F' H' ha hn Z=>?_;cases h2:eN.evs J.pf d.ph pf.res with
     |none=>rw[h2]at e2;cases e2
     |some K=>
      rw[h2]at e2;simp only at e2;split at e2
      ·rename_i B;replace B:=PV.yQ B;simp only[a9V.injEq]at e2;have h3:=Kq Z.hp h2;rw[←Z.fr]at h3;have hR:∃vs,eN.evs F' H' pf.res=some vs∧∃F1 M H2,kC (PF.nil.set 0 (bR vs)) H' F1 M∧PH.le H2 M∧∃u,F1 0=some u∧Comes r h.length v Q u H2:=by
        refine⟨_,h3,?_⟩;rw[ajO K];split at e2
        ·obtain⟨M,g1,g2,g3,g4⟩:=xa ((xb d h.length 6 (PV.azI (bR K) [])).filter λi=>Nat.ble h.length i) (p:=(bR K,d)) Z.heap B;have e3:((xb d h.length 6 (PV.azI (bR K) [])).filter λi=>Nat.ble h.length i).foldl rF (bR K,d)=(v,Q):=e2;rw[e3]at g1 g2 g3 g4;exact⟨_,M,M,g1,λ_ _ W=>W,v.ren r',rfl,r',ha,g2,rfl,g3,by rw[g4];exact hn⟩
        ·cases e2;exact⟨_,H',H',.refl _ _,λ_ _ W=>W,(bR K).ren r',rfl,r',ha,Z.heap,rfl,B,hn⟩
       cases x with
       |normal=>exact hR
       |ret=>exact hR
       |exit id=>exact absurd rfl (A id)
      ·cases e2
    split at e
    ·cases e
    ·rename_i x J d A O;exact V x J d (λid he=>A id he) O e
    ·cases e
   ·cases e
  ·cases e
end
def tR(W:List Nat):Nat→Hp→Hp
 |_,[]=>[]
 |i,x::xs=>(if W.contains i then .dead else x)::tR W (i+1) xs
theorem jr(W:List Nat):∀(h:Hp)(i k:Nat)(x:aU),(tR W i h)[k]?=some x→x=.dead∨h[k]?=some x
 |[],_,_,_,e=>by simp[tR]at e
 |y::h,i,0,x,e=>by
  simp only[tR,List.getElem?_cons_zero,a9V.injEq]at e;split at e
  ·exact .inl e.symm
  ·exact .inr (by rw[←e];rfl)
 |y::h,i,k+1,x,e=>by simp only[tR,List.getElem?_cons_succ]at e ⊢;exact jr W h (i+1) k x e
theorem aoF{W:List Nat}{h:Hp}{i:Nat}{x:aU}(e:Hp.ph (tR W 0 h) i=some x):h.ph i=some x:=by
 have d:=mL e;rcases jr W h 0 i x d.1 with h2|h2
 ·subst h2;rw[Hp.kL,d.1]at e;cases e
 ·rw[Hp.kL]at e ⊢;rw[d.1]at e;rw[h2];exact e
def MZ(op:POp)(f:Fr):Option Nat:=match op with
 | .store _ p _=>match p.ev f.pf with
  |some (.ptr o _ _ _)=>some o
  |_=>none
 | .append _ _ x _=>match x.ev f.pf with
  |some (.osl o _ _ _)=>some o
  |_=>none
 | .a7G _ x _ _ | .insert _ x _ _=>match x.ev f.pf with
  |some (.map o)=>some o
  |_=>none
 |_=>none
def aAJ(hs:Hp)(op:POp)(f:Fr):Bool:=match MZ op f with
 |none=>true
 |some o=>match hs[o]? with
  |none=>true
  |some .dead=>true
  |_=>false
theorem aAK{hs:Hp}{op:POp}{f:Fr}{o:Nat}(h:aAJ hs op f=true)(d:MZ op f=some o):hs.ph o=none:=by
 unfold aAJ at h;rw[d]at h;simp only at h;rw[Hp.kL];split at h
 ·rename_i e;rw[e];rfl
 ·rename_i e;rw[e];rfl
 ·cases h
noncomputable def yS(call:gJ)(name:Nat)(vs:List PV):Option PV:=
 if PV.bounds 0 vs then match call name vs []with
  |some (v,_)=>if v.bound 0 then some v else none
  |none=>none
 else none
def Af:aU→aU→Bool
 | .rows s rs,y=>match y with | .rows s' rs'=>a9U s s'&&PV.gb rs rs'|_=>false
 | .map _ _,_=>false
 |_,_=>true
def a0R(hs:Hp)(M:List Nat)(h':Hp):Bool:=M.all λi=>Af (gtH hs i) (gtH h' i)
noncomputable def Qn(call:gJ)(e hs:Hp)(name:Nat)(vs:List PV)(h:Hp):Option (PV × Hp):=
 let M:=reach e 1000 (uU vs []) []
 if(M.all λi=>(gtH e i).wS)&&(okM M h&&bo (inL M) vs)then match call name (io (up (posOf M)) vs) (qZ h (up (posOf M)) M)with
  |some (v,d)=>if(Nat.ble M.length d.length&&v.CF d.length)&&((d.all λx=>x.wS.not||x.bd d.length)&&a0R hs M (sQ M h d))then some (v.E9 (up (bk M h.length)),sQ M h d)else none
  |none=>none
 else none
noncomputable def As(call:gJ)(d hs:Hp)(op:POp)(st:Bool)(f:Fr)(h:Hp):Option (PV × Hp):=match op with
 | .call name args=>if args.all aQ.clo then match aQ.evs f.pf args with
  |some vs=>Qn call d hs name vs h
  |none=>none
  else none
 | .a7Q x args=>if x.clo&&args.all aQ.clo then match x.ev f.pf,aQ.evs f.pf args with
  |some (.fn name cs),some vs=>Qn call d hs name (vs++cs) h
  |_,_=>none
  else none
 |op=>if op.clo&&aAJ hs op f then
   if op.jG then yC op f h else if op.eS then gZ op f h else
    match aP op f.pf (if st then hs.ph else h.ph)with
    |some v=>if v.CF h.length then some (v,h)else none
    |none=>none
  else none
noncomputable def Au(call:gJ)(e hs:Hp)(i:aW)(st:Bool)(f:Fr)(h:Hp):Option (PV × Hp):=match i.guard with
 |none=>As call e hs i.op st f h
 |some (t,d)=>match f.pf t with
  |some (.bool b)=>if b=d then As call e hs i.op st f h else some (.tup [],h)
  |some (.tup [])=>some (.tup [],h)
  |_=>none
noncomputable def cr(call:gJ)(d hs:Hp):List (aW × Bool)→Fr→Hp→Option (Fr × Hp)
 |[],f,h=>some (f,h)
 |i::rest,f,h=>if f.fits i.1.dst then match Au call d hs i.1 i.2 f h with
   |some (v,h')=>cr call d hs rest (f.put i.1.dst v) h'
   |none=>none
  else none
noncomputable def aYF(d:Hp)(i:aW)(f:Fr)(h h':Hp):List Nat:=match i.op with
 | .call _ args=>match aQ.evs f.pf args with
  |some vs=>(reach d 1000 (uU vs []) []).filter λi=>!Af (gtH h i) (gtH h' i)
  |none=>[]
 | .a7Q x args=>match x.ev f.pf,aQ.evs f.pf args with
  |some (.fn _ cs),some vs=>(reach d 1000 (uU (vs++cs) []) []).filter λi=>!Af (gtH h i) (gtH h' i)
  |_,_=>[]
 |op=>(MZ op f).toList
noncomputable def targets(call:gJ)(d:Hp):List (aW × Bool)→Fr→Hp→List Nat
 |[],_,_=>[]
 |i::rest,f,h=>match Au call d [] i.1 false f h with
  |some (v,h')=>aYF d i.1 f h h'++targets call d rest (f.put i.1.dst v) h'
  |none=>[]
noncomputable def wP(call:gJ):OJ:=λops f h=>
 if ops.any λi=>i.2 then
  if ops.any λi=>i.1.op.eS then cr call h (tR (targets call h ops f h) 0 h) ops f h
  else match cr call h h ops f h with
   |some x=>some x
   |none=>cr call h (tR (targets call h ops f h) 0 h) ops f h
 else cr call h [] ops f h
structure DI(r:Ren)(hs h:Hp)(Hs:PH):Prop where
 a:∀i x,hs.ph i=some x→h.ph i=some x
 b:∀o x,Hs o=some x→∃i y,hs.ph i=some y∧o=(r i).1∧x=y.ren r (r i).2
 c:KY r hs.ph Hs
section
variable {C:Ctx} {call:gJ} {r:Ren} {f f':Fr} {hs h h':Hp} {F:PF} {H Hs:PH} {v:PV}
theorem DI.le(D:DI r hs h Hs)(R:Rl r f h F H):Hs.le H:=λo x e=>by
 obtain⟨i,y,d,rfl,rfl⟩:=D.b o x e;exact R.hp i y (D.a i y d)
theorem DI.next(D:DI r hs h Hs)(R:Rl r f h F H){r':Ren}(p:iU h.length r r')(A:∀i x,hs.ph i=some x→h'.ph i=some x):DI r' hs h' Hs:=by
 have d:∀i y,hs.ph i=some y→r i=r' i∧∀pre,y.ren r pre=y.ren r' pre:=λi y B=>by have e:=mL (D.a i y B);exact⟨p i e.2,λpre=>aU.pG p (R.hb y (baH e.1)) pre⟩
 refine⟨A,λo x l=>?_,λi x l=>?_⟩
 ·obtain⟨i,y,e,u,w⟩:=D.b o x l;refine⟨i,y,e,by rw[u,(d i y e).1],?_⟩;rw[w,(d i y e).1];exact(d i y e).2 _
 ·rw[←(d i x l).1,←(d i x l).2];exact D.c i x l
theorem P9{op:POp}(e:yC op f h=some (v,h')){i:Nat}{x:aU}(l:h.ph i=some x):h'.ph i=some x:=by
 have hlt:=(mL l).2;by_cases p:∃sh,op=.a7U sh
 ·obtain⟨sh,rfl⟩:=p;simp only[yC,a9V.injEq,Prod.mk.injEq]at e;obtain⟨-,rfl⟩:=e;rw[Hp.vE,aD Om];exact l
 ·have d:(match cT op f.pf with|some (u,x)=>if x.bd h.length then some (u h.length,h++[x])else none|none=>none)=some (v,h'):=by cases op<;>first|exact e|exact absurd ⟨_,rfl⟩ p
  split at d
  ·split at d<;>cases d;rw[Hp.vE,aD Om];exact l
  ·cases d
theorem KD{op:POp}(e:gZ op f h=some (v,h')){i:Nat}{x:aU}(u:h.ph i=some x)(d:MZ op f≠some i):h'.ph i=some x:=by
 have hlt:=(mL u).2;cases op<;>try (simp[gZ]at e;done)
 case store n p y=>
  simp only[gZ]at e;simp only[MZ]at d;split at e
  ·rename_i o s j c w l E;rw[l]at d;split at e
   ·rename_i s' rs B;split at e
    ·split at e<;>cases e;rw[Hp.zM ((a9I.1 B).1),aD (λe=>d (by rw[e]))];exact u
    ·cases e
   ·cases e
  ·cases e
 case append size bytes y z=>
  simp only[gZ]at e;simp only[MZ]at d;split at e
  ·split at e
   ·cases e;exact u
   ·split at e<;>cases e;rw[Hp.vE,aD Om];exact u
   ·cases e
  ·rename_i o s N len b l E;rw[l]at d;split at e
   ·rename_i src s' rs B A;split at e<;>cases e;rw[Hp.vE,aD (by rw[a9R];omega),Hp.zM ((a9I.1 A).1),aD (λe=>d (by rw[e]))];exact u
   ·cases e
  ·cases e
 case a7G sh y k w=>
  simp only[gZ]at e;simp only[MZ]at d;split at e
  ·rename_i o M O l E B;rw[l]at d;split at e
   ·rename_i K g J A h5;split at e<;>cases e;rw[Hp.zM ((a9I.1 A).1),aD (λe=>d (by rw[e]))];exact u
   ·cases e
  ·cases e
 case insert sh y k w=>
  simp only[gZ]at e;simp only[MZ]at d;split at e
  ·rename_i o M O l E B;rw[l]at d;split at e
   ·rename_i K g J A h5;split at e<;>cases e;rw[Hp.zM ((a9I.1 A).1),aD (λe=>d (by rw[e]))];exact u
   ·cases e
  ·cases e
theorem aiC(N:qC C call){name:Nat}{vs:List PV}(e:yS call name vs=some v) :
  vs.map (PV.ren r)=vs∧v.ren r=v∧v.bound 0=true∧aH C name vs PH.nil (λS _=>S=v):=by
 unfold yS at e;split at e
 ·rename_i l;split at e
  ·rename_i w M e2;split at e
   ·rename_i p;cases e;refine⟨PV.nI l r,PV.nF p r,p,?_⟩;have A:=N name vs [] v M e2 (up id) PH.nil ⟨rfl,λi x d=>by simp[Hp.kL]at d,λi j x y d=>by simp[Hp.kL]at d,λi w R=>by simp[Fr.pf]at R,λx d=>(by cases d),λi x d=>by simp[Hp.kL]at d⟩ (λo x d=>by cases d) l;rw[PV.nI l]at A;refine⟨A.1,λE w U O hW B=>(A.2 E w U O hW B).mono λV W Q=>?_⟩;obtain⟨u,pv,J,H',g1,g2,g3,g4,r',-,-,K,-,-⟩:=Q;exact⟨u,pv,J,H',g1,g2,g3,g4,by rw[K,PV.nF p]⟩
   ·cases e
  ·cases e
 ·cases e
end
theorem Gi(r:Nat→Nat):∀n:Nat,∃b,∀j,j<n→r j<b
 |0=>⟨0,λj d=>absurd d (Nat.not_lt_zero j)⟩
 |n+1=>by
  obtain⟨b,hb⟩:=Gi r n;refine⟨b+r n+1,λj d=>?_⟩;rcases Nat.lt_succ_iff_lt_or_eq.1 d with h|h
  ·have:=hb j h;omega
  ·subst h;omega
theorem aXA(r:Ren)(h:Hp)(hi:∀i j x y,h.ph i=some x→h.ph j=some y→(r i).1=(r j).1→i=j) :
  ∃H:PH,KY r h.ph H∧∀o x,H o=some x→∃i y,h.ph i=some y∧(r i).1=o:=by
 classical
 obtain⟨b,hb⟩:=Gi (λi=>(r i).1) h.length;refine⟨⟨λo=>if e:∃i y,h.ph i=some y∧(r i).1=o then some ((Classical.choose (Classical.choose_spec e)).ren r (r (Classical.choose e)).2)else none,b,λo w=>?_⟩,λi x d=>?_,λo x d=>?_⟩
 ·rw[dif_neg];rintro⟨i,y,l,p⟩;have:=hb i (mL l).2;omega
 ·have e:∃j y,h.ph j=some y∧(r j).1=(r i).1:=⟨i,x,d,rfl⟩;show(if e:∃j y,h.ph j=some y∧(r j).1=(r i).1 then some ((Classical.choose (Classical.choose_spec e)).ren r (r (Classical.choose e)).2)else none)=_;rw[dif_pos e];have l:=Classical.choose_spec (Classical.choose_spec e);have p:=hi _ _ _ _ l.1 d l.2;have u:=l.1.symm.trans ((congrArg h.ph.f p).trans d);rw[a9V.inj u,congrArg (λj=>(r j).2) p]
 ·change(if e:∃j y,h.ph j=some y∧(r j).1=o then some ((Classical.choose (Classical.choose_spec e)).ren r (r (Classical.choose e)).2)else none)=some x at d;split at d
  ·rename_i e;exact e
  ·cases d
theorem aRX{r:Ren}{f:Fr}{h:Hp}{F:PF}{H:PH}(R:Rl r f h F H):∃q:Nat→Nat × Nat,∀i x,h.ph i=some x→q (r i).1=(i,(r i).2.length):=by
 classical
 refine⟨λo=>if e:∃i y,h.ph i=some y∧(r i).1=o then(Classical.choose e,(r (Classical.choose e)).2.length)else(0,0),λi x d=>?_⟩;have e:∃j y,h.ph j=some y∧(r j).1=(r i).1:=⟨i,x,d,rfl⟩;show(if e:∃j y,h.ph j=some y∧(r j).1=(r i).1 then(Classical.choose e,(r (Classical.choose e)).2.length)else(0,0))=_;rw[dif_pos e];obtain⟨y,l,p⟩:=Classical.choose_spec e;rw[R.inj _ _ _ _ l d p]
def Qs(q:Nat→Nat × Nat)(r:Ren)(M:List Nat)(H:PH):Hp:=M.map λi=>match H (r i).1 with
 |some x=>(x.back q (r i).2.length).rn (up (posOf M))
 |none=>.dead
noncomputable def cy(call:gJ)(h0:Hp)(q:Nat→Nat × Nat)(r:Ren):Spec:=λname vs=>
 some (vS r (reach h0 1000 (uU (PV.rY q vs) []) []),λe i H'=>∃v d,
  call name (PV.mT (up (posOf (reach h0 1000 (uU (PV.rY q vs) []) []))) (PV.rY q vs)) (Qs q r (reach h0 1000 (uU (PV.rY q vs) []) []) e)=some (v,d) ∧
  Comes (λk=>r (atN (reach h0 1000 (uU (PV.rY q vs) []) []) k)) (reach h0 1000 (uU (PV.rY q vs) []) []).length v d i H')
theorem Comes.agree{r s:Ren}{n:Nat}{v:PV}{h:Hp}{d:PV}{H:PH}(u:Comes r n v h d H)(p:iU n r s):Comes s n v h d H:=by
 obtain⟨r',e,l⟩:=u;exact⟨r',λi hi=>(p i hi).symm.trans (e i hi),l⟩
theorem aPC{x y:aU}(h:Af x y=true)(d:x.live=some x):x=y:=by
 cases x with
 |rows s rs =>cases y<;>simp only[Af,a8C,baK]at h;rw[PV.m6 _ _ h.2,Nat.eq_of_beq_eq_true h.1]
 |map=>cases h
 |loop=>cases d
 |dead=>cases d
section
variable {C:Ctx} {call:gJ} {q:Nat→Nat × Nat} {r0 r:Ren} {f f':Fr} {h0 hs h h':Hp} {F:PF} {H Hs:PH} {v:PV} {K:PV→PH→Prop} {st:Bool}
theorem OS(hC:qC C call)(hq:∀i x,h0.ph i=some x→q (r0 i).1=(i,(r0 i).2.length))(θ:iU h0.length r0 r)(R:Rl r f h F H)(D:DI r hs h Hs){name:Nat}{vs:List PV}(e:Qn call h0 hs name vs h=some (v,h'))
  (J:∀r' H',iU h.length r r'→Z' h≤Z' h'→Rl r' f h' F H'→DI r' hs h' Hs→v.bound h'.length=true→K (v.ren r') H') :
  (Kind.call name (some (vs.map (PV.ren r)))).run C Hs (cy call h0 q r0) st K H:=by
 unfold Qn at e;simp only at e;generalize hM:reach h0 1000 (uU vs []) []=M at e;split at e
 ·rename_i β;simp only[a8C,a8U]at β;obtain⟨ξ,ok,hv⟩:=β;replace hv:=TP hv;rw[EV]at e;split at e
  ·rename_i w p e2;split at e
   ·rename_i hb;simp only[a8C]at hb;obtain⟨⟨κ,S⟩,μ,ν⟩:=hb;replace S:=PV.yQ S;rw[PV.UB]at e;cases e;have ο:Z' M≤Z' p:=Nat.le_of_ble_eq_true κ;have E:∀i,inL M i=true→h0.ph i=some (gtH h0 i):=λi hi=>by rw[tF];exact SB (ξ i (AV hi))
    have N:∀i,inL M i=true→r0 i=r i:=λi hi=>θ i (mL (E i hi)).2;have γ:∀i,inL M i=true→q (r i).1=(i,(r i).2.length):=λi hi=>by rw[←N i hi];exact hq i _ (E i hi)
    have ρ:PV.rY q (vs.map (PV.ren r))=vs:=by rw[←PV.fB,PV.tO (L:=inL M) γ vs hv]
    have Z:vS r0 M=vS r M:=baZ λi hi=>by rw[N i (uY hi)]
    have Y:∀i,inL M i=true→(H.only (vS r M)) (r i).1=some ((gtH h i).ren r (r i).2):=λi hi=>by rw[xG,aG (show(r i).1∈vS r M from a9B.2 ⟨i,AV hi,rfl⟩)];exact R.hp i _ (sG ok hi)
    have W:ET M h=true:=by simp only[okM,a8C]at ok;exact ok.1
    have d:Qs q r0 M (H.only (vS r M))=qZ h (up (posOf M)) M:=by unfold Qs qZ;refine baZ λi hi=>?_;have U:=uY hi;rw[N i U,Y i U];show aU.rn _ (aU.back q _ _)=_;rw[aU.PZ (L:=inL M) γ (CM R i) (rg W U)]
    have A:iU M.length (λk=>r0 (atN M k)) (λk=>r (atN M k)):=λk J=>N _ (sO J);have η:∀x∈p,aU.Bd p.length x:=λx X=>by
     have:=(a8U.1 μ) x X;simp only[Bool.or_eq_true,Bool.not_eq_true']at this;rcases this with h1|h1
     ·cases x<;>first|trivial|cases h1
     ·exact aU.AK h1
    refine⟨_,vS r M,λH0 rv H'=>∃v p,call name (PV.mT (up (posOf M)) vs) (Qs q r0 M H0)=some (v,p)∧Comes (λk=>r0 (atN M k)) M.length v p rv H',rfl,?_,λo ho=>?_,?_,λG=>?_,λrv H' hr ap=>?_⟩
    ·simp only[cy,ρ,hM,Z]
    ·obtain⟨i,hi,rfl⟩:=a9B.1 ho;exact⟨_,R.hp i _ (sG ok (uY hi))⟩
    ·exact(xi hC R ok hv e2).ym λrv H' hc=>⟨w,p,by rw[d];exact e2,hc.agree λk J=>(A k J).symm⟩
    ·obtain⟨nG,hG⟩:=G.fin;obtain⟨nH,hH⟩:=H.fin;have ε:∀k,k<Z' M→(r (atN M k)).1<nH:=λk J=>by
      rcases a9A (r (atN M k)).1 nH with h1|h1
      ·exact h1
      ·have:=R.hp _ _ (sG ok (sO J));rw[hH _ h1]at this;cases this
     generalize δ:(λj=>if j<M.length then r (atN M j)else(nG+nH+j,[]))=r2;have hlt:∀j,j<Z' M→r2 j=r (atN M j):=λj B=>by rw[←δ];exact aG B
     have l:∀j,¬j<Z' M→r2 j=(nG+nH+j,[]):=λj B=>by rw[←δ];exact aD B
     have Q:∀i j x y,p.ph i=some x→p.ph j=some y→(r2 i).1=(r2 j).1→i=j:=λi j x y _ _ O=>by
      by_cases hi:i<Z' M<;>by_cases B:j<Z' M
      ·rw[hlt i hi,hlt j B]at O;have:=R.inj _ _ _ _ (sG ok (sO hi)) (sG ok (sO B)) O;have α:aj M=true:=by simp only[ET,a8C]at W;exact W.1
       rw[←CX α hi,this,CX α B]
      ·rw[hlt i hi,l j B]at O;have:=ε i hi;simp only at O;omega
      ·rw[l i hi,hlt j B]at O;have:=ε j B;simp only at O;omega
      ·rw[l i hi,l j B]at O;simp only at O;omega
     obtain⟨H',h1,h3⟩:=aXA r2 p Q;refine⟨w.ren r2,H',⟨w,p,by rw[d];exact e2,r2,λk J=>?_,⟨rfl,h1,Q,λi u hu=>by simp[Fr.pf]at hu,η,λi x _=>by
      by_cases hi:i<Z' M
      ·rw[hlt i hi];exact R.pc _ _ (sG ok (sO hi))
      ·rw[l i hi];rfl⟩,rfl,S,ο⟩,λo x X h4=>?_⟩
     ·rw[hlt k J];exact A k J
     ·obtain⟨i,y,-,rfl⟩:=h3 o x X;by_cases hi:i<Z' M
      ·rw[hlt i hi,Y _ (sO hi)]at h4;cases h4
      ·rw[l i hi];exact hG _ (by simp only;omega)
    ·obtain⟨w',h3,e3,hc⟩:=hr;rw[d,e2]at e3;cases e3;obtain⟨r',ha,hn,R',rfl,ι⟩:=Yf R ok (hc.agree A) ap;have V:∀i x,hs.ph i=some x→Hp.ph (sQ M h p) i=some x:=λi x X=>by
      have ζ:=D.a i x X;have hlt:=(mL ζ).2;by_cases hi:inL M i=true
      ·have h5:=(a8U.1 ν) i (AV hi);have h6:=aXO X;have h7:=aPC h5 (by rw[h6.1];exact h6.2);rw[tF,←h7,h6.1];exact h6.2
      ·rw[tF,pq,aG hlt,aD hi,←tF];exact ζ
     have D':=D.next R ha V;exact⟨D'.le R',J r' _ ha hn R' D' ι⟩
   ·cases e
  ·cases e
 ·cases e
theorem k6(hC:qC C call)(hq:∀i x,h0.ph i=some x→q (r0 i).1=(i,(r0 i).2.length))(α:iU h0.length r0 r){op:POp}(R:Rl r f h F H)(D:DI r hs h Hs)(e:As call h0 hs op st f h=some (v,h'))
  (Z:∀r' H',iU h.length r r'→Z' h≤Z' h'→Rl r' f h' F H'→DI r' hs h' Hs→v.bound h'.length=true→K (v.ren r') H') :
  (op.kind F).run C Hs (cy call h0 q r0) st K H:=by
 by_cases h1:∃name args,op=.call name args
 ·obtain⟨name,args,rfl⟩:=h1;simp only[As]at e;split at e
  ·rename_i p;split at e
   ·rename_i vs h2;have h4:=FX (r:=r) p h2;rw[←R.fr]at h4;simp only[POp.kind];rw[h4];exact OS hC hq α R D e Z
   ·cases e
  ·cases e
 by_cases h2:∃x args,op=.a7Q x args
 ·obtain⟨x,args,rfl⟩:=h2;simp only[As]at e;split at e
  ·rename_i p;simp only[a8C]at p;split at e
   ·rename_i name cs vs h3 h4;have h5:=FX (r:=r) p.2 h4;have h6:=cG (r:=r) p.1 h3;rw[←R.fr]at h5 h6;simp only[POp.kind];rw[h6];simp only[PV.ren,PV.fB];rw[h5];simp only[a8X,←a8Z];exact OS hC hq α R D e Z
   ·cases e
  ·cases e
 have l:(if op.clo&&aAJ hs op f then if op.jG then yC op f h else if op.eS then gZ op f h else
   match aP op f.pf (if st then hs.ph else h.ph)with|some v=>if v.CF h.length then some (v,h)else none|none=>none else none)=some (v,h'):=by
  cases op<;>first|exact e|exact absurd ⟨_,_,rfl⟩ h1|exact absurd ⟨_,_,rfl⟩ h2
 split at l
 ·rename_i p;simp only[a8C]at p;have E:∀i x,hs.ph i=some x→MZ op f≠some i:=λi x hx ht=>by rw[aAK p.2 ht]at hx;cases hx
  by_cases h3:∃sh x k w,op=.insert sh x k w
  ·obtain⟨sh,x,k,w,rfl⟩:=h3;simp only[POp.jG,POp.eS,baK,if_false,if_true]at l;have M:=p.1;simp only[POp.clo,a8C]at M;have B:∀i y,hs.ph i=some y→h'.ph i=some y:=λi y X=>KD l (D.a i y X) (E i y X);have A:Z' h≤Z' h':=by
    simp only[gZ]at l
    (repeat' split at l)<;>cases l<;>simp
   have O:bZ (.insert sh x k w) F H (λY H'=>∀_:Hs.le H',K Y H'):=
    tH (K:=λY H'=>∀_:Hs.le H',K Y H') R p.1 l λr' H' J N hb _=>Z r' H' J A N (D.next R J B) hb
   have W:bZ (.insert sh x k w) F H (λ_ H'=>Hs.le H'):=
    tH (K:=λ_ H'=>Hs.le H') R p.1 l λr' H' J N hb=>(D.next R J B).le N
   simp only[gZ]at l;split at l
   ·rename_i o kv vv g1 g2 g3;have Q:=cG (r:=r) M.1 g1;have S:=cG (r:=r) M.2.1 g2;have U:=cG (r:=r) M.2.2 g3;rw[←R.fr]at Q S U;simp only[bZ,Q,S,U,PV.ren]at O W;simp only[POp.kind,Q,S,U,PV.ren];split at l
    ·rename_i β g γ g4 g5;have ho:h.ph o=some (.map β g):=by rw[Hp.kL,g4];rfl
     have hH:=R.hp o _ ho;simp only[aU.ren]at hH;simp only[hH,CO g5]at O W;obtain⟨w1,w2,w3⟩:=O;subst w1;refine⟨(r o).1,β,γ,_,_,by rw[CO g5];rfl,hH,w2,?_,w3 W.2.2⟩;cases e6:Hs (r o).1 with
     |none=>rfl
     |some y =>obtain⟨i,z,k1,k2,k3⟩:=D.b _ _ e6;have:=R.inj o i _ _ ho (D.a i z k1) k2;subst this;exact absurd (by simp only[MZ,g1]) (E o z k1)
    ·cases l
   ·cases l
  ·have V:op.kind F=if op.jG then .new (cT op F)else if op.eS then .write (λH K=>bZ op F H K)else .calm (aP op F):=by cases op<;>first|rfl|exact absurd ⟨_,_,rfl⟩ h1|exact absurd ⟨_,_,rfl⟩ h2|exact absurd ⟨_,_,_,_,rfl⟩ h3
   rw[V];split at l
   ·rename_i hn;rw[aG hn];have A:Z' h≤Z' h':=UP (op:=op) (f:=f) (v:=v) (by unfold CY;rw[aG p.1,aG hn];exact l);obtain⟨mk,x,g1,g2⟩:=XK (d:=some 0) (K:=λF' H'=>∀u,F' 0=some u→K u H') R p.1 l λr' H' J N hb u hu=>by simp only[PF.put,PF.set,afN]at hu;cases hu;exact Z r' H' J A N (D.next R J λi y X=>P9 l (D.a i y X)) hb
    exact⟨mk,x,g1,λo ho=>g2 o ho _ (by simp[PF.put,PF.set,afN])⟩
   ·rename_i hn;rw[aD hn];split at l
    ·rename_i O;rw[aG O];have A:Z' h≤Z' h':=UP (op:=op) (f:=f) (v:=v) (by unfold CY;rw[aG p.1,aD hn,aG O];exact l);show bZ op F H λY H'=>Hs.le H'∧K Y H';refine tH (K:=λY H'=>Hs.le H'∧K Y H') R p.1 l λr' H' J N hb=>?_;have D':=D.next R J λi y X=>KD l (D.a i y X) (E i y X);exact⟨D'.le N,Z r' H' J A N D' hb⟩
    ·rename_i O;rw[aD O];split at l
     ·rename_i w g1;split at l
      ·rename_i hb;replace hb:=PV.yQ hb;cases l;refine⟨v.ren r,?_,Z r H (λ_ _=>rfl) (a8E _) R D hb⟩;cases st with
       |true=>
        have:=bx D.c p.1 g1
        rwa[←R.fr]at this
       |false=>
        have:=bx R.hp p.1 g1
        rwa[←R.fr]at this
      ·cases l
     ·cases l
 ·cases l
theorem acM(A:qC C call)(B:∀i x,h0.ph i=some x→q (r0 i).1=(i,(r0 i).2.length))(d:iU h0.length r0 r){i:aW}(R:Rl r f h F H)(D:DI r hs h Hs)(e:Au call h0 hs i st f h=some (v,h'))
  (u:∀r' H',iU h.length r r'→Z' h≤Z' h'→Rl r' f h' F H'→DI r' hs h' Hs→v.bound h'.length=true→K (v.ren r') H') :
  (i.kind F).run C Hs (cy call h0 q r0) st K H:=by
 have l:∀t w,f.pf t=some w→F t=some (w.ren r):=λt w p=>by rw[R.fr];simp only[PF.ren,p,a8X]
 unfold Au at e;unfold aW.kind;split at e
 ·rename_i y;rw[y];exact k6 A B d R D e u
 ·rename_i t E y;rw[y];simp only;split at e
  ·rename_i b hb;rw[l t _ hb];simp only[PV.ren];split at e
   ·rename_i p;rw[aG p];exact k6 A B d R D e u
   ·rename_i p;rw[aD p];cases e;exact⟨_,rfl,u r H (λ_ _=>rfl) (a8E _) R D rfl⟩
  ·rename_i hb;rw[l t _ hb];cases e;exact⟨_,rfl,u r H (λ_ _=>rfl) (a8E _) R D rfl⟩
  ·cases e
end
theorem z8{C:Ctx}{call:gJ}(N:qC C call){h0 hs:Hp}{Hs:PH}{q:Nat→Nat × Nat}{r0:Ren}(Q:∀i x,h0.ph i=some x→q (r0 i).1=(i,(r0 i).2.length)):∀(ops:List (aW × Bool)) {r:Ren} {f f':Fr} {h h':Hp} {F:PF} {H:PH} {K:PF→PH→Prop},cr call h0 hs ops f h=some (f',h')→iU h0.length r0 r→Z' h0≤Z' h→Rl r f h F H→DI r hs h Hs →
  (∀r' M H',iU h.length r r'→Z' h≤Z' h'→Rl r' f' h' M H'→K M H')→wpD C Hs (cy call h0 q r0) ops K F H
 |[],r,f,f',h,h',F,H,K,e,_,_,R,D,A=>by cases e;exact A r F H (λ_ _=>rfl) (a8E _) R
 |i::rest,r,f,f',h,h',F,H,K,e,d,l,R,D,A=>by
  simp only[cr]at e;split at e
  ·rename_i W;split at e
   ·rename_i v X V;refine acM N Q d R D V λr' H' O B U S hb=>?_;exact z8 N Q rest e (d.trans O l) (a9F l B) (U.put W hb) S λJ p u y E w=>A J p u (O.trans y B) (a9F B E) w
   ·cases e
  ·cases e
theorem JZ{C:Ctx}{call:gJ}(w:qC C call){hs:Hp}{ops:List (aW × Bool)}{r:Ren}{f f':Fr}{h h':Hp}{F:PF}{H:PH}{K:PF→PH→Prop}(e:cr call h hs ops f h=some (f',h'))(R:Rl r f h F H)
  (d:∀i x,hs.ph i=some x→h.ph i=some x) (A:∀r' p H',iU h.length r r'→Z' h≤Z' h'→Rl r' f' h' p H'→K p H'):∃Hs S,PH.le Hs H∧wpD C Hs S ops K F H:=by
 obtain⟨q,E⟩:=aRX R;have D:DI r hs h (H.only (vS r ((a8A h.length).filter λi=>(Hp.ph hs i).isSome))):=by
  refine⟨d,λo x l=>?_,λi x l=>?_⟩
  ·rw[xG]at l;split at l
   ·rename_i B;obtain⟨i,hi,rfl⟩:=a9B.1 B;obtain⟨-,hi⟩:=List.mem_filter.1 hi;obtain⟨y,u⟩:=Option.isSome_iff_exists.1 hi;refine⟨i,y,u,rfl,?_⟩;have:=R.hp i y (d i y u);rw[this]at l;cases l;rfl
   ·cases l
  ·rw[xG,aG]
   ·exact R.hp i x (d i x l)
   ·exact a9B.2 ⟨i,List.mem_filter.2 ⟨a9M.2 (mL (d i x l)).2,by rw[l];rfl⟩,rfl⟩
 exact⟨_,_,D.le R,z8 w E ops e (λ_ _=>rfl) (a8E _) R D A⟩
theorem aLE{C:Ctx}(call:gJ)(l:qC C call):Q9 C (wP call):=by
 intro ops f h f' h' e r F H R K u;unfold wP at e;split at e
 ·split at e
  ·exact JZ l e R (λi x d=>aoF d) u
  ·split at e
   ·rename_i p w;cases e;exact JZ l w R (λi x d=>d) u
   ·exact JZ l e R (λi x d=>aoF d) u
 ·exact JZ l e R (λi x d=>by simp[Hp.kL]at d) u
theorem aBC{C:Ctx}{tab:Nat→Option bC}{d:Orc}{fz:Nat→Bool}(i:tu C d)(l:∀k pf,tab k=some pf→t7 C k pf)(m n:Nat):qC C (vX tab d fz wP m n):=arH i l (λcall e=>aLE call e) m n
theorem aBB{C:Ctx}{tab:Nat→Option bC}{d:Orc}{fz:Nat→Bool}(i:tu C d)(l:∀k pf,tab k=some pf→t7 C k pf)(m n:Nat){name:Nat}{vs:List PV}{v:PV}(e:yS (vX tab d fz wP m n) name vs=some v):aH C name vs PH.nil (λp _=>p=v):=
 (aiC (r:=up id) (aBC i l m n) e).2.2.2
open Go Go.Na
def ic:List (List PV)→Option (List Nat)
 |[]=>some []
 |r::rs=>match r with
  |[.int .u32 (.ofNat n)]=>if Nat.blt n 4294967296 then match ic rs with
   |some l=>some (n::l)
   |none=>none
   else none
  |_=>none
def zF:PV→Option (List Nat)
 | .aF=>some []
 | .sl s rows=>if a9U s 1&&Nat.ble rows.length 1000 then ic rows else none
 |_=>none
def abP:List PV→Option RF
 |[.bool n,a,b]=>match zF a,zF b with
  |some x,some y=>some ⟨n,x,y⟩
  |_,_=>none
 |_=>none
theorem yq:∀{rs:List (List PV)}{l:List Nat},ic rs=some l→rs=l.map (λ(n:Nat)=>[PV.int .u32 (n:Int)])∧Lim l
 |[],l,h=>by cases h;exact⟨rfl,λx d=>by cases d⟩
 |r::rs,l,h=>by
  simp only[ic]at h;split at h
  ·split at h
   ·rename_i n w;split at h
    ·rename_i y i;cases h;obtain⟨p,u⟩:=yq i;refine⟨by rw[p];rfl,λx d=>?_⟩;rcases a8M.1 d with e|e
     ·subst e;exact of_decide_eq_true (by simpa[Nat.blt_eq]using w)
     ·exact u x e
    ·cases h
   ·cases h
  ·cases h
structure aWK(v:PV)(l:List Nat):Prop where
 co:Co v (aN l)
 lim:Lim l
 len:Z' l≤1000
theorem tU{v:PV}{l:List Nat}(h:zF v=some l):aWK v l:=by
 unfold zF at h;split at h
 ·cases h;exact⟨.nil 1,λx u=>(a8W u).elim,a8H _⟩
 ·split at h
  ·rename_i s rows d;simp only[a8C]at d;obtain⟨e,p⟩:=yq h;have i:=Nat.le_of_ble_eq_true d.2;rw[e,a7Z]at i;refine⟨?_,p,i⟩;rw[Nat.eq_of_beq_eq_true d.1,e];exact .refl _
  ·cases h
 ·cases h
structure a2W(cs:List PV)(x:RF):Prop where
 co:CoL cs x.cells
 ok:x.Ok
theorem Fe{cs:List PV}{x:RF}(h:abP cs=some x):a2W cs x:=by
 unfold abP at h;split at h
 ·split at h
  ·rename_i a b _ _ d e;cases h;have k1:=tU d;have k2:=tU e;exact⟨.cons (.refl _) (.cons k1.co (.cons k2.co .nil)),k1.lim,k2.lim,a9F k1.len aV,a9F k2.len aV⟩
  ·cases h
 ·cases h
noncomputable def fV:aE:={ aBL with a6Q:=[⟨[118,48],0⟩] }
theorem sf:fV.Ok:=aXM (by decide +kernel)
theorem c8:Dm fV 0=[[0]]∧PX fV 0=0∧xN fV=0:=by decide +kernel
theorem Ax:vJ fV 5 1=[[0]]∧eK fV 5 1=0:=by decide +kernel
theorem akA:eP fV=true:=by decide +kernel
theorem aBM:vL fV (mY fV 0)=[[0]]:=by decide +kernel
theorem aIF:Z' fV.a6O≤12∧(∀m∈(mY fV 0).a6P,0≤m∧m<Z' fV.a6P)∧(mY fV 0).a6P.length≤99∧1≤(mY fV 0).k∧(mY fV 0).k≤6∧0≤(mY fV 0).m∧(mY fV 0).m≤4:=by decide +kernel
structure tt(C:Ctx):Prop extends tj C where
 fleet:∀(l:List Nat),(∀x∈l,x<256)→Z' l≤9223372036854775807→∀a6O a6Q:Nat,a6O≤60→a6Q≤50 →
  aH C 27 [.sl 1 (nL l),.int .i64 a6O,.int .i64 a6Q] .nil (aK (.agg (lM (l.take 400) a6O a6Q 0).1.cells))
 val:∀f:aE,f.Ok→aH C 96 [.agg f.cells] .nil (aK (.int .i64 (xN f)))
 all:∀(f:aE)(a7A:Int),f.Ok→aH C 205 [.agg f.cells,.int .i64 a7A] .nil (aK (.tup [lay (Dm f a7A),.int .i64 (PX f a7A)]))
 ID:∀(f:aE)(lv cnt:Int),f.Ok→aH C 230 [.agg f.cells,oV lv cnt] .nil (aK (.tup [lay (vJ f lv cnt),.int .i64 (eK f lv cnt)]))
 sets:∀(f:aE)(p:cL),VF f→Z' f.a6O≤12→(∀m∈p.a6P,0≤m∧m<Z' f.a6P)→Fits p.a6P→1≤p.k→p.k≤6→0≤p.m→p.m≤4→aH C 229 [.agg f.cells,.agg p.cells] .nil (aK (lay (vL f p)))
def or1(g:RF→PV)(vs:List PV):Option PV:=match vs with
 |[.agg x]=>match abP x with
  |some a=>some (g a)
  |none=>none
 |_=>none
def or2(g:RF→RF→PV)(vs:List PV):Option PV:=match vs with
 |[.agg x,.agg y]=>match abP x with
  |some a=>match abP y with
   |some b=>some (g a b)
   |none=>none
  |none=>none
 |_=>none
def orE(vs d:List PV)(v:PV):Option PV:=if PV.DH vs d then some v else none
noncomputable def DO:Orc:=λname vs=>match name with
 |113=>or2 (λa b=>frV (kI a.v b.v)) vs
 |114=>or2 (λa b=>EE a.neg (val a.num) (val a.den) b.neg (val b.num) (val b.den)) vs
 |115=>match vs with
  |[.int .i64 n,.int .i64 d]=>if decide (eH n)&&decide (eH d)then some (gy n d)else none
  |_=>none
 |116=>or1 (λa=>frV (sI a)) vs
 |118=>or1 (λa=>.bool (dV (val a.num) (val a.den))) vs
 |120=>match vs with
  |[.bool neg,x,y]=>match zF x with
   |some a=>match zF y with
    |some b=>if decide (nl (val a)≤512)&&(decide (nl (val b)≤512)&&!a9U (val b) 0)then some (LZ neg (val a) (val b))else none
    |none=>none
   |none=>none
  |_=>none
 |121=>match vs with
  |[x,y]=>match zF x with
   |some a=>match zF y with
    |some b=>if decide (nl (val a)≤256)&&decide (nl (val b)≤256)then some (aN (aM (val a*val b)))else none
    |none=>none
   |none=>none
  |_=>none
 |128=>match vs with
  |[x]=>match zF x with
   |some a=>some (.int .i64 (dJ (val a):Nat))
   |none=>none
  |_=>none
 |27=>orE vs [.aF,.int .i64 1,.int .i64 0] (.agg aBL.cells)
 |96=>orE vs [.agg fV.cells] (.int .i64 0)
 |205=>orE vs [.agg fV.cells,.int .i64 0] (.tup [lay [[0]],.int .i64 0])
 |230=>orE vs [.agg fV.cells,oV 5 1] (.tup [lay [[0]],.int .i64 0])
 |229=>orE vs [.agg fV.cells,.agg (mY fV 0).cells] (lay [[0]])
 |_=>none
section
variable {C:Ctx}
theorem aGS{name:Nat}{g:RF→PV}(h:∀x:RF,x.Ok→aH C name [.agg x.cells] .nil (aK (g x))){vs:List PV}{v:PV}(e:or1 g vs=some v):aH C name vs .nil (aK v):=by
 unfold or1 at e;split at e
 ·split at e
  ·rename_i a d;cases e;have k:=Fe d;exact(h a k.ok).args (.cons (CoL.agg k.co) .nil)
  ·cases e
 ·cases e
theorem aGT{name:Nat}{g:RF→RF→PV}(h:∀x y:RF,x.Ok→y.Ok→aH C name [.agg x.cells,.agg y.cells] .nil (aK (g x y))){vs:List PV}{v:PV}(e:or2 g vs=some v):aH C name vs .nil (aK v):=by
 unfold or2 at e;split at e
 ·split at e
  ·rename_i a d;split at e
   ·rename_i b i;cases e;have k:=Fe d;have k2:=Fe i;exact(h a b k.ok k2.ok).args (.cons (CoL.agg k.co) (.cons (CoL.agg k2.co) .nil))
   ·cases e
  ·cases e
 ·cases e
theorem bu{name:Nat}{vs d:List PV}{v w:PV}(h:aH C name d .nil (aK w))(e:orE vs d w=some v):aH C name vs .nil (aK v):=by
 unfold orE at e;split at e
 ·rename_i i;cases e;rw[PV.xQ _ _ i];exact h
 ·cases e
theorem aAN(L:tt C){name:Nat}{vs:List PV}{v:PV}(e:DO name vs=some v):aH C name vs .nil (aK v):=by
 unfold DO at e;split at e
 ·exact aGT L.plus e
 ·exact aGT L.ord e
 ·split at e
  ·split at e
   ·rename_i d;simp only[a8C,decide_eq_true_eq]at d;cases e;exact L.frac _ _ d.1 d.2
   ·cases e
  ·cases e
 ·exact aGS L.red e
 ·exact aGS (λx l=>L.valid x.neg x.num x.den l.1 l.2.1 l.2.2.1 l.2.2.2) e
 ·split at e
  ·split at e
   ·rename_i a i;split at e
    ·rename_i b p;split at e
     ·rename_i d;simp only[a8C,decide_eq_true_eq,Bool.not_eq_true']at d;cases e;have k1:=tU i;have k2:=tU p;exact(L.lowest _ a b k1.lim k2.lim (a9F k1.len aV) (a9F k2.len aV) d.1 d.2.1 (λw=>by rw[w]at d;simp at d)).args (.cons (.refl _) (.cons k1.co (.cons k2.co .nil)))
     ·cases e
    ·cases e
   ·cases e
  ·cases e
 ·split at e
  ·split at e
   ·rename_i a i;split at e
    ·rename_i b p;split at e
     ·rename_i d;simp only[a8C,decide_eq_true_eq]at d;cases e;have k1:=tU i;have k2:=tU p;exact(L.times a b k1.lim k2.lim (a9F k1.len aV) (a9F k2.len aV) d.1 d.2).args (.cons k1.co (.cons k2.co .nil))
     ·cases e
    ·cases e
   ·cases e
  ·cases e
 ·split at e
  ·split at e
   ·rename_i a i;cases e;have k1:=tU i;exact(L.bits a k1.lim (a9F k1.len aV)).args (.cons k1.co .nil)
   ·cases e
  ·cases e
 ·have B:=L.fleet [] (λx l=>by cases l) aV 1 0 aV aV;have u:aH C 27 [.sl 1 (nL []),.int .i64 (1:Nat),.int .i64 (0:Nat)] .nil (aK (.agg aBL.cells)):=B;exact bu (u.args (.gg (.nil 1) (.gg (.refl _) (.gg (.refl _) .aXI)))) e
 ·have h:=L.val fV sf;rw[c8.2.2]at h;exact bu h e
 ·have h:=L.all fV 0 sf;rw[c8.1,c8.2.1]at h;exact bu h e
 ·have h:=L.ID fV 5 1 sf;rw[Ax.1,Ax.2]at h;exact bu h e
 ·obtain⟨i,p,E,y,h5,A,h7⟩:=aIF;have h:=L.sets fV (mY fV 0) (VF.of akA) i p (by unfold Fits;omega) y h5 A h7;rw[aBM]at h;exact bu h e
 ·cases e
theorem aUO(L:tt C):tu C DO:=λ_ _ _ e=>(aAN L e).ym λ_ _ h=>h.1
theorem aH.bare{name:Nat}{vs:List PV}{H:PH}{v:PV}(h:aH C name vs H (λx _=>x=v)):aH C name vs H (aK v):=by
 refine⟨h.1,λE w y l hW d=>(h.2 E w y l hW d).mono λA B p=>?_⟩;obtain⟨u,pv,e,H',g1,g2,g3,g4,i⟩:=p;exact⟨u,pv,e,.nil,g1,g2.weaken a_,g3,g4.drop a_,i,rfl⟩
end
abbrev OrL:=List (Nat × List PV × PV)
def aAM:OrL→Orc
 |[],_,_=>none
 |e::t,name,vs=>cond (a9U e.1 name&&PV.DH vs e.2.1) (some e.2.2) (aAM t name vs)
def wJ(o:Orc)(L:OrL):Orc:=λname vs=>match o name vs with
 |some v=>some v
 |none=>aAM L name vs
structure rU(C:Ctx)(L:OrL):Prop where
 go:∀e∈L,aH C e.1 e.2.1 .nil (aK e.2.2)
section
variable {C:Ctx}
theorem rU.nil:rU C []:=⟨λe h=>by cases h⟩
theorem rU.cons{L:OrL}(h:rU C L){n:Nat}{vs:List PV}{v:PV}(d:aH C n vs .nil (aK v)):rU C ((n,vs,v)::L):=by
 refine⟨λe he=>?_⟩;rcases a8M.1 he with rfl|he
 ·exact d
 ·exact h.go e he
theorem aqU:∀{L:OrL},rU C L→∀{name:Nat}{vs:List PV}{v:PV},aAM L name vs=some v→aH C name vs .nil (aK v)
 |[],_,_,_,_,e=>by cases e
 |(n,l,w)::t,h,name,vs,v,e=>by
  simp only[aAM]at e;cases d:(a9U n name&&PV.DH vs l)with
  |true =>rw[d]at e;simp only[a8C]at d;cases e;have:=h.go _ (List.mem_cons_self ..);rw[←Nat.eq_of_beq_eq_true d.1,PV.xQ _ _ d.2];exact this
  |false =>rw[d]at e;exact aqU ⟨λe i=>h.go e (List.mem_cons_of_mem _ i)⟩ e
theorem aGU(L0:tt C){L:OrL}(h:rU C L):tu C (wJ DO L):=by
 intro name vs v e;unfold wJ at e;split at e
 ·rename_i w d;cases e;exact aUO L0 name vs _ d
 ·exact(aqU h e).ym λ_ _ h=>h.1
theorem uD(L0:tt C){L:OrL}(h:rU C L){tab:Nat→Option bC}{fz:Nat→Bool}(d:∀k pf,tab k=some pf→t7 C k pf)(m n:Nat){name:Nat}{vs:List PV}{v:PV}(e:yS (vX tab (wJ DO L) fz wP m n) name vs=some v):aH C name vs .nil (aK v):=
 aH.bare (aBB (aGU L0 h) d m n e)
end
structure bH(C:Ctx):Prop where
 r0:bS C 0 Yi
 r1:bS C 1 azP
 r2:bS C 2 aNP
 r4:bS C 4 Qr
 r5:bS C 5 aNU
 r7:bS C 7 Qq
 r27:bS C 27 X7
 r28:bS C 28 aNS
 r29:bS C 29 azS
 r30:bS C 30 aPS
 r31:bS C 31 aBR
 r32:bS C 32 aPU
 r33:bS C 33 udiv
 r34:bS C 34 aPY
 r35:bS C 35 aBX
 r36:bS C 36 aQA
 r37:bS C 37 aQI
 r38:bS C 38 aCC
 r39:bS C 39 Fq
 r40:bS C 40 aBV
 r41:bS C 41 afF
 r42:bS C 42 afI
 r43:bS C 43 aCA
 r44:bS C 44 afT
 r45:bS C 45 uup
 r46:bS C 46 aCD
 r47:bS C 47 aQN
 r48:bS C 48 agH
 r49:bS C 49 aCK
 r50:bS C 50 Q2
 r51:bS C 51 agP
 r52:bS C 52 F6
 r53:bS C 53 aCN
 r54:bS C 54 aCO
 r55:bS C 55 aQT
 r56:bS C 56 ahA
 r57:bS C 57 aCH
 r58:bS C 58 F0
 r59:bS C 59 aCP
 r60:bS C 60 agZ
 r61:bS C 61 UK
 r62:bS C 62 Ga
 r63:bS C 63 ahB
 r64:bS C 64 F9
 r65:bS C 65 Gb
 r66:bS C 66 aRB
 r67:bS C 67 ahY
 r68:bS C 68 aQZ
 r69:bS C 69 aQV
 r70:bS C 70 ahI
 r71:bS C 71 ahJ
 r72:bS C 72 tg
 r73:bS C 73 ahW
 r74:bS C 74 ahX
 r75:bS C 75 Gf
 r76:bS C 76 ix
 r81:bS C 81 Fi
 r88:bS C 88 acD
 r95:bS C 95 aLV
 r96:bS C 96 aMF
 r97:bS C 97 T7
 r98:bS C 98 ayE
 r99:bS C 99 ayF
 r100:bS C 100 ayG
 r101:bS C 101 gone
 r102:bS C 102 ayK
 r103:bS C 103 U4
 r104:bS C 104 gin
 r105:bS C 105 aLW
 r106:bS C 106 aLX
 r107:bS C 107 ayL
 r108:bS C 108 ayM
 r109:bS C 109 Vk
 r110:bS C 110 ayP
 r111:bS C 111 ayI
 r112:bS C 112 aLZ
 r113:bS C 113 Ds
 r114:bS C 114 aLL
 r115:bS C 115 Qm
 r116:bS C 116 gl
 r117:bS C 117 T0
 r118:bS C 118 T3
 r119:bS C 119 aLK
 r120:bS C 120 AM
 r121:bS C 121 T2
 r122:bS C 122 ayC
 r123:bS C 123 Qp
 r124:bS C 124 xq
 r125:bS C 125 xr
 r126:bS C 126 gw
 r127:bS C 127 aNV
 r128:bS C 128 azW
 r129:bS C 129 aNY
 r130:bS C 130 aNZ
 r131:bS C 131 aOA
 r132:bS C 132 aAF
 r133:bS C 133 aOC
 r134:bS C 134 aOE
 r135:bS C 135 aAH
 r136:bS C 136 Eo
 r137:bS C 137 Zz
 r138:bS C 138 PE
 r139:bS C 139 qw
 r140:bS C 140 aaC
 r141:bS C 141 aaD
 r142:bS C 142 au
 r143:bS C 143 nup
 r150:bS C 150 acV
 r152:bS C 152 aBO
 r154:bS C 154 aBQ
 r156:bS C 156 aBK
 r157:bS C 157 acW
 r158:bS C 158 aRT
 r159:bS C 159 adV
 r160:bS C 160 da
 r161:bS C 161 adL
 r201:bS C 201 aKE
 r203:bS C 203 Sf
 r205:bS C 205 call17
 r206:bS C 206 S1
 r207:bS C 207 Dq
 r210:bS C 210 axM
 r211:bS C 211 S3
 r215:bS C 215 ik
 r217:bS C 217 acB
 r218:bS C 218 aOT
 r219:bS C 219 iq
 r330:bS C 330 Dr
 r333:bS C 333 Sy
 r363:bS C 363 azK
 r364:bS C 364 pn
 r365:bS C 365 azH
 r366:bS C 366 Ws
 r229:∃asg bdy,t8 C 229 (awG asg bdy)
 r230:∃asg bdy,t8 C 230 (awF asg bdy)
namespace L
theorem uZ{C:Ctx}(c:bH C):wO C:=
 have len:∀xs,Lim xs→Z' xs≤35184372087808→aH C 138 [aN xs] .nil (aK (.int .i64 (nl (val xs):Nat))):=λxs h l=>c.r138.go (aAE xs h l) rfl
 {length:=len
  large:=λxs h l=>c.r137.go (aFV xs (len xs h l)) rfl
  sized:=λxs h l=>(c.r141.go (aFY xs h (len xs h l)) rfl).seen
  trim:=λxs h l=>(c.r135.go (aOF xs h l (len xs h l)) rfl).seen
  make:=λv h=>c.r132.go (aOB v h len) rfl
  cmp:=λxs ys d e i p=>c.r129.go (aUD xs ys d e i p (len xs d i) (len ys e p)) rfl }
theorem aUA{C:Ctx}(c:bH C):Qi C:=
 {subtract:=λA W Z v f o hW l i e p d=>c.r142.go (aaJ A W Z v f hW l i e p d o) rfl
  restore:=λA W Z v o hW l i e=>c.r139.go (ajN A W Z v hW l i e o) rfl }
theorem azU{C:Ctx}(c:bH C):Ri C:=
 {L:=uZ c
  D:=aUA c
  up:=λa s i w e=>c.r143.go (aXL a s i w e) rfl
  short:=λa d i l p e=>c.r140.go (aFX (uZ c) a d i l p e) rfl
  lengthO:=λxs o x u=>c.r138.go (ajM xs x u o) rfl }
theorem yn{C:Ctx}(c:bH C)(A B:Nat)(hB:B≠0)(e:nl A≤900)(d:nl B≤900):aH C 136 [aN (aM A),aN (aM B)] .nil (aK (vQ A B)):=
 (c.r136.go (aAA (azU c) A B hB e d) rfl).seen
theorem xF{C:Ctx}(c:bH C):yM C:=
 {uZ c with
  bits:=λxs h l=>c.r128.go (aNX xs h l ((uZ c).length xs h l)) rfl
  add:=λxs ys d e i p=>(c.r127.go (aUB (uZ c) xs ys d e i p) rfl).seen
  sub:=λxs ys d e i p=>(c.r134.go (aUI (uZ c) xs ys d e i p) rfl).seen
  mul:=λxs ys d e i p=>(c.r133.go (aUH (uZ c) xs ys d e i p) rfl).seen
  gcd:=λxs ys d e i p=>(c.r131.go (aUG (uZ c) (yn c) xs ys d e i p) rfl).seen
  div:=λxs ys d e i p=>(c.r130.go (aUE (uZ c) (yn c) xs ys d e i p) rfl).seen }
theorem GA{C:Ctx}(c:bH C):PT C:=
 {xF c with
  times:=λa b d hb e i l p=>c.r121.go (aEM (xF c) a b d hb e i l p) rfl
  zero:=λneg a b d e=>c.r122.go (aLP (xF c) neg a b d e) rfl
  valid:=λneg a b d hb e i=>c.r118.go (aEN (xF c) neg a b d hb e i) rfl
  abs:=λv w x=>c.r119.go (aSO (xF c) v w x) rfl
  lowest:=λneg a b d hb e i l p u=>(c.r120.go (axY (xF c) neg a b d hb e i l p u) rfl).seen }
theorem Tw{C:Ctx}(c:bH C)(x y:RF)(d:x.Ok)(e:y.Ok):aH C 113 [.agg x.cells,.agg y.cells] .nil (aK (frV (kI x.v y.v))):=
 (c.r113.go (aSP (GA c) x.neg y.neg x.num x.den y.num y.den d.1 d.2.1 e.1 e.2.1 d.2.2.1 d.2.2.2 e.2.2.1 e.2.2.2) rfl).seen
theorem gk{C:Ctx}(c:bH C):tj C:=
 {GA c with
  frac:=λn d w p=>(c.r115.go (aLN (GA c) n d w.1 w.2 p.1 p.2) rfl).seen
  red:=λx e=>by rw[←aAT];exact(c.r116.go (axZ (GA c) x.neg x.num x.den e.1 e.2.1 e.2.2.1 e.2.2.2) rfl).seen
  ord:=λx y e i=>(c.r114.go (aSQ (GA c) x.neg y.neg x.num x.den y.num y.den e.1 e.2.1 i.1 i.2.1 e.2.2.1 e.2.2.2 i.2.2.1 i.2.2.2) rfl).seen
  plus:=Tw c
  tot:=λl u=>(c.r117.go (aSW (GA c) (Tw c) l u.all u.fits) rfl).seen }
theorem FZ{C:Ctx}(c:bH C):yI C:=
 have inn:∀n lo hi:Int,aH C 104 [.int .i64 n,.int .i64 lo,.int .i64 hi] .nil (aK (.bool (within n lo hi))):=λn lo hi=>(c.r104.go (aWZ n lo hi) rfl).seen;have uO:∀x:RF,x.Ok→aH C 97 [.agg x.cells] .nil (aK (.bool (bT x))):=λx i=>(c.r97.go (aEO (xF c) x i) rfl).seen;have lim:∀x:RF,x.Ok→aH C 105 [.agg x.cells] .nil (aK (.bool (dT x))):=λx i=>(c.r105.go (aSZ (gk c) x i) rfl).seen;have d:∀n:Nat,aH C 126 [.int .u8 n] .nil (aK (.bool (gR n))):=λn=>c.r126.go (azJ n) rfl;have e:∀n:Nat,aH C 124 [.int .u8 n] .nil (aK (.bool (qF n))):=λn=>c.r124.go (aFF n) rfl
 {gk c with
  inn:=inn
  uO:=uO
  lim:=lim
  one:=λx i=>(c.r101.go (aTB (gk c) x i) rfl).seen
  allf:=λp fn l u h=>(c.r99.go (aLR p fn l u h) rfl).seen
  alli:=λp fn l u h=>(c.r100.go (aLS p fn l u h) rfl).seen
  allb:=λp fn l u h=>(c.r98.go (aLQ p fn l u h) rfl).seen
  ends1:=λb=>(c.r103.go (aEP b) rfl).seen
  num1:=λn=>(c.r107.go (aLY inn n) rfl).seen
  rate1:=λx i=>(c.r109.go (aER lim uO x i) rfl).seen
  name:=λs=>c.r123.go (aNF d (λn=>c.r125.go (aFJ d e n) rfl) s) rfl }
theorem Tl{C:Ctx}(c:bH C):Ra C:=
 {FZ c with
  num:=λp hp=>(c.r106.go (aTA (FZ c) p hp) rfl).seen
  rate:=λp hp=>(c.r108.go (aMA (FZ c) p hp) rfl).seen
  uniq:=λl d=>(c.r110.go (aME (FZ c) l d) rfl).seen }
theorem Tn{C:Ctx}(c:bH C):ti C:=
 {Tl c with
  ends:=λl e d=>(c.r102.go (aLU (FZ c) l e d) rfl).seen }
theorem aLM{C:Ctx}(c:bH C):oQ C:=
 {Tn c with
  law:=λl e=>(c.r95.go (aSY (Tn c) l e) rfl).seen
  pol:=λp n hp i=>(c.r112.go (aTC (Tl c) p hp n i) rfl).seen
  a6X:=λf d=>(c.r111.go (aSX (FZ c) f d) rfl).seen }
theorem JC{C:Ctx}(c:bH C)(f:aE)(d:f.Ok):aH C 96 [.agg f.cells] .nil (aK (.int .i64 (xN f))):=(c.r96.go (aTF (aLM c) f d) rfl).seen
theorem arK{C:Ctx}(c:bH C):avG C:=
 {valid:=λf d=>(c.r161.go (aIJ (JC c) f d) rfl).seen
  aLO:=λf v e h=>(c.r156.go (aPJ f e v h) rfl).seen }
theorem acX{C:Ctx}(c:bH C):Rp C:=
 {arK c with
  room:=λf room e=>(c.r152.go (aPO (arK c) f e room) rfl).freeze
  loads:=λf l d i=>(c.r157.go (aIG f d l i) rfl).seen }
theorem aPK{C:Ctx}(c:bH C):aDE C:=
 {acX c with
  shape:=λf l v hV e i d=>(c.r160.go (aII (acX c) f hV l e v i d) rfl).seen }
theorem acY{C:Ctx}(c:bH C):OL C:=
 {aPK c with
  bad:=λo5 v k w=>c.r159.go (aIK o5 v k w) rfl }
theorem acZ{C:Ctx}(c:bH C):Rq C:=
 {acY c with
  row:=λf l v hV d p e i=>(c.r158.go (aPR (acY c) f hV d l v p e i) rfl).seen }
theorem aVI{C:Ctx}(c:bH C):aRE C:=
 {acZ c with
  viol:=λf l room d e=>(c.r154.go (aPQ (acZ c) f d l e room) rfl).seen }
theorem sX{C:Ctx}(c:bH C):uN C:={ trimM:=λxs h l=>c.r38.go (aQJ xs h l) rfl }
theorem abF{C:Ctx}(c:bH C):Rj C:=
 {sX c with
  make:=λv h=>(c.r35.go (aPZ (sX c) v h) rfl).seen
  large:=λxs h l=>(c.r41.go (aIN (sX c) xs h l) rfl).seen
  cmp:=λxs ys d e i p=>c.r32.go (aVK (sX c) xs ys d e i p) rfl }
theorem abH{C:Ctx}(c:bH C):Rm C:=
 {abF c with
  minus:=λa b e hb i p d=>(c.r42.go (aIO (sX c) a b e hb i p d) rfl).seen
  times:=λa b e hb d l=>(c.r44.go (aIR (sX c) a b e hb d l) rfl).seen }
theorem rx{C:Ctx}(c:bH C):tz C:=
 {abH c with
  plus:=λa b i hb d e=>(c.r43.go (aQG (sX c) a b i hb d e) rfl).seen }
theorem aOR{C:Ctx}(c:bH C):XO C:=
 {rx c with
  bits:=λxs h l=>c.r31.go (aPT (sX c) xs h l) rfl
  upM:=λa n e d i p=>c.r45.go (aYI (sX c) a n e d i p) rfl
  down:=λa n e d i=>(c.r40.go (aPX (sX c) a n e d i) rfl).seen }
theorem ru{C:Ctx}(c:bH C):tw C:=
 {abF c with
  divide:=λA B hB e d=>(c.r39.go (aBU (aOR c) A B hB e d) rfl).seen }
theorem abG{C:Ctx}(c:bH C):Rk C:=
 {ru c with
  gcd:=λa b d hb e i=>(c.r34.go (aVM (ru c) a b d hb e i) rfl).seen
  div:=λa b d hb e i=>(c.r33.go (aVL (ru c) a b d hb e i) rfl).seen }
theorem aqW{C:Ctx}(c:bH C):avE C:=
 {abG c with
  lowest:=λneg a b i hb l p u w e=>(c.r58.go (aCL (abG c) neg a b i hb l p u w e) rfl).seen
  size:=λv d=>c.r59.go (aQS v d.1 d.2) rfl }
theorem TX{C:Ctx}(c:bH C):tx C:=
 {aqW c with
  fmk:=λn d i e=>(c.r50.go (aQP (aqW c) n d i e) rfl).seen }
theorem Ec{C:Ctx}(c:bH C)(hi:AI C):PW C:=
 {TX c with
  int:=λn d=>(c.r47.go (atQ (TX c) n d) rfl).seen
  itoa:=hi
  next:=λl v T o n a d e=>c.r4.go (aNT T o n a d e) rfl }
theorem Yv{C:Ctx}(c:bH C)(hi:AI C):Rf C:=
 {Ec c hi with
  frac:=λl v T o a d=>c.r1.go (aNM (Ec c hi) T o a d) rfl }
theorem Yw{C:Ctx}(c:bH C)(hi:AI C):yL C:=
 {Yv c hi with
  rep:=λl v T o a m e d=>c.r5.go (aTZ (Yv c hi) T o a m e d) rfl
  name:=λs n p i=>c.r29.go (aNR (Ec c hi) s n p i) rfl }
theorem Yx{C:Ctx}(c:bH C)(hi:AI C):rB C:=
 {Yw c hi with
  law:=λl v T o fD a i d e=>c.r2.go (aTW (Yw c hi) T o fD a i d e) rfl }
theorem Yy{C:Ctx}(c:bH C)(hi:AI C):Rh C:=
 {Yx c hi with
  grow:=λl v T mc a6O d e i=>Vq (Yx c hi) T mc a6O d e i (λargs H R p h=>c.r7 args H R (by rw[p];decide) h) 4 (a8E _) }
theorem aNN{C:Ctx}(c:bH C)(hi:AI C):aDC C:=
 {Yy c hi with
  new:=λl hb p=>c.r28.go (aTX l hb p) rfl
  fleet:=λl v T o a6O a6Q a d e i=>XM.exact (c.r0.go (aFP (Yy c hi) T o a6O a6Q a d e i) rfl) }
theorem E7{C:Ctx}(c:bH C):Qj C:=
 {TX c with
  int:=λn l=>(c.r47.go (atQ (TX c) n l) rfl).seen
  mul:=λa b d hb e i=>(c.r36.go (aVN (abH c) a b d hb e i) rfl).seen
  add:=λa b d hb e i=>(c.r30.go (aVJ (rx c) a b d hb e i) rfl).seen
  sub:=λa b d hb e i=>(c.r37.go (aVQ (rx c) a b d hb e i) rfl).seen }
theorem ry{C:Ctx}(c:bH C):t6 C:=
 {E7 c with
  valid:=λx d=>c.r56.go (aJI (E7 c) x.neg x.num x.den d.1 d.2.1 d.2.2.1 d.2.2.2) rfl
  big:=λx=>c.r48.go (aJF x.1 (aM x.2.1) (aM x.2.2)) rfl }
theorem abI{C:Ctx}(c:bH C):Rn C:=
 {ry c with
  fits:=λx=>(c.r57.go (aQL (ry c) x) rfl).seen
  red:=λx e=>(c.r52.go (aCM (ry c) x e) rfl).seen
  prod:=λa b d hb i l p u=>c.r60.go (aJH (E7 c) a b d hb i l p u) rfl }
theorem HX{C:Ctx}(c:bH C):GR C:=
 {abI c with
  order:=λx y d e i l=>c.r51.go (aJG (abI c) x y d e i l) rfl }
theorem aqX{C:Ctx}(c:bH C):avF C:=
 {HX c with
  less:=λx y d e i l=>c.r49.go (aQO (HX c) x y d e i l) rfl
  same:=λx y d e i l=>c.r53.go (aQQ (HX c) x y d e i l) rfl
  sign:=λx d i=>c.r54.go (aQR (HX c) x d i) rfl
  plus:=λx y d e=>(c.r46.go (aVR (HX c) x y d e) rfl).seen }
theorem rt{C:Ctx}(c:bH C):tv C:=
 {aqX c with
  sum:=λl e d=>(c.r55.go (aVT (aqX c) l e d) rfl).seen
  inn:=λn lo hi=>c.r76.go (aCX n lo hi) rfl
  code:=λk m=>c.r61.go (aPE k m) rfl }
theorem Kr{C:Ctx}(c:bH C):Dg C:=
 {rt c with
  small:=λx d=>c.r74.go (aJR (rt c) x d) rfl
  nums:=λk m q s0 s1 s2 s3 s4=>c.r72.go (akK (rt c) k m q s0 s1 s2 s3 s4) rfl
  sizes:=λe i l p u w=>c.r73.go (aJQ e i l p u w) rfl }
theorem Ks{C:Ctx}(c:bH C):Dh C:=
 {Kr c with
  smalls:=λl d n=>c.r75.go (aCW (Kr c) l d n) rfl }
theorem Kt{C:Ctx}(c:bH C):Di C:=
 {Ks c with
  reps:=λl d m=>c.r66.go (aVZ (Ks c) l d m) rfl }
theorem Ku{C:Ctx}(c:bH C):Dj C:=
 have d:∀n:Nat,aH C 65 [.int .u8 n] .nil (aK (.bool (gR n))):=λn=>c.r65.go (aCS n) rfl;have e:∀n:Nat,aH C 63 [.int .u8 n] .nil (aK (.bool (qF n))):=λn=>c.r63.go (aJJ n) rfl
 {Kt c with
  name:=λs=>c.r62.go (aCR d (λn=>c.r64.go (aCQ d e n) rfl) s) rfl
  index:=λl i s=>c.r71.go (aJO l i s) rfl }
theorem Kv{C:Ctx}(c:bH C):uM C:=
 {Ku c with
  fresh:=λl e s w H d=>c.r70.go (aJN (Ku c) l e s w H d) rfl }
theorem aHD{C:Ctx}(c:bH C):xP C:=
 {Kv c with
  law:=λl d=>c.r68.go (aVY (Kv c) l d) rfl }
theorem aHE{C:Ctx}(c:bH C):Dk C:=
 {aHD c with
  dur:=λm rep e t h i d=>c.r69.go (aVX (Kt c) m rep e t h i d) rfl }
theorem ahG{C:Ctx}(c:bH C)(f:aE)(d:f.Ok):aH C 67 [.agg f.cells] .nil (aK (.bool (eP f))):=c.r67.go (aJU (aHE c) f d) rfl
theorem aYM{C:Ctx}(c:bH C):aCZ C:=
 {adm:=λf p set hV hp d i=>c.r201.go (aSB f hV p hp d set i) rfl
  known:=λf a7A e=>c.r203.go (aDM (JC c) f e a7A) rfl }
theorem auF{C:Ctx}(c:bH C):th C:=
 {aYM c with
  subs:=λn top=>c.r210.go (aKV n top) rfl
  iter:=λl o1 o2 n top J y e i w x u A H p d b1 b2 g1 g2=>c.r211.go (aKM J y e i w x u p d b1 b2 g1 g2) rfl }
theorem Gd{C:Ctx}(c:bH C):Q6 C:=
 {auF c with
  sets:=λf p hV w hp d x l y u=>by obtain⟨e,i,r⟩:=c.r229;exact(r.go (aKT (auF c) e i f hV w p hp d x l y u) rfl).seen }
theorem aVV{C:Ctx}(c:bH C):aDA C:=
 {Gd c with
  val:=JC c
  units:=λf lv hV d h5=>(c.r206.go (aDV f hV lv d h5) rfl).seen
  choose:=λm n e i=>c.r207.go (avW m n e i) rfl }
theorem aYN{C:Ctx}(c:bH C):aDD C:=
 {valid:=ahG c
  uO:=λf d level p l e i=>c.r88.go (aHT f p d l level e i) rfl }
theorem Pd{C:Ctx}(c:bH C):∀k a n:Nat,k≤10→a≤1000→n≤40→aH C 215 [.int .i64 a,.int .i64 n,.int .i64 k] .nil (aK (lay (nZ (dU n k a))))
 |0,a,n,l,i,d=>(c.r215.go (zj 0 a n l i d λ_ _ _ h=>by cases h) rfl).seen
 |k+1,a,n,l,i,d=>(c.r215.go (zj (k+1) a n l i d λp u h e=>by cases e;exact Pd c k p n Om h d) rfl).seen
theorem auG{C:Ctx}(c:bH C):Q7 C:=
 {valid:=ahG c
  choose:=Pd c
  a6O:=λf dom d=>(c.r81.go (aBD (aYN c) f d dom) rfl).seen
  has:=λl x h=>c.r218.go (aUY l h x) rfl }
theorem aVW{C:Ctx}(c:bH C):XL C:=
 { auG c with units:=λf lv e i d h5=>(c.r217.go (aHS (auG c) f e i lv d h5) rfl).seen }
theorem anY{C:Ctx}(c:bH C)(f:aE)(lv d:Int)(l:f.Ok):aH C 230 [.agg f.cells,oV lv d] .nil (aK (.tup [lay (vJ f lv d),.int .i64 (eK f lv d)])):=by
 obtain⟨e,i,r⟩:=c.r230;exact(r.go (aKR (aVV c) e i f l lv d) rfl).seen
theorem JN{C:Ctx}(c:bH C)(hi:AI C):tt C:=
 {gk c with
  fleet:=λl hb p a6O a6Q d e=>(c.r27.go (aFO (aNN c hi) l hb p a6O a6Q d e) rfl).seen
  val:=JC c
  all:=λf a7A i=>(c.r205.go (aDK (Gd c) f i a7A) rfl).seen
  ID:=anY c
  sets:=(Gd c).sets }
theorem Wn{C:Ctx}(c:bH C)(hi:AI C):Qh C:={ fleet:=(JN c hi).fleet,ID:=anY c }
theorem aTP{C:Ctx}(c:bH C)(hi:AI C):aCY C:=
 {Wn c hi with
  solve:=λf lv d i e=>c.r333.go (awH (Wn c hi) f i lv d e) rfl
  priced:=λf lv d i e=>c.r330.go (aiE (Wn c hi) f i lv d e) rfl }
theorem HR{C:Ctx}(c:bH C)(hi:AI C):ga C:=
 {aTP c hi with
  iq:=λf lv d e=>(c.r219.go (aPA (aVW c) f e lv d) rfl).seen
  holds0:=λf e=>((c.r150.go (aIE (aVI c) f e [] ⟨by decide,by decide⟩ []) rfl).seen).args (.gg (.refl _) (.gg (.nil 1) (.gg (.nil 1) .aXI))) }
theorem aET{C:Ctx}(c:bH C)(hi:AI C)(l:aH C 362 [] .nil (aK (.bool true))):aDB C:=
 {HR c hi with
  make:=λf lv d i e=>c.r363.go (aFL (HR c hi) f i lv d e) rfl
  improve:=λf lv d i e=>c.r364.go (Wy (HR c hi) f i lv d e) rfl
  cost:=λf lv d i e=>c.r365.go (aFA (HR c hi) f i lv d e) rfl
  check:=λf lv d i e=>c.r366.go (azG (HR c hi) f i lv d e) rfl
  uc:=l }
end L
theorem aES{C:Ctx}(c:bH C)(hi:AI C)(e:aH C 362 [] .nil (aK (.bool true)))(r:bS C 361 xv)(l:List Nat)(hb:∀x∈l,x<256)(i:Z' l≤9223372036854775807)(lv d:Int) :
  aH C 361 [.sl 1 (nL l),.int .i64 lv,.int .i64 d] .nil (aK (.bool true)):=r.go (aFN (L.aET c hi e) l hb i lv d) rfl
end Go.PM
