/-Lemmas for the law. No condition.-/
import Derived.Test.YtfeiflgckfjohaaGreatDoorIM2
import Derived.Lib.ItoaNum
import Derived.RangeFuncRecord
set_option linter.unusedSimpArgs false
set_option linter.unusedVariables false
open Nat renaming reduceEqDiff->γ,reduceAdd->δ,reduceSub->ε,reduceMul->ζ,reduceLT->η,reduceLeDiff->θ,reduceBEq->τ
open Int renaming reduceLT->ι,reduceLE->κ,reduceEq->μ,reduceToNat->ν,reduceAdd->ξ,reduceNeg->ο,reduceBEq->ρ,reduceBNe->σ
open List renaming reduceReplicate->υ
open List renaming length_map->asO,range->asP,getElem_mem->asS,replicate->asT,getD_eq_getElem?_getD->asW,length_append->asX,getElem?_eq_getElem->asZ,length_singleton->atD,length_take->atF,mem_cons->atG,all_eq_true->atI,map_append->atK,take_length->atL,mem_map->atM,take_of_length_le->atP,mem_range->atQ,not_mem_nil->atS,map_cons->atU,append_assoc->atV,getElem?_eq_some_iff->atX,length_cons->atZ,append_nil->auA,mem_singleton->auB,mem_append->auC,length_set->auD,getElem?_eq_none->auE,getElem_of_mem->auG,map_nil->auH,getElem_map->auN,getElem?_append_right->auS,length_drop->auU,range'->auX,mem_of_getElem?->auZ,length_nil->avD,Sublist->avE,drop_eq_getElem_cons->avF,drop_zero->avG,getElem?_append_left->avM,Perm->avN,map_congr_left->avO,set_append_right->avQ,set_cons_zero->avR,map_map->avT,nodup_append->avU,contains_iff_mem->avX,cons_append->awD,length->awE,all_append->awG,take_append_drop->awK,mem_cons_of_mem->awN,nil_append->awO,all_cons->awS,mem_of_mem_take->awU,getElem_cons_zero->axF,getElem_cons_succ->axH
open Nat renaming zero_le->asQ,gcd->asR,le_refl->asU,zero_add->atA,le_trans->atT,lt_or_ge->atY,add_zero->auI,mul_add->auJ,sub_self->auK,add_mul->auM,mul_le_mul_right->auO,mul_assoc->auP,eq_zero_or_pos->avB,mul_comm->avC,div_le_self->avI,min_eq_left->avJ,mod_eq_of_lt->avV,add_assoc->avZ,pos_of_ne_zero->awA,pow_succ->awL,mul_le_mul_left->awP,mul_le_mul->awV,pow_le_pow_right->awW,div_lt_iff_lt_mul->axC
open Bool renaming and_eq_true->asV,false_and->atE,not_false->atH,true_and->atJ,false_eq_true->auQ,and_true->avK,and_self->avW
open Option renaming map_eq_some_iff->atB,map_some->atO,getD_some->auV,some->auY
open Int renaming toNat_natCast->auL
open Array renaming replicate->auW,getElem?_eq_some_iff->awB,getElem?_eq_getElem->awR,getD_eq_getD_getElem?->axD
open List renaming length->Z'
set_option maxRecDepth 100000
set_option maxHeartbeats 800000
open Go.IntKind renaming i64->i_,u64->u_
open Go.PM.PF renaming nil->n_,args->g_
open Go.PM.PH renaming nil->h_
noncomputable section
namespace Go.PM
open Go Go.Na
def utF(xs:N_)(n:Nat):PF:=((n_.set 0 (bB xs)).set 3 (.int .i64 n))
variable{C:Ctx}
theorem Zi(xs:N_)(N:Lim xs)(O:Z' xs<=35184372087808):qx.wp C (aV KF.res (pQ 1 (bJ (aT (val xs))))) (g_ [bB xs]) .nil:=by
 simp only[go_sem,qx,KF,asO];refine wp_loop (α:=Nat) (λn=>utF xs n) (λ_=>.nil) (λn=>n<=Z' xs/\∀j x,n<=j->xs[j]?=some x->x=0) (λn=>n) xs.length ⟨asU _,λj x A i=>?_⟩ ?_ a_ ?_
 ·rw[auE A]at i;cases i
 ·unfold utF;exact Lq
 rintro n ⟨L,E⟩;have done:(0<n->∀h:n-1<Z' xs,xs[n-1]≠0)->∀F:PF,(utF xs n).le F->aJ.wp C (.seq (.region js) .ret) (aV [.tmp 2] (pQ 1 (bJ (aT (val xs))))) F .nil:=by
  intro h F y;have f0:F 0=some (bB xs):=y 0 _ (by unfold utF;simp only[go_sem]);have J:F 3=some (.j n):=y 3 _ (by unfold utF;simp only[go_sem]);have B:xs.take n=aT (val xs):=qd N L E λx u i=>by
   rw[asZ Om]at i;injection i with i
   subst i;exact h u Om
  have K:((n:Nat):Int)<=(Z' xs:Nat):=Om;simp only[go_sem,js,f0,J,asO,K,or_true,avG];refine fB (rows:=[]) (src:=bJ (aT (val xs))) .nil ?_ ?_ λv H' M _=>?_
  ·simp only[go_sem];rw[<-B,<-List.map_take]
  ·unfold roomFor;rw[eP,<-B,atF];simp only[avD,maxLen];omega
  ·exact QT (.inr rfl) (by simpa using M) rfl
 simp only[aJ.wp,go_sem]at done;simp only[go_sem,utF];by_cases u:0<n
 ·have l:((n:Nat):Int)>0:=Om;have hlt:n-1<Z' xs:=Om;have w:=gU xs hlt;have D:i_.wrap ((n:Int)-1)=((n-1:Nat):Int):=Un Om u;simp only[go_sem,l,D,w];by_cases c:xs[n-1]=0
  ·simp only[go_sem,bR (Om:((xs[n-1]:Nat):Int)=0),D];refine aE (n-1) ⟨by omega,λj x A i=>?_⟩ Om ?_ a_
   ·by_cases e:j=n-1
    ·subst e;rw[asZ hlt]at i;injection i with i
     omega
    ·exact E j x Om i
   ·exact Lq
  ·simp only[go_sem,bH (Om:((xs[n-1]:Nat):Int)≠0)];exact done (λ_ _=>c) _ (by unfold utF;exact Lq)
 ·have l:¬((n:Nat):Int)>0:=Om;simp only[go_sem,l];exact done (λh=>absurd h u) _ (by unfold utF;exact Lq)
structure vT(C:Ctx):Prop where
 trimM:∀xs,Lim xs->Z' xs<=35184372087808->aH C 38 [bB xs] .nil (pQ 1 (bJ (aT (val xs))))
theorem vT.trim(L:vT C)(xs:N_)(i:Lim xs)(e:Z' xs<=35184372087808):aH C 38 [bB xs] .nil (aK (bB (aT (val xs)))):=(L.trimM xs i e).freeze
theorem Za(L:vT C)(v:Nat)(D:v<18446744073709551616):qr.wp C (aV Av.res (cN (bB (aT v)))) (g_ [.int .u64 v]) .nil:=by
 have y:IntKind.u32.wrap ((v:Nat):Int)=((v%4294967296:Nat):Int):=iP v;have l:v/4294967296<4294967296:=Om;have A:IntKind.u32.wrap ((v/4294967296:Nat):Int)=((v/4294967296:Nat):Int):=by rw[iP,avV l]
 have B:Lim [v%4294967296,v/4294967296]:=by
  intro x w;simp only[atG,List.mem_nil_iff,or_false]at w;rcases w with rfl|rfl
  exact Nat.mod_lt _ aR;exact l
 have e:val [v%4294967296,v/4294967296]=v:=by simp only[val,Nat.mul_zero,auI];exact Nat.mod_add_div v 4294967296
 have i:shift .shr .u64 (v:Int) 32=some (.int .u64 ((v/4294967296:Nat):Int)):=Aq;have hb:(2:Nat)*1<=16777216:=by decide
 simp only[go_sem,qr,Av,y,i,A,hb];have u:=L.trim [v%4294967296,v/4294967296] B aZ;rw[e]at u;refine aD u rfl ?_;simp only[go_sem];exact bM (.inr rfl) .nil rfl a_ ⟨.refl _,rfl⟩
theorem T8(L:vT C)(xs:N_)(i:Lim xs)(e:Z' xs<=35184372087808):cg.wp C (aV qq.res (cN (.bool (decide (nl (val xs)>512))))) (g_ [bB xs]) .nil:=by
 simp only[go_sem,cg,qq];refine aD (L.trim xs i e) rfl ?_;simp only[go_sem,asO,cH];refine bS rfl ?_;rw[decide_eq_decide];omega
theorem Lr{a b:Nat}(h:nl a<nl b):jA a b=-1:=by
 have:a<b:=by
  rcases atY a b with h'|h'
  exact h';have:=qE h';omega
 simp[jA,this]
theorem Lp{a b:Nat}(h:nl b<nl a):jA a b=1:=by
 have:b<a:=by
  rcases atY b a with h'|h'
  exact h';have:=qE h';omega
 have e:¬a<b:=Om;simp[jA,this,e]
def Ov(X Y:N_)(i:Int):PF:=(((n_.set 0 (bB X)).set 1 (bB Y)).set 5 (.int .i64 i))
theorem aeS(L:vT C)(xs ys:N_)(A:Lim xs)(B:Lim ys)(V:Z' xs<=35184372087808)(W:Z' ys<=35184372087808) :
  yb.wp C (aV Ou.res (aK (.j (jA (val xs) (val ys))))) (g_ [bB xs,bB ys]) .nil:=by
 simp only[go_sem,yb,Ou];refine aD (L.trim xs A V) Ev ?_;simp only[go_sem];refine aD (L.trim ys B W) Ev ?_;have Z:=DG A;have F:=DG B;simp only[go_sem,asO,cH];by_cases u:nl (val xs)≠nl (val ys);simp only[go_sem,cY (show((nl (val xs):Nat):Int)≠(nl (val ys):Nat) by omega)];by_cases J:nl (val xs)<nl (val ys);simp only[go_sem,asO,cH,show((nl (val xs):Nat):Int)<(nl (val ys):Nat) by omega];refine cZ (.inr rfl) Ev ?_;rw[Lr J];rfl;simp only[go_sem,asO,cH,show ¬((nl (val xs):Nat):Int)<(nl (val ys):Nat) by omega];refine cZ (.inr rfl) Ev ?_;rw[Lp Om];rfl;replace u:=Decidable.of_not_not u;simp only[go_sem,cB (show((nl (val xs):Nat):Int)=(nl (val ys):Nat) by omega),asO,cH];have ex:=cC (val xs);have w:=cC (val ys);have D:=cE (val xs);have E:=cE (val ys);generalize O:aT (val xs)=X at *
 generalize R:aT (val ys)=Y at *
 have S:Z' X=nl (val xs):=by rw[<-O];rfl
 have U:Z' Y=nl (val xs):=by rw[u,<-R];rfl
 refine wp_loop (α:=Nat) (λk=>Ov X Y ((k:Int)-1)) (λ_=>.nil) (λk=>k<=nl (val xs)/\X.drop k=Y.drop k) (λk=>k) (nl (val xs)) ⟨asU _,?_⟩ ?_ a_ ?_;rw[List.drop_of_length_le Om,List.drop_of_length_le Om];unfold Ov
 (repeat' (first|exact c_|refine e_ ?_ ?_))<;>first|(simp only[go_sem,wrap_i64 (show -9223372036854775808<=((nl (val xs):Nat):Int)-1 by omega) (show((nl (val xs):Nat):Int)-1<=9223372036854775807 by omega)]<;>rfl)|rfl
 rintro k ⟨hk,e⟩;simp only[go_sem,Ov];by_cases h0:0<k;obtain⟨m,rfl⟩:∃m,k=m+1:=⟨k-1,by omega⟩;have y:((m+1:Nat):Int)-1=(m:Int):=Om;have x:(m:Int)>=0:=Om;have i:m<Z' X:=Om;have l:m<Z' Y:=Om;simp only[go_sem,y,x];refine bE .nil cR a_ ?_;simp only[go_sem,gU X i,gU Y l];by_cases K:X[m]<Y[m];simp only[go_sem,show((X[m]:Nat):Int)<(Y[m]:Nat) by omega];refine cZ (.inr rfl) Ev ?_;have:=Qc D i l e K;rw[ex,w]at this;simp[bN,jA,this];simp only[go_sem,show ¬((X[m]:Nat):Int)<(Y[m]:Nat) by omega];refine bE .nil cR a_ ?_;simp only[go_sem,gU X i,gU Y l];by_cases M:X[m]>Y[m];simp only[go_sem,show((X[m]:Nat):Int)>(Y[m]:Nat) by omega];refine cZ (.inr rfl) Ev ?_;have:=Qc E l i e.symm M;rw[ex,w]at this;have N:¬val xs<val ys:=Om;simp[bN,jA,this,N];simp only[go_sem,show ¬((X[m]:Nat):Int)>(Y[m]:Nat) by omega];refine aE m ⟨by omega,Qr i l e Om⟩ Om ?_ a_
 (repeat' (first|exact c_|refine e_ ?_ ?_))<;>first|(simp only[go_sem,wrap_i64 (Om:-9223372036854775808<=(m:Int)-1) (Om:(m:Int)-1<=9223372036854775807)]<;>rfl)|rfl
 have:k=0:=Om;subst this;have y:¬((0:Nat):Int)-1>=0:=by decide
 simp only[go_sem,y];refine cZ (.inr rfl) Ev ?_;rw[avG,avG]at e;have:val xs=val ys:=by rw[<-ex,<-w,e]
 simp[bN,jA,this]
theorem KB(n:Nat):(((n:Nat):Int)==0)=decide (n=0):=by
 by_cases h:n=0;subst h;rfl;rw[bH Om,bD h]
structure Bi(C:Ctx):Prop extends vT C where
 make:∀v:Nat,v<18446744073709551616->aH C 35 [.int .u64 v] .nil (aK (bB (aT v)))
 large:∀xs,Lim xs->Z' xs<=35184372087808->aH C 41 [bB xs] .nil (aK (.bool (decide (nl (val xs)>512))))
 cmp:∀xs ys,Lim xs->Lim ys->Z' xs<=35184372087808->Z' ys<=35184372087808->aH C 32 [bB xs,bB ys] .nil (aK (.int .i64 (jA (val xs) (val ys))))
def Oz(a b:Nat):PF:=((n_.set 6 (bB (aT a))).set 7 (bB (aT b)))
structure kb(C:Ctx):Prop extends Bi C where
 divide:∀A B:Nat,B≠0->nl A<=512->nl B<=512->aH C 39 [bB (aT A),bB (aT B)] .nil (aK (dh A B))
def Mh(a b:Nat):PV:=if nO a b then .tup [bB [],.int .i64 2]else .tup [bB (aT (asR a b)),.int .i64 0]
theorem aeU(L:kb C)(a b:N_)(w:Lim a)(hb:Lim b)(B:Z' a<=35184372087808)(D:Z' b<=35184372087808) :
  yd.wp C (aV Oy.res (cN (Mh (val a) (val b)))) (g_ [bB a,bB b]) .nil:=by
 unfold Mh;simp only[go_sem,yd,Oy];refine aD (L.large a w B) rfl ?_;by_cases e:nl (val a)>512;simp only[go_sem,e];rw[aF (by simp[nO,e])];exact nC rfl;simp only[go_sem,e];refine aD (L.large b hb D) rfl ?_;by_cases i:nl (val b)>512;simp only[go_sem,i];rw[aF (by simp[nO,i])];exact nC rfl;rw[aC (by simp[nO,e,i])];simp only[go_sem,i];refine aD (L.trim a w B) rfl ?_;simp only[go_sem];refine aD (L.trim b hb D) rfl ?_;simp only[go_sem];refine wp_loop (α:=Nat × Nat) (λt=>Oz t.1 t.2) (λ_=>.nil) (λt=>asR t.1 t.2=asR (val a) (val b)/\nl t.1<=512/\nl t.2<=512) (λt=>t.2) (val a,val b) ⟨rfl,by simp only;omega,by simp only;omega⟩ ?_ a_ ?_;unfold Oz;exact Lq;rintro⟨x,y⟩ ⟨u,E,A⟩;simp only at u E A;simp only[go_sem,Oz,cH];by_cases l:y=0;subst l;have:¬((nl 0:Nat):Int)>0:=by rw[tu];decide
 simp only[go_sem,this];refine bM (vs:=[bB (aT x),.j 0]) (.inr rfl) .nil rfl a_ ⟨?_,rfl⟩;rw[<-u,Nat.gcd_zero_right];exact .refl _;have F:nl y≠0:=λh=>l (qT.1 h);have:((nl y:Nat):Int)>0:=Om;simp only[go_sem,this];refine aD (L.divide x y l Om Om) rfl ?_;simp only[go_sem,dh];have hlt:x%y<y:=Nat.mod_lt _ (awA l);refine aE (y,x%y) ⟨?_,A,?_⟩ hlt ?_ a_;simp only;rw[<-u,Nat.gcd_comm y,<-Nat.gcd_rec y x,Nat.gcd_comm];have:=qE (Nat.le_of_lt hlt);simp only;omega;exact Lq
theorem aeT(L:kb C)(a b:N_)(w:Lim a)(hb:Lim b)(x:Z' a<=35184372087808)(u:Z' b<=35184372087808) :
  yc.wp C (aV udiv.res (cN (Ai (val a) (val b)))) (g_ [bB a,bB b]) .nil:=by
 unfold Ai;simp only[go_sem,yc,udiv];refine aD (L.large a w x) rfl ?_;by_cases i:nl (val a)>512;simp only[go_sem,i];rw[aF (by simp[nO,i])];exact VI rfl;simp only[go_sem,i];refine aD (L.large b hb u) rfl ?_;by_cases l:nl (val b)>512;simp only[go_sem,l];rw[aF (by simp[nO,l])];exact VI rfl;rw[aC (by simp[nO,i,l])];simp only[go_sem,l];refine aD (L.trim b hb u) rfl ?_;simp only[go_sem,asO,cH,KB,qT];by_cases e:val b=0;rw[aF e];simp only[go_sem,aW e];exact VI rfl;rw[aC e];simp only[go_sem,bD e];refine aD (L.trim a w x) rfl ?_;simp only[go_sem];refine aD (L.trim b hb u) rfl ?_;simp only[go_sem];refine aD (L.divide (val a) (val b) e Om Om) rfl ?_;simp only[go_sem,dh];exact bM (.inr rfl) .nil rfl a_ ⟨.refl _,rfl⟩
def rE(neg:Bool)(a b:Nat):FV:=(neg&&decide (a/asR a b≠0),a/asR a b,b/asR a b)
structure Bj(C:Ctx):Prop extends kb C where
 gcd:∀a b,Lim a->Lim b->Z' a<=35184372087808->Z' b<=35184372087808->aH C 34 [bB a,bB b] .nil (aK (Mh (val a) (val b)))
 div:∀a b,Lim a->Lim b->Z' a<=35184372087808->Z' b<=35184372087808->aH C 33 [bB a,bB b] .nil (aK (Ai (val a) (val b)))
theorem AD{n:Nat}(h:nl n<=512):(aT n).length<=35184372087808:=by rw[cH];omega
theorem DB:aT 1=[1]:=uC aR aR
theorem mq{n:Nat}(h:n≠0):aT n=n%4294967296::aT (n/4294967296):=yT h
theorem HK{n:Nat}(h:n≠0):(nl n>1\/n%4294967296>1)↔n≠1:=by
 constructor;rintro h1 rfl;rcases h1 with h1|h1
 rw[nl,DB]at h1;simp at h1;omega;intro h1;by_cases c:nl n>1;exact .inl c;have:n<4294967296^1:=(oN n 1).1 Om;rw[Nat.pow_one]at this;rw[avV this];exact .inr Om
theorem Pa(L:Bj C)(neg:Bool)(a b:N_)(Y:Lim a)(hb:Lim b)(la:Z' a<=35184372087808)(lb:Z' b<=35184372087808)(D:nl (val a)<=512)(A:nl (val b)<=512)(E:val b≠0) :
  XN.wp C (aV qG.res (cN (.agg (rE neg (val a) (val b)).rf.cells))) (g_ [.bool neg,bB a,bB b]) .nil:=by
 have i:asR (val a) (val b)≠0:=λh=>E (Nat.eq_zero_of_gcd_eq_zero_right h);have M:asR (val a) (val b)<=val b:=Nat.gcd_le_right _ (awA E);have R:nl (asR (val a) (val b))<=512:=atT (qE M) A;have N:nO (val a) (val b)=false:=vY D A;simp only[go_sem,XN,qG];refine aQ λo ho=>?_;simp only[go_sem];refine aD (L.trim a Y la) rfl ?_;simp only[go_sem];refine aD (L.trim b hb lb) rfl ?_;simp only[go_sem,asO,cH,KB,qT];by_cases B:val a=0;simp only[go_sem,aW B];have e:(rE neg (val a) (val b)).rf=⟨false,[],[1]⟩:=by rw[B];unfold rE FV.rf;simp[jT,Nat.div_self (awA E),DB]
 rw[e];refine bM (vs:=[.agg [.bool false,.aG,bB [1]]]) (.inr rfl) .nil ?_ a_ ⟨show Co (.agg _) (.agg _)from CoL.agg (CoL.cons (.refl _) (CoL.cons (.nil 1) (CoL.cons (.refl _) .nil))),rfl⟩;simp only[go_sem];rfl;have l:=L.gcd (aT (val a)) (aT (val b)) (cE _) (cE _) (AD D) (AD A);rw[cC,cC,Mh,N]at l;simp only[go_sem,bD B];refine aD l rfl ?_;have fin:∀x y:Nat,x=val a/asR (val a) (val b)->y=val b/asR (val a) (val b)->∀(F:PF)(H:PH),F 0=some (.bool neg)->F 1=some (bB (aT x))->F 2=some (bB (aT y))->F 6=some (.ptr o 3 0 0)->H o=some (.rows 3 [[.bool false,.aG,.aG]]) ->
   aJ.wp C (.seq (.region FO) .ret) (aV [.cell 6 (some 3)] (cN (.agg (rE neg (val a) (val b)).rf.cells))) F H:=by
  intro x y O Z F H f0 f1 f2 f6 J;subst O;subst Z;simp only[go_sem,FO,f0,f1,f2,f6,J];have hq:val a/asR (val a) (val b)≠0:=by have:=Nat.div_pos (Nat.gcd_le_left (val b) (awA B)) (awA i);omega
  have e:(rE neg (val a) (val b)).rf=⟨neg,aT (val a/asR (val a) (val b)),aT (val b/asR (val a) (val b))⟩:=by unfold rE FV.rf;simp only[hq,ne_eq,not_false_eq_true,decide_true,avK]
  rw[e];refine bM (vs:=[.agg (pL neg (aT (val a/asR (val a) (val b))) (aT (val b/asR (val a) (val b))))]) (.inr rfl) .nil ?_ a_ ⟨.refl _,rfl⟩;simp only[go_sem,f6]
 simp only[aJ.wp,go_sem]at fin;have K:=λx (O:nl x<=512)=>L.div (aT x) (aT (asR (val a) (val b))) (cE _) (cE _) (AD O) (AD R);simp only[cC,Ai]at K;have tail:asR (val a) (val b)≠1->∀(F:PF)(H:PH),F 0=some (.bool neg)->F 1=some (bB (aT (val a)))->F 2=some (bB (aT (val b)))->F 6=some (.ptr o 3 0 0)->F 7=some (bB (aT (asR (val a) (val b))))->H o=some (.rows 3 [[.bool false,.aG,.aG]]) ->
   aJ.wp C (.seq (.seq (.region SC) (.region SD)) (.seq (.region FO) .ret)) (aV [.cell 6 (some 3)] (cN (.agg (rE neg (val a) (val b)).rf.cells))) F H:=by
  intro _ F H f0 f1 f2 f6 f7 J;have V:=K (val a) D;have W:=K (val b) A;rw[vY D R,aC i]at V;rw[vY A R,aC i]at W;simp only[go_sem,SC,f1,f7];refine aD V rfl ?_;simp only[go_sem,auQ,SD,f2,f7];refine aD W rfl ?_;simp only[go_sem,auQ];exact fin _ _ rfl rfl _ _ (by simp only[go_sem,f0]) rfl rfl (by simp only[go_sem,f6]) J
 simp only[aJ.wp,go_sem]at tail;simp only[go_sem,auQ,asO,cH];by_cases S:nl (asR (val a) (val b))>1;have u:((nl (asR (val a) (val b)):Nat):Int)>1:=Om;simp only[go_sem,u];exact tail ((HK i).1 (.inl S)) _ _ rfl rfl rfl rfl rfl Sq;have u:¬((nl (asR (val a) (val b)):Nat):Int)>1:=Om;simp only[go_sem,u,mq i];by_cases U:asR (val a) (val b)%4294967296>1;have w:((asR (val a) (val b)%4294967296:Nat):Int)>1:=Om;simp only[go_sem,w];exact tail ((HK i).1 (.inr U)) _ _ rfl rfl rfl rfl (by simp only[go_sem,mq i]) Sq;have w:¬((asR (val a) (val b)%4294967296:Nat):Int)>1:=Om;have X:asR (val a) (val b)=1:=by
  rcases Decidable.em (asR (val a) (val b)=1)with h|h
  exact h;rcases(HK i).2 h with h|h
  exact absurd h S;exact absurd h U
 simp only[go_sem,w];exact fin (val a) (val b) (by rw[X,Nat.div_one]) (by rw[X,Nat.div_one]) _ _ rfl rfl rfl rfl Sq
theorem _root_.wO_{p:Prop}(h:p:=by rw[wrap_i64 Om Om];omega):p:=h
theorem Zr(v:Int)(u:-9223372036854775808<=v)(w:v<=9223372036854775807) :
  rp.wp C (aV A6.res (aK (.int .u64 (v.natAbs:Nat)))) (g_ [.j v]) .nil:=by
 simp only[go_sem,rp,A6];by_cases c:v<0;have i:i_.wrap (v+1)=v+1:=wrap_i64 Om Om;have e2:i_.wrap (0-(v+1))=-(v+1):=wO_
 have l:u_.wrap (u_.wrap (-(v+1))+1)=(v.natAbs:Int):=by rw[LY,LY];omega
 simp only[go_sem,c,i,e2,l];refine eD ?_;rfl;have e:u_.wrap v=(v.natAbs:Int):=by rw[LY];omega
 simp only[go_sem,c,e];refine eD ?_;rfl
structure K0(C:Ctx):Prop extends Bj C where
 lowest:∀neg a b,Lim a->Lim b->Z' a<=35184372087808->Z' b<=35184372087808->nl (val a)<=512->nl (val b)<=512->val b≠0->aH C 58 [.bool neg,bB a,bB b] .nil (aK (.agg (rE neg (val a) (val b)).rf.cells))
 size:∀v:Int,eQ v->aH C 59 [.int .i64 v] .nil (aK (.int .u64 (v.natAbs:Nat)))
def mkT(n d:Int):RF:=(rE (decide (n<0) != decide (d<0)) n.natAbs d.natAbs).rf
def DN(n d:Int):PV:=if d=0 then Me 3 else .tup [.agg (mkT n d).cells,.int .i64 0]
theorem Zo(L:K0 C)(n d:Int)(e:eQ n)(i:eQ d) :
  rh.wp C (aV rg.res (cN (DN n d))) (g_ [.j n,.j d]) .nil:=by
 simp only[go_sem,rh];refine aQ λo l=>?_;unfold DN;by_cases c:d=0;subst c;simp only[go_sem];refine wE ?_;simp only[go_sem,rg];rw[aC c];simp only[go_sem,bH c];refine aD (L.size n e) rfl ?_;simp only[go_sem];refine aD (L.make n.natAbs Om) rfl ?_;simp only[go_sem];refine aD (L.size d i) rfl ?_;simp only[go_sem];refine aD (L.make d.natAbs Om) rfl ?_;simp only[go_sem];have u:nl n.natAbs<=2:=yD Om;have w:nl d.natAbs<=2:=yD Om;have low:=L.lowest (decide (n<0) != decide (d<0)) (aT n.natAbs) (aT d.natAbs) (cE _) (cE _) (by rw[cH];omega) (by rw[cH];omega);rw[cC,cC]at low;have low:=low Om Om Om;refine aD low rfl ?_;simp only[go_sem];exact bM (.inr rfl) .nil (vs:=[.agg (mkT n d).cells,.j 0]) (by simp only[go_sem,rg];rfl) a_ ⟨.refl _,rfl⟩
structure kc(C:Ctx):Prop extends K0 C where
 fmk:∀n d:Int,eQ n->eQ d->aH C 50 [.int .i64 n,.int .i64 d] .nil (aK (DN n d))
theorem Ki(L:kc C)(n:Int)(l:eQ n) :
  yj.wp C (aV O8.res (cN (.agg (mkT n 1).cells))) (g_ [.j n]) .nil:=by
 simp only[go_sem,yj,O8];refine aQ λo u=>?_;simp only[go_sem];refine aD (L.fmk n 1 l (by unfold eQ;omega)) rfl ?_;unfold DN;rw[aC aR];simp only[go_sem];refine aQ λp hp=>?_;have e:o≠p:=by rintro rfl;simp only[aO,if_true]at hp;cases hp
 have i:p≠o:=λh=>e h.symm;simp only[go_sem,e];refine bM (vs:=[.agg (mkT n 1).cells]) (.inr rfl) .nil ?_ a_ ⟨.refl _,rfl⟩;simp only[go_sem,i]
def aI(l:N_)(n a:Nat):Nat × Nat:=if l.length<=a\/n<2 then(0,a)else(l.getD a 0%n,a+1)
theorem cM(l:N_){n:Nat}(h:0<n)(a:Nat):(aI l n a).1<n:=by
 unfold aI;split;exact h;exact Nat.mod_lt _ h
theorem bO(l:N_)(n:Nat){a:Nat}(h:a<=Z' l):(aI l n a).2<=Z' l:=by
 unfold aI;split;exact h;simp only;omega
def iJ(l:N_)(a:Nat):RF × Nat:=
 let x:=aI l 6 a
 let y:=aI l 8 x.2
 (mkT ((1+x.1:Nat):Int) ((1+y.1:Nat):Int),y.2)
abbrev mI:RF:=mkT 0 1
def kW(l:N_)(i j a:Nat):RF × Nat:=
 if j=i+1 then iJ l a
 else if j=i then(mI,a)
 else let t:=aI l 3 a
  if t.1=0 then iJ l t.2 else(mI,t.2)
def fE(l:N_)(i a:Nat):Nat->List RF × Nat
 |0=>([],a)
 |j+1=>let s:=fE l i a j
  let z:=kW l i j s.2
  (s.1++[z.1],z.2)
structure KK where
 start:List RF
 exit:List RF
 arG:List (List RF)
 left:Nat
 a:Nat
def fD(l:N_)(n i:Nat)(s:KK):Nat × Nat:=if i+1<n then aI l (s.left+1) s.a else(s.left,s.a)
def gY(l:N_)(n i a:Nat):RF × Nat:=
 let e:=iJ l a
 if i+1<n then(let t:=aI l 3 e.2;(if t.1=0 then mI else e.1,t.2))else e
def jB(l:N_)(n a:Nat):Nat->KK
 |0=>⟨[],[],[],8,a⟩
 |i+1=>let s:=jB l n a i
  let k:=fD l n i s
  let e:=gY l n i k.2
  let r:=fE l i e.2 n
  ⟨s.start++[mkT (k.1:Nat) 8],s.exit++[e.1],s.arG++[r.1],s.left-k.1,r.2⟩
def wV(l:N_)(dU a:Nat):cV × Nat:=
 let t:=aI l dU a
 let s:=jB l (1+t.1) t.2 (1+t.1)
 (⟨[],s.start,s.arG,s.exit⟩,s.a)
def nE(l:N_)(a:Nat):Nat->List RF × Nat
 |0=>([],a)
 |k+1=>let s:=nE l a k
  let z:=iJ l s.2
  (s.1++[z.1],z.2)
abbrev cT(n:Nat):List UInt8:=Lib.decDigits n
def jR(l:N_)(a:Nat):Nat->List cV × Nat
 |0=>([],a)
 |k+1=>let s:=jR l a k
  let z:=wV l 2 s.2
  (s.1++[{ z.1 with name:=[108,97,119]++cT k }],z.2)
def gC(l:N_)(arJ a:Nat):Nat->List dN × Nat
 |0=>([],a)
 |k+1=>let s:=gC l arJ a k
  let x:=aI l 4 s.2
  let y:=aI l 8 x.2
  let z:=aI l arJ y.2
  (s.1++[⟨[109]++cT k,(1+x.1:Nat),(1+y.1:Nat),(z.1:Nat)⟩],z.2)
structure GS where
 arL:List cU
 arV:List eN
 a:Nat
def mG(l:N_)(mc arB e:Nat)(s:GS):Nat->GS
 |0=>s
 |i+1=>let s:=mG l mc arB e s i
  if s.arV.length<arB then
   let t:=aI l mc s.a
   { s with arV:=s.arV++[⟨[100]++cT s.arV.length,(t.1:Nat),(e:Nat)⟩],a:=t.2 }
  else s
def pD(level:Nat):UInt8:=match level with
 |0=>45
 |1=>115
 |2=>114
 |3=>107
 |_=>109
def rT(l:N_)(level e:Nat)(s:GS):GS:=
 let u:=aI l 16 s.a
 let t:=aI l 3 u.2
 let k:=aI l 6 t.2
 let sh:RF × Nat:=if t.1=0 then(mkT 1 ((2+k.1:Nat):Int),k.2)else(mI,t.2)
 { s with arL:=s.arL++[⟨[pD level]++cT s.arL.length,(level:Nat),(e:Nat),(1+u.1:Nat),sh.1⟩],a:=sh.2 }
def wF(arB:Nat)(s:GS):Bool:=decide (arB<=Z' s.arV)||decide (35<=Z' s.arL)
def jK(l:N_)(level arB e:Nat)(rec:Nat->GS->GS)(s:GS):Nat->GS
 |0=>s
 |i+1=>let s:=jK l level arB e rec s i
  if wF arB s then s else(let s':=rT l level e s;rec (Z' s'.arL-1) s')
def gP(l:N_)(mc arB:Nat):Nat->Nat->GS->GS
 |0,e,s=>let t:=aI l 2 s.a
  mG l mc arB e { s with a:=t.2 } (1+t.1)
 |k+1,e,s=>let t:=aI l 2 s.a
  jK l (4-k) arB e (gP l mc arB k) { s with a:=t.2 } (if 4-k=2 then 1 else 1+t.1)
def pV:cU:=⟨[],0,-1,0,mI⟩
def jU(l:N_)(a:Nat):Int × Nat:=
 let t:=aI l 3 a
 let k:=aI l 3 t.2
 if t.1=0 then((1+k.1:Nat),k.2)else(0,t.2)
def qF(l:N_)(arC i a:Nat):bX × Nat:=
 let k:=aI l 2 a
 let m:=aI l 3 k.2
 let h:=aI l 4 m.2
 let q:=aI l (m.1+1) h.2
 let r:=nE l q.2 (max m.1 1)
 let g:=aI l 9 r.2
 let s1:=jU l g.2
 let s2:=jU l s1.2
 let s3:=jU l s2.2
 let s4:=jU l s3.2
 let f:=aI l arC s4.2
 let b:=aI l 2 f.2
 let ms:I_ × Nat:=if 1<arC then(if b.1=0 then([(f.1:Int),1-(f.1:Int)],b.2)else([(f.1:Int)],b.2))else([(f.1:Int)],f.2)
 (⟨[112]++cT i,(1+k.1:Nat),(m.1:Nat),(1+k.1+q.1:Nat),0,s1.1,s2.1,s3.1,s4.1,ms.1,r.1,mkT (g.1:Nat) 8,mkT ((1+h.1:Nat):Int) 1⟩,ms.2)
def fH(l:N_)(arC a:Nat):Nat->List bX × Nat
 |0=>([],a)
 |k+1=>let s:=fH l arC a k
  let z:=qF l arC k s.2
  (s.1++[z.1],z.2)
def gF(l:N_)(pols a:Nat):Nat->List gD × Nat
 |0=>([],a)
 |k+1=>let s:=gF l pols a k
  let z:=aI l pols s.2
  (s.1++[⟨[118]++cT k,(z.1:Nat)⟩],z.2)
def jN(l:N_)(arB arD a:Nat):aB × Nat:=
 let e:=aI l 2 a
 let u:=aI l 2 e.2
 let arJ:=jR l u.2 (1+u.1)
 let i:=aI l 2 arJ.2
 let arC:=gC l (1+u.1) i.2 (1+i.1)
 let g:=gP l (1+i.1) arB 4 0 ⟨[pV],[],arC.2⟩
 let pl:=aI l 2 g.a
 let pols:=fH l (1+i.1) pl.2 (1+pl.1)
 let w:=aI l (arD+1) pols.2
 let vols:=gF l (1+pl.1) w.2 w.1
 (⟨(1+e.1:Nat),arJ.1,arC.1,g.arL,g.arV,pols.1,vols.1⟩,vols.2)
def qV(l:N_)(a:Nat):Nat->I_ × Nat
 |0=>([],a)
 |k+1=>let s:=qV l a k
  let z:=aI l 7 s.2
  (s.1++[(z.1:Int)-1],z.2)
def uO(l:N_)(f:aB)(a:Nat):I_ × Nat:=
 let t:=aI l 4 a
 if t.1=0 then([],t.2)else qV l t.2 f.arB.length
def uK(l:N_)(arB at_ i a:Nat):Int × Nat:=
 if arB=0 then(-1,a)else
  let t:=aI l 6 a
  if t.1=0 then(let z:=aI l arB t.2;((z.1:Int),z.2))
  else if t.1=1 then(let z:=aI l (arB+1) t.2;((z.1:Int)-1,z.2))
  else(((at_+i)%arB:Nat),t.2)
def nK(l:N_)(arB at_ a:Nat):Nat->I_ × Nat
 |0=>([],a)
 |i+1=>let s:=nK l arB at_ a i
  let z:=uK l arB at_ i s.2
  (s.1++[z.1],z.2)
def eE(l:N_)(f:aB)(a:Nat):Nat->L2_ × Nat
 |0=>([],a)
 |v+1=>let s:=eE l f a v
  let t:=aI l (Z' f.arB+1) s.2
  let r:=nK l f.arB.length t.1 t.2 (fX f v).toNat
  (s.1++[r.1],r.2)
abbrev kN(l:N_):P2_:=l.map λ(n:Nat)=>[PV.int .u8 (n:Int)]
theorem XH(l:N_):(kN l).length=Z' l:=by simp
theorem Zh(l:N_){i:Nat}(h:i<Z' l):(kN l)[i]?=some [.int .u8 (l[i]:Nat)]:=by simp[h]
abbrev aY(v:PV)(a:Nat):aS:=.rows 2 [[v,.int .i64 a]]
structure Tp(l:N_)(v:PV):Prop where
 seen:Seen 1 v (kN l)
 byte:∀x∈l,x<256
 len:Z' l<=400
def se(l:N_)(r:PV)(H:PH):Prop:=∃o v,r=.ptr o 2 0 0/\Tp (l.take 400) v/\H=h_.set o (aY v 0)
theorem y7{t q s:Nat}{rs:P2_}{F:PF}{H H2:PH}{R:R_}{v:PV}{e:lI}(he:e=.normal\/e=.ret)(A:F t=some v)(hq:H q=some (.rows s rs))(x:H2.le (H.frz q s rs))(y:R (PV.frz q s rs v) H2):aV [.tmp t] R e F H:=by
 have i:∃vs,dX.evs F H [.tmp t]=some vs/\∃l w H2,jM (n_.set 0 (bN vs)) H l w/\H2.le w/\∃u,l 0=some u/\R u H2:=by refine⟨[v],by rw[nT,sB,A,uE],_,_,H2,.step q hq (.refl _ _),x,PV.frz q s rs v,?_,y⟩;rw[uZ,mL,aF rfl,atO];rfl
 rcases he with rfl|rfl<;>exact i
theorem adA(l:N_)(hb:∀x∈l,x<256)(N:Z' l<=9223372036854775807):wd.wp C (aV gk.res (se l)) (g_ [.sl 1 (kN l)]) .nil:=by
 simp only[go_sem,wd,gk,asO];have fin:∀F:PF,F 0=some (.sl 1 (kN (l.take 400)))->aJ.wp C (.seq (.region tp) .ret) (aV [.tmp 2] (se l)) F .nil:=by
  intro F f0;have y:(l.take 400).length<=400:=by rw[atF];omega
  have w:∀x∈l.take 400,x<256:=λx K=>hb x (awU K);have A:∀o v,Seen 1 v (kN (l.take 400))->se l (.ptr o 2 0 0) (h_.set o (aY v 0)):=λo v J=>⟨o,v,rfl,⟨J,w,y⟩,rfl⟩;generalize M:l.take 400=L at *
  simp only[go_sem,tp,f0];refine pP (src:=kN L) rfl ?_ (λh=>?_) λh o E=>?_;unfold roomFor;rw[XH];simp only[maxLen];omega;simp only[go_sem,atG,atS,or_false,forall_eq];refine aQ λo E=>?_;simp only[go_sem];exact bM (vs:=[.ptr o 2 0 0]) (.inr rfl) (h_.set o (aY .aG 0)) rfl b_ (A o .aG (.inl ⟨h,rfl⟩));simp only[go_sem,atG,atS,or_false,forall_eq];refine aQ λp hp=>?_;have e:¬p=o:=(yS.1 hp).1;have i:¬o=p:=λh=>e h.symm;simp only[go_sem];refine y7 (v:=.ptr p 2 0 0) (q:=o) (s:=1) (rs:=kN L) (H2:=h_.set p (aY (.sl 1 (kN L)) 0)) (.inr rfl) rfl (by simp only[go_sem,i]) (d_ a_ ?_) (A p _ (.inr rfl));have D:(kN L).take L.length=kN L:=atP (by rw[XH];exact asU _);simp only[go_sem,e,aS.frz,PV.cO,asO,D];rfl
 simp only[aJ.wp,go_sem]at fin;by_cases c:Z' l>400;have u:(Z' l:Int)>400:=Om;have B:(400:Int)<=(Z' l:Int):=Om;simp only[go_sem,u,asO,B];refine fin _ ?_;rw[mL,aF rfl];simp[kN];have u:¬(Z' l:Int)>400:=Om;simp only[go_sem,u];refine fin _ ?_;rw[atP Om];simp only[go_sem]
def j7(l:N_)(v:PV)(o n a:Nat)(r:PV)(H:PH):Prop:=r=.int .i64 ((aI l n a).1:Nat)/\H=h_.set o (aY v (aI l n a).2)
theorem Xh{l:N_}{v:PV}(T:Tp l v)(o n a:Nat)(S:n<=1000000)(O:a<=Z' l):QA.wp C (aV EZ.res (j7 l v o n a)) (g_ [.ptr o 2 0 0,.j n]) (h_.set o (aY v a)):=by
 obtain⟨M,hb,R⟩:=T;have zero:(Z' l<=a\/n<2)->∀F,aJ.wp C (.seq (.region gl) .ret) (aV [.tmp 4] (j7 l v o n a)) F (h_.set o (aY v a)):=by
  intro h F;have e:aI l n a=(0,a):=by unfold aI;rw[aF h]
  simp only[go_sem,gl];exact bM (vs:=[.j 0]) (.inr rfl) _ rfl b_ ⟨by rw[e];rfl,by rw[e]⟩
 simp only[aJ.wp,go_sem]at zero;rcases M with⟨K,rfl⟩|rfl
 have N:Z' l=0:=by rw[<-XH,K];rfl
 have x:(a:Int)>=0:=Om;simp only[go_sem,QA,EZ];refine bE .nil cR a_ ?_;simp only[go_sem,x];exact zero (.inl Om) _;simp only[go_sem,QA,EZ];refine bE .nil cR a_ ?_;by_cases A:Z' l<=a;have i:(a:Int)>=(Z' l:Nat):=Om;simp only[go_sem,asO,i];exact zero (.inl A) _;have i:¬(a:Int)>=(Z' l:Nat):=Om;simp only[go_sem,asO,i];by_cases B:n<2;have u:(n:Int)<2:=Om;simp only[go_sem,u];exact zero (.inr B) _;have u:¬(n:Int)<2:=Om;have w:a<Z' l:=Om;have e:aI l n a=(l[a]%n,a+1):=by unfold aI;rw[aC Om];simp[asW,w]
 have J:i_.wrap ((a:Int)+1)=((a+1:Nat):Int):=fI Om;have E:i_.wrap (((a+1:Nat):Int)-1)=((a:Nat):Int):=wO_
 have L:=Zh l w;have U:=hb _ (asS w);have D:i_.wrap ((l[a]:Nat):Int)=((l[a]:Nat):Int):=jt Om;have y:¬((n:Nat):Int)=0:=Om;have em:Int.tmod ((l[a]:Nat):Int) ((n:Nat):Int)=((l[a]%n:Nat):Int):=rfl;simp only[go_sem,u,J];refine bE .nil cR a_ ?_;simp only[go_sem,E,L,D,y,em];exact bM (vs:=[.j (l[a]%n:Nat)]) (.inr rfl) _ rfl b_ ⟨by rw[e];rfl,by rw[e]⟩
structure zH(C:Ctx):Prop extends kc C where
 int:∀n:Int,eQ n->aH C 47 [.int .i64 n] .nil (aK (.agg (mkT n 1).cells))
 itoa:∀n:Nat,n<100->aH C 195 [.int .i64 n] .nil (aK (.str (cT n)))
 next:∀(l:N_)(v:PV),Tp l v->∀(o n a:Nat),n<=1000000->a<=Z' l->aH C 4 [.ptr o 2 0 0,.int .i64 n] (h_.set o (aY v a)) (j7 l v o n a)
section
variable {C:Ctx} {F:PF} {H:PH} {l:N_} {v:PV} {o a:Nat}
theorem dM(i:zH C)(T:Tp l v){n:Nat}{args:List aP}{d:O_}{K:K_}(x:n<=1000000)(u:a<=Z' l)(e:aP.evs F args=some [.ptr o 2 0 0,.j n])(y:H o=some (aY v a))
  (w:K (F.put d (.j ((aI l n a).1:Nat))) (H.set o (aY v (aI l n a).2))):jX C 4 args [] d K F H:=
 pB (i.next l v T o n a x u) y e w
end
def Zy(l:N_)(v:PV)(o a:Nat)(r:PV)(H:PH):Prop:=r=.agg (iJ l a).1.cells/\H=h_.set o (aY v (iJ l a).2)
theorem BF(l:N_){a:Nat}(h:a<=Z' l):(iJ l a).2<=Z' l:=bO l 8 (bO l 6 h)
theorem W8(i:zH C){l:N_}{v:PV}(T:Tp l v)(o a:Nat)(x:a<=Z' l):nu.wp C (aV Ae.res (Zy l v o a)) (g_ [.ptr o 2 0 0]) (h_.set o (aY v a)):=by
 simp only[go_sem,nu,Ae];refine aQ λp hp=>?_;have y:¬p=o:=(yS.1 hp).1;have e:¬o=p:=λh=>y h.symm;have J:=cM l (show 0<6 by decide) a;have a1:=bO l 6 x;simp only[go_sem];refine dM i T (o:=o) (n:=6) (a:=a) aR x rfl (by simp only[go_sem,e]) ?_;have D:i_.wrap (1+((aI l 6 a).1:Int))=((1+(aI l 6 a).1:Nat):Int):=wO_
 simp only[go_sem,D];have K:=cM l (show 0<8 by decide) (aI l 6 a).2;refine dM i T (o:=o) (n:=8) (a:=(aI l 6 a).2) aR a1 rfl Sq ?_;have e2:i_.wrap (1+((aI l 8 (aI l 6 a).2).1:Int))=((1+(aI l 8 (aI l 6 a).2).1:Nat):Int):=wO_
 simp only[go_sem,e2];refine aD (i.fmk ((1+(aI l 6 a).1:Nat):Int) ((1+(aI l 8 (aI l 6 a).2).1:Nat):Int) (by unfold eQ;omega) (by unfold eQ;omega)) rfl ?_;have E:¬((1+(aI l 8 (aI l 6 a).2).1:Nat):Int)=0:=Om;unfold DN;rw[aC E];simp only[go_sem];refine aQ λq hq=>?_;have A:¬q=o:=(yS.1 hq).1;have B:¬q=p:=(yS.1 (yS.1 hq).2).1;have w:¬p=q:=λh=>B h.symm;have u:¬o=q:=λh=>A h.symm;simp only[go_sem,y,e,A,B,w];refine bM (vs:=[.agg (iJ l a).1.cells]) (.inr rfl) (h_.set o (aY v (iJ l a).2)) ?_ (d_ a_ ?_) ⟨rfl,rfl⟩;simp only[go_sem];rfl;simp only[go_sem,e,u];rfl
structure Bf(C:Ctx):Prop extends zH C where
 frac:∀(l:N_)(v:PV),Tp l v->∀(o a:Nat),a<=Z' l->aH C 1 [.ptr o 2 0 0] (h_.set o (aY v a)) (Zy l v o a)
abbrev jD(l:List RF):P2_:=l.map RF.cells
theorem EM(l:List RF)(x:RF):jD l++[x.cells]=jD (l++[x]):=by simp[jD]
theorem OK(l:List RF):Flat (jD l):=Flat.map l λx c e q s rs=>by
 simp only[RF.cells,pL,atG,atS,or_false]at e;rcases e with rfl|rfl|rfl<;>rfl
theorem qO(l:List RF):(jD l).length=Z' l:=by simp[jD]
theorem Tp.frz{l:N_}{v:PV}(T:Tp l v)(q s:Nat)(rs:P2_):PV.cO q s rs v=v:=by
 rcases T.seen with⟨_,rfl⟩|rfl<;>rfl
theorem NA(l:N_){a:Nat}(h:a<=Z' l):∀k,(nE l a k).2<=Z' l
 |0=>h
 |k+1=>BF l (NA l h k)
theorem E8(l:N_)(a:Nat):∀k,(nE l a k).1.length=k
 |0=>rfl
 |k+1=>by simp only[nE,asX,atD,E8 l a k]
def afZ(l:N_)(v:PV)(o a k:Nat)(r:PV)(H:PH):Prop:=r=frs (nE l a k).1/\H=h_.set o (aY v (nE l a k).2)
def Ng(o:Nat)(m:Nat)(w:PV)(i:Nat):PF:=((((n_.set 0 (.ptr o 2 0 0)).set 1 (.int .i64 m)).set 5 (w)).set 6 (.int .i64 i))
theorem adC(L:Bf C){l:N_}{v:PV}(T:Tp l v)(o a m:Nat)(V:m<=1000)(O:a<=Z' l):wg.wp C (aV Nf.res (afZ l v o a (max m 1))) (g_ [.ptr o 2 0 0,.j m]) (h_.set o (aY v a)):=by
 have y:∀i:Nat,((i:Int)<(if(m:Int)<1 then 1 else(m:Int)))↔i<max m 1:=by intro i;split<;>omega
 simp only[go_sem,wg,Nf];have M:aN (h_.set o (aY v a)) [(o,aY v a)] [(.aG,3,jD [])]:=(aN.nil.new (H:=h_) rfl (aY v a)).lE 3;refine wp_loop (α:=T3_) (λt=>Ng o m t.2.1 t.1) (λt=>t.2.2) (λt=>t.1<=max m 1/\aN t.2.2 [(o,aY v (nE l a t.1).2)] [(t.2.1,3,jD (nE l a t.1).1)]) (λt=>max m 1-t.1) (0,.aG,h_.set o (aY v a)) ⟨asQ _,M⟩ ?_ b_ ?_;unfold Ng;exact Lq;rintro⟨k,w,U⟩ ⟨R,x⟩;simp only at R x ⊢;simp only[go_sem,Ng];have E:=NA l O k;have u:=E8 l a k;by_cases hlt:k<max m 1;have D:=(y k).2 hlt;simp only[go_sem,D];refine pB (L.frac l v T o _ E) (x.at 0 rfl) rfl ?_;have B:=x.set 0 rfl (aY v (iJ l (nE l a k).2).2);have A:(1:Nat)*3<=16777216:=by decide
 simp only[go_sem,A];refine B.append 0 (src:=[(iJ l (nE l a k).2).1.cells]) rfl rfl (by unfold roomFor;rw[qO,u];simp only[atD,maxLen];omega) λS H' K _=>?_;rw[EM]at K;simp only[go_sem,wZz k];refine aE (k+1,S,H') ⟨hlt,K⟩ sO_ ?_ b_;exact Lq;have D:¬((k:Int)<(if(m:Int)<1 then 1 else(m:Int))):=λh=>hlt ((y k).1 h);have e:k=max m 1:=Om;subst e;simp only[go_sem,D];have J:jD (nE l a (max m 1)).1≠[]:=λh=>by have:=congrArg awE h;rw[qO,u]at this;simp at this
 rcases x.own 0 rfl with⟨N,_⟩|⟨q,rs,rfl,_⟩
 exact absurd N J;obtain⟨rs,g1,g2,g3,-,g4⟩:=x.frz 0 rfl;refine pE (vs:=[.osl q 3 0 (jD (nE l a (max m 1)).1).length]) (.inr rfl) rfl (.step g1 (.done (H2:=h_.set o (aY v (nE l a (max m 1)).2)) ?_ (d_ a_ ?_)));rw[bN,g3];exact⟨rfl,rfl⟩;have:=g4.at 0 rfl;rw[this];simp only[aS.frz,atU,auH,T.frz];rfl
theorem Xg(i:zH C)(s:List UInt8)(n:Nat)(x:Z' s<=100)(u:n<100):nv.wp C (aV Af.res (aK (.str (s++cT n)))) (g_ [.str s,.j n]) .nil:=by
 have w:(cT n).length<=2:=by unfold cT;rw[Lib.decDigits];split;simp;rw[Lib.decDigits,dif_pos Om];simp
 have e:¬(((Z' s+(cT n).length:Nat):Int)>9223372036854775807):=Om;simp only[go_sem,nv,Af];refine aD (i.itoa n u) rfl ?_;simp only[go_sem,Lh,e];refine eD ?_;rfl
structure zI(C:Ctx):Prop extends Bf C where
 rep:∀(l:N_)(v:PV),Tp l v->∀(o a m:Nat),m<=1000->a<=Z' l->aH C 5 [.ptr o 2 0 0,.int .i64 m] (h_.set o (aY v a)) (afZ l v o a (max m 1))
 name:∀(s:List UInt8)(n:Nat),Z' s<=100->n<100->aH C 29 [.str s,.int .i64 n] .nil (aK (.str (s++cT n)))
theorem U8(l:N_)(i j:Nat){a:Nat}(h:a<=Z' l):(kW l i j a).2<=Z' l:=by
 unfold kW;split;exact BF l h;split;exact h;simp only;split;exact BF l (bO l 3 h);exact bO l 3 h
theorem uc(l:N_)(i:Nat){a:Nat}(h:a<=Z' l):∀j,(fE l i a j).2<=Z' l
 |0=>h
 |j+1=>U8 l i j (uc l i h j)
theorem i0(l:N_)(i a:Nat):∀j,(fE l i a j).1.length=j
 |0=>rfl
 |j+1=>by simp only[fE,asX,atD,i0 l i a j]
theorem fi(l:N_)(n i:Nat)(s:KK)(h:s.a<=Z' l):(fD l n i s).2<=Z' l/\(fD l n i s).1<=s.left:=by
 unfold fD;split;exact⟨bO l _ h,by have:=cM l (Om:0<s.left+1) s.a;omega⟩;exact⟨h,asU _⟩
theorem Ck(l:N_)(n i:Nat){a:Nat}(h:a<=Z' l):(gY l n i a).2<=Z' l:=by
 unfold gY;simp only;split;exact bO l 3 (BF l h);exact BF l h
theorem tf(l:N_)(n:Nat){a:Nat}(h:a<=Z' l):∀i,(jB l n a i).a<=Z' l/\(jB l n a i).left<=8/\(jB l n a i).start.length=i/\(jB l n a i).exit.length=i/\(jB l n a i).arG.length=i
 |0=>⟨h,asU _,rfl,rfl,rfl⟩
 |i+1=>by obtain⟨e,y,u,w,h5⟩:=tf l n h i;have x:=fi l n i (jB l n a i) e;refine⟨?_,?_,?_,?_,?_⟩;exact uc l i (Ck l n i x.1) n;simp only[jB];omega;simp only[jB,asX,atD,u];simp only[jB,asX,atD,w];simp only[jB,asX,atD,h5]
abbrev BT(l:List (List RF)):P2_:=l.map λr=>[frs r]
theorem xq(l:List (List RF)):Flat (BT l):=Flat.map l λx c e q s rs=>by
 simp only[atG,atS,or_false]at e;subst e;rfl
abbrev fh(e i l:PV):aS:=.rows 4 [[.str [],e,i,l]]
abbrev Df:aS:=.rows 4 [[.str [],.aG,.aG,.aG]]
def iQ(o o4 o6 n left i:Nat)(w:PV)(j:Nat):PF:=((((((((n_.set 0 (.ptr o 2 0 0)).set 4 (.ptr o4 4 0 0)).set 5 (.int .i64 n)).set 6 (.ptr o6 4 0 0)).set 7 (.int .i64 left)).set 8 (.int .i64 i)).set 13 (w)).set 14 (.int .i64 j))
def eC(o o4 o6 n left i:Nat):PF:=((((((n_.set 0 (.ptr o 2 0 0)).set 4 (.ptr o4 4 0 0)).set 5 (.int .i64 n)).set 6 (.ptr o6 4 0 0)).set 7 (.int .i64 left)).set 8 (.int .i64 i))
theorem fv{l:List RF}(h:Z' l<=1000):roomFor (jD l).length 1 56:=by
 unfold roomFor;rw[qO];simp only[maxLen];omega
theorem Xc(W:zI C){l:N_}{v:PV}(T:Tp l v)(o o4 o6 n left i a:Nat)(ha:a<=Z' l)(hn:n<=100)(hi:i<n)(B:List BX)(L:List LI)(K:bP)(F:PF)(H:PH)
  (hF:(iQ o o4 o6 n left i .aG 0).le F) (O:aN H ((o,aY v a)::B) L)
  (hK:∀w y H',(iQ o o4 o6 n left i w n).le y->aN H' ((o,aY v (fE l i a n).2)::B) (L++[(w,3,jD (fE l i a n).1)])->K (.exit 2) y H') :
  aJ.wp C (.loop PU) K F H:=by
 refine wp_loop (α:=T3_) (λt=>iQ o o4 o6 n left i t.2.1 t.1) (λt=>t.2.2) (λt=>t.1<=n/\aN t.2.2 ((o,aY v (fE l i a t.1).2)::B) (L++[(t.2.1,3,jD (fE l i a t.1).1)])) (λt=>n-t.1) (0,.aG,H) ⟨asQ _,O.lE 3⟩ hF b_ ?_;rintro⟨j,w,H0⟩ ⟨hj,O⟩;simp only at hj O ⊢;have N:=uc l i ha j;have ε:=i0 l i a j;have e1:i_.wrap ((i:Int)+1)=((i+1:Nat):Int):=fI Om;simp only[go_sem,PU,iQ];by_cases hlt:j<n;have E:(j:Int)<(n:Nat):=Om;simp only[go_sem,E];refine aD (W.int 0 (by unfold eQ;omega)) rfl ?_;simp only[go_sem];refine aQ λp hp=>?_;have A:=O.new hp (.rows 3 [mI.cells]);simp only[go_sem,e1];have fin:∀(y:PF)(H':PH),(iQ o o4 o6 n left i w j).le y->y 15=some (.ptr p 3 0 0)->aN H' ((o,aY v (kW l i j (fE l i a j).2).2)::B++[(p,.rows 3 [(kW l i j (fE l i a j).2).1.cells])]) (L++[(w,3,jD (fE l i a j).1)]) ->
   aJ.wp C (.region gh) (fL 3 (gL C (aJ.wp C (.region gi)) (fK (λ(t:T3_)=>iQ o o4 o6 n left i t.2.1 t.1) (λt=>t.2.2) (λt=>t.1<=n/\aN t.2.2 ((o,aY v (fE l i a t.1).2)::B) (L++[(t.2.1,3,jD (fE l i a t.1).1)])) (λt=>n-t.1) (n-j) K))) y H':=by
  intro y H' e J R;have f0:y 0=some (.ptr o 2 0 0):=e 0 _ (by unfold iQ;simp only[go_sem]);have f4:y 4=some (.ptr o4 4 0 0):=e 4 _ (by unfold iQ;simp only[go_sem]);have f5:y 5=some (.j n):=e 5 _ (by unfold iQ;simp only[go_sem]);have f6:y 6=some (.ptr o6 4 0 0):=e 6 _ (by unfold iQ;simp only[go_sem]);have f7:y 7=some (.j left):=e 7 _ (by unfold iQ;simp only[go_sem]);have f8:y 8=some (.j i):=e 8 _ (by unfold iQ;simp only[go_sem]);have f13:y 13=some w:=e 13 _ (by unfold iQ;simp only[go_sem]);have f14:y 14=some (.j j):=e 14 _ (by unfold iQ;simp only[go_sem]);have γ:H' p=some (.rows 3 [(kW l i j (fE l i a j).2).1.cells]):=R.box (p,.rows 3 [(kW l i j (fE l i a j).2).1.cells]) aZ;have Y:(1:Nat)*3<=16777216:=by decide
  simp only[go_sem,gh,f13,J,γ,Y];refine R.append (v:=w) (s:=3) (rows:=jD (fE l i a j).1) L.length (src:=[(kW l i j (fE l i a j).2).1.cells]) aZ rfl (fv Om) λw' H2 h2 _=>?_;rw[EM,avQ _ _ (asU _),auK]at h2;simp only[go_sem,gi,f14,wZz j];refine aE (α:=T3_) (j+1,w',H2) ⟨hlt,h2.sub (List.sublist_append_left ..) (avE.refl _)⟩ sO_ ?_ b_;unfold iQ;exact Lq
 simp only[aJ.wp,go_sem]at fin;have V:∀x:RF,PH.set (PH.set H0 p (.rows 3 [mI.cells])) p (.rows 3 [x.cells])=PH.set H0 p (.rows 3 [x.cells]):=λx=>PH.set_set p _ _;have draw:∀(y:PF)(S:PH)(a1:Nat),a1<=Z' l->(iQ o o4 o6 n left i w j).le y->y 15=some (.ptr p 3 0 0)->aN S ((o,aY v a1)::B++[(p,.rows 3 [mI.cells])]) (L++[(w,3,jD (fE l i a j).1)])->kW l i j (fE l i a j).2=iJ l a1->∀K',(∀M H2,(iQ o o4 o6 n left i w j).le M->M 15=some (.ptr p 3 0 0)->aN H2 ((o,aY v (kW l i j (fE l i a j).2).2)::B++[(p,.rows 3 [(kW l i j (fE l i a j).2).1.cells])]) (L++[(w,3,jD (fE l i a j).1)])->K' M H2) ->
   wpOps C gg K' y S:=by
  intro y S a1 β e J A he K' Z;have f0:y 0=some (.ptr o 2 0 0):=e 0 _ (by unfold iQ;simp only[go_sem]);simp only[go_sem,gg,f0];refine pB (W.frac l v T o a1 β) (A.at 0 rfl) rfl ?_;have D:aN (S.set o (aY v (iJ l a1).2)) ((o,aY v (iJ l a1).2)::B++[(p,.rows 3 [mI.cells])]) (L++[(w,3,jD (fE l i a j).1)]):=A.set 0 rfl _;have δ:=D.MF;simp only[go_sem,J,δ];refine Z _ _ ?_ (by simp only[go_sem,J]) ?_;have g:=λ(q:Nat) u h=>e q u h;unfold iQ at g ⊢;refine e_ (e_ (e_ (e_ (e_ (e_ (e_ (e_ c_ ?_) ?_) ?_) ?_) ?_) ?_) ?_) ?_;simp only[go_sem,f0];simp only[go_sem,g 4 _ rfl];simp only[go_sem,g 5 _ rfl];simp only[go_sem,g 6 _ rfl];simp only[go_sem,g 7 _ rfl];simp only[go_sem,g 8 _ rfl];simp only[go_sem,g 13 _ rfl];simp only[go_sem,g 14 _ rfl];rw[he];exact D.YY (.rows 3 [(iJ l a1).1.cells])
 by_cases U:j=i+1;have he:kW l i j (fE l i a j).2=iJ l (fE l i a j).2:=by unfold kW;rw[aF U]
 simp only[go_sem,bR (Om:(j:Int)=((i+1:Nat):Int))];refine draw _ _ _ N (by unfold iQ;exact Lq) rfl A he _ ?_;intro M H2 k1 k2 k3;exact fin M H2 k1 k2 k3;simp only[go_sem,bH (Om:¬(j:Int)=((i+1:Nat):Int))];by_cases X:j=i;have he:kW l i j (fE l i a j).2=(mI,(fE l i a j).2):=by unfold kW;rw[aC U,aF X]
 simp only[go_sem,cB (Om:(j:Int)=(i:Int))];exact fin _ _ (by unfold iQ;exact Lq) rfl (by rw[he];exact A);simp only[go_sem,cY (Om:¬(j:Int)=(i:Int))];refine dM W.tozH T (o:=o) (n:=3) (a:=(fE l i a j).2) aR N rfl (A.at 0 rfl) ?_;have D:aN _ ((o,aY v (aI l 3 (fE l i a j).2).2)::B++[(p,.rows 3 [mI.cells])]) (L++[(w,3,jD (fE l i a j).1)]):=A.set 0 rfl _;by_cases c3:(aI l 3 (fE l i a j).2).1=0;have he:kW l i j (fE l i a j).2=iJ l (aI l 3 (fE l i a j).2).2:=by unfold kW;rw[aC U,aC X];simp only[c3,if_true]
 simp only[go_sem,bR (show(((aI l 3 (fE l i a j).2).1:Nat):Int)=0 by omega)];refine draw _ _ _ (bO l 3 N) (by unfold iQ;exact Lq) rfl D he _ ?_;intro M H2 k1 k2 k3;exact fin M H2 k1 k2 k3;have he:kW l i j (fE l i a j).2=(mI,(aI l 3 (fE l i a j).2).2):=by unfold kW;rw[aC U,aC X];simp only[c3,if_false]
 simp only[go_sem,bH (show ¬(((aI l 3 (fE l i a j).2).1:Nat):Int)=0 by omega)];exact fin _ _ (by unfold iQ;exact Lq) rfl (by rw[he];exact D);have E:¬(j:Int)<(n:Nat):=Om;have:j=n:=Om;subst this;simp only[go_sem,E];exact hK w _ _ (by unfold iQ;exact Lq) O
abbrev xK(o o4 o6:Nat)(v e i l:PV)(a:Nat):List BX:=[(o,aY v a),(o4,Df),(o6,fh e i l)]
abbrev CC(s:KK)(e i l:PV):List LI:=[(e,3,jD s.start),(i,1,BT s.arG),(l,3,jD s.exit)]
theorem Ry(J:zI C){l:N_}{v:PV}(T:Tp l v)(o o4 o6 n i:Nat)(s:KK)(E:s.a<=Z' l)(V:s.left<=8)(W:n<=100)(hi:i<n)(B:List BX)(L:List LI)(rest:aJ)(K:bP)(F:PF)(H:PH)
  (e:(eC o o4 o6 n s.left i).le F) (A:aN H ((o,aY v s.a)::B) L)
  (w:∀x H',(eC o o4 o6 n (s.left-(fD l n i s).1) i).le x->x 9=some (.j ((fD l n i s).1:Nat))->aN H' ((o,aY v (fD l n i s).2)::B) L->aJ.wp C rest K x H') :
  aJ.wp C (.seq (.region ti) (.seq (.seq (.region tj) (.cond (.tmp 29) (.region tk) .skip)) (.seq (.region YP) rest))) K F H:=by
 have f0:F 0=some (.ptr o 2 0 0):=e 0 _ (by unfold eC;simp only[go_sem]);have S:F 4=some (.ptr o4 4 0 0):=e 4 _ (by unfold eC;simp only[go_sem]);have O:F 5=some (.j n):=e 5 _ (by unfold eC;simp only[go_sem]);have f6:F 6=some (.ptr o6 4 0 0):=e 6 _ (by unfold eC;simp only[go_sem]);have f7:F 7=some (.j s.left):=e 7 _ (by unfold eC;simp only[go_sem]);have R:F 8=some (.j i):=e 8 _ (by unfold eC;simp only[go_sem]);have M:i_.wrap ((i:Int)+1)=((i+1:Nat):Int):=fI Om;have U:=(fi l n i s E).2;have u:i_.wrap ((s.left:Int)-((fD l n i s).1:Int))=((s.left-(fD l n i s).1:Nat):Int):=wO_
 simp only[go_sem,ti,f7,tj,R,O,M];by_cases c:i+1<n;have y:((i+1:Nat):Int)<(n:Nat):=Om;have he:fD l n i s=aI l (s.left+1) s.a:=by unfold fD;rw[aF c]
 have N:i_.wrap ((s.left:Int)+1)=((s.left+1:Nat):Int):=fI Om;rw[he]at w u;simp only[go_sem,y,tk,f0,f7,N];refine dM J.tozH T (o:=o) (n:=s.left+1) (a:=s.a) Om E rfl A.agG ?_;have D:=A.aeI (aY v (aI l (s.left+1) s.a).2);simp only[go_sem,YP,f7,u];refine w _ _ ?_ rfl D;unfold eC;exact Lq;have y:¬((i+1:Nat):Int)<(n:Nat):=Om;have he:fD l n i s=(s.left,s.a):=by unfold fD;rw[aC c]
 rw[he]at w u;simp only at w u;simp only[go_sem,y,YP,f7,u];refine w _ _ ?_ rfl A;unfold eC;exact Lq
theorem Nc(O:zI C){l:N_}{v:PV}(o o4 o6 n i left k a:Nat)(hk:k<=8)(hi:i<n)(hn:n<=100)(s:KK)(hs:Z' s.start=i)(N x A:PV)(B:List BX)(rest:aJ)(K:bP)(F:PF)(H:PH)
  (w:(eC o o4 o6 n left i).le F) (R:F 9=some (.j k)) (W:aN H (xK o o4 o6 v N x A a++B) (CC s N x A))
  (X:∀u M H' B',(eC o o4 o6 n left i).le M->aN H' (xK o o4 o6 v u x A a++B') (CC { s with start:=s.start++[mkT (k:Nat) 8] } u x A)->aJ.wp C rest K M H') :
  aJ.wp C (.seq (.region fw) (.seq (.region fx) rest)) K F H:=by
 have f0:F 0=some (.ptr o 2 0 0):=w 0 _ (by unfold eC;simp only[go_sem]);have Z:F 4=some (.ptr o4 4 0 0):=w 4 _ (by unfold eC;simp only[go_sem]);have f5:F 5=some (.j n):=w 5 _ (by unfold eC;simp only[go_sem]);have f6:F 6=some (.ptr o6 4 0 0):=w 6 _ (by unfold eC;simp only[go_sem]);have f7:F 7=some (.j left):=w 7 _ (by unfold eC;simp only[go_sem]);have f8:F 8=some (.j i):=w 8 _ (by unfold eC;simp only[go_sem]);simp only[go_sem,fw,R];refine aD (O.fmk (k:Int) 8 (by unfold eQ;omega) (by unfold eQ;omega)) rfl ?_;unfold DN;rw[aC aR];simp only[go_sem];refine aQ λp hp=>?_;have e:=W.new hp (.rows 3 [(mkT (k:Nat) 8).cells]);have S:=e.at 2 rfl;have U:=e.MF;have E:(1:Nat)*3<=16777216:=by decide
 have Y:∀y,PH.set (PH.set H p (.rows 3 [[PV.bool false,PV.aG,PV.aG]])) p y=PH.set H p y:=λy=>PH.set_set p _ _;simp only[go_sem,fx,f6,S,U,E];refine e.append 0 (src:=[(mkT (k:Nat) 8).cells]) rfl rfl (fv Om) λu H2 J L=>?_;rw[EM]at J L;rw[qO]at L;obtain⟨q,rfl⟩:=L aZ;have D:=J.at 2 rfl;simp only[go_sem,D,atG,atS,or_false,forall_eq];have V:=J.set 2 rfl (fh (.osl q 3 0 (s.start++[mkT (k:Nat) 8]).length) x A);refine X _ _ _ (B++[(p,.rows 3 [(mkT (k:Nat) 8).cells])]) ?_ V;unfold eC;exact Lq
theorem Rx(M:zI C){l:N_}{v:PV}(T:Tp l v)(o o4 o6 n i left a:Nat)(ha:a<=Z' l)(hi:i<n)(hn:n<=100)(s:KK)(hs:Z' s.exit=i)(w x L:PV)(B:List BX)(rest:aJ)(K:bP)(F:PF)(H:PH)
  (J:(eC o o4 o6 n left i).le F) (hH:aN H (xK o o4 o6 v w x L a++B) (CC s w x L))
  (hK:∀E e H' B',(eC o o4 o6 n left i).le e->aN H' (xK o o4 o6 v w x E (gY l n i a).2++B') (CC { s with exit:=s.exit++[(gY l n i a).1] } w x E)->aJ.wp C rest K e H') :
  aJ.wp C (.seq (.region fy) (.seq (.seq (.region ga) (.cond (.tmp 58) (.region gb) .skip)) (.seq (.region PW) rest))) K F H:=by
 have f0:F 0=some (.ptr o 2 0 0):=J 0 _ (by unfold eC;simp only[go_sem]);have f4:F 4=some (.ptr o4 4 0 0):=J 4 _ (by unfold eC;simp only[go_sem]);have f5:F 5=some (.j n):=J 5 _ (by unfold eC;simp only[go_sem]);have f6:F 6=some (.ptr o6 4 0 0):=J 6 _ (by unfold eC;simp only[go_sem]);have f7:F 7=some (.j left):=J 7 _ (by unfold eC;simp only[go_sem]);have f8:F 8=some (.j i):=J 8 _ (by unfold eC;simp only[go_sem]);have e1:i_.wrap ((i:Int)+1)=((i+1:Nat):Int):=fI Om;simp only[go_sem,fy,f0];refine pB (M.frac l v T o a ha) (hH.at 0 rfl) rfl ?_;have W:=hH.set 0 rfl (aY v (iJ l a).2);simp only[go_sem];refine aQ λp hp=>?_;have A:=W.new hp (.rows 3 [(iJ l a).1.cells]);simp only[go_sem,ga,f8,f5,e1];have fin:∀(e:PF)(H':PH),(eC o o4 o6 n left i).le e->e 12=some (.ptr p 3 0 0)->aN H' (xK o o4 o6 v w x L (gY l n i a).2++B++[(p,.rows 3 [(gY l n i a).1.cells])]) (CC s w x L)->wpOps C PW (aJ.wp C rest K) e H':=by
  intro e H' u O y;have q0:e 0=some (.ptr o 2 0 0):=u 0 _ (by unfold eC;simp only[go_sem]);have q4:e 4=some (.ptr o4 4 0 0):=u 4 _ (by unfold eC;simp only[go_sem]);have q5:e 5=some (.j n):=u 5 _ (by unfold eC;simp only[go_sem]);have q6:e 6=some (.ptr o6 4 0 0):=u 6 _ (by unfold eC;simp only[go_sem]);have q7:e 7=some (.j left):=u 7 _ (by unfold eC;simp only[go_sem]);have q8:e 8=some (.j i):=u 8 _ (by unfold eC;simp only[go_sem]);have g6:=y.at 2 rfl;have S:=y.MF;have U:(1:Nat)*3<=16777216:=by decide
  simp only[go_sem,PW,q6,g6,O,S,U];refine y.append 2 (src:=[(gY l n i a).1.cells]) rfl rfl (fv Om) λE H2 V Y=>?_;rw[EM]at V Y;rw[qO]at Y;obtain⟨q,rfl⟩:=Y aZ;have R:=V.at 2 rfl;simp only[go_sem,R,atG,atS,or_false,forall_eq];have h3:=V.set 2 rfl (fh w x (.osl q 3 0 (s.exit++[(gY l n i a).1]).length));refine hK _ _ _ (B++[(p,.rows 3 [(gY l n i a).1.cells])]) ?_ h3;unfold eC;exact Lq
 by_cases c:i+1<n;have N:((i+1:Nat):Int)<(n:Nat):=Om;have X:=BF l ha;simp only[go_sem,N,f0];refine dM M.tozH T (o:=o) (n:=3) (a:=(iJ l a).2) aR X rfl (A.at 0 rfl) ?_;have D:=A.set 0 rfl (aY v (aI l 3 (iJ l a).2).2);by_cases Z:(aI l 3 (iJ l a).2).1=0;have he:gY l n i a=(mI,(aI l 3 (iJ l a).2).2):=by unfold gY;simp only[aF c,Z,if_true]
 have S:=aN.MF (B:=xK o o4 o6 v w x L (aI l 3 (iJ l a).2).2++B) D;simp only[go_sem,bR (show(((aI l 3 (iJ l a).2).1:Nat):Int)=0 by omega),gb];refine aD (M.int 0 (by unfold eQ;omega)) rfl ?_;simp only[go_sem,S];refine fin _ _ ?_ rfl ?_;unfold eC;exact Lq;rw[he];exact aN.YY (B:=xK o o4 o6 v w x L (aI l 3 (iJ l a).2).2++B) D (.rows 3 [mI.cells]);have he:gY l n i a=((iJ l a).1,(aI l 3 (iJ l a).2).2):=by unfold gY;simp only[aF c,Z,if_false]
 simp only[go_sem,bH (show ¬(((aI l 3 (iJ l a).2).1:Nat):Int)=0 by omega)];refine fin _ _ ?_ rfl ?_;unfold eC;exact Lq;rw[he];exact D;have N:¬((i+1:Nat):Int)<(n:Nat):=Om;have he:gY l n i a=iJ l a:=by unfold gY;simp only[aC c]
 simp only[go_sem,N];refine fin _ _ ?_ rfl ?_;unfold eC;exact Lq;rw[he];exact A
def U1(l:N_)(v:PV)(o dU a:Nat)(r:PV)(H:PH):Prop:=r=.agg (wV l dU a).1.cells/\H=h_.set o (aY v (wV l dU a).2)
theorem S8{l:List (List RF)}(h:Z' l<=1000):roomFor (BT l).length 1 24:=by
 unfold roomFor;simp only[asO,maxLen];omega
theorem S9(l:List (List RF))(x:List RF):BT l++[[frs x]]=BT (l++[x]):=by simp[BT]
theorem Nb(Lb:zI C){l:N_}{v:PV}(T:Tp l v)(o o4 o6 n left i a:Nat)(ha:a<=Z' l)(hn:n<=100)(hi:i<n)(s:KK)(hs:Z' s.arG=i)(A N J:PV)(B:List BX)(K:bP)(F:PF)(H:PH)
  (L:(eC o o4 o6 n left i).le F) (hH:aN H (xK o o4 o6 v A N J a++B) (CC s A N J))
  (hK:∀E D W H' B',(eC o o4 o6 n left i).le W->(∃q,D=.osl q 3 0 n)->aN H' (xK o o4 o6 v A E J (fE l i a n).2++B') [(A,3,jD s.start),(E,1,BT s.arG++[[D]]),(J,3,jD s.exit),(D,3,jD (fE l i a n).1)]->K .normal W H') :
  aJ.wp C (.seq (.region ge) (.seq (.seq (.region gf) (.block 2 (.loop PU))) (.region gj))) K F H:=by
 have f0:F 0=some (.ptr o 2 0 0):=L 0 _ (by unfold eC;simp only[go_sem]);have f4:F 4=some (.ptr o4 4 0 0):=L 4 _ (by unfold eC;simp only[go_sem]);have f5:F 5=some (.j n):=L 5 _ (by unfold eC;simp only[go_sem]);have f6:F 6=some (.ptr o6 4 0 0):=L 6 _ (by unfold eC;simp only[go_sem]);have f7:F 7=some (.j left):=L 7 _ (by unfold eC;simp only[go_sem]);have f8:F 8=some (.j i):=L 8 _ (by unfold eC;simp only[go_sem]);simp only[go_sem,ge,gf];refine Xc (C:=C) Lb T o o4 o6 n left i a ha hn hi ([(o4,Df),(o6,fh A N J)]++B) (CC s A N J) _ _ H ?_ hH ?_;unfold iQ;exact lE6 f0 f4 f5 f6 f7 f8;intro w x H1 e y;have u:=i0 l i a n;have hw:∃q,w=.osl q 3 0 n:=by
  rcases y.own (v:=w) 3 rfl with⟨M,_⟩|⟨q,rs,M,_⟩
  have:=congrArg awE M;rw[qO,u]at this;simp at this;omega;rw[qO,u]at M;exact⟨q,M⟩
 obtain⟨q,rfl⟩:=hw;have g0:x 0=some (.ptr o 2 0 0):=e 0 _ (by unfold iQ;simp only[go_sem]);have g4:x 4=some (.ptr o4 4 0 0):=e 4 _ (by unfold iQ;simp only[go_sem]);have g5:x 5=some (.j n):=e 5 _ (by unfold iQ;simp only[go_sem]);have X:x 6=some (.ptr o6 4 0 0):=e 6 _ (by unfold iQ;simp only[go_sem]);have g7:x 7=some (.j left):=e 7 _ (by unfold iQ;simp only[go_sem]);have g8:x 8=some (.j i):=e 8 _ (by unfold iQ;simp only[go_sem]);have R:x 13=some (.osl q 3 0 n):=e 13 _ (by unfold iQ;simp only[go_sem]);have b6:=y.at 2 rfl;have S:(1:Nat)*1<=16777216:=by decide
 simp only[go_sem,gj,X,b6,R,S,atG,atS,or_false,forall_eq];refine y.append 1 (src:=[[.osl q 3 0 n]]) rfl Sq (S8 Om) λE H2 Y V=>?_;obtain⟨q2,rfl⟩:=V aZ;have O:=Y.at 2 rfl;simp only[go_sem,O,atG,atS,or_false,forall_eq];have Z:=Y.set 2 rfl (fh A (.osl q2 1 0 (BT s.arG++[[PV.osl q 3 0 n]]).length) J);have U:(BT s.arG++[[(PV.osl q 3 0 n:PV)]]).length=Z' s.arG+1:=by simp
 rw[U]at Z ⊢;refine hK (.osl q2 1 0 (Z' s.arG+1)) (.osl q 3 0 n) _ _ B ?_ ⟨q,rfl⟩ Z;unfold eC;exact lE6 g0 g4 g5 X g7 g8
theorem acX(L:zI C){l:N_}{v:PV}(T:Tp l v)(o dU a:Nat)(hm:0<dU)(ε:dU<=50)(ha:a<=Z' l):wc.wp C (aV kZ.res (U1 l v o dU a)) (g_ [.ptr o 2 0 0,.j dU]) (h_.set o (aY v a)):=by
 have h0:aN (h_.set o (aY v a)) [(o,aY v a)] []:=aN.nil.new (H:=h_) rfl (aY v a);simp only[go_sem,wc,kZ];refine aQ λo4 γ=>?_;have K:=h0.new γ Df;simp only[go_sem];refine dM L.tozH T (o:=o) (n:=dU) (a:=a) Om ha Sq (K.at 0 rfl) ?_;have h2:=K.set 0 rfl (aY v (aI l dU a).2);have hN:=cM l hm a;have Z:=bO l dU ha;have e1:i_.wrap (1+((aI l dU a).1:Int))=((1+(aI l dU a).1:Nat):Int):=wO_
 have β:∀s:KK,s=jB l (1+(aI l dU a).1) (aI l dU a).2 (1+(aI l dU a).1)->wV l dU a=(⟨[],s.start,s.arG,s.exit⟩,s.a):=λs hs=>by rw[hs];rfl
 have Y:∀r H,U1 l v o dU a r H↔r=.agg (wV l dU a).1.cells/\H=h_.set o (aY v (wV l dU a).2):=λ_ _=>Iff.rfl;generalize hn:1+(aI l dU a).1=n at *
 generalize hb:(aI l dU a).2=b at *
 have ζ:0<n:=Om;have e:n<=100:=Om;simp only[go_sem,e1];refine aQ λo6 δ=>?_;have h3:=((h2.new δ Df).lE 3).lE 1;have h4:=h3.lE 3;simp only[go_sem];refine wp_loop (α:=Nat × PV × PV × PV × PH) (λt=>eC o o4 o6 n (jB l n b t.1).left t.1) (λt=>t.2.2.2.2)
  (λt=>t.1<=n/\aN t.2.2.2.2 (xK o o4 o6 v t.2.1 t.2.2.1 t.2.2.2.1 (jB l n b t.1).a) (CC (jB l n b t.1) t.2.1 t.2.2.1 t.2.2.2.1)) (λt=>n-t.1) (0,.aG,.aG,.aG,_) ⟨asQ _,h4⟩ ?_ b_ ?_
 unfold eC
 (repeat' (first|exact c_|refine e_ ?_ ?_))<;>first|(simp only[go_sem,jB]<;>rfl)|rfl
 rintro⟨i,w1,M,N,H0⟩ ⟨hi,F⟩;simp only at hi F ⊢;obtain⟨k1,k2,k3,k4,k5⟩:=tf l n Z i;simp only[go_sem,eC];by_cases hlt:i<n;have D:(i:Int)<(n:Nat):=Om;have E:jB l n b (i+1)=⟨(jB l n b i).start++[mkT ((fD l n i (jB l n b i)).1:Nat) 8],(jB l n b i).exit++[(gY l n i (fD l n i (jB l n b i)).2).1],(jB l n b i).arG++[(fE l i (gY l n i (fD l n i (jB l n b i)).2).2 n).1],(jB l n b i).left-(fD l n i (jB l n b i)).1,(fE l i (gY l n i (fD l n i (jB l n b i)).2).2 n).2⟩:=rfl;have kl:=fi l n i (jB l n b i) k1;have ke:=Ck l n i kl.1;generalize hs:jB l n b i=s at *
 simp only[go_sem,D];refine Ry (C:=C) L T o o4 o6 n i s k1 k2 e hlt [(o4,Df),(o6,fh w1 M N)] (CC s w1 M N) _ _ _ H0 (by unfold eC;exact Lq) F ?_;intro F1 H1 O f9 U;refine Nc (C:=C) (l:=l) L o o4 o6 n i _ (fD l n i s).1 (fD l n i s).2 Om hlt e s k3 w1 M N [] _ _ F1 H1 O f9 U ?_;intro u F2 H2 B2 R V;refine Rx (C:=C) L T o o4 o6 n i _ (fD l n i s).2 kl.1 hlt e { s with start:=s.start++[mkT ((fD l n i s).1:Nat) 8] } k4 u M N B2 _ _ F2 H2 R V ?_;intro y F3 H3 B3 S W;refine Nb (C:=C) L T o o4 o6 n _ i (gY l n i (fD l n i s).2).2 ke e hlt { s with start:=s.start++[mkT ((fD l n i s).1:Nat) 8],exit:=s.exit++[(gY l n i (fD l n i s).2).1] } k5 u M y B3 _ F3 H3 S W ?_;rintro B η J H4 B4 A ⟨q,rfl⟩ X;have g0:J 0=some (.ptr o 2 0 0):=A 0 _ (by unfold eC;simp only[go_sem]);have g4:J 4=some (.ptr o4 4 0 0):=A 4 _ (by unfold eC;simp only[go_sem]);have g5:J 5=some (.j n):=A 5 _ (by unfold eC;simp only[go_sem]);have g6:J 6=some (.ptr o6 4 0 0):=A 6 _ (by unfold eC;simp only[go_sem]);have g7:J 7=some (.j (s.left-(fD l n i s).1:Nat)):=A 7 _ (by unfold eC;simp only[go_sem]);have g8:J 8=some (.j i):=A 8 _ (by unfold eC;simp only[go_sem]);obtain⟨rs,z1,z2,z3,z4,z5⟩:=X.frz 3 rfl;have y1:=z4 0 _ aR rfl;have y2:=z4 1 _ aR rfl;have y3:=z4 2 _ aR rfl;simp only at y1 y2 y3;have y4:=T.frz q 3 rs;simp only[go_sem,g8,wZz i];refine yU (i+1,u,B,y,H4.frz q 3 rs) z1 ⟨hlt,?_⟩ sO_ ?_ b_;rw[E];have eB:(xK o o4 o6 v u B y (fE l i (gY l n i (fD l n i s).2).2 n).2).map (λb=>(b.1,b.2.frz q 3 rs))=xK o o4 o6 v u B y (fE l i (gY l n i (fD l n i s).2).2 n).2:=by simp only[atU,auH,aS.frz,y1,y2,y3,y4];rfl
 have eL:([(u,3,jD (s.start++[mkT ((fD l n i s).1:Nat) 8])),(B,1,BT s.arG++[[.osl q 3 0 n]]),(y,3,jD (s.exit++[(gY l n i (fD l n i s).2).1]))]:List LI).map (λx=>(x.1,x.2.1,x.2.2.map λr=>r.map (PV.cO q 3 rs))) =
   CC ⟨s.start++[mkT ((fD l n i s).1:Nat) 8],s.exit++[(gY l n i (fD l n i s).2).1],s.arG++[(fE l i (gY l n i (fD l n i s).2).2 n).1],s.left-(fD l n i s).1,(fE l i (gY l n i (fD l n i s).2).2 n).2⟩ u B y:=by
  have e2:(BT s.arG++[[PV.osl q 3 0 n]]).map (λr=>r.map (PV.cO q 3 rs))=BT (s.arG++[(fE l i (gY l n i (fD l n i s).2).2 n).1]):=by rw[atK,xq,atU,auH,atU,auH,z2,S9]
  show([(u,3,(jD (s.start++[mkT ((fD l n i s).1:Nat) 8])).map (λr=>r.map (PV.cO q 3 rs))),(B,1,(BT s.arG++[[PV.osl q 3 0 n]]).map (λr=>r.map (PV.cO q 3 rs))),(y,3,(jD (s.exit++[(gY l n i (fD l n i s).2).1])).map (λr=>r.map (PV.cO q 3 rs)))]:List LI)=_;rw[OK,e2,OK]
 rw[<-eB,<-eL];exact z5.sub (by rw[atK];exact List.sublist_append_left ..) (avE.refl _);rw[E];exact lE6 g0 g4 g5 g6 g7 g8;have D:¬(i:Int)<(n:Nat):=Om;have:i=n:=Om;subst this;simp only[go_sem,D];have b4:=F.at 1 rfl;have b6:=F.at 2 rfl;have osl:∀{w:PV}{z:Nat}{rows:P2_},Z' rows=i->bC H0 z w rows->∃q,w=.osl q z 0 i:=by
  intro w z rows hr hO;rcases hO with⟨K,_⟩|⟨q,rs,K,_⟩
  rw[K]at hr;simp at hr;omega;exact⟨q,by rw[K,hr]⟩
 obtain⟨q1,rfl⟩:=osl (by rw[qO,k3]) (F.own 0 rfl);obtain⟨q2,rfl⟩:=osl (by rw[asO,k5]) (F.own 1 rfl);obtain⟨q3,rfl⟩:=osl (by rw[qO,k4]) (F.own 2 rfl);have hR:=β (jB l i b i) rfl;simp only[go_sem,b6,b4,atG,atS,or_false,forall_eq,forall_eq_or_imp];have x1:=F.set 1 rfl (fh (.osl q1 3 0 i) (.osl q2 1 0 i) (.osl q3 3 0 i));obtain⟨r1,s1,s2,s3,s4,s5⟩:=x1.frz 0 rfl;have u2:=s4 1 _ aR rfl;have u3:=s4 2 _ aR rfl;simp only at u2 u3;have u4:=T.frz q1 3 r1;obtain⟨r2,t1,t2,t3,t4,t5⟩:=s5.frz 0 rfl;have m3:=t4 1 _ aR rfl;simp only at m3;have m4:=T.frz q2 1 r2;obtain⟨r3,n1,n2,n3,n4,n5⟩:=t5.frz 0 rfl;have n4:=T.frz q3 3 r3;refine pE (vs:=[.agg [.str [],.osl q1 3 0 i,.osl q2 1 0 i,.osl q3 3 0 i]]) (.inr rfl) ?_ (.step s1 (.step t1 (.step n1 (.done (H2:=h_.set o (aY v (jB l i b i).a)) ?_ (d_ a_ ?_)))));simp only[go_sem];rw[Y,hR];refine⟨?_,rfl⟩;simp only[bN,PV.frz,PV.mM,atU,auH,s2,u2,u3,t2,m3,n2];simp only[PV.cO,OK _ _ _ _,xq _ _ _ _];have:=n5.at 0 rfl;rw[this];simp only[aS.frz,atU,auH,u4,m4,n4];rfl
structure rQ(C:Ctx):Prop extends zI C where
 law:∀(l:N_)(v:PV),Tp l v->∀(o dU a:Nat),0<dU->dU<=50->a<=Z' l->aH C 2 [.ptr o 2 0 0,.int .i64 dU] (h_.set o (aY v a)) (U1 l v o dU a)
structure GOk(l:N_)(arB:Nat)(s:GS):Prop where
 arL:Z' s.arL<=35
 arV:Z' s.arV<=arB
 a:s.a<=Z' l
theorem d7{l:N_}{mc arB dom:Nat}{s:GS}(h:GOk l arB s):∀i,GOk l arB (mG l mc arB dom s i)/\(mG l mc arB dom s i).arL=s.arL
 |0=>⟨h,rfl⟩
 |i+1=>by obtain⟨⟨e,x,u⟩,w⟩:=d7 (mc:=mc) (dom:=dom) h i;simp only[mG];split;exact⟨⟨e,by simp only[asX,atD];omega,bO l mc u⟩,w⟩;exact⟨⟨e,x,u⟩,w⟩
theorem Ja{l:N_}{level dom arB:Nat}{s:GS}(h:GOk l arB s)(e:wF arB s=false):GOk l arB (rT l level dom s)/\∃x:cU,(rT l level dom s).arL=s.arL++[x]/\x.level=(level:Int)/\x.parent=(dom:Int):=by
 obtain⟨w,i,u⟩:=h;unfold wF at e;rw[Bool.or_eq_false_iff]at e;have y:=of_decide_eq_false e.2;refine⟨⟨?_,i,?_⟩,_,rfl,rfl,rfl⟩;simp only[rT,asX,atD];omega;have a1:=bO l 3 (bO l 16 u);simp only[rT];split;exact bO l 6 a1;exact a1
theorem d8{l:N_}{level arB dom:Nat}{rec:Nat->GS->GS}(e:∀d t,GOk l arB t->GOk l arB (rec d t)/\∃u,(rec d t).arL=t.arL++u){s:GS}(h:GOk l arB s) :
  ∀i,GOk l arB (jK l level arB dom rec s i)/\∃u,(jK l level arB dom rec s i).arL=s.arL++u
 |0=>⟨h,[],by simp[jK]⟩
 |i+1=>by obtain⟨w,u,y⟩:=d8 e h i;simp only[jK];split;exact⟨w,u,y⟩;rename_i A;obtain⟨g1,x,g2,-⟩:=Ja (level:=level) (dom:=dom) w (by simpa using A);obtain⟨B,E,D⟩:=e ((rT l level dom (jK l level arB dom rec s i)).arL.length-1) _ g1;exact⟨B,u++[x]++E,by rw[D,g2,y];simp⟩
theorem ON{l:N_}{mc arB:Nat}:∀(k dom:Nat){s:GS},GOk l arB s->GOk l arB (gP l mc arB k dom s)/\∃u,(gP l mc arB k dom s).arL=s.arL++u
 |0,dom,s,h=>by have e:GOk l arB { s with a:=(aI l 2 s.a).2 }:=⟨h.arL,h.arV,bO l 2 h.a⟩;obtain⟨i,w⟩:=d7 (mc:=mc) (dom:=dom) e (1+(aI l 2 s.a).1);exact⟨i,[],by simp only[gP];rw[w];simp⟩
 |k+1,dom,s,h=>by have e:GOk l arB { s with a:=(aI l 2 s.a).2 }:=⟨h.arL,h.arV,bO l 2 h.a⟩;exact d8 (level:=4-k) (dom:=dom) (λd t x=>ON k d x) e (if 4-k=2 then 1 else 1+(aI l 2 s.a).1)
theorem Ml {l : N_} {level arB dom : Nat} {rec : Nat -> GS -> GS} {s : GS} {i : Nat} (h : wF arB (jK l level arB dom rec s i) = true) : ∀ n, i <= n -> jK l level arB dom rec s n = jK l level arB dom rec s i := by
  intro n hn
  induction n with
  | zero => have : i = 0 := Om
            subst this; rfl
  | succ n ih =>
    rcases atY n i with h' | h'
    · have : i = n + 1 := Om
      subst this; rfl
    · have e := ih h'
      simp only [jK];rw [e, aF h]
def mkS(l:N_)(v:PV):Spec:=λname vs=>match name,vs with
 |29,[.str s,.int _ i]=>some ([],λ_=>aK (.str (s++cT i.toNat)))
 |47,[.int _ n]=>some ([],λ_=>aK (.agg (mkT n 1).cells))
 |4,[.ptr o _ _ _,.int _ n]=>some ([o],λe r H'=>∀a,e o=some (aY v a)->j7 l v o n.toNat a r H')
 |_,_=>none
section
variable {C:Ctx} {F:PF} {H Hs:PH} {l:N_} {v:PV} {o a:Nat}
theorem xV(w:zH C)(T:Tp l v){n:Nat}{st:Bool}{args:List aP}{d:O_}{K:K_}(D:n<=1000000)(A:a<=Z' l)(e:aP.evs F args=some [.ptr o 2 0 0,.j n])(E:H o=some (aY v a))
  (i:Hs.le (H.set o (aY v (aI l n a).2))) (B:K (F.put d (.j ((aI l n a).1:Nat))) (H.set o (aY v (aI l n a).2))):dOp C Hs (mkS l v) st (.call 4 args) d K F H:=by
 refine Ca (x:=aY v a) (y:=aY v (aI l n a).2) (r:=.j ((aI l n a).1:Nat)) (R:=λu r H'=>∀a,u o=some (aY v a)->j7 l v o n a r H') rfl E (w.next l v T o n a D A) ?_ ?_ e i B;intro b hb;rw[bK]at hb;injection hb with hb
 injection hb with _ hb
 injection hb with hb _
 injection hb with _ hb
 injection hb with hb _
 injection hb with _ hb
 have:a=b:=Om;subst this;exact⟨rfl,rfl⟩;intro r' H' J;exact J a (by rw[bK])
theorem OA(u:zI C){s:List UInt8}{n:Nat}{st:Bool}{args:List aP}{d:O_}{K:K_}(y:Z' s<=100)(x:n<100)(e:aP.evs F args=some [.str s,.j n])(i:Hs.le H)(w:K (F.put d (.str (s++cT n))) H) :
  dOp C Hs (mkS l v) st (.call 29 args) d K F H:=
 cJ (v:=.str (s++cT n)) rfl (u.name s n y x) e i w
theorem abF(u:zH C){n:Int}{st:Bool}{args:List aP}{d:O_}{K:K_}(x:eQ n)(e:aP.evs F args=some [.j n])(i:Hs.le H)(w:K (F.put d (.agg (mkT n 1).cells)) H) :
  dOp C Hs (mkS l v) st (.call 47 args) d K F H:=
 cJ (v:=.agg (mkT n 1).cells) rfl (u.int n x) e i w
end
theorem bC.sX{H:PH}{s:Nat}{v:PV}{rows:P2_}(h:bC H s v rows):PV.sX v=some (.j (Z' rows:Nat)):=by
 rcases h with⟨rfl,rfl⟩|⟨q,rs,rfl,_⟩<;>rfl
abbrev mY(l:List cU):P2_:=l.map cU.cells
abbrev qM(l:List eN):P2_:=l.map eN.cells
abbrev flB(ext wl i e l wp wv:PV):aS:=.rows 7 [[ext,wl,i,e,l,wp,wv]]
structure GE where
 o:Nat
 fo:Nat
 qm:Nat
 ext:PV
 wl:PV
 wp:PV
 wv:PV
abbrev GE.boxes(G:GE)(v:PV)(mc:Nat)(e i:PV)(a:Nat):List BX:=[(G.o,aY v a),(G.fo,flB G.ext G.wl (.osl G.qm 4 0 mc) e i G.wp G.wv)]
abbrev pS(s:GS)(e i:PV):List LI:=[(e,7,mY s.arL),(i,3,qM s.arV)]
def gZ(G:GE)(dom arB level n i:Nat):PF:=(((((((n_.set 0 (.ptr G.o 2 0 0)).set 1 (.ptr G.fo 7 0 0)).set 2 (.int .i64 dom)).set 3 (.int .i64 arB)).set 8 (.int .i64 level)).set 9 (.int .i64 n)).set 10 (.int .i64 i))
theorem bC.one{H:PH}{s:Nat}{v:PV}{rows:P2_}(h:bC H s v rows)(e:0<Z' rows):∃q,v=.osl q s 0 rows.length:=by
 rcases h with⟨rfl,_⟩|⟨q,rs,rfl,_⟩
 simp at e;exact⟨q,rfl⟩
theorem D0(S:rQ C){l:N_}{v:PV}(T:Tp l v)(G:GE)(mc arB dom n:Nat)(γ:0<mc)(Y:mc<=1000)(β:arB<=60)(hn:n<=10)(s:GS)(hs:GOk l arB s)(x A:PV)(K:bP)(F:PF)(H:PH)
  (hF:(gZ G dom arB 5 n 0).le F) (y:aN H (G.boxes v mc x A s.a) (pS s x A))
  (hK:∀L D Z H',aN H' (G.boxes v mc L D (mG l mc arB dom s n).a) (pS (mG l mc arB dom s n) L D)->K (.exit 0) Z H') :
  aJ.wp C (.loop DE) K F H:=by
 refine wp_loop (α:=Nat × PV × PV × PH) (λt=>gZ G dom arB 5 n t.1) (λt=>t.2.2.2) (λt=>t.1<=n/\aN t.2.2.2 (G.boxes v mc t.2.1 t.2.2.1 (mG l mc arB dom s t.1).a) (pS (mG l mc arB dom s t.1) t.2.1 t.2.2.1)) (λt=>n-t.1) (0,x,A,H) ⟨asQ _,y⟩ hF b_ ?_;rintro⟨i,x,A,R⟩ ⟨hi,y⟩;simp only at hi y ⊢;obtain⟨N,-⟩:=d7 (mc:=mc) (dom:=dom) hs i;have u:mG l mc arB dom s (i+1)=(if(mG l mc arB dom s i).arV.length<arB then{ mG l mc arB dom s i with arV:=(mG l mc arB dom s i).arV++[⟨[100]++cT (mG l mc arB dom s i).arV.length,((aI l mc (mG l mc arB dom s i).a).1:Nat),(dom:Nat)⟩],a:=(aI l mc (mG l mc arB dom s i).a).2 }else mG l mc arB dom s i):=rfl;simp only[go_sem,DE,gZ];by_cases hlt:i<n;have w:(i:Int)<(n:Nat):=Om;generalize hg:mG l mc arB dom s i=g at *
 have b1:=y.at 1 rfl;have O:=(y.own 1 rfl).sX;rw[asO]at O;have U:=wZz i;simp only[go_sem,w,show(((5:Nat):Int)==5)=true from rfl,b1,O];by_cases X:Z' g.arV<arB;have B:(Z' g.arV:Int)<(arB:Nat):=Om;rw[aF X]at u;simp only[go_sem,B];have J:(h_.set G.fo (flB G.ext G.wl (.osl G.qm 4 0 mc) x A G.wp G.wv)).le R:=d_ a_ b1;refine bE (h_.set G.fo (flB G.ext G.wl (.osl G.qm 4 0 mc) x A G.wp G.wv)) (mkS l v) J ?_;simp only[go_sem,b1,O];refine OA S.tozI (s:=[100]) (n:=Z' g.arV) aR (by have:=N.arV;omega) rfl J ?_;simp only[go_sem];have ho:=y.at 0 rfl;have V:=y.set 0 rfl (aY v (aI l mc g.a).2);have M:=V.at 1 rfl;refine xV S.tozH T (o:=G.o) (n:=mc) (a:=g.a) Om N.a rfl ho (d_ a_ M) ?_;have E:(1:Nat)*3<=16777216:=by decide
 simp only[go_sem,E,atG,atS,or_false,forall_eq,forall_eq_or_imp];refine V.append 1 (src:=[(⟨[100]++cT g.arV.length,((aI l mc g.a).1:Nat),(dom:Nat)⟩:eN).cells]) rfl rfl (by unfold roomFor;rw[asO];have:=N.arV;simp only[atD,maxLen];omega) λD H2 W hw=>?_;obtain⟨q,rfl⟩:=hw aZ;have b2:=W.at 1 rfl;refine⟨d_ a_ b2,?_⟩;refine bE .nil cR a_ ?_;simp only[go_sem,b2,atG,atS,or_false,forall_eq];have h3:=W.set 1 rfl (flB G.ext G.wl (.osl G.qm 4 0 mc) x (.osl q 3 0 (qM g.arV++[(⟨[100]++cT g.arV.length,((aI l mc g.a).1:Nat),(dom:Nat)⟩:eN).cells]).length) G.wp G.wv);refine⟨a_,?_⟩;simp only[go_sem,U];refine aE (i+1,x,.osl q 3 0 (qM g.arV++[(⟨[100]++cT g.arV.length,((aI l mc g.a).1:Nat),(dom:Nat)⟩:eN).cells]).length,_) ⟨hlt,?_⟩ sO_ ?_ b_;rw[u];have e:qM (g.arV++[(⟨[100]++cT g.arV.length,((aI l mc g.a).1:Nat),(dom:Nat)⟩:eN)])=qM g.arV++[(⟨[100]++cT g.arV.length,((aI l mc g.a).1:Nat),(dom:Nat)⟩:eN).cells]:=by simp[qM]
 unfold pS;simp only;rw[e];exact h3;exact Lq;have B:¬(Z' g.arV:Int)<(arB:Nat):=Om;rw[aC X]at u;simp only[go_sem,B,U];refine aE (i+1,x,A,R) ⟨hlt,by rw[u];exact y⟩ sO_ ?_ b_;exact Lq;have w:¬(i:Int)<(n:Nat):=Om;have:i=n:=Om;subst this;simp only[go_sem,w];exact hK x A _ _ y
def Kx(G:GE)(v:PV)(mc:Nat)(s':GS)(r:PV)(B':List BX)(L':List LI):Prop:=r=.tup []/\∃e i,B'=G.boxes v mc e i s'.a/\L'=pS s' e i
def j4(C:Ctx)(l:N_)(v:PV)(mc arB k:Nat):Prop:=
 ∀(G:GE)(i u:PV)(s:GS)(dom:Nat)(x:cU),GOk l arB s->s.arL[dom]?=some x->x.level=4-(k:Int)->∀e,aN e (G.boxes v mc i u s.a) (pS s i u) ->
  aH C 7 [.ptr G.o 2 0 0,.ptr G.fo 7 0 0,.int .i64 dom,.int .i64 arB] e (λr H'=>∃B' L',Kx G v mc (gP l mc arB k dom s) r B' L'/\aN H' B' L')
theorem Rk{lv:Nat}(h:lv<=4):([45,115,114,107,109]:List UInt8)[lv]?=some (pD lv):=by
 match lv,h with
 |0,_=>rfl
 |1,_=>rfl
 |2,_=>rfl
 |3,_=>rfl
 |4,_=>rfl
theorem ay{l:N_}{v:PV}(G:GE)(mc arB dom lv n i k p:Nat)(γ:lv=4-k)(hk:k<4)(A:j4 C l v mc arB k)(g:GS)(x:cU)(a:Nat)(V:GOk l arB { g with arL:=g.arL++[x],a:=a })(hx:x.level=(lv:Nat))(W y:PV)(β:arB<=60)(K:bP)(F:PF)(H:PH)
  (u:(gZ G dom arB lv n i).le F) (f11:F 11=some (.ptr p 7 0 0)) (J:aN H (G.boxes v mc W y a++[(p,.rows 7 [x.cells])]) (pS g W y))
  (hK:∀w B S H',(gZ G dom arB lv n i).le S->aN H' (G.boxes v mc w B (gP l mc arB k g.arL.length { g with arL:=g.arL++[x],a:=a }).a) (pS (gP l mc arB k g.arL.length { g with arL:=g.arL++[x],a:=a }) w B)->K .normal S H') :
  aJ.wp C (.draw VD) (gL C (aJ.wp C (.region VE)) K) F H:=by
 have f0:F 0=some (.ptr G.o 2 0 0):=u 0 _ (by unfold gZ;simp only[go_sem]);have f1:F 1=some (.ptr G.fo 7 0 0):=u 1 _ (by unfold gZ;simp only[go_sem]);have f2:F 2=some (.j dom):=u 2 _ (by unfold gZ;simp only[go_sem]);have f3:F 3=some (.j arB):=u 3 _ (by unfold gZ;simp only[go_sem]);have f8:F 8=some (.j lv):=u 8 _ (by unfold gZ;simp only[go_sem]);have f9:F 9=some (.j n):=u 9 _ (by unfold gZ;simp only[go_sem]);have α:F 10=some (.j i):=u 10 _ (by unfold gZ;simp only[go_sem]);have N:=V.arL;simp only[asX,atD]at N;have b1:=J.at 1 rfl;have b2:=J.at 2 rfl;have D:(1:Nat)*7<=16777216:=by decide
 refine bE .nil cR a_ ?_;simp only[go_sem,VD,f1,f11,b1,b2,D,atG,atS,or_false,forall_eq,forall_eq_or_imp];refine J.append 0 (src:=[x.cells]) rfl rfl (by unfold roomFor;rw[asO];simp only[atD,maxLen];omega) λw H2 E hw=>?_;obtain⟨q,rfl⟩:=hw aZ;have hl:(mY g.arL++[x.cells]).length=Z' g.arL+1:=by simp
 rw[hl]at E ⊢;have Y:=E.at 1 rfl;refine⟨a_,?_⟩;simp only[go_sem,Y,atG,atS,or_false,forall_eq];have U:=E.set 1 rfl (flB G.ext G.wl (.osl G.qm 4 0 mc) (.osl q 7 0 (Z' g.arL+1)) y G.wp G.wv);have c2:=U.at 1 rfl;refine⟨a_,?_⟩;have e:mY (g.arL++[x])=mY g.arL++[x.cells]:=by simp[mY]
 have Z:i_.wrap (((Z' g.arL+1:Nat):Int)-1)=(Z' g.arL:Int):=wO_
 simp only[go_sem,VE,f0,f1,f3,Z];have h4:aN (H2.set G.fo (flB G.ext G.wl (.osl G.qm 4 0 mc) (.osl q 7 0 (Z' g.arL+1)) y G.wp G.wv)) (G.boxes v mc (.osl q 7 0 (Z' g.arL+1)) y a++[(p,.rows 7 [x.cells])]) (pS { g with arL:=g.arL++[x],a:=a } (.osl q 7 0 (Z' g.arL+1)) y++[]):=by unfold pS;simp only;rw[e];exact U
 refine LX h4 (λX M=>A G _ y { g with arL:=g.arL++[x],a:=a } g.arL.length x V aZ (by rw[hx];omega) X M) rfl ?_;rintro r B' L' H' ⟨rfl,O,R,rfl,rfl⟩ L;refine hK O R _ _ ?_ (L.sub (List.sublist_append_left ..) (by rw[auA];exact avE.refl _));unfold gZ;exact Lq
theorem SZ(U:rQ C){l:N_}{v:PV}(T:Tp l v)(G:GE)(mc arB dom n k:Nat)(hk:k<4)(W:arB<=60)(hn:n<=10)(O:j4 C l v mc arB k)(s:GS)(hs:GOk l arB s)(ζ:0<Z' s.arL)(M N:PV)(K:bP)(F:PF)(H:PH)
  (hF:(gZ G dom arB (4-k) n 0).le F) (D:aN H (G.boxes v mc M N s.a) (pS s M N))
  (Z:∀e A B y H',(e=.exit 0\/e=.ret)->aN H' (G.boxes v mc A B (jK l (4-k) arB dom (gP l mc arB k) s n).a) (pS (jK l (4-k) arB dom (gP l mc arB k) s n) A B)->K e y H') :
  aJ.wp C (.loop DE) K F H:=by
 obtain⟨lv,S⟩:∃lv,lv=4-k:=⟨_,rfl⟩;rw[<-S]at hF Z;refine wp_loop (α:=Nat × PV × PV × PH) (λt=>gZ G dom arB lv n t.1) (λt=>t.2.2.2) (λt=>t.1<=n/\aN t.2.2.2 (G.boxes v mc t.2.1 t.2.2.1 (jK l lv arB dom (gP l mc arB k) s t.1).a) (pS (jK l lv arB dom (gP l mc arB k) s t.1) t.2.1 t.2.2.1)) (λt=>n-t.1) (0,M,N,H) ⟨asQ _,D⟩ hF b_ ?_;rintro⟨i,M,N,H0⟩ ⟨hi,D⟩;simp only at hi D ⊢;obtain⟨Y,u,gu⟩:=d8 (level:=lv) (dom:=dom) (λd t ht=>ON (mc:=mc) k d ht) hs i;have J:=λh=>Ml (l:=l) (level:=lv) (arB:=arB) (dom:=dom) (rec:=gP l mc arB k) (s:=s) (i:=i) h n hi;have x:jK l lv arB dom (gP l mc arB k) s (i+1)=(if wF arB (jK l lv arB dom (gP l mc arB k) s i)then jK l lv arB dom (gP l mc arB k) s i else gP l mc arB k ((rT l lv dom (jK l lv arB dom (gP l mc arB k) s i)).arL.length-1) (rT l lv dom (jK l lv arB dom (gP l mc arB k) s i))):=rfl;simp only[go_sem,DE,gZ];by_cases hlt:i<n;have L:(i:Int)<(n:Nat):=Om;generalize hg:jK l lv arB dom (gP l mc arB k) s i=g at *
 have ε:0<Z' g.arL:=by rw[gu,asX];omega
 have b1:=D.at 1 rfl;have lr:=(D.own 1 rfl).sX;have ld:=(D.own 0 rfl).sX;rw[asO]at lr ld;have ei:=wZz i;simp only[go_sem,L,bH (Om:((lv:Nat):Int)≠5),b1,lr];by_cases c1:arB<=Z' g.arV;have V:wF arB g=true:=by unfold wF;simp[c1]
 simp only[go_sem,show(Z' g.arV:Int)>=(arB:Nat) by omega];exact Z _ M N _ _ (.inr rfl) (by rw[J V];exact D);simp only[go_sem,show ¬(Z' g.arV:Int)>=(arB:Nat) by omega,b1,ld];by_cases c2:35<=Z' g.arL;have V:wF arB g=true:=by unfold wF;simp[c2]
 simp only[go_sem,show(Z' g.arL:Int)>=35 by omega];exact Z _ M N _ _ (.inr rfl) (by rw[J V];exact D);have V:wF arB g=false:=by unfold wF;simp[c1,c2]
 rw[aC (by rw[V];decide)]at x;simp only[go_sem,show ¬(Z' g.arL:Int)>=35 by omega];have ls:=Rk (Om:lv<=4);refine bE .nil (mkS l v) a_ ?_;have γ:uX [[PV.int IntKind.u8 (((pD lv).toNat:Nat):Int)]]=some [pD lv]:=by simp[uX]
 obtain⟨X,x0,β,-⟩:=Ja (level:=lv) (dom:=dom) Y V;have δ:(rT l lv dom g).arL.length-1=Z' g.arL:=by rw[β];simp
 rw[δ]at x;have h1:=D.set 0 rfl (aY v (aI l 16 g.a).2);have a1:=bO l 16 Y.a;have n1:=cM l (show 0<16 by decide) g.a;have e1:i_.wrap (1+((aI l 16 g.a).1:Int))=((1+(aI l 16 g.a).1:Nat):Int):=wO_
 simp only[go_sem,ls,γ,b1,ld];refine OA U.tozI (s:=[pD lv]) (n:=Z' g.arL) aZ (by have:=Y.arL;omega) rfl a_ ?_;simp only[go_sem];refine xV U.tozH T (o:=G.o) (n:=16) (a:=g.a) Om Y.a rfl (D.at 0 rfl) a_ ?_;simp only[go_sem,e1];refine abF U.tozH (n:=0) (by unfold eQ;omega) rfl a_ ?_;simp only[go_sem,atG,atS,or_false,forall_eq,forall_eq_or_imp];refine aQ λp hp=>?_;have h2:=h1.new hp (.rows 7 [(⟨[pD lv]++cT g.arL.length,(lv:Nat),(dom:Nat),(1+(aI l 16 g.a).1:Nat),mI⟩:cU).cells]);simp only[go_sem,atG,atS,or_false,forall_eq,forall_eq_or_imp];refine⟨a_,?_⟩
 try simp only[go_sem]
 refine dM U.tozH T (o:=G.o) (n:=3) (a:=(aI l 16 g.a).2) aR a1 rfl (h2.at 0 rfl) ?_;have h3:=h2.set 0 rfl (aY v (aI l 3 (aI l 16 g.a).2).2);have a2:=bO l 3 a1;by_cases c3:(aI l 3 (aI l 16 g.a).2).1=0;have hd:rT l lv dom g={ g with arL:=g.arL++[⟨[pD lv]++cT g.arL.length,(lv:Nat),(dom:Nat),(1+(aI l 16 g.a).1:Nat),mkT 1 ((2+(aI l 6 (aI l 3 (aI l 16 g.a).2).2).1:Nat):Int)⟩],a:=(aI l 6 (aI l 3 (aI l 16 g.a).2).2).2 }:=by unfold rT;simp only[c3,if_true]
 rw[hd]at x X;have n2:=cM l (show 0<6 by decide) (aI l 3 (aI l 16 g.a).2).2;have e2:i_.wrap (2+((aI l 6 (aI l 3 (aI l 16 g.a).2).2).1:Int))=((2+(aI l 6 (aI l 3 (aI l 16 g.a).2).2).1:Nat):Int):=wO_
 simp only[go_sem,bR (show(((aI l 3 (aI l 16 g.a).2).1:Nat):Int)=0 by omega)];refine dM U.tozH T (o:=G.o) (n:=6) (a:=(aI l 3 (aI l 16 g.a).2).2) aR a2 rfl (h3.at 0 rfl) ?_;have h4:=h3.set 0 rfl (aY v (aI l 6 (aI l 3 (aI l 16 g.a).2).2).2);rw[PH.set_set]at h4;simp only[go_sem,e2];refine aD (U.fmk 1 ((2+(aI l 6 (aI l 3 (aI l 16 g.a).2).2).1:Nat):Int) (by unfold eQ;omega) (by unfold eQ;omega)) rfl ?_;unfold DN;rw[aC Om];simp only[go_sem,show ¬p=G.o from h4.ne 2 0 rfl rfl aR];have h5:=h4.set 2 rfl (.rows 7 [(⟨[pD lv]++cT g.arL.length,(lv:Nat),(dom:Nat),(1+(aI l 16 g.a).1:Nat),mkT 1 ((2+(aI l 6 (aI l 3 (aI l 16 g.a).2).2).1:Nat):Int)⟩:cU).cells])
 try simp only[uq]
 refine ay G mc arB dom lv n i k p S hk O g _ _ X rfl M N W _ _ _ (by unfold gZ;exact Lq) rfl h5 ?_;intro A B y H' w E;rw[<-x]at E;have R:y 10=some (.j i):=w 10 _ (by unfold gZ;simp only[go_sem]);have g0:y 0=some (.ptr G.o 2 0 0):=w 0 _ (by unfold gZ;simp only[go_sem]);have g1:y 1=some (.ptr G.fo 7 0 0):=w 1 _ (by unfold gZ;simp only[go_sem]);have g2:y 2=some (.j dom):=w 2 _ (by unfold gZ;simp only[go_sem]);have g3:y 3=some (.j arB):=w 3 _ (by unfold gZ;simp only[go_sem]);have g8:y 8=some (.j lv):=w 8 _ (by unfold gZ;simp only[go_sem]);have g9:y 9=some (.j n):=w 9 _ (by unfold gZ;simp only[go_sem]);simp only[go_sem,R,ei];refine aE (i+1,A,B,H') ⟨hlt,E⟩ sO_ ?_ b_;exact Lq;have hd:rT l lv dom g={ g with arL:=g.arL++[⟨[pD lv]++cT g.arL.length,(lv:Nat),(dom:Nat),(1+(aI l 16 g.a).1:Nat),mI⟩],a:=(aI l 3 (aI l 16 g.a).2).2 }:=by unfold rT;simp only[c3,if_false]
 rw[hd]at x X;simp only[go_sem,bH (show ¬(((aI l 3 (aI l 16 g.a).2).1:Nat):Int)=0 by omega)]
 try simp only[uq]
 refine ay G mc arB dom lv n i k p S hk O g _ _ X rfl M N W _ _ _ (by unfold gZ;exact Lq) rfl h3 ?_;intro A B y H' w E;rw[<-x]at E;have R:y 10=some (.j i):=w 10 _ (by unfold gZ;simp only[go_sem]);have g0:y 0=some (.ptr G.o 2 0 0):=w 0 _ (by unfold gZ;simp only[go_sem]);have g1:y 1=some (.ptr G.fo 7 0 0):=w 1 _ (by unfold gZ;simp only[go_sem]);have g2:y 2=some (.j dom):=w 2 _ (by unfold gZ;simp only[go_sem]);have g3:y 3=some (.j arB):=w 3 _ (by unfold gZ;simp only[go_sem]);have g8:y 8=some (.j lv):=w 8 _ (by unfold gZ;simp only[go_sem]);have g9:y 9=some (.j n):=w 9 _ (by unfold gZ;simp only[go_sem]);simp only[go_sem,R,ei];refine aE (i+1,A,B,H') ⟨hlt,E⟩ sO_ ?_ b_;exact Lq;have L:¬(i:Int)<(n:Nat):=Om;have:i=n:=Om;subst this;simp only[go_sem,L];exact Z _ M N _ _ (.inl rfl) D
theorem D1(N:rQ C){l:N_}{v:PV}(T:Tp l v)(mc arB k:Nat)(U:0<mc)(J:mc<=1000)(D:arB<=60)(hk:k<=4)(L:∀Z,k=Z+1->j4 C l v mc arB Z)(G:GE)(W M:PV)(s:GS)(dom:Nat)(x:cU)
  (O:GOk l arB s) (Y:s.arL[dom]?=some x) (hl:x.level=4-(k:Int)) (R:PH) (F:aN R (G.boxes v mc W M s.a) (pS s W M)) :
  PT.wp C (aV mS.res (λr H'=>∃B' L',Kx G v mc (gP l mc arB k dom s) r B' L'/\aN H' B' L')) (g_ [.ptr G.o 2 0 0,.ptr G.fo 7 0 0,.j dom,.j arB]) R:=by
 have B:dom<Z' s.arL:=(atX.1 Y).1;have b1:=F.at 1 rfl;have fin:∀(e:lI)(i u:PV)(y:PF)(H':PH),(e=.exit 0\/e=.ret)->aN H' (G.boxes v mc i u (gP l mc arB k dom s).a) (pS (gP l mc arB k dom s) i u) ->
   fL 0 (aV mS.res (λr H'=>∃B' L',Kx G v mc (gP l mc arB k dom s) r B' L'/\aN H' B' L')) e y H':=by
  intro e i u y H' he w;rcases he with rfl|rfl
  rw[KM,aF rfl];exact bM (vs:=[]) (.inl rfl) H' rfl b_ ⟨_,_,⟨rfl,i,u,rfl,rfl⟩,w⟩;exact bM (vs:=[]) (.inr rfl) H' rfl b_ ⟨_,_,⟨rfl,i,u,rfl,rfl⟩,w⟩
 obtain⟨q,rs,e1,e2,e3,e4⟩:∃q rs,W=.osl q 7 0 s.arL.length/\R q=some (.rows 7 rs)/\Z' s.arL<=Z' rs/\rs.take s.arL.length=mY s.arL:=by
  rcases F.own 0 rfl with⟨A,_⟩|⟨q,rs,A,h2,h3,h4⟩
  have:=congrArg awE A;rw[asO]at this;simp at this;rw[this]at B;simp at B;rw[asO]at A h3 h4;exact⟨q,rs,A,h2,h3,h4⟩
 have V:rs[dom]?=some x.cells:=by
  have:(mY s.arL)[dom]?=some x.cells:=by simp[mY,Y]
  rw[<-e4,List.getElem?_take_of_lt B]at this;exact this
 subst e1;have c1:(dom:Int)<(Z' s.arL:Nat):=Om;have ew:i_.wrap (x.level+1)=((5-k:Nat):Int):=by rw[hl,wrap_i64 Om Om];omega
 have β:=cM l (show 0<2 by decide) s.a;have en:i_.wrap (1+((aI l 2 s.a).1:Int))=((1+(aI l 2 s.a).1:Nat):Int):=wO_
 have A:=F.set 0 rfl (aY v (aI l 2 s.a).2);have E:GOk l arB { s with a:=(aI l 2 s.a).2 }:=⟨O.arL,O.arV,bO l 2 O.a⟩;have α:¬q=G.o:=λh=>F.neL 0 0 rfl rfl rfl h.symm;simp only[go_sem,PT,b1,c1,e2,V,ew];refine dM N.tozH T (o:=G.o) (n:=2) (a:=s.a) aR O.a (by simp only[go_sem];rfl) (F.at 0 rfl) ?_;simp only[go_sem,en];cases k with
 |zero =>simp only[go_sem,bH (Om:¬((5-0:Nat):Int)=2)];refine D0 (C:=C) N T G mc arB dom (1+(aI l 2 s.a).1) U J D Om { s with a:=(aI l 2 s.a).2 } E _ M _ _ _ ?_ A ?_;unfold gZ;exact Lq;intro i u y H' w;exact fin _ i u y H' (.inl rfl) w
 |succ k=>
  have K:=L k rfl;by_cases X:4-k=2;have S:gP l mc arB (k+1) dom s=jK l (4-k) arB dom (gP l mc arB k) { s with a:=(aI l 2 s.a).2 } 1:=by simp only[gP,aF X]
  simp only[go_sem,bR (show((5-(k+1):Nat):Int)=2 by omega)];refine SZ (C:=C) N T G mc arB dom 1 k Om D aR K { s with a:=(aI l 2 s.a).2 } E sO_ _ M _ _ _ ?_ A ?_;unfold gZ
  (repeat' (first|exact c_|refine e_ ?_ ?_))<;>first|(simp only[go_sem,show 4-k=5-(k+1) by omega]<;>rfl)|rfl
  intro e i u y H' he w;rw[<-S]at w;exact fin e i u y H' he w;have S:gP l mc arB (k+1) dom s=jK l (4-k) arB dom (gP l mc arB k) { s with a:=(aI l 2 s.a).2 } (1+(aI l 2 s.a).1):=by simp only[gP,aC X]
  simp only[go_sem,bH (show ¬((5-(k+1):Nat):Int)=2 by omega)];refine SZ (C:=C) N T G mc arB dom (1+(aI l 2 s.a).1) k Om D Om K { s with a:=(aI l 2 s.a).2 } E sO_ _ M _ _ _ ?_ A ?_;unfold gZ
  (repeat' (first|exact c_|refine e_ ?_ ?_))<;>first|(simp only[go_sem,show 4-k=5-(k+1) by omega]<;>rfl)|rfl
  intro e i u y H' he w;rw[<-S]at w;exact fin e i u y H' he w
theorem C3(A:rQ C){l:N_}{v:PV}(T:Tp l v)(mc arB:Nat)(w:0<mc)(i:mc<=1000)(u:arB<=60)
  (B:∀(args:V_)(H:PH)(R:R_),Z' args=4->PT.wp C (aV mS.res R) (g_ args) H->aH C 7 args H R):∀k,k<=4->j4 C l v mc arB k
 |0,h=>λG K L s dom x F J E y D=>B _ _ _ rfl (D1 A T mc arB 0 w i u h (λ_ e=>by omega) G K L s dom x F J E y D)
 |k+1,h=>λG K L s dom x F J E y D=>B _ _ _ rfl (D1 A T mc arB (k+1) w i u h (λM e=>by have:M=k:=Om;subst this;exact C3 A T mc arB w i u B M Om) G K L s dom x F J E y D)
theorem acM(l:N_)(dU:Nat){a:Nat}(h:a<=Z' l):(wV l dU a).2<=Z' l:=(tf l (1+(aI l dU a).1) (bO l dU h) (1+(aI l dU a).1)).1
theorem PB(l:N_){a:Nat}(h:a<=Z' l):∀k,(jR l a k).2<=Z' l/\(jR l a k).1.length=k
 |0=>⟨h,rfl⟩
 |k+1=>by obtain⟨e,i⟩:=PB l h k;exact⟨acM l 2 e,by simp only[jR,asX,atD,i]⟩
theorem FA(l:N_)(arJ:Nat){a:Nat}(h:a<=Z' l):∀k,(gC l arJ a k).2<=Z' l/\(gC l arJ a k).1.length=k
 |0=>⟨h,rfl⟩
 |k+1=>by obtain⟨e,i⟩:=FA l arJ h k;exact⟨bO l arJ (bO l 8 (bO l 4 e)),by simp only[gC,asX,atD,i]⟩
structure FE where
 o:Nat
 o6:Nat
 o7:Nat
 arB:Nat
 arD:Nat
abbrev flZ:aS:=flB (.int .i64 0) .aG .aG .aG .aG .aG .aG
abbrev FE.boxes(E:FE)(v ext e i l u w x:PV)(a:Nat):List BX:=[(E.o,aY v a),(E.o7,flB ext e i l u w x),(E.o6,flZ)]
def iX(E:FE):PF:=(((((n_.set 0 (.ptr E.o 2 0 0)).set 1 (.int .i64 E.arB)).set 2 (.int .i64 E.arD)).set 6 (.ptr E.o6 7 0 0)).set 7 (.ptr E.o7 7 0 0))
abbrev kI(l:List cV):P2_:=l.map cV.cells
abbrev mK(l:List dN):P2_:=l.map dN.cells
theorem YN{E:FE}{F:PF}(e:F 0=some (.ptr E.o 2 0 0))(i:F 1=some (.j E.arB))(l:F 2=some (.j E.arD))(u:F 6=some (.ptr E.o6 7 0 0))(h7:F 7=some (.ptr E.o7 7 0 0)):(iX E).le F:=
 e_ (e_ (e_ (e_ (e_ c_ e) i) l) u) h7
theorem W5(N:rQ C){l:N_}{v:PV}(T:Tp l v)(E:FE)(n a:Nat)(hn:n<=10)(W:a<=Z' l)(ext:PV)(K:bP)(F:PF)(H:PH)
  (U:(((iX E).set 8 (.j n)).set 9 (.j 0)).le F) (y:aN H (E.boxes v ext .aG .aG .aG .aG .aG .aG a) [])
  (V:∀J M H',(iX E).le M->aN H' (E.boxes v ext J .aG .aG .aG .aG .aG (jR l a n).2) [(J,4,kI (jR l a n).1)]->K (.exit 0) M H') :
  aJ.wp C (.loop VC) K F H:=by
 refine wp_loop (α:=T3_) (λt=>((iX E).set 8 (.j n)).set 9 (.j t.1)) (λt=>t.2.2) (λt=>t.1<=n/\aN t.2.2 (E.boxes v ext t.2.1 .aG .aG .aG .aG .aG (jR l a t.1).2) [(t.2.1,4,kI (jR l a t.1).1)]) (λt=>n-t.1) (0,.aG,H) ⟨asQ _,y.lE 4⟩ U b_ ?_;rintro⟨i,J,Z⟩ ⟨hi,y⟩;simp only at hi y ⊢;obtain⟨Y,k2⟩:=PB l W i;have x:jR l a (i+1)=((jR l a i).1++[{ (wV l 2 (jR l a i).2).1 with name:=[108,97,119]++cT i }],(wV l 2 (jR l a i).2).2):=rfl;simp only[go_sem,VC,iX];by_cases hlt:i<n;have u:(i:Int)<(n:Nat):=Om;generalize hg:jR l a i=g at *
 simp only[go_sem,u];refine pB (N.law l v T E.o 2 g.2 aR aR Y) (y.at 0 rfl) rfl ?_;have R:=y.set 0 rfl (aY v (wV l 2 g.2).2);generalize hz:wV l 2 g.2=z at *
 simp only[go_sem];refine aQ λp hp=>?_;have S:=R.new hp (.rows 4 [z.1.cells]);simp only[go_sem,atG,atS,or_false,forall_eq,forall_eq_or_imp];refine aD (N.name [108,97,119] i aR Om) rfl ?_;have A:=S.set 3 rfl (.rows 4 [({ z.1 with name:=[108,97,119]++cT i }:cV).cells]);rw[PH.set_set]at A;have b1:=A.at 1 rfl;have D:¬E.o7=p:=A.ne 1 3 rfl rfl aR;have w:¬E.o7=E.o:=A.ne 1 0 rfl rfl aR;simp only[aO,aC D,aC w]at b1;have L:(1:Nat)*4<=16777216:=by decide
 simp only[go_sem,D,w,b1,L,atG,atS,or_false,forall_eq,forall_eq_or_imp];refine A.append 0 (src:=[({ z.1 with name:=[108,97,119]++cT i }:cV).cells]) rfl rfl (by unfold roomFor;rw[asO];simp only[atD,maxLen];omega) λw' H2 O X=>?_;obtain⟨q,rfl⟩:=X aZ;have b2:=O.at 1 rfl;simp only[go_sem,b2,atG,atS,or_false,forall_eq];have h5:=O.set 1 rfl (flB ext (.osl q 4 0 (kI g.1++[({ z.1 with name:=[108,97,119]++cT i }:cV).cells]).length) .aG .aG .aG .aG .aG);simp only[go_sem,wZz i];refine aE (i+1,.osl q 4 0 (kI g.1++[({ z.1 with name:=[108,97,119]++cT i }:cV).cells]).length,_) ⟨hlt,?_⟩ sO_ ?_ b_;rw[x];have e:kI (g.1++[{ z.1 with name:=[108,97,119]++cT i }])=kI g.1++[({ z.1 with name:=[108,97,119]++cT i }:cV).cells]:=by simp[kI]
 simp only;rw[e];exact h5.dropLast (B:=E.boxes v ext _ .aG .aG .aG .aG .aG z.2);exact Lq;have u:¬(i:Int)<(n:Nat):=Om;have:i=n:=Om;subst this;simp only[go_sem,u];exact V J _ _ (YN rfl rfl rfl rfl rfl) y
theorem M8(R:rQ C){l:N_}{v:PV}(T:Tp l v)(E:FE)(n a nl:Nat)(hn:n<=10)(β:nl<=1000)(ha:a<=Z' l)(ext w:PV)(arJ:List cV)(W:Z' arJ=nl)(K:bP)(F:PF)(H:PH)
  (hF:(((iX E).set 11 (.j n)).set 12 (.j 0)).le F) (A:aN H (E.boxes v ext w .aG .aG .aG .aG .aG a) [(w,4,kI arJ)])
  (hK:∀J S H',(iX E).le S->S 11=some (.j n)->aN H' (E.boxes v ext w J .aG .aG .aG .aG (gC l nl a n).2) [(w,4,kI arJ),(J,4,mK (gC l nl a n).1)]->K (.exit 2) S H') :
  aJ.wp C (.loop PJ) K F H:=by
 refine wp_loop (α:=T3_) (λt=>((iX E).set 11 (.j n)).set 12 (.j t.1)) (λt=>t.2.2) (λt=>t.1<=n/\aN t.2.2 (E.boxes v ext w t.2.1 .aG .aG .aG .aG (gC l nl a t.1).2) [(w,4,kI arJ),(t.2.1,4,mK (gC l nl a t.1).1)]) (λt=>n-t.1) (0,.aG,H) ⟨asQ _,A.lE 4⟩ hF b_ ?_;rintro⟨i,J,H0⟩ ⟨hi,A⟩;simp only at hi A ⊢;obtain⟨k1,k2⟩:=FA l nl ha i;have B:gC l nl a (i+1)=((gC l nl a i).1++[⟨[109]++cT i,(1+(aI l 4 (gC l nl a i).2).1:Nat),(1+(aI l 8 (aI l 4 (gC l nl a i).2).2).1:Nat),((aI l nl (aI l 8 (aI l 4 (gC l nl a i).2).2).2).1:Nat)⟩],(aI l nl (aI l 8 (aI l 4 (gC l nl a i).2).2).2).2):=rfl;simp only[go_sem,PJ,iX];by_cases hlt:i<n;have u:(i:Int)<(n:Nat):=Om;generalize hg:gC l nl a i=g at *
 have hx:=cM l (show 0<4 by decide) g.2;have X:=bO l 4 k1;have hy:=cM l (show 0<8 by decide) (aI l 4 g.2).2;have Y:=bO l 8 X;have az:=bO l nl Y;have U:=A.set 0 rfl (aY v (aI l 4 g.2).2);have D:=U.set 0 rfl (aY v (aI l 8 (aI l 4 g.2).2).2);have h3:=D.set 0 rfl (aY v (aI l nl (aI l 8 (aI l 4 g.2).2).2).2);generalize M:aI l 4 g.2=x at *
 generalize N:aI l 8 x.2=y at *
 generalize O:aI l nl y.2=z at *
 have b1:=A.at 1 rfl;have lw:=(A.own 0 rfl).sX;rw[asO,W]at lw;have L:(h_.set E.o7 (flB ext w J .aG .aG .aG .aG)).le H0:=d_ a_ b1;have ex:i_.wrap (1+(x.1:Int))=((1+x.1:Nat):Int):=wO_
 have ey:i_.wrap (1+(y.1:Int))=((1+y.1:Nat):Int):=wO_
 simp only[go_sem,u];refine bE (h_.set E.o7 (flB ext w J .aG .aG .aG .aG)) (mkS l v) L ?_;simp only[go_sem];refine OA R.tozI (s:=[109]) (n:=i) aR Om rfl L ?_;simp only[go_sem];refine xV R.tozH T (o:=E.o) (n:=4) (a:=g.2) aR k1 rfl (A.at 0 rfl) ?_ ?_;rw[M];exact d_ a_ (U.at 1 rfl);rw[M];simp only[go_sem,ex];refine xV R.tozH T (o:=E.o) (n:=8) (a:=x.2) aR X rfl (U.at 0 rfl) ?_ ?_;rw[N];exact d_ a_ (D.at 1 rfl);rw[N];simp only[go_sem,ey,lw];rw[PH.set_set]at D;refine xV R.tozH T (o:=E.o) (n:=nl) (a:=y.2) Om Y rfl (D.at 0 rfl) ?_ ?_;rw[O];exact d_ a_ ((D.set 0 rfl (aY v z.2)).at 1 rfl);rw[O];have Z:=D.set 0 rfl (aY v z.2);have V:(1:Nat)*4<=16777216:=by decide
 simp only[go_sem,V,atG,atS,or_false,forall_eq,forall_eq_or_imp];rw[PH.set_set]at Z;refine Z.append 1 (src:=[(⟨[109]++cT i,(1+x.1:Nat),(1+y.1:Nat),(z.1:Nat)⟩:dN).cells]) rfl rfl (by unfold roomFor;rw[asO];simp only[atD,maxLen];omega) λw' H2 h5 hw=>?_;obtain⟨q,rfl⟩:=hw aZ;have b2:=h5.at 1 rfl;refine⟨d_ a_ b2,?_⟩;refine bE .nil cR a_ ?_;simp only[go_sem,b2,atG,atS,or_false,forall_eq];have h6:=h5.set 1 rfl (flB ext w (.osl q 4 0 (mK g.1++[(⟨[109]++cT i,(1+x.1:Nat),(1+y.1:Nat),(z.1:Nat)⟩:dN).cells]).length) .aG .aG .aG .aG);refine⟨a_,?_⟩;simp only[go_sem,wZz i];refine aE (i+1,.osl q 4 0 (mK g.1++[(⟨[109]++cT i,(1+x.1:Nat),(1+y.1:Nat),(z.1:Nat)⟩:dN).cells]).length,_) ⟨hlt,?_⟩ sO_ ?_ b_;rw[B];have e:mK (g.1++[⟨[109]++cT i,(1+x.1:Nat),(1+y.1:Nat),(z.1:Nat)⟩])=mK g.1++[(⟨[109]++cT i,(1+x.1:Nat),(1+y.1:Nat),(z.1:Nat)⟩:dN).cells]:=by simp[mK]
 simp only;rw[e];exact h6;exact Lq;have u:¬(i:Int)<(n:Nat):=Om;have:i=n:=Om;subst this;simp only[go_sem,u];exact hK J _ _ (YN rfl rfl rfl rfl rfl) rfl A
abbrev DW(x:bX)(w:PV):V_:=[.str x.name,.int .i64 x.k,.int .i64 x.m,.int .i64 x.asA,.int .i64 x.s0,.int .i64 x.s1,.int .i64 x.s2,.int .i64 x.s3,.int .i64 x.s4,w,frs x.repair,
 .bool x.target.neg,bB x.target.num,bB x.target.den,.bool x.arM.neg,bB x.arM.num,bB x.arM.den]
def th(E:FE)(mc n i:Nat):PF:=(((iX E).set 11 (.int .i64 mc)).set 13 (.int .i64 n)).set 14 (.int .i64 i)
structure PAt(E:FE)(mc n i:Nat)(F:PF):Prop where
 f0:F 0=some (.ptr E.o 2 0 0)
 f1:F 1=some (.int .i64 E.arB)
 f2:F 2=some (.int .i64 E.arD)
 f6:F 6=some (.ptr E.o6 7 0 0)
 f7:F 7=some (.ptr E.o7 7 0 0)
 f11:F 11=some (.int .i64 mc)
 f13:F 13=some (.int .i64 n)
 f14:F 14=some (.int .i64 i)
def xA(l:N_)(a:Nat):Nat->I_ × Nat
 |0=>([],a)
 |j+1=>let s:=xA l a j
  let t:=jU l s.2
  (s.1++[t.1],t.2)
theorem AQ(l:N_){a:Nat}(h:a<=Z' l):(jU l a).2<=Z' l:=by
 unfold jU;simp only;split;exact bO l 3 (bO l 3 h);exact bO l 3 h
theorem uh(l:N_){a:Nat}(h:a<=Z' l):∀j,(xA l a j).2<=Z' l/\(xA l a j).1.length=j
 |0=>⟨h,rfl⟩
 |j+1=>by obtain⟨e,i⟩:=uh l h j;exact⟨AQ l e,by simp only[xA,asX,atD,i]⟩
abbrev wZ(pre post:V_)(s:I_):V_:=pre++(s.map λx=>PV.int .i64 x)++asT (4-Z' s) (.int .i64 0)++post
theorem aeK{pre post:V_}{s:I_}(hp:Z' pre=5)(i:Z' s<4)(x:Int):(wZ pre post s).set (5+Z' s) (.j x)=wZ pre post (s++[x]):=by
 obtain⟨k,e⟩:∃k,4-Z' s=k+1:=⟨3-Z' s,by omega⟩;unfold wZ;rw[asX,atD,show 4-(Z' s+1)=k by omega,e,List.replicate_succ,atK,atU,auH];rw[List.set_append_left _ _ (by simp[hp]),avQ _ _ (by simp[hp])];have:5+Z' s-(pre++s.map λx=>PV.int .i64 x).length=0:=by simp[hp]
 rw[this,avR];simp
theorem Ys{pre post:V_}{s:I_}(hp:Z' pre=5)(i:Z' s<4):wZ pre post s=wZ pre post (s++[0]):=by
 obtain⟨k,e⟩:∃k,4-Z' s=k+1:=⟨3-Z' s,by omega⟩;unfold wZ;rw[asX,atD,show 4-(Z' s+1)=k by omega,e,List.replicate_succ,atK,atU,auH];simp
theorem M9(Lb:rQ C){l:N_}{v:PV}(T:Tp l v)(E:FE)(mc n i a p:Nat)(ha:a<=Z' l)(B:List BX)(L:List LI)(pre post:V_)(e:Z' pre=5)(A:Z' post=8)(K:bP)(F:PF)(H:PH)
  (w:PAt E mc n i F) (U:F 15=some (.ptr p 17 0 0)) (V:F 16=some (.j 1)) (D:aN H ((E.o,aY v a)::B++[(p,.rows 17 [wZ pre post []])]) L)
  (hK:∀R H',PAt E mc n i R->R 15=some (.ptr p 17 0 0)->aN H' ((E.o,aY v (xA l a 4).2)::B++[(p,.rows 17 [wZ pre post (xA l a 4).1])]) L->K (.exit 6) R H') :
  aJ.wp C (.loop ET) K F H:=by
 refine wp_loop (α:=Nat × PH) (λt=>((th E mc n i).set 15 (.ptr p 17 0 0)).set 16 (.j (t.1+1:Nat))) (λt=>t.2) (λt=>t.1<=4/\aN t.2 ((E.o,aY v (xA l a t.1).2)::B++[(p,.rows 17 [wZ pre post (xA l a t.1).1])]) L) (λt=>4-t.1) (0,H) ⟨asQ _,D⟩ ?_ b_ ?_;unfold th iX
 (repeat' (first|exact c_|refine e_ ?_ ?_))<;>first|(simp only[go_sem,w.f0,w.f1,w.f2,w.f6,w.f7,w.f11,w.f13,w.f14,U,V]<;>rfl)|rfl
 rintro⟨j,H0⟩ ⟨hj,D⟩;simp only at hj D ⊢;obtain⟨k1,k2⟩:=uh l ha j;have u:xA l a (j+1)=((xA l a j).1++[(jU l (xA l a j).2).1],(jU l (xA l a j).2).2):=rfl;simp only[go_sem,ET,th,iX];by_cases hlt:j<4;generalize hg:xA l a j=g at *
 have ei:=fI (Om:j+1<9223372036854775807);simp only[go_sem,show((j+1:Nat):Int)<5 by omega];refine dM Lb.tozH T (o:=E.o) (n:=3) (a:=g.2) aR k1 (by simp only[go_sem];rfl) (D.at 0 rfl) ?_;have N:aN _ ((E.o,aY v (aI l 3 g.2).2)::B++[(p,.rows 17 [wZ pre post g.1])]) L:=D.set 0 rfl (aY v (aI l 3 g.2).2);by_cases c:(aI l 3 g.2).1=0;have Z:jU l g.2=(((1+(aI l 3 (aI l 3 g.2).2).1:Nat):Int),(aI l 3 (aI l 3 g.2).2).2):=by unfold jU;simp only[c,if_true]
 have n2:=cM l (show 0<3 by decide) (aI l 3 g.2).2;have e2:i_.wrap (1+((aI l 3 (aI l 3 g.2).2).1:Int))=((1+(aI l 3 (aI l 3 g.2).2).1:Nat):Int):=wO_
 simp only[go_sem,bR (show(((aI l 3 g.2).1:Nat):Int)=0 by omega)];refine dM Lb.tozH T (o:=E.o) (n:=3) (a:=(aI l 3 g.2).2) aR (bO l 3 k1) (by simp only[go_sem];rfl) (N.at 0 rfl) ?_;have O:aN _ ((E.o,aY v (aI l 3 (aI l 3 g.2).2).2)::B++[(p,.rows 17 [wZ pre post g.1])]) L:=N.set 0 rfl (aY v (aI l 3 (aI l 3 g.2).2).2);have S:=O.MF;rw[PH.set_set]at S O;have M:¬p=E.o:=λh=>by have Y:=O.ndB;simp[gI,h]at Y
 simp only[aO,aC M]at S;have X:((j+1:Nat):Int)<((5:Nat):Int):=Om;have W:(0:Int)<=((j+1:Nat):Int):=Om;have β:(wZ pre post g.1).length=17:=by simp[wZ,e,A,k2];omega
 have x:=aeK (pre:=pre) (post:=post) (s:=g.1) e Om ((1+(aI l 3 (aI l 3 g.2).2).1:Nat):Int);rw[k2]at x;have J:4+(j+1)*1=5+j:=Om;have y:5+j+1<=17:=Om;simp only[go_sem,e2,X,W,J,M,S,y,atG,atS,or_false,forall_eq,x,ei];refine aE (j+1,_) ⟨hlt,?_⟩ sO_ ?_ b_;rw[u,Z];exact O.YY _;exact Lq;have Z:jU l g.2=(0,(aI l 3 g.2).2):=by unfold jU;simp only[c,if_false]
 simp only[go_sem,bH (show ¬(((aI l 3 g.2).1:Nat):Int)=0 by omega),ei];refine aE (j+1,_) ⟨hlt,?_⟩ sO_ ?_ b_;rw[Ys (pre:=pre) (post:=post) (s:=g.1) e Om]at N;rw[u,Z];exact N;exact Lq;have:j=4:=Om;subst this;simp only[go_sem,show ¬((4+1:Nat):Int)<5 by decide];exact hK _ _ ⟨s_,s_,s_,s_,s_,s_,s_,s_⟩ Sq D
theorem aN.uW{E:FE}{v ext e i l u w x:PV}{a:Nat}{H:PH}{B:List BX}{L:List LI}(h:aN H (E.boxes v ext e i l u w x a++B) L)(b:Nat):aN (H.set E.o (aY v b)) (E.boxes v ext e i l u w x b++B) L:=h.set 0 rfl _
abbrev gw(s:List UInt8)(k m q:Int)(w r e i l:PV)(h:RF):V_:=[.str s,.int .i64 k,.int .i64 m,.int .i64 q,.int .i64 0,.int .i64 0,.int .i64 0,.int .i64 0,.int .i64 0,w,r,e,i,l,.bool h.neg,bB h.num,bB h.den]
theorem W6 {C : Ctx} (Lb : rQ C) {l : N_} {v : PV} (T : Tp l v) (E : FE) (mc n i a : Nat) (ha : a <= l.length) (hi : i < 50) (ext w1 w2 w3 w4 w5 w6 : PV) (L : List LI) (rest : aJ) (K : bP) (F : PF) (H : PH)
    (hF : PAt E mc n i F) (hH : aN H (E.boxes v ext w1 w2 w3 w4 w5 w6 a) L)
    (hK : ∀ p F' H', PAt E mc n i F' -> F' 15 = some (.ptr p 17 0 0) ->
      (let k := aI l 2 a; let m := aI l 3 k.2; let h := aI l 4 m.2; let q := aI l (m.1 + 1) h.2; let r := nE l q.2 (max m.1 1); let g := aI l 9 r.2
       aN H' (E.boxes v ext w1 w2 w3 w4 w5 w6 g.2 ++ [(p, .rows 17 [wZ [.str ([112] ++ cT i), .j (1 + k.1 : Nat), .j (m.1 : Nat), .j (1 + k.1 + q.1 : Nat), .j 0]
        ([.aG, frs r.1] ++ (mkT (g.1 : Nat) 8).cells ++ (mkT ((1 + h.1 : Nat) : Int) 1).cells) []])]) L) -> aJ.wp C rest K F' H') :
    aJ.wp C (.seq (.region PN) (.seq (.seq (.draw EU) (.draw EV)) (.seq (.region EW) (.seq (.region EX) rest)))) K F H := by
  obtain ⟨f0, f1, f2, f6, f7, f11, f13, f14⟩ := hF;have nk := cM l (show 0 < 2 by decide) a;have ak := bO l 2 ha;have nm := cM l (show 0 < 3 by decide) (aI l 2 a).2;have am := bO l 3 ak;simp only at hK;generalize hk : aI l 2 a = k at *
  generalize hm : aI l 3 k.2 = m at *
  have nh := cM l (show 0 < 4 by decide) m.2;have ah := bO l 4 am;generalize hh : aI l 4 m.2 = h at *
  have nq := cM l (Om : 0 < m.1 + 1) h.2;have aq := bO l (m.1 + 1) ah;generalize hq : aI l (m.1 + 1) h.2 = q at *
  have ar := NA l aq (max m.1 1);generalize hr : nE l q.2 (max m.1 1) = r at *
  have ng := cM l (show 0 < 9 by decide) r.2;have ag := bO l 9 ar;generalize hg : aI l 9 r.2 = g at *
  have ek : i_.wrap (1 + (k.1 : Int)) = ((1 + k.1 : Nat) : Int) := by rw [wrap_i64 Om Om]; omega
  have eh : i_.wrap (1 + (h.1 : Int)) = ((1 + h.1 : Nat) : Int) := by rw [wrap_i64 Om Om]; omega
  have em : i_.wrap ((m.1 : Int) + 1) = ((m.1 + 1 : Nat) : Int) := fI Om;have eq' : i_.wrap (((1 + k.1 : Nat) : Int) + (q.1 : Int)) = ((1 + k.1 + q.1 : Nat) : Int) := by rw [wrap_i64 Om Om]; omega
  have h0 : aN H (E.boxes v ext w1 w2 w3 w4 w5 w6 a ++ []) L := by rw [auA]; exact hH
  simp only[go_sem,PN,f14];refine aD (Lb.name [112] i aR Om) rfl ?_;simp only[go_sem,f0];refine dM Lb.tozH T (o := E.o) (n := 2) (a := a) aR ha rfl (h0.at 0 rfl) ?_;have g1 := h0.uW k.2;rw [hk];simp only[go_sem,ek,f0];refine dM Lb.tozH T (o := E.o) (n := 3) (a := k.2) aR ak rfl (g1.at 0 rfl) ?_;have g2 := g1.uW m.2;rw [hm];rw [PH.set_set] at g2;simp only[go_sem,f0];refine dM Lb.tozH T (o := E.o) (n := 4) (a := m.2) aR am rfl (g2.at 0 rfl) ?_;have g3 := g2.uW h.2;rw [hh];rw [PH.set_set] at g3;simp only[go_sem,eh];refine aD (Lb.int ((1 + h.1 : Nat) : Int) (by unfold eQ; omega)) rfl ?_;simp only[go_sem,atG,atS,or_false,forall_eq,forall_eq_or_imp];refine aQ fun p hp => ?_;have g4 := g3.new hp (.rows 17 [gw ([112] ++ cT i) (1 + k.1 : Nat) (m.1 : Nat) 0 .aG .aG (.bool false) .aG .aG (mkT ((1 + h.1 : Nat) : Int) 1)]);have hpo : ¬ p = E.o := g4.ne 3 0 rfl rfl aR;have hop : ¬ E.o = p := fun e => hpo e.symm;have q2 : ∀ (F2 : PF) (H2 : PH), PAt E mc n i F2 -> F2 15 = some (.ptr p 17 0 0) -> aN H2 (E.boxes v ext w1 w2 w3 w4 w5 w6 h.2 ++ [(p, .rows 17 [gw ([112] ++ cT i) (1 + k.1 : Nat) (m.1 : Nat) 0 .aG .aG (.bool false) .aG .aG (mkT ((1 + h.1 : Nat) : Int) 1)])]) L ->
      aJ.wp C (.seq (.seq (.draw EU) (.draw EV)) (.seq (.region EW) (.seq (.region EX) rest))) K F2 H2 := by
    intro F2 H2 hF2 f15 hH2;obtain ⟨f0, f1, f2, f6, f7, f11, f13, f14⟩ := hF2;have bp := hH2.at 3 rfl;have hHs : (h_.set p (.rows 17 [gw ([112] ++ cT i) (1 + k.1 : Nat) (m.1 : Nat) 0 .aG .aG (.bool false) .aG .aG (mkT ((1 + h.1 : Nat) : Int) 1)])).le H2 := d_ a_ bp;simp only[go_sem];refine bE _ (mkS l v) hHs ?_;simp only[go_sem,EU,f15,bp,em,f0];refine xV Lb.tozH T (o := E.o) (n := m.1 + 1) (a := h.2) Om ah rfl (hH2.at 0 rfl) ?_ ?_
    · rw [hq]; exact d_ a_ ((hH2.uW q.2).at 3 rfl)
    rw [hq];have g5 := hH2.uW q.2;simp only[go_sem,eq',f15];refine bE .nil cR a_ ?_;simp only[go_sem,EV,hpo,bp];refine ⟨a_, ?_⟩;have g6 : aN _ (E.boxes v ext w1 w2 w3 w4 w5 w6 q.2 ++ [(p, .rows 17 [gw ([112] ++ cT i) (1 + k.1 : Nat) (m.1 : Nat) (1 + k.1 + q.1 : Nat) .aG .aG (.bool false) .aG .aG (mkT ((1 + h.1 : Nat) : Int) 1)])]) L := g5.set 3 rfl (.rows 17 [gw ([112] ++ cT i) (1 + k.1 : Nat) (m.1 : Nat) (1 + k.1 + q.1 : Nat) .aG .aG (.bool false) .aG .aG (mkT ((1 + h.1 : Nat) : Int) 1)]);have bq := g6.at 3 rfl;simp only[go_sem,EW,f0,f15];refine pB (Lb.rep l v T E.o q.2 m.1 Om aq) (g6.at 0 rfl) rfl ?_;have g7 := g6.uW r.2;rw [hr];simp only[go_sem,hpo,f15];have g8 : aN _ (E.boxes v ext w1 w2 w3 w4 w5 w6 r.2 ++ [(p, .rows 17 [gw ([112] ++ cT i) (1 + k.1 : Nat) (m.1 : Nat) (1 + k.1 + q.1 : Nat) .aG (frs r.1) (.bool false) .aG .aG (mkT ((1 + h.1 : Nat) : Int) 1)])]) L := g7.set 3 rfl (.rows 17 [gw ([112] ++ cT i) (1 + k.1 : Nat) (m.1 : Nat) (1 + k.1 + q.1 : Nat) .aG (frs r.1) (.bool false) .aG .aG (mkT ((1 + h.1 : Nat) : Int) 1)]);simp only[go_sem,EX,f0];refine dM Lb.tozH T (o := E.o) (n := 9) (a := r.2) aR ar rfl (g8.at 0 rfl) ?_;have g9 := g8.uW g.2;rw [hg];simp only[go_sem];refine aD (Lb.fmk (g.1 : Int) 8 (by unfold eQ; omega) (by unfold eQ; omega)) rfl ?_;unfold DN;rw [aC aR];simp only[go_sem,f15,hpo];have g10 := g9.set 3 rfl (.rows 17 [wZ [.str ([112] ++ cT i), .j (1 + k.1 : Nat), .j (m.1 : Nat), .j (1 + k.1 + q.1 : Nat), .j 0]
        ([.aG, frs r.1] ++ (mkT (g.1 : Nat) 8).cells ++ (mkT ((1 + h.1 : Nat) : Int) 1).cells) []])
    refine hK p _ _ ⟨by simp only[go_sem,f0], by simp only[go_sem,f1], by simp only[go_sem,f2], by simp only[go_sem,f6], by simp only[go_sem,f7], by simp only[go_sem,f11], by simp only[go_sem,f13], by simp only[go_sem,f14]⟩ (by simp only[go_sem,f15]) g10
  simp only [aJ.wp, go_sem] at q2;simp only[go_sem,atG,atS,or_false,forall_eq,forall_eq_or_imp];exact q2 _ _ ⟨by simp only[go_sem,f0], by simp only[go_sem,f1], by simp only[go_sem,f2], by simp only[go_sem,f6], by simp only[go_sem,f7], by simp only[go_sem,f11], by simp only[go_sem,f13], by simp only[go_sem,f14]⟩ rfl g4
abbrev FE.lists(x y A B D:PV)(l:List cV)(u:List dN)(e:List cU)(i:List eN)(w:P2_):List LI:=[(x,4,kI l),(y,4,mK u),(A,7,mY e),(B,3,qM i),(D,17,w)]
theorem W7(Lb:rQ C){l:N_}{v:PV}(T:Tp l v)(E:FE)(mc n i a:Nat)(ha:a<=Z' l)(η:0<mc)(μ:mc<=50)(ext A B D J w5:PV)(lw:List cV)(md:List dN)(dm:List cU)(dv:List eN)(pr:P2_)(ρ:Z' pr<=50)
  (s:List UInt8) (k m q:Int) (r t h:RF) (M:List RF) (p:Nat) (K:bP) (F:PF) (H:PH)
  (hF:PAt E mc n i F) (x:F 15=some (.ptr p 17 0 0))
  (hH:aN H (E.boxes v ext A B D J w5 .aG a++[(p,.rows 17 [wZ [.str s,.j k,.j m,.j q,.j 0] ([.aG,frs M]++t.cells++h.cells) []])]) (FE.lists A B D J w5 lw md dm dv pr))
  (V:(let L:=xA l a 4;let f:=aI l mc L.2;let b:=aI l 2 f.2
   let ms:I_ × Nat:=if 1<mc then(if b.1=0 then([(f.1:Int),1-(f.1:Int)],b.2)else([(f.1:Int)],b.2))else([(f.1:Int)],f.2)
   ∀(w u:PV)(W:PF)(H':PH)(B':List BX),PAt E mc n i W->(∃o,w=.osl o 1 0 ms.1.length)->aN H' (E.boxes v ext A B D J u .aG ms.2++B')
    (FE.lists A B D J u lw md dm dv (pr++[DW ⟨s,k,m,q,0,(L.1.getD 0 0),(L.1.getD 1 0),(L.1.getD 2 0),(L.1.getD 3 0),ms.1,M,t,h⟩ w])++[(w,1,aM ms.1)])->K .normal W H')) :
  aJ.wp C (.seq (.seq (.region PO) (.block 6 (.loop ET))) (.seq (.region PP) (.seq (.region PQ) (.seq (.seq (.region PR) (.cond (.tmp 143) (.region PS) .skip)) (.region EY))))) K F H:=by
 obtain⟨f0,f1,f2,f6,f7,f11,f13,f14⟩:=hF;simp only[go_sem,PO];refine M9 (C:=C) Lb T E mc n i a p ha [(E.o7,flB ext A B D J w5 .aG),(E.o6,flZ)] _ _ _ rfl rfl _ _ H ⟨by simp only[go_sem,f0],by simp only[go_sem,f1],by simp only[go_sem,f2],by simp only[go_sem,f6],by simp only[go_sem,f7],by simp only[go_sem,f11],by simp only[go_sem,f13],by simp only[go_sem,f14]⟩ (by simp only[go_sem,x]) rfl hH ?_;clear f0 f1 f2 f6 f7 f11 f13 f14 x hH;intro F1 H1 ε x y;obtain⟨f0,f1,f2,f6,f7,f11,f13,f14⟩:=ε;obtain⟨α,ls⟩:=uh l ha 4;have ι:∃N O R S,(xA l a 4).1=[N,O,R,S]:=⟨_,_,_,_,rfl⟩;simp only at V;generalize ν:xA l a 4=L at *
 obtain⟨N,O,R,S,hx⟩:=ι;rw[hx]at V y;replace y:aN H1 (E.boxes v ext A B D J w5 .aG L.2++[(p,.rows 17 [DW ⟨s,k,m,q,0,N,O,R,S,[],M,t,h⟩ .aG])]) (FE.lists A B D J w5 lw md dm dv pr):=y;have nf:=cM l η L.2;have af:=bO l mc α;generalize hf:aI l mc L.2=f at *
 have ab:=bO l 2 af;generalize hb:aI l 2 f.2=b at *
 have Z:¬p=E.o:=y.ne 3 0 rfl rfl aR;have θ:¬p=E.o7:=y.ne 3 1 rfl rfl aR;have ο:¬E.o7=p:=λe=>θ e.symm;have ξ:¬E.o7=E.o:=y.ne 1 0 rfl rfl aR;simp only[go_sem,PP,f0,f11];refine dM Lb.tozH T (o:=E.o) (n:=mc) (a:=L.2) Om α rfl (y.at 0 rfl) ?_;have h2:=y.set 0 rfl (aY v f.2);rw[hf];simp only[go_sem,PQ];refine aQ λo ho=>?_;have h3:=h2.Eb (s:=1) (rows:=aM [(f.1:Int)]) ho;have b3:=h3.at 3 rfl;have ob:¬p=o:=h3.neL 3 5 rfl rfl rfl;have σ:¬E.o7=o:=h3.neL 1 5 rfl rfl rfl;have τ:¬E.o=o:=h3.neL 0 5 rfl rfl rfl;simp only[aO,aC ob,aC Z]at b3;simp only[go_sem,x,ob,Z,b3,atG,atS,or_false,forall_eq];have h4:=h3.set 3 rfl (.rows 17 [DW ⟨s,k,m,q,0,N,O,R,S,[],M,t,h⟩ (.osl o 1 0 1)]);have fin:∀(w:PV)(ms:I_)(a':Nat)(W:PF)(H':PH),PAt E mc n i W->W 15=some (.ptr p 17 0 0)->(∃o,w=.osl o 1 0 ms.length) ->
   aN H' (E.boxes v ext A B D J w5 .aG a'++[(p,.rows 17 [DW ⟨s,k,m,q,0,N,O,R,S,ms,M,t,h⟩ w])]) (FE.lists A B D J w5 lw md dm dv pr++[(w,1,aM ms)]) ->
   (∀(u:PV)(U:PF)(H2:PH),PAt E mc n i U->aN H2 (E.boxes v ext A B D J u .aG a'++[(p,.rows 17 [DW ⟨s,k,m,q,0,N,O,R,S,ms,M,t,h⟩ w])]) (FE.lists A B D J u lw md dm dv (pr++[DW ⟨s,k,m,q,0,N,O,R,S,ms,M,t,h⟩ w])++[(w,1,aM ms)])->K .normal U H2) ->
   wpOps C EY (K .normal) W H':=by
  intro w ms a' W H' δ x hw Y ζ;obtain⟨wo,rfl⟩:=hw;obtain⟨f0,f1,f2,f6,f7,f11,f13,f14⟩:=δ;have c1:=Y.at 1 rfl;have c3:=Y.at 3 rfl;have γ:(1:Nat)*17<=16777216:=by decide
  simp only[go_sem,EY,f7,x,c1,c3,γ,atG,atS,or_false,forall_eq,forall_eq_or_imp];refine Y.append 4 (src:=[DW ⟨s,k,m,q,0,N,O,R,S,ms,M,t,h⟩ (.osl wo 1 0 ms.length)]) rfl rfl (by unfold roomFor;simp only[atD,maxLen];omega) λu H2 h5 κ=>?_;obtain⟨q5,rfl⟩:=κ aZ;have c2:=h5.at 1 rfl;simp only[go_sem,c2,atG,atS,or_false,forall_eq];exact ζ _ _ _ ⟨by simp only[go_sem,f0],by simp only[go_sem,f1],by simp only[go_sem,f2],by simp only[go_sem,f6],by simp only[go_sem,f7],by simp only[go_sem,f11],by simp only[go_sem,f13],by simp only[go_sem,f14]⟩ (h5.set 1 rfl (flB ext A B D J _ .aG))
 simp only[go_sem,PR,f11];by_cases c:1<mc;have c':(mc:Int)>1:=Om;simp only[go_sem,c',f0];refine dM Lb.tozH T (o:=E.o) (n:=2) (a:=f.2) aR af rfl (h4.at 0 rfl) ?_;have h5:=h4.set 0 rfl (aY v b.2);rw[hb];by_cases c2:b.1=0;have X:(b.1:Int)=0:=Om;rw[aF c,aF c2]at V;have e1:i_.wrap (1-(f.1:Int))=1-(f.1:Int):=wrap_i64 Om Om;have c3:=h5.at 3 rfl;have β:(1:Nat)*1<=16777216:=by decide
 simp only[go_sem,bR X,PS,x,Z,e1,β];refine h5.append 5 (src:=[[.j (1-(f.1:Int))]]) rfl rfl (by unfold roomFor;simp only[aM,asO,atD,maxLen];omega) λw' H2 h6 hw=>?_;obtain⟨q2,rfl⟩:=hw aZ;have c4:=h6.at 3 rfl;simp only[go_sem,c4,x,atG,atS,or_false,forall_eq];have h7:=h6.set 3 rfl (.rows 17 [DW ⟨s,k,m,q,0,N,O,R,S,[(f.1:Int),1-(f.1:Int)],M,t,h⟩ (.osl q2 1 0 2)]);exact fin (.osl q2 1 0 2) [(f.1:Int),1-(f.1:Int)] b.2 _ _ ⟨by simp only[go_sem,f0],by simp only[go_sem,f1],by simp only[go_sem,f2],by simp only[go_sem,f6],by simp only[go_sem,f7],by simp only[go_sem,f11],by simp only[go_sem,f13],by simp only[go_sem,f14]⟩ (by simp only[go_sem,x]) ⟨q2,rfl⟩ h7 (λu U H2 g1 g2=>V _ u U H2 _ g1 ⟨q2,rfl⟩ g2);have X:¬(b.1:Int)=0:=Om;rw[aF c,aC c2]at V;simp only[go_sem,bH X];exact fin (.osl o 1 0 1) [(f.1:Int)] b.2 _ _ ⟨by simp only[go_sem,f0],by simp only[go_sem,f1],by simp only[go_sem,f2],by simp only[go_sem,f6],by simp only[go_sem,f7],by simp only[go_sem,f11],by simp only[go_sem,f13],by simp only[go_sem,f14]⟩ (by simp only[go_sem,x]) ⟨o,rfl⟩ h5 (λu U H2 g1 g2=>V _ u U H2 _ g1 ⟨o,rfl⟩ g2);have c':¬(mc:Int)>1:=Om;rw[aC c]at V;simp only[go_sem,c'];exact fin (.osl o 1 0 1) [(f.1:Int)] f.2 _ _ ⟨by simp only[go_sem,f0],by simp only[go_sem,f1],by simp only[go_sem,f2],by simp only[go_sem,f6],by simp only[go_sem,f7],by simp only[go_sem,f11],by simp only[go_sem,f13],by simp only[go_sem,f14]⟩ (by simp only[go_sem,x]) ⟨o,rfl⟩ h4 (λu U H2 g1 g2=>V _ u U H2 _ g1 ⟨o,rfl⟩ g2)
abbrev pT(l:List bX):P2_:=l.map bX.cells
abbrev tX(l:List gD):P2_:=l.map gD.cells
theorem tB{rows:P2_}(h:∀r∈rows,∀c∈r,c.oid=none):Flat rows:=Flat.of λr i c e q s rs=>l6 (h r i c e) q s rs
theorem Jo(l:List cV):Flat (kI l):=tB λr i c e=>by
 obtain⟨x,_,rfl⟩:=atM.1 i;simp only[cV.cells,atG,atS,or_false]at e;rcases e with rfl|rfl|rfl|rfl<;>rfl
theorem Jq(l:List dN):Flat (mK l):=tB λr i c e=>by
 obtain⟨x,_,rfl⟩:=atM.1 i;simp only[dN.cells,atG,atS,or_false]at e;rcases e with rfl|rfl|rfl|rfl<;>rfl
theorem I7(l:List cU):Flat (mY l):=tB λr i c e=>by
 obtain⟨x,_,rfl⟩:=atM.1 i;simp only[cU.cells,atG,atS,or_false]at e;rcases e with rfl|rfl|rfl|rfl|rfl|rfl|rfl<;>rfl
theorem Jb(l:List eN):Flat (qM l):=tB λr i c e=>by
 obtain⟨x,_,rfl⟩:=atM.1 i;simp only[eN.cells,atG,atS,or_false]at e;rcases e with rfl|rfl|rfl<;>rfl
theorem afA(l:List gD):Flat (tX l):=tB λr i c e=>by
 obtain⟨x,_,rfl⟩:=atM.1 i;simp only[gD.cells,atG,atS,or_false]at e;rcases e with rfl|rfl<;>rfl
theorem J3(l:List bX):Flat (pT l):=tB λr i c e=>by
 obtain⟨x,_,rfl⟩:=atM.1 i;simp only[bX.cells,atG,atS,or_false]at e;rcases e with rfl|rfl|rfl|rfl|rfl|rfl|rfl|rfl|rfl|rfl|rfl|rfl|rfl|rfl|rfl|rfl|rfl<;>rfl
theorem Np(l:N_)(mc i:Nat){a:Nat}(h:a<=Z' l):(qF l mc i a).2<=Z' l:=by
 have u:=bO l 9 (NA l (bO l ((aI l 3 (aI l 2 a).2).1+1) (bO l 4 (bO l 3 (bO l 2 h)))) (max (aI l 3 (aI l 2 a).2).1 1));have e:=bO l mc (AQ l (AQ l (AQ l (AQ l u))));unfold qF;simp only;split;split;exact bO l 2 e;exact bO l 2 e;exact e
theorem AI(l:N_)(mc:Nat){a:Nat}(h:a<=Z' l):∀k,(fH l mc a k).2<=Z' l/\(fH l mc a k).1.length=k
 |0=>⟨h,rfl⟩
 |k+1=>by obtain⟨e,i⟩:=AI l mc h k;exact⟨Np l mc k e,by simp only[fH,asX,atD,i]⟩
theorem LS(l:N_)(pc:Nat){a:Nat}(h:a<=Z' l):∀k,(gF l pc a k).2<=Z' l/\(gF l pc a k).1.length=k
 |0=>⟨h,rfl⟩
 |k+1=>by obtain⟨e,i⟩:=LS l pc h k;exact⟨bO l pc e,by simp only[gF,asX,atD,i]⟩
theorem Dz(Lb:rQ C){l:N_}{v:PV}(T:Tp l v)(E:FE)(mc n a:Nat)(hn:n<=10)(θ:0<mc)(Z:mc<=50)(ha:a<=Z' l)(N:Int)(u y A B:PV)(S:List cV)(U:List dN)(O:List cU)(R:List eN)(K:bP)(F:PF)(H:PH)
  (L:PAt E mc n 0 F) (W:aN H (E.boxes v (.j N) u y A B .aG .aG a) [(u,4,kI S),(y,4,mK U),(A,7,mY O),(B,3,qM R)])
  (hK:∀V F' H',(iX E).le F'->aN H' (E.boxes v (.j N) u y A B V .aG (fH l mc a n).2) (FE.lists u y A B V S U O R (pT (fH l mc a n).1))->K (.exit 4) F' H') :
  aJ.wp C (.loop PK) K F H:=by
 refine wp_loop (α:=T3_) (λt=>th E mc n t.1) (λt=>t.2.2) (λt=>t.1<=n/\aN t.2.2 (E.boxes v (.j N) u y A B t.2.1 .aG (fH l mc a t.1).2) (FE.lists u y A B t.2.1 S U O R (pT (fH l mc a t.1).1))) (λt=>n-t.1) (0,.aG,H) ⟨asQ _,W.lE 17⟩ ?_ b_ ?_;unfold th iX
 (repeat' (first|exact c_|refine e_ ?_ ?_))<;>first|(simp only[go_sem,L.f0,L.f1,L.f2,L.f6,L.f7,L.f11,L.f13,L.f14]<;>rfl)|rfl
 rintro⟨i,V,H0⟩ ⟨hi,W⟩;simp only at hi W ⊢;obtain⟨k1,k2⟩:=AI l mc ha i;have J:fH l mc a (i+1)=((fH l mc a i).1++[(qF l mc i (fH l mc a i).2).1],(qF l mc i (fH l mc a i).2).2):=rfl;simp only[go_sem,PK,th,iX];by_cases hlt:i<n;have D:(i:Int)<(n:Nat):=Om;generalize hg:fH l mc a i=g at *
 simp only[go_sem,D];refine W6 (C:=C) Lb T E mc n i g.2 k1 Om (.j N) u y A B V .aG _ _ _ _ H0 ⟨s_,s_,s_,s_,s_,s_,s_,s_⟩ W ?_;intro p F1 H1 γ β X;simp only at X;have ι:qF l mc i g.2=_:=rfl;have Y:=bO l 9 (NA l (bO l ((aI l 3 (aI l 2 g.2).2).1+1) (bO l 4 (bO l 3 (bO l 2 k1)))) (max (aI l 3 (aI l 2 g.2).2).1 1));refine W7 (C:=C) Lb T E mc n i _ Y θ Z (.j N) u y A B V S U O R _ (by rw[asO,k2];omega) _ _ _ _ (mkT 0 1) _ _ _ p _ F1 H1 γ β X ?_;intro M f b ms w e F2 H2 B' δ hw ε;obtain⟨o,rfl⟩:=hw;have hP:qF l mc i g.2=(⟨[112]++cT i,(1+(aI l 2 g.2).1:Nat),((aI l 3 (aI l 2 g.2).2).1:Nat),(1+(aI l 2 g.2).1+(aI l ((aI l 3 (aI l 2 g.2).2).1+1) (aI l 4 (aI l 3 (aI l 2 g.2).2).2).2).1:Nat),0,M.1.getD 0 0,M.1.getD 1 0,M.1.getD 2 0,M.1.getD 3 0,ms.1,(nE l (aI l ((aI l 3 (aI l 2 g.2).2).1+1) (aI l 4 (aI l 3 (aI l 2 g.2).2).2).2).2 (max (aI l 3 (aI l 2 g.2).2).1 1)).1,mkT ((aI l 9 (nE l (aI l ((aI l 3 (aI l 2 g.2).2).1+1) (aI l 4 (aI l 3 (aI l 2 g.2).2).2).2).2 (max (aI l 3 (aI l 2 g.2).2).1 1)).2).1:Nat) 8,mkT ((1+(aI l 4 (aI l 3 (aI l 2 g.2).2).2).1:Nat):Int) 1⟩,ms.2):=rfl;rw[hP]at J;generalize ζ:(⟨[112]++cT i,(1+(aI l 2 g.2).1:Nat),((aI l 3 (aI l 2 g.2).2).1:Nat),(1+(aI l 2 g.2).1+(aI l ((aI l 3 (aI l 2 g.2).2).1+1) (aI l 4 (aI l 3 (aI l 2 g.2).2).2).2).1:Nat),0,M.1.getD 0 0,M.1.getD 1 0,M.1.getD 2 0,M.1.getD 3 0,ms.1,(nE l (aI l ((aI l 3 (aI l 2 g.2).2).1+1) (aI l 4 (aI l 3 (aI l 2 g.2).2).2).2).2 (max (aI l 3 (aI l 2 g.2).2).1 1)).1,mkT ((aI l 9 (nE l (aI l ((aI l 3 (aI l 2 g.2).2).1+1) (aI l 4 (aI l 3 (aI l 2 g.2).2).2).2).2 (max (aI l 3 (aI l 2 g.2).2).1 1)).2).1:Nat) 8,mkT ((1+(aI l 4 (aI l 3 (aI l 2 g.2).2).2).1:Nat):Int) 1⟩:bX)=P at *
 have η:P.arC=ms.1:=by rw[<-ζ]
 obtain⟨rs,z1,z2,z3,z4,z5⟩:=ε.frz 5 rfl;have y1:=z4 0 _ aR rfl;have y2:=z4 1 _ aR rfl;have y3:=z4 2 _ aR rfl;have y4:=z4 3 _ aR rfl;have y5:=z4 4 _ aR rfl;simp only at y1 y2 y3 y4 y5;have y0:=T.frz o 1 rs;obtain⟨f0,f1,f2,f6,f7,f11,f13,f14⟩:=δ;simp only[go_sem,f14,wZz i];refine yU (i+1,e,H2.frz o 1 rs) z1 ⟨hlt,?_⟩ sO_ ?_ b_;rw[J];have eB:(E.boxes v (.j N) u y A B e .aG ms.2).map (λb=>(b.1,b.2.frz o 1 rs))=E.boxes v (.j N) u y A B e .aG ms.2:=by show[(E.o,aS.rows 2 [[PV.cO o 1 rs v,.j ms.2]]),(E.o7,aS.rows 7 [[.j N,PV.cO o 1 rs u,PV.cO o 1 rs y,PV.cO o 1 rs A,PV.cO o 1 rs B,PV.cO o 1 rs e,.aG]]),(E.o6,flZ)]=_;rw[y0,y1,y2,y3,y4,y5]
 have e5:(pT g.1++[DW P (.osl o 1 0 ms.1.length)]).map (λr=>r.map (PV.cO o 1 rs))=pT (g.1++[P]):=by
  rw[atK,J3];have:([DW P (.osl o 1 0 ms.1.length)]:P2_).map (λr=>r.map (PV.cO o 1 rs))=[P.cells]:=by show[[PV.str P.name,.j P.k,.j P.m,.j P.asA,.j P.s0,.j P.s1,.j P.s2,.j P.s3,.j P.s4,PV.cO o 1 rs (.osl o 1 0 ms.1.length),frs P.repair,.bool P.target.neg,bB P.target.num,bB P.target.den,.bool P.arM.neg,bB P.arM.num,bB P.arM.den]]=_;rw[z2,<-η];rfl
  rw[this];simp[pT]
 have eL:(FE.lists u y A B e S U O R (pT g.1++[DW P (.osl o 1 0 ms.1.length)])).map (λx=>(x.1,x.2.1,x.2.2.map λr=>r.map (PV.cO o 1 rs)))=FE.lists u y A B e S U O R (pT (g.1++[P])):=by show[(u,4,(kI S).map _),(y,4,(mK U).map _),(A,7,(mY O).map _),(B,3,(qM R).map _),(e,17,(pT g.1++[DW P (.osl o 1 0 ms.1.length)]).map _)]=_;rw[Jo,Jq,I7,Jb,e5]
 rw[<-eB,<-eL];exact z5.sub (by rw[atK];exact List.sublist_append_left ..) (avE.refl _);exact lE7 f0 f1 f2 f6 f7 f11 f13;have D:¬(i:Int)<(n:Nat):=Om;have:i=n:=Om;subst this;simp only[go_sem,D];exact hK V _ _ (YN Sq Sq Sq Sq Sq) W
theorem Hj(W:rQ C){l:N_}{v:PV}(T:Tp l v)(E:FE)(pc n a:Nat)(hn:n<=60)(β:pc<=50)(ha:a<=Z' l)(ext D J M N u:PV)(B:List bX)(U:Z' B=pc)(L:List LI)(K:bP)(F:PF)(H:PH)
  (hF:(((iX E).set 18 (.j n)).set 19 (.j 0)).le F) (y:aN H (E.boxes v ext D J M N u .aG a) ((u,17,pT B)::L))
  (hK:∀x V H',(iX E).le V->aN H' (E.boxes v ext D J M N u x (gF l pc a n).2) ((u,17,pT B)::L++[(x,2,tX (gF l pc a n).1)])->K (.exit 8) V H') :
  aJ.wp C (.loop PL) K F H:=by
 refine wp_loop (α:=T3_) (λt=>((iX E).set 18 (.j n)).set 19 (.j t.1)) (λt=>t.2.2) (λt=>t.1<=n/\aN t.2.2 (E.boxes v ext D J M N u t.2.1 (gF l pc a t.1).2) ((u,17,pT B)::L++[(t.2.1,2,tX (gF l pc a t.1).1)])) (λt=>n-t.1) (0,.aG,H) ⟨asQ _,y.lE 2⟩ hF b_ ?_;rintro⟨i,x,Z⟩ ⟨hi,y⟩;simp only at hi y ⊢;obtain⟨k1,k2⟩:=LS l pc ha i;have A:gF l pc a (i+1)=((gF l pc a i).1++[⟨[118]++cT i,((aI l pc (gF l pc a i).2).1:Nat)⟩],(aI l pc (gF l pc a i).2).2):=rfl;simp only[go_sem,PL,iX];by_cases hlt:i<n;have w:(i:Int)<(n:Nat):=Om;generalize hg:gF l pc a i=g at *
 have X:=y.set 0 rfl (aY v (aI l pc g.2).2);generalize R:aI l pc g.2=z at *
 have b1:=y.at 1 rfl;have Y:=(y.own 0 rfl).sX;rw[asO,U]at Y;have O:(h_.set E.o7 (flB ext D J M N u x)).le Z:=d_ a_ b1;simp only[go_sem,w];refine bE (h_.set E.o7 (flB ext D J M N u x)) (mkS l v) O ?_;simp only[go_sem];refine OA W.tozI (s:=[118]) (n:=i) aR Om rfl O ?_;simp only[go_sem,Y];refine xV W.tozH T (o:=E.o) (n:=pc) (a:=g.2) Om k1 rfl (y.at 0 rfl) ?_ ?_;rw[R];exact d_ a_ (X.at 1 rfl);rw[R];have S:(1:Nat)*2<=16777216:=by decide
 simp only[go_sem,S,atG,atS,or_false,forall_eq,forall_eq_or_imp];refine X.append (v:=x) (s:=2) (rows:=tX g.1) (Z' L+1) (src:=[(⟨[118]++cT i,(z.1:Nat)⟩:gD).cells]) aZ rfl (by unfold roomFor;rw[asO];simp only[atD,maxLen];omega) λw' H2 h5 hw=>?_;obtain⟨q,rfl⟩:=hw aZ;rw[show((u,17,pT B)::L++[(x,2,tX g.1)])=((u,17,pT B)::L)++[(x,2,tX g.1)]from rfl,avQ _ _ aZ,show L.length+1-((u,17,pT B)::L).length=0 by simp]at h5;have b2:=h5.at 1 rfl;refine⟨d_ a_ b2,?_⟩;refine bE .nil cR a_ ?_;simp only[go_sem,b2,atG,atS,or_false,forall_eq];have h6:=h5.set 1 rfl (flB ext D J M N u (.osl q 2 0 (tX g.1++[(⟨[118]++cT i,(z.1:Nat)⟩:gD).cells]).length));refine⟨a_,?_⟩;simp only[go_sem,wZz i];refine aE (i+1,.osl q 2 0 (tX g.1++[(⟨[118]++cT i,(z.1:Nat)⟩:gD).cells]).length,_) ⟨hlt,?_⟩ sO_ ?_ b_;rw[A];have e:tX (g.1++[⟨[118]++cT i,(z.1:Nat)⟩])=tX g.1++[(⟨[118]++cT i,(z.1:Nat)⟩:gD).cells]:=by simp[tX]
 simp only;rw[e];exact h6;exact Lq;have w:¬(i:Int)<(n:Nat):=Om;have:i=n:=Om;subst this;simp only[go_sem,w];exact hK x _ _ (YN rfl rfl rfl rfl rfl) y
def TH(l:N_)(v:PV)(o arB arD a:Nat)(r:PV)(H:PH):Prop:=Co r (.agg (jN l arB arD a).1.cells)/\H=h_.set o (aY v (jN l arB arD a).2)
structure Bg(C:Ctx):Prop extends rQ C where
 grow:∀(l:N_)(v:PV),Tp l v->∀(mc arB:Nat),0<mc->mc<=1000->arB<=60->j4 C l v mc arB 4
theorem Rv(O:Bg C){l:N_}{v:PV}(T:Tp l v)(o arB arD a:Nat)(Δ:arB<=60)(Ψ:arD<=50)(ha:a<=Z' l) :
  aw.wp C (aV eG.res (TH l v o arB arD a)) (g_ [.ptr o 2 0 0,.j arB,.j arD]) (h_.set o (aY v a)):=by
 have hT:jN l arB arD a=jN l arB arD a:=rfl
 conv at hT=>rhs;unfold jN
 dsimp only at hT;have hR:∀r H,TH l v o arB arD a r H↔Co r (.agg (jN l arB arD a).1.cells)/\H=h_.set o (aY v (jN l arB arD a).2):=λ_ _=>Iff.rfl;have ne:=cM l (show 0<2 by decide) a;have ae:=bO l 2 ha;generalize he:aI l 2 a=e at *
 have Ω:=cM l (show 0<2 by decide) e.2;have ζ:=bO l 2 ae;generalize Θ:aI l 2 e.2=N at *
 obtain⟨R,δ⟩:=PB l ζ (1+N.1);generalize α:jR l N.2 (1+N.1)=arJ at *
 have a':=cM l (show 0<2 by decide) arJ.2;have η:=bO l 2 R;generalize Λ:aI l 2 arJ.2=u at *
 obtain⟨S,X⟩:=FA l (1+N.1) η (1+u.1);generalize V:gC l (1+N.1) u.2 (1+u.1)=arC at *
 have κ:GOk l arB ⟨[pV],[],arC.2⟩:=⟨by simp,asQ _,S⟩;obtain⟨hG,-⟩:=ON (mc:=1+u.1) 4 0 κ;generalize hg:gP l (1+u.1) arB 4 0 ⟨[pV],[],arC.2⟩=g at *
 have b':=cM l (show 0<2 by decide) g.a;have θ:=bO l 2 hG.a;generalize Φ:aI l 2 g.a=pl at *
 obtain⟨U,ε⟩:=AI l (1+u.1) θ (1+pl.1);generalize β:fH l (1+u.1) pl.2 (1+pl.1)=pols at *
 have c':=cM l (Om:0<arD+1) pols.2;have σ:=bO l (arD+1) U;generalize ο:aI l (arD+1) pols.2=vo at *
 generalize γ:gF l (1+pl.1) vo.2 vo.1=vols at *
 have ee:i_.wrap (1+(e.1:Int))=((1+e.1:Nat):Int):=wO_
 have τ:i_.wrap (1+(N.1:Int))=((1+N.1:Nat):Int):=wO_
 have υ:i_.wrap (1+(u.1:Int))=((1+u.1:Nat):Int):=wO_
 have χ:i_.wrap (1+(pl.1:Int))=((1+pl.1:Nat):Int):=wO_
 have ψ:i_.wrap ((arD:Int)+1)=((arD+1:Nat):Int):=fI Om;have h0:aN (h_.set o (aY v a)) [(o,aY v a)] []:=aN.nil.new (H:=h_) rfl (aY v a);simp only[go_sem,aw,eG];refine aQ λo6 μ=>?_;have w:=h0.new μ flZ;simp only[go_sem];refine dM O.tozH T (o:=o) (n:=2) (a:=a) aR ha rfl (w.at 0 rfl) ?_;have A:=w.set 0 rfl (aY v e.2);rw[he];simp only[go_sem,ee];refine aQ λo7 ν=>?_;have J:=A.new ν (flB (.j (1+e.1:Nat)) .aG .aG .aG .aG .aG .aG);simp only[go_sem,atG,atS,or_false,forall_eq,forall_eq_or_imp];refine dM O.tozH T (o:=o) (n:=2) (a:=e.2) aR ae rfl (J.at 0 rfl) ?_;have h4:=J.set 0 rfl (aY v N.2);rw[Θ];have h5:=h4.perm (B':=FE.boxes ⟨o,o6,o7,arB,arD⟩ v (.j (1+e.1:Nat)) .aG .aG .aG .aG .aG .aG N.2) (L':=[]) (avN.cons _ (avN.swap _ _ _)) (avN.refl _);obtain⟨E,i⟩:∃E:FE,E=⟨o,o6,o7,arB,arD⟩:=⟨_,rfl⟩;rw[<-i]at h5;simp only[go_sem,τ];refine W5 (C:=C) O.torQ T E (1+N.1) N.2 Om ζ _ _ _ _ ?_ h5 ?_
 ·rw[i];unfold iX;exact Lq
 clear h5 h4 J A w h0 μ ν;intro y F1 H1 K w;rw[α]at w;have f0:F1 0=some (.ptr o 2 0 0):=K 0 _ (by rw[i];unfold iX;simp only[go_sem]);have f1:F1 1=some (.j arB):=K 1 _ (by rw[i];unfold iX;simp only[go_sem]);have f2:F1 2=some (.j arD):=K 2 _ (by rw[i];unfold iX;simp only[go_sem]);have f6:F1 6=some (.ptr o6 7 0 0):=K 6 _ (by rw[i];unfold iX;simp only[go_sem]);have f7:F1 7=some (.ptr o7 7 0 0):=K 7 _ (by rw[i];unfold iX;simp only[go_sem]);have Y:=w.at 0 rfl;rw[i]at Y;simp only[go_sem,f0];refine dM O.tozH T (o:=o) (n:=2) (a:=arJ.2) aR R rfl Y ?_;have A:=w.set 0 rfl (aY v u.2);rw[Λ];simp only[go_sem,υ];refine M8 (C:=C) O.torQ T E (1+u.1) u.2 (1+N.1) Om Om η (.j (1+e.1:Nat)) y arJ.1 δ _ _ _ ?_ (by rw[i]at A ⊢;exact A) ?_
 ·rw[i];unfold iX;exact Lq
 clear Y A w f0 f1 f2 f6 f7 K;intro w2 F2 H2 L f11 A;rw[V]at A;have f0:F2 0=some (.ptr o 2 0 0):=L 0 _ (by rw[i];unfold iX;simp only[go_sem]);have f1:F2 1=some (.j arB):=L 1 _ (by rw[i];unfold iX;simp only[go_sem]);have f2:F2 2=some (.j arD):=L 2 _ (by rw[i];unfold iX;simp only[go_sem]);have f6:F2 6=some (.ptr o6 7 0 0):=L 6 _ (by rw[i];unfold iX;simp only[go_sem]);have f7:F2 7=some (.ptr o7 7 0 0):=L 7 _ (by rw[i];unfold iX;simp only[go_sem]);obtain⟨qm,ξ⟩:=(A.own 1 rfl).one (by rw[asO];omega);rw[asO,X]at ξ;subst ξ;have ω:(1:Nat)*7<=16777216:=by decide
 simp only[go_sem];refine aD (O.int 0 (by unfold eQ;omega)) rfl ?_;simp only[go_sem,atG,atS,or_false,forall_eq,forall_eq_or_imp,ω];refine aQ λod Ξ=>?_;have J:=A.Eb (s:=7) (rows:=mY [pV]) Ξ;have b7:=A.at 1 rfl;rw[i]at b7;have n7:¬o7=od:=by have:=J.neL 1 2 rfl rfl rfl;rw[i]at this;exact this
 simp only[go_sem,f7,b7,n7,atG,atS,or_false,forall_eq];have h4:=(J.set 1 rfl (flB (.j (1+e.1:Nat)) y (.osl qm 4 0 (1+u.1)) (.osl od 7 0 1) .aG .aG .aG)).lE 3;rw[i]at h4;have h5:=h4.perm (B':=(GE.mk o o7 qm (.j (1+e.1:Nat)) y .aG .aG).boxes v (1+u.1) (.osl od 7 0 1) .aG arC.2++[(o6,flZ)]) (L':=pS ⟨[pV],[],arC.2⟩ (.osl od 7 0 1) .aG++[(y,4,kI arJ.1),(.osl qm 4 0 (1+u.1),4,mK arC.1)]) (avN.refl _)
  (List.perm_append_comm (l₁:=[(y,4,kI arJ.1),(.osl qm 4 0 (1+u.1),4,mK arC.1)]) (l₂:=pS ⟨[pV],[],arC.2⟩ (.osl od 7 0 1) .aG))
 simp only[go_sem,f0,f1,f7];refine LX h5 (λH0 Γ=>O.grow l v T (1+u.1) arB Om Om Δ (GE.mk o o7 qm (.j (1+e.1:Nat)) y .aG .aG) (.osl od 7 0 1) .aG ⟨[pV],[],arC.2⟩ 0 pV κ rfl rfl H0 Γ) (by simp only[go_sem,f0,f1,f7];rfl) ?_;rintro r B' L' H3 ⟨rfl,D,F,rfl,rfl⟩ h6;rw[hg]at h6;have h7:=h6.perm (B':=E.boxes v (.j (1+e.1:Nat)) y (.osl qm 4 0 (1+u.1)) D F .aG .aG g.a) (L':=[(y,4,kI arJ.1),(.osl qm 4 0 (1+u.1),4,mK arC.1),(D,7,mY g.arL),(F,3,qM g.arV)]) (by rw[i];exact avN.refl _)
  (List.perm_append_comm (l₁:=pS g D F) (l₂:=[(y,4,kI arJ.1),(.osl qm 4 0 (1+u.1),4,mK arC.1)]))
 have Y:=h7.at 0 rfl;rw[i]at Y;simp only[go_sem,f0];refine dM O.tozH T (o:=o) (n:=2) (a:=g.a) aR hG.a rfl Y ?_;have h8:=h7.set 0 rfl (aY v pl.2);rw[Φ];simp only[go_sem,χ];refine Dz (C:=C) O.torQ T E (1+u.1) (1+pl.1) pl.2 Om Om Om θ ((1+e.1:Nat):Int) y (.osl qm 4 0 (1+u.1)) D F arJ.1 arC.1 g.arL g.arV _ _ _ (by rw[i];exact⟨by simp only[go_sem,f0],by simp only[go_sem,f1],by simp only[go_sem,f2],by simp only[go_sem,f6],by simp only[go_sem,f7],by simp only[go_sem,f11],s_,by simp only[go_sem];rfl⟩) (by rw[i]at h8 ⊢;exact h8) ?_;clear h8 h7 h6 h5 h4 J A Y b7 f0 f1 f2 f6 f7 L;intro Z F4 H4 M w;rw[β]at w;have f0:F4 0=some (.ptr o 2 0 0):=M 0 _ (by rw[i];unfold iX;simp only[go_sem]);have f1:F4 1=some (.j arB):=M 1 _ (by rw[i];unfold iX;simp only[go_sem]);have f2:F4 2=some (.j arD):=M 2 _ (by rw[i];unfold iX;simp only[go_sem]);have f6:F4 6=some (.ptr o6 7 0 0):=M 6 _ (by rw[i];unfold iX;simp only[go_sem]);have f7:F4 7=some (.ptr o7 7 0 0):=M 7 _ (by rw[i];unfold iX;simp only[go_sem]);have Y:=w.at 0 rfl;rw[i]at Y;simp only[go_sem,f0,f2,ψ];refine dM O.tozH T (o:=o) (n:=arD+1) (a:=pols.2) Om U rfl Y ?_;have A:=w.set 0 rfl (aY v vo.2);rw[ο];have J:=A.perm (B':=E.boxes v (.j (1+e.1:Nat)) y (.osl qm 4 0 (1+u.1)) D F Z .aG vo.2) (L':=(Z,17,pT pols.1)::[(y,4,kI arJ.1),(.osl qm 4 0 (1+u.1),4,mK arC.1),(D,7,mY g.arL),(F,3,qM g.arV)]) (avN.refl _)
  (List.perm_append_comm (l₁:=[(y,4,kI arJ.1),(.osl qm 4 0 (1+u.1),4,mK arC.1),(D,7,mY g.arL),(F,3,qM g.arV)]) (l₂:=[(Z,17,pT pols.1)]))
 simp only[go_sem];refine Hj (C:=C) O.torQ T E (1+pl.1) vo.1 vo.2 Om Om σ _ _ _ _ _ Z pols.1 ε _ _ _ _ ?_ (by rw[i]at J ⊢;exact J) ?_
 ·rw[i];unfold iX;exact Lq
 clear J A w Y f0 f1 f2 f6 f7 M;intro w6 F5 H5 ι w;rw[γ]at w;have f6:F5 6=some (.ptr o6 7 0 0):=ι 6 _ (by rw[i];unfold iX;simp only[go_sem]);have f7:F5 7=some (.ptr o7 7 0 0):=ι 7 _ (by rw[i];unfold iX;simp only[go_sem]);rw[i]at w;have b7:=w.at 1 rfl;have b6:=w.at 2 rfl;have one:∀(x:PV),x∈[y,D,F,Z,w6]->(∃q s n,x=.osl q s 0 n)\/x=.aG:=by
  intro x hx;have W:∀{s:Nat}{rows:P2_},bC H5 s x rows->(∃q s n,x=.osl q s 0 n)\/x=.aG:=by
   rintro s rows (⟨_,h⟩|⟨q,rs,h,_⟩)
   ·exact .inr h
   ·exact .inl ⟨q,s,_,h⟩
  simp only[atG,atS,or_false]at hx;rcases hx with rfl|rfl|rfl|rfl|rfl
  ·exact W (w.own 1 rfl)
  ·exact W (w.own 3 rfl)
  ·exact W (w.own 4 rfl)
  ·exact W (w.own 0 rfl)
  ·exact W (w.own 5 rfl)
 have B:∀(x:PV),x∈[y,D,F,Z,w6]->PV.one x=true:=λx hx=>by rcases one x hx with⟨q,s,n,rfl⟩|rfl<;>rfl
 have o1:=B y aZ;have o3:=B D aZ;have o4:=B F aZ;have o5:=B Z aZ;have ρ:=B w6 aZ;simp only[PV.one]at o1 o3 o4 o5 ρ;simp only[go_sem,f6,f7,b7,b6,atG,atS,or_false,forall_eq,forall_eq_or_imp,o1,o3,o4,o5,ρ];have A:=w.set 2 rfl (flB (.j (1+e.1:Nat)) y (.osl qm 4 0 (1+u.1)) D F Z w6);have J:=A.sub (B':=[(o,aY v vols.2)]) (avE.cons_cons _ (List.nil_sublist _)) (avE.refl _);obtain⟨φ,H6,k1,k2,k3,k4⟩:=aN.giveUp _ J (λx hx=>by
  simp only[awD,awO,atG,atS,or_false]at hx;rcases hx with rfl|rfl|rfl|rfl|rfl|rfl
  ·exact J3 _
  ·exact Jo _
  ·exact Jq _
  ·exact I7 _
  ·exact Jb _
  ·exact afA _) (λb hb q s rs=>by
  simp only[atG,atS,or_false]at hb;subst hb;simp only[aS.frz,atU,auH,T.frz];rfl)
 refine pE (vs:=[.agg [.j (1+e.1:Nat),y,.osl qm 4 0 (1+u.1),D,F,Z,w6]]) (.inr rfl) (by simp only[go_sem,f6]) (k4 _ _ (.done (H2:=h_.set o (aY v vols.2)) ?_ (d_ a_ (k3.at 0 rfl))));rw[hR,hT];refine⟨CoL.agg ?_,rfl⟩;have s5:=k1 (Z,17,pT pols.1) aZ;have s1:=k1 (y,4,kI arJ.1) aZ;have s2:=k1 (.osl qm 4 0 (1+u.1),4,mK arC.1) aZ;have s3:=k1 (D,7,mY g.arL) aZ;have s4:=k1 (F,3,qM g.arV) aZ;have s6:=k1 (w6,2,tX vols.1) aZ;have s0:φ (.j (1+e.1:Nat))=.j (1+e.1:Nat):=k2 _ rfl;show CoL [φ (.j (1+e.1:Nat)),φ y,φ (.osl qm 4 0 (1+u.1)),φ D,φ F,φ Z,φ w6] _;rw[s0];exact CoL.cons (.refl _) (CoL.cons s1.co (CoL.cons s2.co (CoL.cons s3.co (CoL.cons s4.co (CoL.cons s5.co (CoL.cons s6.co .nil))))))
structure Pu(C:Ctx):Prop extends Bg C where
 new:∀(l:N_),(∀x∈l,x<256)->Z' l<=9223372036854775807->aH C 28 [.sl 1 (kN l)] .nil (se l)
 fleet:∀(l:N_)(v:PV),Tp l v->∀(o arB arD a:Nat),arB<=60->arD<=50->a<=Z' l ->
  aH C 0 [.ptr o 2 0 0,.int .i64 arB,.int .i64 arD] (h_.set o (aY v a)) (λr H=>r=.agg (jN l arB arD a).1.cells/\H=h_.set o (aY v (jN l arB arD a).2))
theorem TH.exact{name:Nat}{args:V_}{H:PH}{l:N_}{v:PV}{o arB arD a:Nat}(h:aH C name args H (TH l v o arB arD a)):aH C name args H (λr H=>r=.agg (jN l arB arD a).1.cells/\H=h_.set o (aY v (jN l arB arD a).2)):=
 h.post λr H' e=>⟨_,e.1,rfl,e.2⟩
theorem Ru(y:Pu C)(l:N_)(hb:∀x∈l,x<256)(B:Z' l<=9223372036854775807)(arB arD:Nat)(i:arB<=60)(w:arD<=50) :
  ao.wp C (aV nr.res (cN (.agg (jN (l.take 400) arB arD 0).1.cells))) (g_ [.sl 1 (kN l),.j arB,.j arD]) .nil:=by
 simp only[go_sem,ao,nr];refine aQ λo6 D=>?_;simp only[go_sem];refine iL (y.new l hb B) rfl a_ ?_;rintro r H' ⟨o,v,rfl,T,rfl⟩ A;have u:¬o6=o:=by intro e;subst e;have:=A o6 (aY v 0) (by rw[aO,aF rfl]) rfl;rw[aO,aF rfl]at this;cases this
 rw[PH.vK];simp only[go_sem];refine pB (y.fleet _ v T o arB arD 0 i w (asQ _)) (by rw[aO,aF rfl]) rfl ?_;simp only[go_sem,u];exact bM (vs:=[.agg (jN (l.take 400) arB arD 0).1.cells]) (.inr rfl) .nil Sq a_ ⟨.refl _,rfl⟩
theorem CoL.aoX:CoL [] []:=⟨rfl,λj p q h=>by simp at h⟩
theorem CoL.Lt{p q:PV}{ps i:V_}(h:Co p q)(e:CoL ps i):CoL (p::ps) (q::i):=by
 refine⟨by simp[e.len],λj x y a b=>?_⟩;cases j with
 |zero =>simp only[List.getElem?_cons_zero,auY.injEq]at a b;subst a;subst b;exact h
 |succ j=>exact e.at_ j x y (by simpa using a) (by simpa using b)
theorem aH.seen{name:Nat}{args:V_}{H:PH}{v:PV}(h:aH C name args H (cN v)):aH C name args H (aK v):=
 h.post λr H' e=>⟨v,e.1,rfl,e.2⟩
def Al(x:RF):Bool:=decide (FOk x)
theorem ix{x:RF}(h:Al x=true):FOk x:=of_decide_eq_true h
def VY(l:List RF):Bool:=decide (Z' l<=9)&&l.all Al
theorem VZ{l:List RF}(h:VY l=true):pC l:=by
 simp only[VY,asV,atI,dT_]at h;exact⟨by unfold Fits;omega,λx e=>ix (h.2 x e)⟩
def De(x:cV):Bool:=(decide (KL x.start)&&VY x.exit)&&(decide (Z' x.arG<=9)&&x.arG.all VY)
theorem Rc{x:cV}(h:De x=true):x.Ok:=by
 simp only[De,asV,atI,dT_]at h;exact⟨h.1.1,VZ h.1.2,by unfold Fits;omega,λr e=>VZ (h.2.2 r e)⟩
def Er(x:bX):Bool:=(decide (eQ x.k/\eQ x.m/\eQ x.asA)&&(decide (Z' x.arC<=9)&&x.arC.all λm=>decide (eQ m)))&&(VY x.repair&&(decide (TOk x.target)&&Al x.arM))
theorem Sn{x:bX}(h:Er x=true):x.Ok:=by
 simp only[Er,asV,atI,dT_]at h;exact⟨h.1.1.1,h.1.1.2.1,h.1.1.2.2,by unfold Fits;omega,h.1.2.2,VZ h.2.1,h.2.2.1,ix h.2.2.2⟩
def okB(f:aB):Bool:=(decide (Z' f.arJ<=99/\Z' f.arC<=99/\Z' f.arE<=99/\Z' f.arB<=99/\Z' f.arF<=99/\Z' f.arD<=99)&&(f.arJ.all De&&f.arF.all Er)) &&
 (f.arE.all (λx=>Al x.arR&&decide (eQ x.level/\eQ x.parent))&&(f.arB.all (λx=>decide (eQ x.model/\eQ x.machine))&&f.arD.all λx=>decide (eQ x.arO)))
theorem ahJ{f:aB}(h:okB f=true):f.Ok:=by
 simp only[okB,asV,atI,dT_]at h;obtain⟨⟨⟨y,A,B,D,E,F⟩,l,u⟩,i,w,h5⟩:=h;exact⟨by unfold Fits;omega,by unfold Fits;omega,by unfold Fits;omega,by unfold Fits;omega,by unfold Fits;omega,by unfold Fits;omega,λx e=>Rc (l x e),λx e=>⟨ix (i x e).1,(i x e).2⟩,w,λx e=>Sn (u x e),h5⟩
def lT:=bT [43] Proofs.Tryz.f222
def XD:=aA lT 8
def XE:=aA lT 9
def RU:=aA lT 10
def RV:=aA lT 11
def RW:=aA lT 12
def FL:=aA lT 13
def FN:=aA lT 14
def ch:aJ:=(sq (aA lT 0) (sq (aA lT 1) (sq (aA lT 2) (.seq (cS (aA lT 3) 0 (dH (aA lT 4) 13 0 FN (sq (aA lT 5) (jJ (aA lT 6) 20 (.region (aA lT 7)) (sq XD (sq XE (jJ RU 35 (sq RV (.region RW)) (.region FL)))))))) (sq (aA lT 15) .ret)))))
def qY:=bT [51] Proofs.Tryz.f243
def jo:=aA qY 5
def jp:=aA qY 6
def jr:=aA qY 7
def RX:=aA qY 8
def RY:=aA qY 9
def KC:=aA qY 10
def KD:=aA qY 11
def KE:=aA qY 12
def XG:=aA qY 13
def qw:aJ:=(sq (aA qY 0) (sq (aA qY 1) (sq (aA qY 2) (.seq (cS (aA qY 3) 0 (dH (aA qY 4) 22 0 KE (sq jo (jJ jp 29 (.region jr) (jJ RX 40 (.region RY) (sq KC (.region KD))))))) (sq XG .ret)))))
def nI:=bT [] Proofs.Tryz.f221
def XI:=aA nI 4
def XJ:=aA nI 5
def RZ:aJ:=(dH (aA nI 6) 25 2 (aA nI 9) (dq (dZ nI 0) (sq (aA nI 7) (.region (aA nI 8)))))
def SA:=aA nI 10
def ci:aJ:=(sq (aA nI 0) (sq (aA nI 1) (.seq (cS (aA nI 2) 0 (dH (aA nI 3) 19 0 (aA nI 11) (sq XI (.seq (cS XJ 2 RZ) (.region SA))))) (sq (aA nI 12) .ret))))
def Ot:=bT [] Proofs.Tryz.f225
def ya:=cG Ot
def O3:=bT [] Proofs.Tryz.f227
def yh:=cG O3
def O0:=bT [] Proofs.Tryz.f228
def ye:=cG O0
def Au:=bT [] Proofs.Tryz.f219
def qn:=cG Au
def uup:=bT [35,42] Proofs.Tryz.f220
def Gi:=cG uup
def tH:=bT [47] Proofs.Tryz.f223
def jl:=aA tH 9
def XC:=aA tH 10
def qp:aJ:=(sq (aA tH 0) (kK (aA tH 1) 12 (aA tH 2) (sq (aA tH 3) (.seq (cS (aA tH 4) 0 (dH (aA tH 5) 18 0 XC (sq (aA tH 6) (jJ (aA tH 7) 30 (.region (aA tH 8)) (.region jl))))) (sq (aA tH 11) .ret)))))
def rt:=bT [1] Proofs.Tryz.f83
def cp:=cG rt
def rc:=bT [1] Proofs.Tryz.f244
def ck:=cG rc
def A1:=bT [1] Proofs.Tryz.f226
def qy:=cG A1
def ZE:=bT [1] Proofs.Tryz.f128
def XO:=cG ZE
def rr:=bT [] Proofs.Tryz.f177
def cn:=cG rr
def ri:=bT [2,3] Proofs.Tryz.f127
def cl:=cG ri
def A2:=bT [2,3] Proofs.Tryz.f131
def re:=cG A2
def A4:=bT [2,3] Proofs.Tryz.f126
def rj:=cG A4
def A5:=bT [1] Proofs.Tryz.f84
def rk:=cG A5
def Gj:=bT [2,3] Proofs.Tryz.f176
def XK:=cG Gj
def BW:=bT [] Proofs.Tryz.f125
def Kl:=aA BW 0
def Km:=aA BW 1
def Ko:=aA BW 2
def Kp:=aA BW 3
def Kq:=dZ BW 0
def um:=aA BW 4
def Kr:=aA BW 5
def Ks:=aA BW 6
def Kt:=aA BW 7
def Kk:aJ:=(dH Kp 12 0 Kt (dq Kq (kK um 25 Kr (.region Ks))))
def Gq:=aA BW 8
def yk:aJ:=(sq Kl (sq Km (.seq (cS Ko 0 Kk) (sq Gq .ret))))
def JO:=bT [] Proofs.Tryz.f129
def wP:=cG JO
def ZH:=bT [] Proofs.Tryz.f174
def XT:=cG ZH
def rx:=bT [] Proofs.Tryz.f224
def cq:=cG rx
def ZF:=bT [] Proofs.Tryz.f175
def XR:=cG ZF
def ZG:=bT [] Proofs.Tryz.f122
def XS:=cG ZG
theorem wK(P:N_)(v:Nat):bJ P++[[.int .u32 (v:Int)]]=bJ (P++[v]):=by simp[bJ]
theorem wJ{P:N_}(h:Z' P<=35184372087808):roomFor (bJ P).length 1 4:=by
 unfold roomFor;rw[eP];simp only[maxLen];omega
def ZC(a b:N_)(v:PV)(c i:Nat):PF:=(((((n_.set 0 (bB a)).set 1 (bB b)).set 5 (v)).set 6 (.int .u64 c)).set 7 (.int .i64 i))
theorem T9(L:vT C)(a b:N_)(ha:Lim a)(hb:Lim b)(η:val b<=val a)(hl:Z' b<=Z' a)(h1:Z' a<=35184372087808) :
  ch.wp C (aV lT.res (cN (bB (aT (val a-val b))))) (g_ [bB a,bB b]) .nil:=by
 simp only[go_sem,ch,lT];refine wp_loop (α:=N_ × T3_) (λs=>ZC a b s.2.2.1 s.2.1 s.1.length) (λs=>s.2.2.2)
  (λs=>s.1.length<=Z' a/\Lim s.1/\s.2.1<=1/\val (a.take s.1.length)+4294967296^s.1.length*s.2.1=val s.1+val (b.take s.1.length)/\bC s.2.2.2 1 s.2.2.1 (bJ s.1)) (λs=>Z' a-s.1.length) ([],0,.aG,.nil) ⟨by simp,by simp[Lim],by simp,by simp[val],.nil⟩ ?_ a_ ?_
 unfold ZC;exact Lq;rintro⟨P,c,v,H0⟩ ⟨hP,i,hc,B,V⟩;simp only at hP i hc B V ⊢;simp only[go_sem,ZC];by_cases W:Z' P<Z' a;have E:(Z' P:Int)<(Z' a:Nat):=Om;have ε:=ha _ (asS W);have δ:=gX a W;have β:(bJ a)[Z' P]?=some [.int .u32 ((a[Z' P]:Nat):Int)]:=gU a W;generalize hx:a[Z' P]=x at *
 have ex:u_.wrap ((x:Nat):Int)=((x:Nat):Int):=eF Om;have fin:∀(t:Nat)(D:PF),t<4294967296->val (b.take (Z' P+1))=val (b.take P.length)+4294967296^P.length*t ->
   D 0=some (bB a)->D 1=some (bB b)->D 5=some v->D 8=some (.int .u64 (c+t:Nat))->D 7=some (.j P.length) ->
   ∀K:bP,(∀A l v' U H2,Z' A=Z' P+1->Lim A->l<=1->val (a.take (Z' P+1))+4294967296^A.length*l=val A+val (b.take (Z' P+1))->(ZC a b v' l A.length).le U->bC H2 1 v' (bJ A)->K .normal U H2) ->
   aJ.wp C (.seq (.region XD) (.seq (.region XE) (.seq (.seq (.region RU) (.cond (.tmp 35) (.seq (.region RV) (.region RW)) .skip)) (.region FL)))) (fL 1 (gL C (aJ.wp C (.region FN)) K)) D H0:=by
  intro t D ht w g0 g1 g5 g8 g7 K hK;have step:∀(d l:Nat),d<4294967296->l<=1->x+4294967296*l=d+(c+t)->val (a.take (Z' P+1))+4294967296^(Z' P+1)*l=val (P++[d])+val (b.take (Z' P+1)):=by
   intro d l hd ζ he;have h2:4294967296^P.length*(x+4294967296*l)=4294967296^P.length*(d+(c+t)):=by rw[he]
   rw[auJ,auJ,auJ]at h2;rw[IP,awL,auP,δ,w];omega
  simp only[go_sem,XD,g0,g7,β,ex,XE,RU,g8];by_cases c2:x<c+t;have F:((x:Nat):Int)<((c+t:Nat):Int):=Om;have O:u_.wrap ((x:Int)+4294967296)=((x+4294967296:Nat):Int):=by rw[show(x:Int)+4294967296=((x+4294967296:Nat):Int) by omega];exact eF Om
  have e2:u_.wrap (((x+4294967296:Nat):Int)-((c+t:Nat):Int))=((x+4294967296-(c+t):Nat):Int):=by rw[show((x+4294967296:Nat):Int)-((c+t:Nat):Int)=((x+4294967296-(c+t):Nat):Int) by omega];exact eF Om
  have M:IntKind.u32.wrap ((x+4294967296-(c+t):Nat):Int)=((x+4294967296-(c+t):Nat):Int):=by rw[iP,avV Om]
  have N:(1:Nat)*1<=16777216:=by decide
  simp only[go_sem,F,RV,O,RW,FL,g5,g8,e2,M,N];refine fB (src:=[[.int .u32 ((x+4294967296-(c+t):Nat):Int)]]) V rfl (wJ Om) λv' H' u _=>?_;rw[wK]at u;simp only[go_sem,FN,g7,fI (Om:Z' P<9223372036854775807)];refine hK _ 1 v' _ H' aZ (i.app λy S=>by simp at S;subst S;omega) (asU _) ?_ ?_ u;rw[asX,atD];exact step _ 1 Om (asU _) Om;unfold ZC;rw[asX,atD];exact Lq;have F:¬((x:Nat):Int)<((c+t:Nat):Int):=Om;have e2:u_.wrap (((x:Nat):Int)-((c+t:Nat):Int))=((x-(c+t):Nat):Int):=by rw[show((x:Nat):Int)-((c+t:Nat):Int)=((x-(c+t):Nat):Int) by omega];exact eF Om
  have M:IntKind.u32.wrap ((x-(c+t):Nat):Int)=((x-(c+t):Nat):Int):=by rw[iP,avV Om]
  have N:(1:Nat)*1<=16777216:=by decide
  simp only[go_sem,F,FL,g5,g8,e2,M,N];refine fB (src:=[[.int .u32 ((x-(c+t):Nat):Int)]]) V rfl (wJ Om) λv' H' u _=>?_;rw[wK]at u;simp only[go_sem,FN,g7,fI (Om:Z' P<9223372036854775807)];refine hK _ 0 v' _ H' aZ (i.app λy S=>by simp at S;subst S;omega) aR ?_ ?_ u;rw[asX,atD];exact step _ 0 Om aR Om;unfold ZC;rw[asX,atD];exact Lq
 simp only[aJ.wp,go_sem]at fin;simp only[go_sem,E];by_cases X:Z' P<Z' b;have J:(Z' P:Int)<(Z' b:Nat):=Om;have γ:=hb _ (asS X);have w:=gX b X;have eb:u_.wrap ((b[Z' P]:Nat):Int)=((b[Z' P]:Nat):Int):=eF Om;have es:u_.wrap ((c:Int)+(b[Z' P]:Int))=((c+b[Z' P]:Nat):Int):=sJ Om;simp only[go_sem,J,gU b X,eb,es];refine fin b[Z' P] _ γ w rfl rfl rfl rfl rfl _ ?_;intro A l v' U H2 O e2 M R Y Z;rw[<-O]at R;exact aE (α:=N_ × T3_) (A,l,v',H2) ⟨by simp only;omega,e2,M,R,Z⟩ sO_ Y b_;have J:¬(Z' P:Int)<(Z' b:Nat):=Om;have w:val (b.take (Z' P+1))=val (b.take P.length)+4294967296^P.length*0:=by rw[atP Om,atP Om];simp
 simp only[go_sem,J];refine fin 0 _ aR w rfl rfl rfl rfl rfl _ ?_;intro A l v' U H2 O e2 M R Y Z;rw[<-O]at R;exact aE (α:=N_ × T3_) (A,l,v',H2) ⟨by simp only;omega,e2,M,R,Z⟩ sO_ Y b_;have e:Z' P=Z' a:=Om;have E:¬(Z' P:Int)<(Z' a:Nat):=Om;have hV:val P=val a-val b:=by
  rw[e,atL,atP hl]at B;have hlt:=oE i;rw[e]at hlt;rcases avB c with h|h
  subst h;omega;have:c=1:=Om;subst this;omega
 simp only[go_sem,E];have hs:=L.trim _ i Om;rw[hV]at hs;refine AZ hs V rfl λF1 H1 _=>?_;simp only[go_sem];exact bM (.inr rfl) .nil rfl a_ ⟨.refl _,rfl⟩
def yK(a b:N_)(o i:Nat):PF:=((((n_.set 0 (bB a)).set 1 (bB b)).set 5 (.osl o 1 0 (Z' a+Z' b))).set 6 (.int .i64 i))
def utG(a b:N_)(o i c j:Nat):PF:=((((((n_.set 0 (bB a)).set 1 (bB b)).set 5 (.osl o 1 0 (Z' a+Z' b))).set 6 (.int .i64 i)).set 7 (.int .u64 c)).set 8 (.int .i64 j))
theorem O4(a b:N_)(ha:Lim a)(hb:Lim b)(h1:Z' a<=35184372087808)(h2:Z' b<=35184372087808)(L:N_)(i:Nat)(hi:i<Z' a)(O:Bh a b L i)(q:Nat)(K:bP)(F:PF)(H:PH)(N:(yK a b q i).le F)(hH:H q=some (.rows 1 (bJ L)))
  (hK:∀L' F' H',Bh a b L' (i+1)->(yK a b q i).le F'->H' q=some (.rows 1 (bJ L'))->K .normal F' H') :
  aJ.wp C (.block 1 (.seq (.region XI) (.seq (.seq (.region XJ) (.block 2 (.loop RZ))) (.region SA)))) K F H:=by
 have f0:=N 0 _ (by unfold yK;simp only[go_sem];rfl);have f1:=N 1 _ (by unfold yK;simp only[go_sem];rfl);have f5:=N 5 _ (by unfold yK;simp only[go_sem];rfl);have f6:=N 6 _ (by unfold yK;simp only[go_sem];rfl);have hx:=ha _ (asS hi);have β:=gX a hi;generalize δ:a[i]=x at *
 have X:(bJ a)[i]?=some [.int .u32 ((x:Nat):Int)]:=by rw[gU a hi,δ]
 simp only[go_sem,XI,XJ];refine wp_loop (α:=N_ × Nat × Nat) (λt=>utG a b q i t.2.1 t.2.2) (λt=>h_.set q (.rows 1 (bJ t.1)))
  (λt=>t.2.2<=Z' b/\t.1.length=Z' a+Z' b/\Lim t.1/\t.2.1<4294967296/\val t.1+4294967296^(i+t.2.2)*t.2.1=val (a.take i)*val b+4294967296^i*(x*val (b.take t.2.2))/\∀j y,i+Z' b<=j->t.1[j]?=some y->y=0) (λt=>Z' b-t.2.2) (L,0,0)
  ⟨by simp,O.len,O.lim,by simp,by simp[val,O.v],O.z⟩ ?_ (d_ a_ hH) ?_
 unfold utG;exact Lq;rintro⟨M,c,j⟩ ⟨hj,W,l,Z,A,S⟩;simp only at hj W l Z A S;simp only[go_sem,RZ,utG];by_cases U:j<Z' b;have B:(j:Int)<(Z' b:Nat):=Om;have R:=hb _ (asS U);have γ:=gX b U;generalize ε:b[j]=y at *
 have Y:(bJ b)[j]?=some [.int .u32 ((y:Nat):Int)]:=by rw[gU b U,ε]
 have e:i+j<Z' M:=Om;have J:=l _ (asS e);have w:=ul e;generalize ζ:M[i+j]=z at *
 have E:(bJ M)[i+j]?=some [.int .u32 ((z:Nat):Int)]:=by rw[gU M e,ζ]
 have ex:u_.wrap ((x:Nat):Int)=((x:Nat):Int):=eF Om;have ey:u_.wrap ((y:Nat):Int)=((y:Nat):Int):=eF Om;have ez:u_.wrap ((z:Nat):Int)=((z:Nat):Int):=eF Om;have em:=adD hx R;have θ:x*y<=4294967295*4294967295:=awV Om Om;have e1:u_.wrap (((x*y:Nat):Int)+(z:Int))=((x*y+z:Nat):Int):=sJ Om;have e2:u_.wrap (((x*y+z:Nat):Int)+(c:Int))=((x*y+z+c:Nat):Int):=sJ Om;have D:i_.wrap ((i:Int)+(j:Int))=((i+j:Nat):Int):=sI Om;have hlt:((i+j:Nat):Int)<((Z' a+Z' b:Nat):Int):=Om;generalize ht:x*y+z+c=t at *
 have η:t<4294967296*4294967296:=Om;have u:(bJ M).set (i+j) [.int .u32 ((t%4294967296:Nat):Int)]=bJ (M.set (i+j) (t%4294967296)):=vG M (i+j) _;simp only[go_sem,B];refine bE .nil cR a_ ?_;simp only[go_sem,X,Y,ex,ey,em,D,hlt,E,ez,e1,e2,iP,u,Aq,wZz j];refine aE (M.set (i+j) (t%4294967296),t/4294967296,j+1) ⟨by simp only;omega,by simp only[auD];exact W,l.set _ (Nat.mod_lt _ aR),by simp only;omega,?_,Pj S _ _ Om⟩ sO_ ?_ (d_ a_ Sq);simp only;have V:=w (t%4294967296);have h4:4294967296^(i+(j+1))*(t/4294967296)+4294967296^(i+j)*(t%4294967296)=4294967296^(i+j)*t:=by rw[<-avZ,awL,auP,<-auJ,Nat.div_add_mod]
 have h5:4294967296^(i+j)*t=4294967296^(i+j)*(x*y)+4294967296^(i+j)*z+4294967296^(i+j)*c:=by rw[<-ht,auJ,auJ]
 have h6:4294967296^i*(x*val (b.take (j+1)))=4294967296^i*(x*val (b.take j))+4294967296^(i+j)*(x*y):=by rw[γ,auJ,auJ,Nat.pow_add];congr 1;rw[Nat.mul_left_comm x,auP]
 omega;exact Lq;have he:j=Z' b:=Om;have B:¬(j:Int)<(Z' b:Nat):=Om;subst he;have e:i+Z' b<Z' M:=Om;have J:M[i+Z' b]=0:=S _ _ (asU _) (asZ e);have w:=ul e;have E:(bJ M)[i+Z' b]?=some [.int .u32 ((0:Nat):Int)]:=by rw[gU M e,J]
 have D:i_.wrap ((i:Int)+(Z' b:Int))=((i+Z' b:Nat):Int):=sI Om;have hlt:((i+Z' b:Nat):Int)<((Z' a+Z' b:Nat):Int):=Om;have u:(bJ M).set (i+Z' b) [.int .u32 ((c%4294967296:Nat):Int)]=bJ (M.set (i+Z' b) c):=by rw[avV Z];exact vG M _ _
 simp only[go_sem,B,SA,D,iP,hlt,E,u];refine hK (M.set (i+Z' b) c) _ _ ⟨by rw[auD];exact W,l.set _ Z,?_,λj y hj R=>?_⟩ (by unfold yK;exact Lq) Sq;have V:=w c;rw[J,Nat.mul_zero,auI]at V;rw[V,A,atL,β,auM,auP];rw[List.getElem?_set_ne Om]at R;exact S j y Om R
theorem Uc(L:vT C)(a b:N_)(O:Lim a)(hb:Lim b)(V:Z' a<=8388608)(W:Z' b<=8388608) :
  ci.wp C (aV nI.res (cN (bB (aT (val a*val b))))) (g_ [bB a,bB b]) .nil:=by
 have w:i_.wrap ((Z' a:Int)+(Z' b:Int))=((Z' a+Z' b:Nat):Int):=sI Om;have D:((Z' a+Z' b:Nat):Int)*((4:Nat):Int)<=140737488355328:=Om;have E:((Z' a+Z' b:Nat):Int)<=9223372036854775807:=Om;have R:asT (Z' a+Z' b) [PV.int .u32 0]=bJ (asT (Z' a+Z' b) 0):=by simp[bJ]
 simp only[go_sem,ci,nI,asO,w,D,E,R];refine aQ λo X=>?_;simp only[go_sem];refine wp_loop (α:=N_ × Nat) (λt=>yK a b o t.2) (λt=>h_.set o (.rows 1 (bJ t.1))) (λt=>t.2<=Z' a/\Bh a b t.1 t.2) (λt=>Z' a-t.2) (asT (Z' a+Z' b) 0,0)
  ⟨by simp,by simp,UX _,by simp[val,KG],λj x _ J=>by rw[List.getElem?_replicate]at J;split at J<;>simp_all⟩ ?_ (d_ a_ Sq) ?_
 unfold yK;exact Lq;rintro⟨M,i⟩ ⟨hi,l⟩;simp only at hi l;simp only[go_sem,yK];by_cases K:i<Z' a;have u:(i:Int)<(Z' a:Nat):=Om;have y:=O4 (C:=C) a b O hb Om Om M i K l o;simp only[go_sem]at y;simp only[go_sem,u];refine y _ _ _ (by unfold yK;exact Lq) Sq ?_;intro L' S H' B e A;have N:=e 6 _ (by unfold yK;simp only[go_sem];rfl);have g0:=e 0 _ (by unfold yK;simp only[go_sem];rfl);have g1:=e 1 _ (by unfold yK;simp only[go_sem];rfl);have U:=e 5 _ (by unfold yK;simp only[go_sem];rfl);simp only[go_sem,N,wZz i];refine aE (L',i+1) ⟨by simp only;omega,B⟩ sO_ ?_ (d_ a_ A);exact Lq;have he:i=Z' a:=Om;subst he;have u:¬(Z' a:Int)<(Z' a:Nat):=Om;have hV:val M=val a*val b:=by rw[l.v,atL]
 simp only[go_sem];have F:=L.trim _ l.lim (by rw[l.len];omega);rw[hV]at F;refine ry (o:=o) (s:=1) (k:=Z' a+Z' b) (rs:=bJ M) (v:=bB (aT (val a*val b))) ?_ rfl Sq (by rw[eP,l.len];exact asU _) ?_;rw[atP (by rw[eP,l.len];exact asU _)];exact F;simp only[go_sem];exact bM (.inr rfl) .nil rfl a_ ⟨.refl _,rfl⟩
structure Bk(C:Ctx):Prop extends Bi C where
 minus:∀a b,Lim a->Lim b->val b<=val a->Z' b<=Z' a->Z' a<=35184372087808->aH C 42 [bB a,bB b] .nil (aK (bB (aT (val a-val b))))
 times:∀a b,Lim a->Lim b->Z' a<=8388608->Z' b<=8388608->aH C 44 [bB a,bB b] .nil (aK (bB (aT (val a*val b))))
theorem aeV(L:Bk C)(a b:N_)(u:Lim a)(hb:Lim b)(y:Z' a<=35184372087808)(A:Z' b<=35184372087808) :
  ye.wp C (aV O0.res (cN (opV (nO (val a) (val b)) (val a*val b)))) (g_ [bB a,bB b]) .nil:=by
 unfold opV;simp only[go_sem,ye,O0];refine aD (L.large a u y) rfl ?_;by_cases i:nl (val a)>512;simp only[go_sem,i];rw[aF (by simp[nO,i])];exact nC rfl;simp only[go_sem,i];refine aD (L.large b hb A) rfl ?_;by_cases l:nl (val b)>512;simp only[go_sem,l];rw[aF (by simp[nO,l])];exact nC rfl;rw[aC (by simp[nO,i,l])];simp only[go_sem,l];refine aD (L.trim a u y) rfl ?_;simp only[go_sem];refine aD (L.trim b hb A) rfl ?_;simp only[go_sem];have x:=L.times (aT (val a)) (aT (val b)) (cE _) (cE _) (by rw[cH];omega) (by rw[cH];omega);rw[cC,cC]at x;refine aD x rfl ?_;have B:=AC (a:=val a) (b:=val b) (m:=512) (n:=512) Om Om;have w:=L.large (aT (val a*val b)) (cE _) (by rw[cH];omega);rw[cC]at w;simp only[go_sem];refine aD w rfl ?_;unfold szV szL szE;by_cases e:nl (val a*val b)>512;rw[aF e,aF e];simp only[go_sem,e];exact nC rfl;rw[aC e,aC e];simp only[go_sem,e];exact bM (.inr rfl) .nil rfl a_ ⟨.refl _,rfl⟩
def EJ(a:N_)(i:Nat):Nat:=a.getD i 0
theorem Cb{a:N_}(h:Lim a)(i:Nat):EJ a i<4294967296:=by
 unfold EJ;rw[asW];rcases atY i a.length with h1|h1
 rw[asZ h1];exact h _ (asS h1);rw[auE h1];decide
theorem de{a:N_}{i:Nat}(h:i<Z' a):EJ a i=a[i]:=by simp[EJ,asW,h]
theorem UG{a:N_}{i:Nat}(h:¬i<Z' a):EJ a i=0:=by simp[EJ,asW,h]
theorem XL(a:N_)(i:Nat):val (a.take (i+1))=val (a.take i)+4294967296^i*EJ a i:=by
 rcases atY i a.length with h|h
 rw[de h];exact gX a h;rw[UG Om,atP Om,atP Om];simp
def AV(a b:N_)(v:PV)(c i:Nat):PF:=(((((n_.set 0 (bB a)).set 1 (bB b)).set 5 (v)).set 6 (.int .u64 c)).set 7 (.int .i64 i))
theorem Zg(L:vT C)(a b:N_)(ha:Lim a)(hb:Lim b)(h1:Z' a<=8388608)(h2:Z' b<=8388608) :
  qw.wp C (aV qY.res (cN (bB (aT (val a+val b))))) (g_ [bB a,bB b]) .nil:=by
 simp only[go_sem,qw,qY];refine wp_loop (α:=N_ × T3_) (λs=>AV a b s.2.2.1 s.2.1 s.1.length) (λs=>s.2.2.2)
  (λs=>s.1.length<=max a.length b.length+1/\(s.1.length<=max a.length b.length\/s.2.1=0)/\Lim s.1/\s.2.1<=1/\val s.1+4294967296^s.1.length*s.2.1=val (a.take s.1.length)+val (b.take s.1.length)/\bC s.2.2.2 1 s.2.2.1 (bJ s.1)) (λs=>max a.length b.length+1-s.1.length) ([],0,.aG,.nil)
  ⟨by simp,by simp,by simp[Lim],by simp,by simp[val],.nil⟩ ?_ a_ ?_
 unfold AV;exact Lq;rintro⟨P,c,v,H0⟩ ⟨hP,ζ,u,hc,J,hO⟩;simp only at hP ζ u hc J hO ⊢;have μ:=Cb ha P.length;have ν:=Cb hb P.length;have ι:=XL a P.length;have κ:=XL b P.length;generalize hx:EJ a P.length=x at *
 generalize hy:EJ b P.length=y at *
 have ex:u_.wrap ((x:Nat):Int)=((x:Nat):Int):=eF Om;have ey:u_.wrap ((y:Nat):Int)=((y:Nat):Int):=eF Om;have R:u_.wrap ((c:Int)+(x:Int))=((c+x:Nat):Int):=sJ Om;have e2:u_.wrap (((c+x:Nat):Int)+(y:Int))=((c+x+y:Nat):Int):=sJ Om;have θ:Z' P<Z' a->(bJ a)[Z' P]?=some [.int .u32 ((x:Nat):Int)]:=λh=>by rw[gU a h,<-hx,de h]
 have β:Z' P<Z' b->(bJ b)[Z' P]?=some [.int .u32 ((y:Nat):Int)]:=λh=>by rw[gU b h,<-hy,de h]
 have γ:¬Z' P<Z' a->x=0:=λh=>by rw[<-hx,UG h]
 have S:¬Z' P<Z' b->y=0:=λh=>by rw[<-hy,UG h]
 have body:(Z' P<=max a.length b.length)->∀K:bP,(∀l A v' U H2,Z' l=Z' P+1->Lim l->A<=1->(Z' P+1<=max a.length b.length\/A=0)->val l+4294967296^l.length*A=val (a.take (Z' P+1))+val (b.take (Z' P+1))->(AV a b v' A l.length).le U->bC H2 1 v' (bJ l)->K .normal U H2) ->
   ∀F:PF,(AV a b v c P.length).le F->aJ.wp C (.seq (.block 1 (.seq (.region jo) (.seq (.seq (.region jp) (.cond (.tmp 29) (.region jr) .skip)) (.seq (.seq (.region RX) (.cond (.tmp 40) (.region RY) .skip)) (.seq (.region KC) (.region KD)))))) (.region KE)) K F H0:=by
  intro ξ K hK F Y;have g0:F 0=some (bB a):=Y 0 _ (by unfold AV;simp only[go_sem]);have g1:F 1=some (bB b):=Y 1 _ (by unfold AV;simp only[go_sem]);have g5:F 5=some v:=Y 5 _ (by unfold AV;simp only[go_sem]);have g6:F 6=some (.int .u64 c):=Y 6 _ (by unfold AV;simp only[go_sem]);have B:F 7=some (.j P.length):=Y 7 _ (by unfold AV;simp only[go_sem]);have fin:∀M:PF,M 0=some (bB a)->M 1=some (bB b)->M 5=some v->M 7=some (.j P.length)->M 8=some (.int .u64 (c+x+y:Nat)) ->
    aJ.wp C (.seq (.region KC) (.region KD)) (fL 1 (gL C (aJ.wp C (.region KE)) K)) M H0:=by
   intro M q0 q1 q5 q7 q8;have η:(1:Nat)*1<=16777216:=by decide
   generalize ht:c+x+y=t at *
   have ο:t<2*4294967296:=Om;simp only[go_sem,KC,q5,q8,η,iP];refine fB (src:=[[.int .u32 ((t%4294967296:Nat):Int)]]) hO rfl (wJ Om) λv' H' Z _=>?_;rw[wK]at Z;simp only[go_sem,KD,q8,Aq,KE,q7,fI (Om:Z' P<9223372036854775807)];refine hK (P++[t%4294967296]) (t/4294967296) v' _ H' aZ (u.app λy hy=>by simp at hy;subst hy;omega) Om ?_ ?_ ?_ Z;rcases atY P.length (max a.length b.length)with h|h
   exact .inl h;right;have h1:=γ Om;have h2:=S Om;omega;rw[IP,asX,atD,ι,κ,awL,auP,avZ,<-auJ];rw[show t%4294967296+4294967296*(t/4294967296)=t from Nat.mod_add_div t 4294967296];have h3:4294967296^P.length*t=4294967296^P.length*c+4294967296^P.length*x+4294967296^P.length*y:=by rw[<-ht,auJ,auJ]
   omega;unfold AV;rw[asX,atD];exact Lq
  simp only[aJ.wp,go_sem]at fin;simp only[go_sem,jo,g6,jp,B,g0];by_cases c1:Z' P<Z' a;have i:(Z' P:Int)<(Z' a:Nat):=Om;simp only[go_sem,i,jr,g0,B,θ c1,ex,R,RX,g1];by_cases N:Z' P<Z' b;have e:(Z' P:Int)<(Z' b:Nat):=Om;simp only[go_sem,e,RY,g1,B,β N,ey,e2];exact fin _ (by simp only[go_sem,g0]) (by simp only[go_sem,g1]) (by simp only[go_sem,g5]) (by simp only[go_sem,B]) rfl;have e:¬(Z' P:Int)<(Z' b:Nat):=Om;have h0:=S N;simp only[go_sem,e];exact fin _ (by simp only[go_sem,g0]) (by simp only[go_sem,g1]) (by simp only[go_sem,g5]) (by simp only[go_sem,B]) (by simp only[go_sem,h0]);have i:¬(Z' P:Int)<(Z' a:Nat):=Om;have h0:=γ c1;simp only[go_sem,i,RX,g1,B];by_cases N:Z' P<Z' b;have e:(Z' P:Int)<(Z' b:Nat):=Om;have δ:u_.wrap ((c:Int)+(y:Int))=((c+x+y:Nat):Int):=by rw[h0];exact sJ Om
  simp only[go_sem,e,RY,g1,B,β N,ey,δ];exact fin _ (by simp only[go_sem,g0]) (by simp only[go_sem,g1]) (by simp only[go_sem,g5]) (by simp only[go_sem,B]) rfl;have e:¬(Z' P:Int)<(Z' b:Nat):=Om;have ε:=S N;simp only[go_sem,e];exact fin _ (by simp only[go_sem,g0]) (by simp only[go_sem,g1]) (by simp only[go_sem,g5]) (by simp only[go_sem,B]) (by simp only[go_sem,h0,ε])
 simp only[aJ.wp,go_sem]at body;have w:¬Z' P<Z' a->¬Z' P<Z' b->c=0->∀F:PF,F 5=some v->aJ.wp C (.seq (.region XG) .ret) (aV [.tmp 4] (cN (bB (aT (val a+val b))))) F H0:=by
  intro n1 n2 n3 F f5;have hV:val P=val a+val b:=by rw[n3,atP Om,atP Om]at J;omega
  have hs:=L.trim _ u Om;rw[hV]at hs;simp only[go_sem,XG,f5];refine AZ hs hO rfl λF1 H1 _=>?_;simp only[go_sem];exact bM (.inr rfl) .nil rfl a_ ⟨.refl _,rfl⟩
 simp only[aJ.wp,go_sem]at w;simp only[go_sem,AV];by_cases c1:Z' P<Z' a;have i:(Z' P:Int)<(Z' a:Nat):=Om;simp only[go_sem,i];refine body Om _ ?_ _ (by unfold AV;exact Lq);intro l A v' U H2 R e2 V D E W X;rw[<-R]at E D;exact aE (α:=N_ × T3_) (l,A,v',H2) ⟨by simp only;omega,D,e2,V,E,X⟩ sO_ W b_;have i:¬(Z' P:Int)<(Z' a:Nat):=Om;simp only[go_sem,i];by_cases N:Z' P<Z' b;have e:(Z' P:Int)<(Z' b:Nat):=Om;simp only[go_sem,e];refine body Om _ ?_ _ (by unfold AV;exact Lq);intro l A v' U H2 R e2 V D E W X;rw[<-R]at E D;exact aE (α:=N_ × T3_) (l,A,v',H2) ⟨by simp only;omega,D,e2,V,E,X⟩ sO_ W b_;have e:¬(Z' P:Int)<(Z' b:Nat):=Om;simp only[go_sem,e];by_cases c3:c=0;have O:¬(c:Int)>0:=Om;simp only[go_sem,O];exact w c1 N c3 _ rfl;have O:(c:Int)>0:=Om;simp only[go_sem,O];refine body Om _ ?_ _ (by unfold AV;exact Lq);intro l A v' U H2 R e2 V D E W X;rw[<-R]at E D;exact aE (α:=N_ × T3_) (l,A,v',H2) ⟨by simp only;omega,D,e2,V,E,X⟩ sO_ W b_
structure kd(C:Ctx):Prop extends Bk C where
 plus:∀a b,Lim a->Lim b->Z' a<=8388608->Z' b<=8388608->aH C 43 [bB a,bB b] .nil (aK (bB (aT (val a+val b))))
theorem aeR(L:kd C)(a b:N_)(u:Lim a)(hb:Lim b)(y:Z' a<=35184372087808)(A:Z' b<=35184372087808) :
  ya.wp C (aV Ot.res (cN (opV (nO (val a) (val b)) (val a+val b)))) (g_ [bB a,bB b]) .nil:=by
 unfold opV;simp only[go_sem,ya,Ot];refine aD (L.large a u y) rfl ?_;by_cases i:nl (val a)>512;simp only[go_sem,i];rw[aF (by simp[nO,i])];exact nC rfl;simp only[go_sem,i];refine aD (L.large b hb A) rfl ?_;by_cases l:nl (val b)>512;simp only[go_sem,l];rw[aF (by simp[nO,l])];exact nC rfl;rw[aC (by simp[nO,i,l])];simp only[go_sem,l];refine aD (L.trim a u y) rfl ?_;simp only[go_sem];refine aD (L.trim b hb A) rfl ?_;simp only[go_sem];have x:=L.plus (aT (val a)) (aT (val b)) (cE _) (cE _) (by rw[cH];omega) (by rw[cH];omega);rw[cC,cC]at x;refine aD x rfl ?_;have B:=R2 (a:=val a) (b:=val b) (m:=512) Om Om;have w:=L.large (aT (val a+val b)) (cE _) (by rw[cH];omega);rw[cC]at w;simp only[go_sem];refine aD w rfl ?_;unfold szV szL szE;by_cases e:nl (val a+val b)>512;rw[aF e,aF e];simp only[go_sem,e];exact nC rfl;rw[aC e,aC e];simp only[go_sem,e];exact bM (.inr rfl) .nil rfl a_ ⟨.refl _,rfl⟩
theorem aeY(L:kd C)(a b:N_)(u:Lim a)(hb:Lim b)(w:Z' a<=35184372087808)(x:Z' b<=35184372087808) :
  yh.wp C (aV O3.res (cN (Oh (val a) (val b)))) (g_ [bB a,bB b]) .nil:=by
 unfold Oh;simp only[go_sem,yh,O3];refine aD (L.large a u w) rfl ?_;by_cases e:nl (val a)>512;simp only[go_sem,e];rw[aF (by simp[nO,e])];exact nC rfl;simp only[go_sem,e];refine aD (L.large b hb x) rfl ?_;by_cases i:nl (val b)>512;simp only[go_sem,i];rw[aF (by simp[nO,i])];exact nC rfl;rw[aC (by simp[nO,e,i])];simp only[go_sem,i];refine aD (L.cmp a b u hb w x) rfl ?_;by_cases l:val a<val b;have:jA (val a) (val b)=-1:=by simp[jA,l]
 rw[aF l];simp only[go_sem,this,show((-1:Int)<0) by decide];exact nC rfl;have:¬jA (val a) (val b)<0:=by unfold jA;rw[aC l];split<;>decide
 rw[aC l];have B:=qE (Nat.sub_le (val a) (val b));have A:=qE (Om:val b<=val a);simp only[go_sem,this];refine aD (L.trim a u w) rfl ?_;simp only[go_sem];refine aD (L.trim b hb x) rfl ?_;simp only[go_sem];have y:=L.minus (aT (val a)) (aT (val b)) (cE _) (cE _) (by rw[cC,cC];omega) (by rw[cH,cH];exact A) (by rw[cH];omega);rw[cC,cC]at y;refine aD y rfl ?_;rw[qa Om];simp only[go_sem];exact bM (.inr rfl) .nil rfl a_ ⟨.refl _,rfl⟩
def Ge(k:Nat)(v:Nat):PF:=((n_.set 3 (.int .i64 k)).set 4 (.int .u32 v))
theorem Y6(L:vT C)(xs:N_)(M:Lim xs)(U:Z' xs<=35184372087808) :
  qn.wp C (aV Au.res (aK (.j (fM (val xs):Nat)))) (g_ [bB xs]) .nil:=by
 simp only[go_sem,qn,Au];refine aD (L.trim xs M U) rfl ?_;have V:=DG M;simp only[go_sem,asO,cH,KB];by_cases A:nl (val xs)=0
 ·simp only[go_sem,aW A];refine eD ?_;have:val xs=0:=qT.1 A;simp[bN,this,sK]
 obtain⟨n,R⟩:∃n,nl (val xs)=n+1:=⟨nl (val xs)-1,by omega⟩;obtain⟨t,y,D⟩:=aiI (xs:=aT (val xs)) (cE _) (by rw[cC];exact R);have w:t<4294967296:=cE _ t (auZ y);have S:val xs=val ((aT (val xs)).take n)+4294967296^n*t:=by
  have:=cC (val xs);have e:n<(aT (val xs)).length:=by rw[cH];omega
  have O:(aT (val xs))[n]=t:=by rw[asZ e]at y;exact auY.inj y
  conv=>lhs;rw[<-this,<-atP (l:=aT (val xs)) (i:=n+1) (by rw[cH];omega)]
  rw[gX _ e,O]
 have hb:fM (val xs)=32*n+fM t:=by have J:=oE ((cE (val xs)).take n);rw[atF,cH,avJ Om]at J;have x:=U5 (lo:=val ((aT (val xs)).take n)) (k:=32*n) (hi:=t) (by rw[Nat.pow_mul];exact J) D;rw[<-x,Nat.pow_mul];exact congrArg fM S
 have u:(bJ (aT (val xs)))[n]?=some [.int .u32 (t:Nat)]:=by simp[bJ,y]
 have N:i_.wrap (((nl (val xs):Nat):Int)-1)=(n:Int):=wO_
 have e2:i_.wrap (32*(n:Int))=((32*n:Nat):Int):=wO_
 simp only[go_sem,bD A,asO,cH,N,e2,u];refine wp_loop (α:=Nat × Nat) (λa=>Ge a.1 a.2) (λ_=>.nil) (λa=>a.1+fM a.2=32*n+fM t/\a.2<4294967296) (λa=>a.2) (32*n,t) ⟨rfl,w⟩ ?_ a_ ?_
 ·unfold Ge;exact Lq
 rintro⟨k,v⟩ ⟨x,hlt⟩;simp only at x hlt;have K:fM t<=32:=(tZ t 32).2 w;simp only[go_sem,Ge];by_cases F:(v:Int)>0
 ·have E:v≠0:=Om;have B:IntKind.u32.wrap (Int.tdiv (v:Int) 2)=((v/2:Nat):Int):=by rw[show Int.tdiv (v:Int) 2=((v/2:Nat):Int)from Int.ofNat_tdiv v 2,iP,avV Om]
  simp only[go_sem,F,B,wZz k];refine aE (k+1,v/2) ⟨?_,?_⟩ (Nat.div_lt_self Om aR) ?_ a_
  ·have:=HA E;simp only;omega
  ·simp only;omega
  ·exact Lq
 ·have:v=0:=Om;subst this;simp only[go_sem,F];refine eD ?_;rw[sK]at x;simp only[bN,PV.int.injEq,true_and];omega
theorem wy(n:Nat):4294967296^(n/32)*2^(n%32)=2^n:=by
 rw[show(4294967296:Nat)=2^32 by decide,<-Nat.pow_mul,<-Nat.pow_add];congr 1;omega
theorem Tu(n:Nat):i_.wrap (Int.tdiv (n:Int) 32)=i_.wrap ((n/32:Nat):Int):=by
 rw[show Int.tdiv (n:Int) 32=((n/32:Nat):Int)from Int.ofNat_tdiv n 32]
theorem T1(n:Nat):Int.tmod (n:Int) 32=((n%32:Nat):Int):=Int.ofNat_tmod n 32
def Zj(a:N_)(n:Nat)(v:PV)(c i:Nat):PF:=(((((n_.set 0 (bB a)).set 1 (.int .i64 n)).set 5 (v)).set 6 (.int .u64 c)).set 7 (.int .i64 i))
theorem aiM(L:vT C)(a:N_)(n:Nat)(ha:Lim a)(h1:Z' a<=8388608)(hn:n<=8388608)(h0:Z' a=0->val a=0) :
  Gi.wp C (aV uup.res (pQ 1 (bJ (aT (val a*2^n))))) (g_ [bB a,.j n]) .nil:=by
 simp only[go_sem,Gi,uup,asO,KB];by_cases F:Z' a=0;simp only[go_sem,aW F];rw[h0 F,Nat.zero_mul,jT];exact NB (.inr rfl) rfl;have ez:i_.wrap (Int.tdiv (n:Int) 32)=((n/32:Nat):Int):=by rw[Tu,jt Om]
 have em:=T1 n;have eu:u_.wrap ((n%32:Nat):Int)=((n%32:Nat):Int):=eF Om;have X:=wy n;have W:n%32<32:=Nat.mod_lt _ aR;have hz:n/32<=8388608:=Om;generalize ζ:n/32=z at *
 generalize δ:n%32=s at *
 have U:((z:Nat):Int)*((4:Nat):Int)<=140737488355328:=Om;have V:((z:Nat):Int)<=9223372036854775807:=Om;have Z:asT z [PV.int .u32 0]=bJ (asT z 0):=by simp[bJ]
 have N:2^s<=2147483648:=awW (show 0<2 by decide) (Om:s<=31);have D:0<2^s:=Nat.pow_pos aR;simp only[go_sem,bD F,ez,U,V,Z];refine aQ λo ho=>?_;simp only[go_sem];refine wp_loop (α:=N_ × Nat × T3_) (λt=>Zj a n t.2.2.2.1 t.2.1 t.2.2.1) (λt=>t.2.2.2.2)
  (λt=>t.2.2.1<=Z' a/\t.1.length=z+t.2.2.1/\Lim t.1/\t.2.1<2^s/\val t.1+4294967296^t.1.length*t.2.1=val (a.take t.2.2.1)*2^n/\bC t.2.2.2.2 1 t.2.2.2.1 (bJ t.1)) (λt=>Z' a-t.2.2.1) (asT z 0,0,0,.osl o 1 0 z,h_.set o (.rows 1 (bJ (asT z 0))))
  ⟨by simp,by simp,UX _,D,by simp[val,KG],.inr ⟨o,bJ (asT z 0),by rw[eP,List.length_replicate],s_,by rw[eP];exact asU _,atL⟩⟩ ?_ b_ ?_
 unfold Zj;exact Lq;rintro⟨P,c,i,v,H0⟩ ⟨hi,hP,l,hc,w,R⟩;simp only at hi hP l hc w R ⊢;simp only[go_sem,Zj];by_cases J:i<Z' a;have A:(i:Int)<(Z' a:Nat):=Om;have γ:=ha _ (asS J);have Y:=gX a J;have S:=gU a J;generalize hx:a[i]=x at *
 have ε:x*2^s<=4294967295*2147483648:=awV Om N;have ex:u_.wrap ((x:Nat):Int)=((x:Nat):Int):=eF Om;have β:2^s*x=x*2^s:=avC _ _;have M:shift .shl .u64 (x:Int) (s:Int)=some (.int .u64 ((2^s*x:Nat):Int)):=Oe Om Om;have K:=orI (a:=2^s*x) (b:=c) (n:=c+2^s*x) Om Om (by rw[Nat.or_comm];exact Se hc Om) Om;have E:(c+2^s*x)/4294967296<2^s:=by rw[axC aR];have:2^s*(x+1)<=2^s*4294967296:=awP _ Om;rw[auJ,Nat.mul_one]at this;omega
 have B:(1:Nat)*1<=16777216:=by decide
 simp only[go_sem,A,S,ex,em,eu,M,K,iP,B];refine fB (src:=[[.int .u32 (((c+2^s*x)%4294967296:Nat):Int)]]) R rfl (wJ Om) λv' H' u _=>?_;rw[wK]at u;simp only[go_sem,Aq,wZz i];refine aE (P++[(c+2^s*x)%4294967296],(c+2^s*x)/4294967296,i+1,v',H') ⟨by simp only;omega,by simp;omega,l.app λy hy=>by simp at hy;subst hy;exact Nat.mod_lt _ aR,E,?_,u⟩ sO_ ?_ b_;simp only;have hp:4294967296^P.length*(2^s*x)=4294967296^i*x*2^n:=by rw[hP,Nat.pow_add,<-X];rw[auP,Nat.mul_left_comm (4294967296^i),<-auP (4294967296^z),avC (4294967296^z*2^s),auP,avC x]
 rw[IP,asX,atD,awL,auP,avZ,<-auJ,Nat.mod_add_div,Y,auJ,auM,<-avZ,w,hp];exact Lq;have e:i=Z' a:=Om;subst e;have A:¬(Z' a:Int)<(Z' a:Nat):=Om;have B:(1:Nat)*1<=16777216:=by decide
 have hV:val (P++[c])=val a*2^n:=by rw[IP,w,atL]
 have O:Lim (P++[c]):=l.app λx hx=>by simp at hx;omega
 have ec:IntKind.u32.wrap ((c:Nat):Int)=((c:Nat):Int):=by rw[iP,avV Om]
 simp only[go_sem,A,ec,B];refine fB (src:=[[.int .u32 ((c:Nat):Int)]]) R rfl (wJ Om) λv' H' u _=>?_;rw[wK]at u;have W:=L.trimM _ O (by simp;omega);rw[hV]at W;refine zg W u rfl λF1 H1 _ r H2 hr _=>?_;simp only[go_sem];exact S0 (.inr rfl) hr rfl
def XB(a:N_)(n:Nat)(v:PV)(i:Nat):PF:=((((n_.set 0 (bB a)).set 1 (.int .i64 n)).set 5 (v)).set 6 (.int .i64 i))
theorem Y9(L:vT C)(a:N_)(n:Nat)(N:Lim a)(h1:Z' a<=8388608)(hn:n<=1000000000) :
  qp.wp C (aV tH.res (cN (bB (aT (val a/2^n))))) (g_ [bB a,.j n]) .nil:=by
 have ez:i_.wrap (Int.tdiv (n:Int) 32)=((n/32:Nat):Int):=by rw[Tu,jt Om]
 have em:=T1 n;have eu:u_.wrap ((n%32:Nat):Int)=((n%32:Nat):Int):=eF Om;have R:=wy n;have V:n%32<32:=Nat.mod_lt _ aR;have hz:n/32<=1000000000:=Om;generalize κ:n/32=z at *
 generalize ι:n%32=s at *
 simp only[go_sem,qp,tH,asO,ez];by_cases c0:Z' a<=z;have w:((z:Nat):Int)>=(Z' a:Nat):=Om;have hq:val a/2^n=0:=by refine Nat.div_eq_of_lt (Nat.lt_of_lt_of_le (oE N) ?_);rw[<-R];exact atT (awW aR c0) (Nat.le_mul_of_pos_right _ (Nat.pow_pos aR))
 simp only[go_sem,w];rw[hq,jT];exact bM (vs:=[.aG]) (.inr rfl) .nil rfl a_ ⟨.nil 1,rfl⟩;have w:¬((z:Nat):Int)>=(Z' a:Nat):=Om;have hR:val a/2^n=val (a.drop z)/2^s:=by rw[SB N Om,<-R,Nat.div_div_eq_div_mul]
 have J:Lim (a.drop z):=N.drop z;simp only[go_sem,w,ez];refine wp_loop (α:=N_ × PV × PH) (λt=>XB a n t.2.1 (z+t.1.length)) (λt=>t.2.2)
  (λt=>z+t.1.length<=Z' a/\t.1=pW t.1.length (val (a.drop z)/2^s)/\bC t.2.2 1 t.2.1 (bJ t.1)) (λt=>Z' a-t.1.length) ([],.aG,.nil)
  ⟨by simp;omega,rfl,.nil⟩ ?_ a_ ?_
 unfold XB
 (repeat' (first|exact c_|refine e_ ?_ ?_))<;>first|(simp only[go_sem,avD]<;>rfl)|rfl
 rintro⟨P,v,H0⟩ ⟨hP,hD,hO⟩;simp only at hP hD hO ⊢;simp only[go_sem,XB];have E:Lim P:=by rw[hD];exact dg _ _
 by_cases W:z+Z' P<Z' a;have A:((z+Z' P:Nat):Int)<(Z' a:Nat):=Om;have θ:=N _ (asS W);have γ:=gU a W;have ε:Z' P<=(a.drop z).length:=by rw[auU];omega
 have S:=SB J ε;have u:(a.drop z).drop P.length=a[z+Z' P]::a.drop (z+Z' P+1):=by rw[List.drop_drop,avF W]
 generalize hx:a[z+Z' P]=x at *
 have ex:u_.wrap ((x:Nat):Int)=((x:Nat):Int):=eF Om;have δ:(1:Nat)*1<=16777216:=by decide
 have ew:i_.wrap (((z+Z' P:Nat):Int)+1)=((z+Z' P+1:Nat):Int):=fI Om;have fin:∀(t:Nat)(F:PF),t<18446744073709551616->val (a.drop z)/4294967296^P.length%(4294967296*4294967296)=t->F 0=some (bB a)->F 1=some (.j n)->F 5=some v->F 6=some (.j (z+Z' P:Nat))->F 7=some (.int .u64 t) ->
   ∀K:bP,(∀v' U H2,(XB a n v' (z+(Z' P+1))).le U->bC H2 1 v' (bJ (P++[t/2^s%4294967296]))->(P++[t/2^s%4294967296])=pW (Z' P+1) (val (a.drop z)/2^s)->K .normal U H2) ->
   aJ.wp C (.region jl) (fL 1 (gL C (aJ.wp C (.region XC)) K)) F H0:=by
  intro t F ht ζ f0 f1 f5 f6 f7 K hK;have D:shift .shr .u64 (t:Int) (s:Int)=some (.int .u64 ((t/2^s:Nat):Int)):=apR Om;simp only[go_sem,jl,f5,f7,f1,em,eu,D,iP,δ];refine fB (src:=[[.int .u32 ((t/2^s%4294967296:Nat):Int)]]) hO rfl (wJ Om) λv' H' M _=>?_;rw[wK]at M;simp only[go_sem,XC,f6,ew];refine hK v' _ H' ?_ M ?_;unfold XB;exact Lq;rw[UH,<-hD];congr 2;have e:val (a.drop z)/4294967296^P.length=t%4294967296+4294967296*(t/4294967296+4294967296*(val (a.drop z)/4294967296^P.length/(4294967296*4294967296))):=by have:=Nat.mod_add_div (val (a.drop z)/4294967296^P.length) (4294967296*4294967296);rw[ζ]at this;have h2:=Nat.mod_add_div t 4294967296;rw[auJ,<-avZ,h2,<-auP];exact this.symm
  have:=Ib V e;rw[this];congr 2;have h2:=Nat.mod_add_div t 4294967296;omega
 simp only[aJ.wp,go_sem]at fin;simp only[go_sem,A,γ,ex,ew];by_cases X:z+Z' P+1<Z' a;have B:((z+Z' P+1:Nat):Int)<(Z' a:Nat):=Om;have η:=N _ (asS X);have O:=gU a X;rw[avF X]at u;generalize hy:a[z+Z' P+1]=y at *
 have ey:u_.wrap ((y:Nat):Int)=((y:Nat):Int):=eF Om;have D:shift .shl .u64 (y:Int) ((32:Nat):Int)=some (.int .u64 ((2^32*y:Nat):Int)):=Oe aR Om;have β:=orI (a:=x) (b:=2^32*y) (n:=x+2^32*y) Om Om (Se Om Om) Om;simp only[go_sem,B,ew,O,ey,show shift .shl .u64 (y:Int) 32=_ from D,β];refine fin (x+2^32*y) _ Om ?_ rfl rfl rfl rfl rfl _ ?_;rw[<-S,u];simp only[val];omega;intro v' U H2 Y e2 Z;refine aE (α:=N_ × PV × PH) (P++[(x+2^32*y)/2^s%4294967296],v',H2) ⟨by simp;omega,by simpa using Z,e2⟩ (by simp;omega) ?_ b_;simp only[asX,atD];exact Y;have B:¬((z+Z' P+1:Nat):Int)<(Z' a:Nat):=Om;rw[List.drop_of_length_le (l:=a) (i:=z+Z' P+1) Om]at u;simp only[go_sem,B];refine fin x _ Om ?_ rfl rfl rfl rfl rfl _ ?_;rw[<-S,u];simp only[val];omega;intro v' U H2 Y e2 Z;refine aE (α:=N_ × PV × PH) (P++[x/2^s%4294967296],v',H2) ⟨by simp;omega,by simpa using Z,e2⟩ (by simp;omega) ?_ b_;simp only[asX,atD];exact Y;have e:z+Z' P=Z' a:=Om;have A:¬((z+Z' P:Nat):Int)<(Z' a:Nat):=Om;have hV:val P=val (a.drop z)/2^s:=by rw[hD];refine cj (Nat.lt_of_le_of_lt (avI _ _) ?_);have:=oE J;rw[auU]at this;rw[show P.length=Z' a-z by omega];exact this
 have V:=L.trim _ E Om;rw[hV,<-hR]at V;simp only[go_sem,A];refine AZ V hO rfl λF1 H1 _=>?_;simp only[go_sem];exact bM (.inr rfl) .nil rfl a_ ⟨.refl _,rfl⟩
structure TK(C:Ctx):Prop extends kd C where
 bits:∀xs,Lim xs->Z' xs<=35184372087808->aH C 31 [bB xs] .nil (aK (.int .i64 (fM (val xs):Nat)))
 upM:∀(a:N_)(n:Nat),Lim a->Z' a<=8388608->n<=8388608->(Z' a=0->val a=0)->aH C 45 [bB a,.int .i64 n] .nil (pQ 1 (bJ (aT (val a*2^n))))
 down:∀(a:N_)(n:Nat),Lim a->Z' a<=8388608->n<=1000000000->aH C 40 [bB a,.int .i64 n] .nil (aK (bB (aT (val a/2^n))))
def udS:Spec:=λname vs=>match name,vs with
 |35,[.int _ v]=>some ([],λ_=>aK (bB (aT v.toNat)))
 |44,[x,y]=>some ([],λ_=>aK (bB (aT (val (sT x)*val (sT y)))))
 |32,[x,.osl q _ _ _]=>some ([q],λe r H'=>H'=e/\∀xs,Lim xs->e q=some (.rows 1 (bJ xs))->r=.int .i64 (jA (val (sT x)) (val xs)))
 |_,_=>none
theorem Y8(v:Nat):udS 35 [.int .u64 v]=some ([],λ_=>aK (bB (aT v))):=rfl
theorem T6(x y:N_):udS 44 [bB x,bB y]=some ([],λ_=>aK (bB (aT (val x*val y)))):=by
 show some ([],λ_=>aK (bB (aT (val (sT (bB x))*val (sT (bB y))))))=_;rw[mA,mA]
theorem Ve(q:Nat)(x L:N_):(h_.set q (.rows 1 (bJ L)))=(h_.set q (.rows 1 (bJ L)))/\∀xs,Lim xs->(h_.set q (.rows 1 (bJ L))) q=some (.rows 1 (bJ xs))->(PV.int .i64 (jA (val x) (val L)))=.j (jA (val (sT (bB x))) (val xs)):=by
 refine⟨rfl,λxs i e=>?_⟩;rw[bK]at e;have:bJ L=bJ xs:=(aS.rows.inj (auY.inj e)).2;rw[wq this,mA]
def duF(n o i:Nat)(y:N_)(top l e:Nat)(k:Int):PF:=
 ((((((n_.set 10 (.int .i64 n)).set 11 (.osl o 1 0 i)).set 12 (bB y)).set 13 (.int .u64 top)).set 14 (.osl l 1 0 e)).set 15 (.int .i64 k))
abbrev fQ(X:N_)(Z:P2_):P2_:=bJ X++Z
theorem SF{X:N_}{Z:P2_}{i:Nat}(h:i<Z' X):(fQ X Z)[i]?=some [.int .u32 ((X[i]:Nat):Int)]:=by
 rw[fQ,avM (by rw[eP];exact h),gU X h]
theorem yn{X:N_}{Z:P2_}{i:Nat}(h:i<Z' X)(v:Nat):(fQ X Z).set i [.int .u32 (v:Int)]=fQ (X.set i v) Z:=by
 rw[fQ,List.set_append_left _ _ (by rw[eP];exact h),vG]
theorem ym{X:N_}{Z:P2_}{j m:Nat}(h:j+m<=Z' X):((fQ X Z).drop j).take m=bJ ((X.drop j).take m):=by
 rw[fQ,List.drop_append_of_le_length (by rw[eP];omega),List.take_append_of_le_length (by rw[auU,eP];omega)];unfold bJ;rw[<-List.map_drop,<-List.map_take]
theorem aiK(L:TK C)(n o w:Nat)(y:N_)(top u V j:Nat)(X:N_)(Z:P2_)(S:u≠o)(hy:Lim y)(hX:Lim X)(γ:Z' X=w)(hl:w<=5000)(hj:j+(Z' y+1)<=w)(E:0<val y)
  (qv:aS) (g0:Nat) (hg:val ((X.drop j).take (Z' y+1))/val y<=g0) (R:g0<4294967296) (K:bP) (F:PF) (H:PH) (hF:((duF n o w y top u V j).set 17 (.int .u64 g0)).le F) (hH:((h_.set o (.rows 1 (fQ X Z))).set u qv).le H)
  (hK:∀F' H',((duF n o w y top u V j).set 17 (.int .u64 (val ((X.drop j).take (Z' y+1))/val y:Nat))).le F'->((h_.set o (.rows 1 (fQ X Z))).set u qv).le H'->K .normal F' H') :
  aJ.wp C (.block 4 (.loop CK)) K F H:=by
 have e:¬o=u:=λh=>S h.symm;have i:((X.drop j).take (Z' y+1)).length=Z' y+1:=by rw[atF,auU];omega
 have x:Lim ((X.drop j).take (Z' y+1)):=(hX.drop _).take _;have A:=ym (X:=X) (Z:=Z) (j:=j) (m:=Z' y+1) Om;have B:j+(Z' y+1)<=(fQ X Z).length:=by rw[fQ,asX,eP];omega
 have N:bJ ((X.drop j).take (Z' y+1))≠[]:=λh=>by have:=congrArg awE h;rw[eP,i]at this;simp at this
 generalize hW:(X.drop j).take (Z' y+1)=W at *
 generalize D:val W/val y=M at *
 simp only[go_sem];refine wp_loop (α:=Nat) (λg=>(duF n o w y top u V j).set 17 (.int .u64 g)) (λ_=>(h_.set o (.rows 1 (fQ X Z))).set u qv) (λg=>M<=g/\g<4294967296) (λg=>g) g0 ⟨hg,R⟩ hF hH ?_;rintro g ⟨β,hlt⟩;have e1:i_.wrap ((j:Int)+(Z' y:Int))=((j+Z' y:Nat):Int):=sI Om;have e2:i_.wrap (((j+Z' y:Nat):Int)+1)=((j+Z' y+1:Nat):Int):=fI Om;have b1:(j:Int)<=((j+Z' y+1:Nat):Int):=Om;have b2:((j+Z' y+1:Nat):Int)<=(w:Nat):=Om;have b3:j+Z' y+1-j=Z' y+1:=Om;have mk:=L.make g Om;have tm:=L.times y (aT g) hy (cE _) Om (by have J:nl g<=1:=yD (by rw[Nat.pow_one];exact hlt);rw[cH];omega)
 rw[cC]at tm;have U:(aT (val y*g)).length<=35184372087808:=by have J:nl g<=1:=yD (by rw[Nat.pow_one];exact hlt);have h2:=AC (a:=val y) (b:=g) (DG hy) J;rw[cH];omega
 have cm:=L.cmp (aT (val y*g)) W (cE _) x U Om;rw[cC]at cm;simp only[go_sem,CK];refine bE .nil udS a_ ?_;simp only[go_sem,duF];refine cJ (Y8 g) mk Sq a_ ?_;simp only[go_sem];have tS:=T6 y (aT g);rw[cC]at tS;refine cJ tS tm Sq a_ ?_;simp only[go_sem,asO,e1,e2,b1,b2,b3];refine pP (src:=bJ W) ?_ ?_ (λh=>absurd h N) λ_ o' l=>?_
 ·simp only[go_sem,e,B,A]
 ·unfold roomFor;rw[eP,i];simp only[maxLen];omega
 refine⟨a_,?_⟩;rw[eP,i];have n1:¬o'=u:=(yS.1 l).1;refine Vl (o:=o') (s:=1) (rs:=bJ W) (vs:=[bB (aT (val y*g)),.osl o' 1 0 (Z' y+1)]) (v:=.j (jA (val y*g) (val W))) rfl (.int _ _) Sq ?_ ?_ ?_ Sq a_ ?_
 ·rw[atU,atU,auH,BG (by rw[eP,i];exact asU _),atP (by rw[eP,i];exact asU _)];exact cm
 ·have:=Ve o' (aT (val y*g)) W;rw[cC]at this;exact this
 ·rintro r H' ⟨J,h2⟩;have:=h2 W x (by rw[bK]);rw[mA,cC]at this;exact⟨this,J⟩
 simp only[go_sem];by_cases c:val W<val y*g
 ·have O:jA (val y*g) (val W)=1:=by unfold jA;rw[aC Om,aF c]
  have hq:M<g:=by rw[<-D];exact(axC E).2 (by rw[avC];exact c)
  have ew:u_.wrap ((g:Int)-1)=((g-1:Nat):Int):=by rw[wrap_u64 Om Om];omega
  simp only[go_sem,O,show(1:Int)>0 by decide,ew];refine aE (g-1) ⟨by omega,by omega⟩ Om ?_ ?_
  ·exact Lq
  ·refine d_ (d_ a_ ?_) ?_
   ·have Y:¬o=o':=λh=>by subst h;rw[aO,aC e,bK]at l;cases l
    simp only[go_sem,Y,e]
   ·have n3:¬u=o':=λh=>n1 h.symm;simp only[go_sem,n3]
 ·have O:¬jA (val y*g) (val W)>0:=by unfold jA;rw[aC c];split<;>decide
  have hq:g=M:=by
   have:g<=M:=by rw[<-D];exact(Nat.le_div_iff_mul_le E).2 (by rw[avC];omega)
   omega
  simp only[go_sem,O];refine hK _ _ ?_ ?_
  ·unfold duF
   (repeat' (first|exact c_|refine e_ ?_ ?_))<;>first|(simp only[go_sem,<-hq]<;>rfl)|rfl
  ·refine d_ (d_ a_ ?_) ?_
   ·have Y:¬o=o':=λh=>by subst h;rw[aO,aC e,bK]at l;cases l
    simp only[go_sem,Y,e]
   ·have n3:¬u=o':=λh=>n1 h.symm;simp only[go_sem,n3]
theorem acS(R k:Nat)(h:k<nl R):∃u:k<(aT R).length,(aT R)[k]=R/4294967296^k%4294967296:=by
 have e:k<(aT R).length:=by rw[cH];exact h
 refine⟨e,?_⟩;have i:=SB (cE R) (Nat.le_of_lt e);rw[cC,avF e]at i;have l:=cE R _ (asS e);simp only[val]at i;rw[<-i,Nat.add_mul_mod_self_left,avV l]
theorem Wx(R k:Nat)(h:nl R<=k):R/4294967296^k%4294967296=0:=by
 rw[Nat.div_eq_of_lt ((oN R k).1 h)]
theorem aeG{A P W Z:N_}{i:Nat}(e:Z' P=i)(hi:i<Z' W)(v:Nat):(A++(P++W.drop i)++Z).set (Z' A+i) v=A++((P++[v])++W.drop (i+1))++Z:=
 wq (by rw[<-vG];exact aeH e hi v)
theorem alP(n o D:Nat)(y:N_)(top x U j:Nat)(X:N_)(Z:P2_)(J:x≠o)(O:Z' X=D)(hl:D<=5000)(hj:j+(Z' y+1)<=D)
  (V:aS) (g R:Nat) (K:bP) (F:PF) (H:PH) (hF:((((duF n o D y top x U j).set 17 (.int .u64 g)).set 18 (bB (aT R))).set 19 (.j 0)).le F) (hH:((h_.set o (.rows 1 (fQ X Z))).set x V).le H)
  (hK:∀Y H',((duF n o D y top x U j).set 17 (.int .u64 g)).le Y->((h_.set o (.rows 1 (fQ (X.take j++pW (Z' y+1) R++X.drop (j+(Z' y+1))) Z))).set x V).le H'->K .normal Y H') :
  aJ.wp C (.block 6 (.loop CL)) K F H:=by
 have u:¬o=x:=λh=>J h.symm;have hA:(X.take j).length=j:=by rw[atF];omega
 have ε:((X.drop j).take (Z' y+1)).length=Z' y+1:=by rw[atF,auU];omega
 have θ:(X.drop (j+(Z' y+1))).length=D-(j+(Z' y+1)):=by rw[auU,O]
 have B:X.take j++(X.drop j).take (Z' y+1)++X.drop (j+(Z' y+1))=X:=by rw[atV,<-List.drop_drop,awK,awK]
 rw[<-B]at hH;generalize γ:X.take j=A at *
 generalize δ:(X.drop j).take (Z' y+1)=W at *
 generalize η:X.drop (j+(Z' y+1))=w at *
 simp only[go_sem];refine wp_loop (α:=N_) (λP=>(((duF n o D y top x U j).set 17 (.int .u64 g)).set 18 (bB (aT R))).set 19 (.j P.length)) (λP=>(h_.set o (.rows 1 (fQ (A++(P++W.drop P.length)++w) Z))).set x V)
  (λP=>Z' P<=Z' y+1/\P=pW P.length R) (λP=>Z' y+1-Z' P) [] ⟨asQ _,rfl⟩ hF (by simpa using hH) ?_
 rintro P ⟨hP,hD⟩;simp only[go_sem,CL,duF];by_cases c:Z' P<Z' y+1;have M:(Z' P:Int)<=(Z' y:Nat):=Om;have ei:i_.wrap ((j:Int)+(Z' P:Int))=((j+Z' P:Nat):Int):=sI Om;have β:(A++(P++W.drop P.length)++w).length=D:=by simp only[asX,auU];omega
 have hi:j+Z' P<(A++(P++W.drop P.length)++w).length:=Om;have b1:((j+Z' P:Nat):Int)<(D:Nat):=Om;have r1:=SF (Z:=Z) hi;have s1:=yn (Z:=Z) hi 0;have L:j+Z' P<((A++(P++W.drop P.length)++w).set (j+Z' P) 0).length:=by rw[auD];exact hi
 have l:=λv=>aeG (A:=A) (P:=P) (W:=W) (Z:=w) (i:=Z' P) rfl Om v;rw[hA]at l;generalize ζ:A++(P++W.drop P.length)++w=XX at *
 have r2:(fQ (A++((P++[0])++W.drop (Z' P+1))++w) Z)[j+Z' P]?=some [.int .u32 ((0:Nat):Int)]:=by rw[<-l 0,SF L,List.getElem_set_self]
 have s2:∀v,(fQ (A++((P++[0])++W.drop (Z' P+1))++w) Z).set (j+Z' P) [.int .u32 ((v:Nat):Int)]=fQ (A++((P++[v])++W.drop (Z' P+1))++w) Z:=by intro v;rw[<-l 0,yn L,List.set_set,l]
 have arY:=UH P.length R;rw[<-hD]at arY;have ew:i_.wrap ((Z' P:Int)+1)=((Z' P+1:Nat):Int):=fI Om;simp only[go_sem,M,ei,b1,u,r1,show([PV.int .u32 (0:Int)])=[PV.int .u32 ((0:Nat):Int)]from rfl,s1,cH];by_cases c2:Z' P<nl R;have E:(Z' P:Int)<(nl R:Nat):=Om;obtain⟨N,S⟩:=acS R P.length c2;have hr:=gU (aT R) N;rw[S]at hr;simp only[go_sem,E,hr,ei,b1,u,r2,s2,List.set_set,l,ew];refine aE (P++[R/4294967296^P.length%4294967296]) ⟨by simp;omega,by rw[asX,atD];exact arY.symm⟩ (by simp;omega) ?_ ?_;rw[asX,atD];exact Lq;rw[asX,atD];refine d_ (d_ a_ ?_) ?_<;>simp only[go_sem,u,show ¬x=o from J];have E:¬(Z' P:Int)<(nl R:Nat):=Om;have S:=Wx R P.length Om;rw[S]at arY;simp only[go_sem,E,l,ew];refine aE (P++[0]) ⟨by simp;omega,by rw[asX,atD];exact arY.symm⟩ (by simp;omega) ?_ ?_;rw[asX,atD];exact Lq;rw[asX,atD];refine d_ (d_ a_ ?_) ?_<;>simp only[go_sem,u,show ¬x=o from J];have M:¬(Z' P:Int)<=(Z' y:Nat):=Om;have e:Z' P=Z' y+1:=Om;simp only[go_sem,M];refine hK _ _ (by unfold duF;exact Lq) ?_;have h2:A++pW (Z' y+1) R++w=A++(P++W.drop P.length)++w:=by rw[List.drop_of_length_le Om,auA,<-e,<-hD]
 rw[h2];exact b_
theorem Wc{y W:N_}{m:Nat}(D:Lim y)(hW:Lim W)(A:Z' y=m+1)(x:Z' W=m+2)(B:0<y[m]):val W/val y<=(4294967296*W[m+1]+W[m])/y[m]:=by
 have w:=gX y (Om:m<Z' y);rw[atP Om]at w;have l:=gX W (Om:m+1<Z' W);rw[atP Om,gX W (Om:m<Z' W)]at l;have u:=oE (hW.take m);rw[atF,avJ Om]at u;have hp:0<4294967296^m:=Nat.pow_pos aR;have hb:4294967296^m*y[m]<=val y:=Om;have i:0<4294967296^m*y[m]:=Nat.mul_pos hp B;have e:val W=val (W.take m)+4294967296^m*(4294967296*W[m+1]+W[m]):=by rw[l,awL,auJ,auP];omega
 refine atT (Nat.div_le_div_left hb i) ?_;rw[<-Nat.div_div_eq_div_mul,e,Nat.add_mul_div_left _ _ hp,Nat.div_eq_of_lt u,atA];exact asU _
theorem T7(L:TK C)(U0 n o l e i m:Nat)(y z:N_)(O:i≠o)(hy:Lim y)(J:Z' y=m+1)(ht:0<y[m])(e':l=e+(m+1))(S:l<=5000)(X:N_)(E:GO U0 (val y) (m+1) l e e X (asT e 0))(K:bP)(F:PF)(H:PH)
  (hF:(duF n o l y (y[m]) i e ((e:Int)-1)).le F) (hH:((h_.set o (.rows 1 (fQ X (bJ z)))).set i (.rows 1 (bJ (asT e 0)))).le H)
  (hK:∀X' Q' F' H',GO U0 (val y) (m+1) l e 0 X' Q'->(duF n o l y (y[m]) i e (-1)).le F'->((h_.set o (.rows 1 (fQ X' (bJ z)))).set i (.rows 1 (bJ Q'))).le H'->K .normal F' H') :
  aJ.wp C (.block 2 (.loop CM)) K F H:=by
 have u:¬o=i:=λh=>O h.symm;have n':¬i=o:=O;have hV:val y<4294967296^(m+1):=by have:=oE hy;rw[J]at this;exact this
 have μ:0<val y:=by have h1:=gX y (Om:m<Z' y);rw[atP Om]at h1;have:0<4294967296^m*y[m]:=Nat.mul_pos (Nat.pow_pos aR) ht;omega
 have t':=hy _ (asS (Om:m<Z' y));generalize htop:y[m]=top at *
 simp only[go_sem];refine wp_loop (α:=Nat × N_ × N_) (λt=>duF n o l y top i e ((t.1:Int)-1)) (λt=>(h_.set o (.rows 1 (fQ t.2.1 (bJ z)))).set i (.rows 1 (bJ t.2.2)))
  (λt=>t.1<=e/\GO U0 (val y) (m+1) l e t.1 t.2.1 t.2.2) (λt=>t.1) (e,X,asT e 0) ⟨asU _,E⟩ hF hH ?_
 rintro⟨k,X,Q⟩ ⟨hk,E⟩;simp only at hk E;simp only[go_sem,CM,duF];by_cases h0:0<k;obtain⟨j,rfl⟩:∃j,k=j+1:=⟨k-1,by omega⟩;have hz:((j+1:Nat):Int)-1=(j:Int):=Om;have a':(j:Int)>=0:=Om;have dst:=Vo E hV Om e';rw[show m+1+1=m+2 from rfl]at dst;obtain⟨hlt,Δ⟩:=dst;have ν:=E.lu';have p':=E.lq';have N:((X.drop j).take (m+2)).length=m+2:=by rw[atF,auU];omega
 have β:Lim ((X.drop j).take (m+2)):=(E.limU.drop _).take _;have r':m+1<((X.drop j).take (m+2)).length:=Om;have q':m<((X.drop j).take (m+2)).length:=Om;have a1:j+(m+1)<Z' X:=Om;have a0:j+m<Z' X:=Om;have w1:((X.drop j).take (m+2))[m+1]=X[j+(m+1)]:=by simp
 have w0:((X.drop j).take (m+2))[m]=X[j+m]:=by simp
 have ο:=Wc hy β J N (by rw[htop];exact ht);rw[w1,w0,htop]at ο;have r1:=SF (Z:=bJ z) a1;have r0:=SF (Z:=bJ z) a0;have l1:=E.limU _ (asS a1);have l0:=E.limU _ (asS a0);generalize v':X[j+(m+1)]=A at *
 generalize u':X[j+m]=D at *
 have e1:i_.wrap ((j:Int)+(Z' y:Int))=((j+(m+1):Nat):Int):=by rw[J];exact sI Om
 have e0:i_.wrap (((j+(m+1):Nat):Int)-1)=((j+m:Nat):Int):=wO_
 have b1:((j+(m+1):Nat):Int)<(l:Nat):=Om;have b0:((j+m:Nat):Int)<(l:Nat):=Om;have ω:u_.wrap ((A:Nat):Int)=((A:Nat):Int):=eF Om;have ψ:u_.wrap ((D:Nat):Int)=((D:Nat):Int):=eF Om;have ζ:shift .shl .u64 (A:Int) 32=some (.int .u64 ((2^32*A:Nat):Int)):=Oe (s:=32) Om Om;have χ:(2:Nat)^32=4294967296:=by decide
 have δ:=orI (a:=2^32*A) (b:=D) (n:=2^32*A+D) Om Om (Nat.two_pow_add_eq_or_of_lt Om A).symm Om;rw[χ]at ζ δ;have Ξ:¬((top:Nat):Int)=0:=Om;have τ:(4294967296*A+D)/top<18446744073709551616:=Nat.lt_of_le_of_lt (avI _ _) Om;have ε:u_.wrap (Int.tdiv ((4294967296*A+D:Nat):Int) ((top:Nat):Int))=(((4294967296*A+D)/top:Nat):Int):=by rw[show Int.tdiv ((4294967296*A+D:Nat):Int) ((top:Nat):Int)=(((4294967296*A+D)/top:Nat):Int)from rfl];exact eF τ
 have υ:val ((X.drop j).take (m+2))/val y<4294967296:=(axC μ).2 (by rw[avC];exact hlt);have ξ:=ym (X:=X) (Z:=bJ z) (j:=j) (m:=m+2) Om;have ρ:j+(m+2)<=(fQ X (bJ z)).length:=by rw[fQ,asX,eP];omega
 have γ:val ((X.drop j).take (m+2))-val y*(val ((X.drop j).take (m+2))/val y)=val ((X.drop j).take (m+2))%val y:=by have:=Nat.div_add_mod (val ((X.drop j).take (m+2))) (val y);omega
 have B:val y*(val ((X.drop j).take (m+2))/val y)<=val ((X.drop j).take (m+2)):=Nat.mul_div_le _ _;clear w1 w0;have gu:=λg0=>aiK (C:=C) L n o l y top i e j X (bJ z) O hy E.limU ν S Om μ (.rows 1 (bJ Q)) g0;rw[J,show m+1+1=m+2 from rfl]at gu;generalize hW:(X.drop j).take (m+2)=W at *
 generalize s':val W/val y=M at *
 have Θ:bJ W≠[]:=λh=>by have:=congrArg awE h;rw[eP,N]at this;simp at this
 have tail:∀(g0:Nat)(F:PF)(H:PH),M<=g0->g0<4294967296->((duF n o l y top i e j).set 17 (.int .u64 g0)).le F->((h_.set o (.rows 1 (fQ X (bJ z)))).set i (.rows 1 (bJ Q))).le H ->
   aJ.wp C (.seq (.block 4 (.loop CK)) (.seq (.region LM) (.seq (.seq (.region LN) (.block 6 (.loop CL))) (.region LO)))) (fL 3 (gL C (aJ.wp C (.region LP)) (fK (λ(t:Nat × N_ × N_)=>duF n o l y top i e ((t.1:Int)-1)) (λt=>(h_.set o (.rows 1 (fQ t.2.1 (bJ z)))).set i (.rows 1 (bJ t.2.2))) (λt=>t.1<=e/\GO U0 (val y) (m+1) l e t.1 t.2.1 t.2.2) (λt=>t.1) (j+1) (fL 2 K)))) F H:=by
  intro g0 F H hg Ω hF hH;have gu:=gu g0 hg Ω;simp only[go_sem]at gu;simp only[go_sem];refine gu _ F H hF hH ?_;intro U H1 w ι;have f11:U 11=some (.osl o 1 0 l):=w 11 _ (by unfold duF;simp only[go_sem]);have Y:U 12=some (bB y):=w 12 _ (by unfold duF;simp only[go_sem]);have η:U 15=some (.j j):=w 15 _ (by unfold duF;simp only[go_sem]);have θ:U 17=some (.int .u64 (M:Nat)):=w 17 _ (by unfold duF;simp only[go_sem]);have Γ:U 10=some (.j n):=w 10 _ (by unfold duF;simp only[go_sem]);have f13:U 13=some (.int .u64 top):=w 13 _ (by unfold duF;simp only[go_sem]);have f14:U 14=some (.osl i 1 0 e):=w 14 _ (by unfold duF;simp only[go_sem]);have ho:H1 o=some (.rows 1 (fQ X (bJ z))):=ι o _ (by simp only[go_sem,u]);have σ:H1 i=some (.rows 1 (bJ Q)):=ι i _ Sq;have b3:(j:Int)<=((j+(m+1)+1:Nat):Int):=Om;have b4:((j+(m+1)+1:Nat):Int)<=(l:Nat):=Om;have b5:j+(m+1)+1-j=m+2:=Om;have e2:i_.wrap (((j+(m+1):Nat):Int)+1)=((j+(m+1)+1:Nat):Int):=fI Om;simp only[go_sem,LM,f11,η,Y,asO,e1,e2,b3,b4,b5];refine pP (src:=bJ W) ?_ ?_ (λh=>absurd h Θ) λ_ o' R=>?_;simp only[go_sem,ho,ρ,ξ];unfold roomFor;rw[eP,N];simp only[maxLen];omega;rw[eP,N];have n1:¬i=o':=λh=>by subst h;rw[σ]at R;cases R
  have n2:¬o=o':=λh=>by subst h;rw[ho]at R;cases R
  have nq:nl M<=1:=yD (by rw[Nat.pow_one];exact υ);have tm:=L.times y (aT M) hy (cE _) Om (by rw[cH];omega);rw[cC]at tm;have nW:=DG β;have mn:=L.minus W (aT (val y*M)) β (cE _) (by rw[cC];exact B) (by rw[cH];exact atT (qE B) nW) Om;rw[cC,γ]at mn;have Λ:(bJ W).take (m+2)=bJ W:=atP (by rw[eP];omega);simp only[go_sem,θ];refine aD (L.make M Om) Sq ?_;simp only[go_sem,Y];refine aD tm Sq ?_;simp only[go_sem];refine uG (o:=o') (s:=1) (rs:=bJ W) mn Sq (by simp only[go_sem,show m+2<=W.length by omega,Λ]) ?_;simp only[go_sem,LN];have Ψ:(fQ X (bJ z)).map (λr=>r.map (PV.cO o' 1 (bJ W)))=fQ X (bJ z):=by
   have:fQ X (bJ z)=bJ (X++z):=by simp[fQ,bJ]
   rw[this];exact UP _ _ _ _
  have Φ:(bJ Q).map (λr=>r.map (PV.cO o' 1 (bJ W)))=bJ Q:=UP _ _ _ _;have ur:=alP (C:=C) n o l y top i e j X (bJ z) O ν S Om (.rows 1 (bJ Q)) M (val W%val y);rw[J,show m+1+1=m+2 from rfl]at ur;simp only[go_sem]at ur;refine ur _ _ _ ?_ ?_ ?_;unfold duF
  (repeat' (first|exact c_|refine e_ ?_ ?_))<;>first|(simp only[go_sem,Γ,f11,Y,f13,f14,η,θ,n1,n2]<;>rfl)|rfl
  refine d_ (d_ a_ ?_) ?_;simp only[go_sem,u,n2,ho,aS.frz,Ψ];simp only[go_sem,n1,σ,aS.frz,Φ];intro V H3 x κ;have h':V 10=some (.j n):=x 10 _ (by unfold duF;simp only[go_sem]);have i':V 11=some (.osl o 1 0 l):=x 11 _ (by unfold duF;simp only[go_sem]);have j':V 12=some (bB y):=x 12 _ (by unfold duF;simp only[go_sem]);have k':V 13=some (.int .u64 top):=x 13 _ (by unfold duF;simp only[go_sem]);have φ:V 14=some (.osl i 1 0 e):=x 14 _ (by unfold duF;simp only[go_sem]);have l':V 15=some (.j j):=x 15 _ (by unfold duF;simp only[go_sem]);have m':V 17=some (.int .u64 M):=x 17 _ (by unfold duF;simp only[go_sem]);have f':H3 o=some (.rows 1 (fQ (X.take j++pW (m+2) (val W%val y)++X.drop (j+(m+2))) (bJ z))):=κ o _ (by simp only[go_sem,u]);have g':H3 i=some (.rows 1 (bJ Q)):=κ i _ Sq;have d':j<Z' Q:=Om;have rq:=gU Q d';have b':(j:Int)<(e:Nat):=Om;have sq:=vG Q j M;have ec:IntKind.u32.wrap ((M:Nat):Int)=((M:Nat):Int):=by rw[iP,avV υ]
  have ej:i_.wrap ((j:Int)-1)=(j:Int)-1:=wrap_i64 Om Om;simp only[go_sem,LO,φ,l',m',b',g',rq,ec,sq,LP,ej];refine aE (α:=Nat × N_ × N_) (j,_,_) ⟨by simp only;omega,Δ⟩ sO_ ?_ ?_;unfold duF;exact lE5 h' i' j' k' φ;refine d_ (d_ a_ ?_) ?_;simp only[go_sem,u,f'];simp only[go_sem]
 simp only[aJ.wp,go_sem]at tail;simp only[go_sem,hz,a'];refine bE .nil cR a_ ?_;simp only[go_sem,e1,e0,b1,b0,u,r1,r0,ω,ψ,ζ,δ,Ξ,ε];by_cases c:(4294967296*A+D)/top>4294967295;have c':(((4294967296*A+D)/top:Nat):Int)>4294967295:=Om;simp only[go_sem,c'];exact tail 4294967295 _ _ Om aR (by unfold duF;exact Lq) b_;have c':¬(((4294967296*A+D)/top:Nat):Int)>4294967295:=Om;simp only[go_sem,c'];exact tail _ _ _ ο Om (by unfold duF;exact Lq) b_;have:k=0:=Om;subst this;have hz:¬((0:Nat):Int)-1>=0:=by decide
 simp only[go_sem,hz];refine hK X Q _ _ E ?_ b_;unfold duF;exact lE1 (show((0:Nat):Int)-1=-1 from rfl)
def Y7(a:N_)(d q k r:Nat):PF:=(((((n_.set 0 (bB a)).set 1 (bB [d])).set 6 (.osl q 1 0 a.length)).set 7 (.int .u64 r)).set 8 (.int .i64 ((k:Int)-1)))
theorem Ow(L:TK C)(a:N_)(d:Nat)(ha:Lim a)(l:0<d)(hd:d<4294967296)(h1:Z' a<=1000)(F:PF)(f0:F 0=some (bB a))(f1:F 1=some (bB [d])) :
  aJ.wp C (.seq (.region RQ) (.seq (.region RR) (.seq (.seq (.region RT) (.block 0 (.loop LF))) (.seq (.region LG) .ret)))) (aV [.tmp 4,.tmp 5] (cN (dh (val a) d))) F .nil:=by
 have Y:(Z' a:Int)*((4:Nat):Int)<=140737488355328:=Om;have Z:(Z' a:Int)<=9223372036854775807:=Om;have hz:asT a.length [PV.int .u32 0]=bJ (asT a.length 0++[]):=by simp[bJ]
 simp only[go_sem,RQ,f0,asO,Y,Z,hz];refine aQ λo ho=>?_;simp only[go_sem,RR,RT,f0,asO];refine wp_loop (α:=Nat × N_ × Nat) (λt=>Y7 a d o t.1 t.2.2) (λt=>h_.set o (.rows 1 (bJ (asT t.1 0++t.2.1))))
  (λt=>t.1+t.2.1.length=Z' a/\Lim t.2.1/\t.2.2<d/\val t.2.1*d+t.2.2=val (a.drop t.1)) (λt=>t.1) (Z' a,[],0) ⟨by simp,by simp[Lim],l,by simp[val]⟩ ?_ ?_ ?_
 unfold Y7
 (repeat' (first|exact c_|refine e_ ?_ ?_))<;>first|(simp only[go_sem,f0,f1,wrap_i64 (Om:-9223372036854775808<=(Z' a:Int)-1) (Om:(Z' a:Int)-1<=9223372036854775807)]<;>rfl)|rfl
 exact d_ a_ Sq;rintro⟨k,S,r⟩ ⟨hk,i,N,e⟩;simp only at hk i N e;simp only[go_sem,LF,Y7];by_cases h0:0<k;obtain⟨m,rfl⟩:∃m,k=m+1:=⟨k-1,by omega⟩;have A:((m+1:Nat):Int)-1=(m:Int):=Om;have W:(m:Int)>=0:=Om;have w:m<Z' a:=Om;have hlt:(m:Int)<(Z' a:Nat):=Om;have γ:=ha _ (asS w);have u:val (a.drop m)=a[m]+4294967296*val (a.drop (m+1)):=by rw[avF w];rfl
 have U:=gU a w;generalize hx:a[m]=x at *
 have ex:u_.wrap ((x:Nat):Int)=((x:Nat):Int):=eF Om;have ed:u_.wrap ((d:Nat):Int)=((d:Nat):Int):=eF Om;have J:shift .shl .u64 (r:Int) 32=some (.int .u64 ((2^32*r:Nat):Int)):=Oe (s:=32) Om Om;have O:(2:Nat)^32=4294967296:=by decide
 have B:=orI (a:=2^32*r) (b:=x) (n:=2^32*r+x) Om Om (Nat.two_pow_add_eq_or_of_lt Om r).symm Om;rw[O]at J B;have hq:(4294967296*r+x)/d<4294967296:=by rw[axC l];have:4294967296*(r+1)<=4294967296*d:=awP _ N;omega
 have V:¬((d:Nat):Int)=0:=Om;have D:u_.wrap (Int.tdiv ((4294967296*r+x:Nat):Int) ((d:Nat):Int))=(((4294967296*r+x)/d:Nat):Int):=by rw[show Int.tdiv ((4294967296*r+x:Nat):Int) ((d:Nat):Int)=(((4294967296*r+x)/d:Nat):Int)from rfl];exact eF Om
 have E:Int.tmod ((4294967296*r+x:Nat):Int) ((d:Nat):Int)=(((4294967296*r+x)%d:Nat):Int):=rfl;have ec:IntKind.u32.wrap (((4294967296*r+x)/d:Nat):Int)=(((4294967296*r+x)/d:Nat):Int):=by rw[iP,avV hq]
 have K:asT (m+1) 0++S=asT m 0++(0::S):=by rw[List.replicate_succ',atV];rfl
 have X:(bJ (asT m 0++(0::S)))[m]?=some [.int .u32 ((0:Nat):Int)]:=by rw[gU _ aZ];simp
 have M:(bJ (asT m 0++(0::S))).set m [.int .u32 (((4294967296*r+x)/d:Nat):Int)]=bJ (asT m 0++(((4294967296*r+x)/d)::S)):=by rw[vG,avQ _ _ aZ];simp
 simp only[go_sem,A,W,J,U,ex,B,ed,V,D,ec,hlt,K,X,M,E];refine aE (m,((4294967296*r+x)/d)::S,(4294967296*r+x)%d) ⟨by simp only[atZ];omega,λy hy=>?_,Nat.mod_lt _ l,?_⟩ sO_ ?_ (d_ a_ Sq);rw[atG]at hy;rcases hy with rfl|hy
 exact hq;exact i y hy;simp only[val];rw[u,<-e,auM,auJ,auP];have:=Nat.div_add_mod (4294967296*r+x) d;rw[avC d]at this;omega
 (repeat' (first|exact c_|refine e_ ?_ ?_))<;>first|(simp only[go_sem,wrap_i64 (Om:-9223372036854775808<=(m:Int)-1) (Om:(m:Int)-1<=9223372036854775807)]<;>rfl)|rfl
 have:k=0:=Om;subst this;have A:¬((0:Nat):Int)-1>=0:=by decide
 rw[avG]at e;have hS:Z' S=Z' a:=Om;have hq:val S=val a/d:=by rw[<-e,avC,Nat.mul_add_div l,Nat.div_eq_of_lt N,auI]
 have β:r=val a%d:=by rw[<-e,avC,Nat.mul_add_mod,avV N]
 have δ:asT 0 0++S=S:=by simp
 have hl:=L.trim S i Om;have R:(bJ S).take a.length=bJ S:=atP (by rw[eP];omega);simp only[go_sem,A,LG,awO];refine uG (o:=o) (s:=1) (rs:=bJ S) hl Sq (by simp only[go_sem,R,show a.length<=S.length by omega]) ?_;simp only[go_sem];refine aD (L.make r Om) Sq ?_;simp only[go_sem];refine bM (vs:=[bB (aT (val S)),bB (aT r)]) (.inr rfl) .nil Ev a_ ⟨?_,rfl⟩;rw[hq,β];exact .refl _
theorem aaX{B m:Nat}(h:nl B=m+1):32*m<fM B/\fM B<=32*(m+1):=by
 refine⟨?_,(qC B (m+1)).2 Om⟩;rcases atY (32*m) (fM B)with h1|h1
 exact h1;have:=(qC B m).1 h1;omega
theorem aaY{B:Nat}(h:B≠0):2^(fM B-1)<=B:=by
 rcases atY B (2^(fM B-1))with h1|h1
 have i:=(tZ B _).2 h1;have l:fM B≠0:=λe=>h (uV.1 e);omega;exact h1
theorem Ox(L:TK C)(A B:Nat)(hB:B≠0)(hA:nl A<=512)(Ψ:nl B<=512) :
  XA.wp C (aV eH.res (cN (dh A B))) (g_ [bB (aT A),bB (aT B)]) .nil:=by
 have S:=cE A;have LB:=cE B;have vA:=cC A;have vB:=cC B;have lA:(aT A).length=nl A:=rfl;have lB:(aT B).length=nl B:=rfl;simp only[go_sem,XA,eH];refine aD (L.cmp _ _ S LB Om Om) rfl ?_;rw[vA,vB];by_cases c1:A<B;have hc:jA A B<0:=by simp[jA,c1]
 simp only[go_sem,hc];refine aD (L.trim _ S Om) rfl ?_;rw[vA];simp only[go_sem];refine bM (vs:=[.aG,bB (aT A)]) (.inr rfl) .nil rfl a_ ⟨?_,rfl⟩;rw[dh,Nat.div_eq_of_lt c1,avV c1,jT];exact CoL.tup (CoL.cons (.nil 1) (CoL.cons (.refl _) .nil));have hc:¬jA A B<0:=by unfold jA;rw[aC c1];split<;>decide
 have τ:0<B:=awA hB;have e':nl B≠0:=λh=>hB (qT.1 h);simp only[go_sem,hc,asO,lB];by_cases c2:nl B=1;have U:B<4294967296:=by have:=(oN B 1).1 Om;simpa using this
 have ω:aT B=[B]:=uC hB U;have sh:=Ow (C:=C) L (aT A) B S τ U Om;rw[vA]at sh;simp only[aJ.wp,go_sem]at sh;simp only[go_sem,bR (Om:((nl B:Nat):Int)=1)];exact sh _ rfl (by simp only[go_sem,ω]);obtain⟨m,hm⟩:∃m,nl B=m+1:=⟨nl B-1,by omega⟩;have d':1<=m:=Om;obtain⟨b',γ⟩:=aaX hm;obtain⟨n,hn⟩:∃n,n+fM B=32*(m+1):=⟨32*(m+1)-fM B,by omega⟩;have ε:n<32:=Om;have M:0<2^n:=Nat.pow_pos aR;have W:B<2^fM B:=(tZ B _).1 (asU _);have V:=aaY hB;have Z:B*2^n<4294967296^(m+1):=by have:B*2^n<2^fM B*2^n:=Nat.mul_lt_mul_of_pos_right W M;rw[<-Nat.pow_add,show fM B+n=32*(m+1) by omega,Nat.pow_mul]at this;exact this
 have Ξ:4294967296^m*2147483648<=B*2^n:=by have:2^(fM B-1)*2^n<=B*2^n:=auO _ V;rw[<-Nat.pow_add,show fM B-1+n=32*m+31 by omega,Nat.pow_add,Nat.pow_mul]at this;exact this
 have nV:nl (B*2^n)=m+1:=by
  have J:=(oN (B*2^n) (m+1)).2 Z;rcases atY (nl (B*2^n)) (m+1)with h|h
  have:=(oN (B*2^n) m).1 Om;have Δ:0<4294967296^m:=Nat.pow_pos aR;omega;omega
 have a':B*2^n≠0:=Nat.mul_ne_zero hB Om;have g':nl (A*2^n)<=nl A+1:=AC (asU _) (yD (by rw[Nat.pow_one];exact Nat.pow_lt_pow_right (a:=2) (m:=n) (n:=32) aR ε));have χ:B*2^n<=A*2^n:=auO _ Om;have h':m+1<=nl (A*2^n):=by rw[<-nV];exact qE χ
 have Ω:A*2^n≠0:=Om;have μ:i_.wrap (32*((nl B:Nat):Int))=((32*(m+1):Nat):Int):=wO_
 have en:i_.wrap (((32*(m+1):Nat):Int)-((fM B:Nat):Int))=(n:Int):=wO_
 have bt:=L.bits (aT B) LB Om;rw[vB]at bt;have ua:=L.upM (aT A) n S Om Om (λh=>by have:=oE S;rw[h]at this;omega);have ub:=(L.upM (aT B) n LB Om Om (λh=>by have:=oE LB;rw[h]at this;omega)).freeze;rw[vA]at ua;rw[vB]at ub;have tail:∀(o:Nat)(F:PF)(H:PH),F 0=some (bB (aT A))->F 1=some (bB (aT B))->F 10=some (.j n)->F 11=some (.osl o 1 0 (nl (A*2^n)+2))->F 12=some (bB (aT (B*2^n)))->H o=some (.rows 1 (bJ (aT (A*2^n))++[[.int .u32 0],[.int .u32 0]])) ->
   aJ.wp C (.seq (.region LH) (.seq (.region LJ) (.seq (.region LK) (.seq (.seq (.region LL) (.block 2 (.loop CM))) (.seq (.region LQ) .ret))))) (aV [.tmp 4,.tmp 5] (cN (dh A B))) F H:=by
  intro o F H f0 f1 ν f11 ξ hH;have LU:=cE (A*2^n);have LV:=cE (B*2^n);have vU:=cC (A*2^n);have vV:=cC (B*2^n);have lU:(aT (A*2^n)).length=nl (A*2^n):=rfl;have lV:(aT (B*2^n)).length=m+1:=nV;have eu:i_.wrap (((nl (A*2^n):Nat):Int)+1)=((nl (A*2^n)+1:Nat):Int):=fI Om;have b1:((nl (A*2^n)+1:Nat):Int)<=((nl (A*2^n)+2:Nat):Int):=Om;simp only[go_sem,LH,f11,f0,ν];refine aD ua.freeze rfl ?_;obtain⟨e,c'⟩:∃e,nl (A*2^n)+1-(m+1)=e:=⟨_,rfl⟩;have Γ:nl (A*2^n)+1=e+(m+1):=Om;have em:i_.wrap (((m+1:Nat):Int)-1)=((m:Nat):Int):=wO_
  have w:m<(aT (B*2^n)).length:=Om;have rm:=gU (aT (B*2^n)) w;have tl:=LV _ (asS w);have htop:0<(aT (B*2^n))[m]:=by
   have J:=gX (aT (B*2^n)) w;rw[atP Om,vV]at J;have h2:=oE (LV.take m);rw[atF,avJ Om]at h2;have Δ:0<4294967296^m:=Nat.pow_pos aR;rcases avB (aT (B*2^n))[m]with h|h
   rw[h]at J;omega;exact h
  have κ:2147483648<=(aT (B*2^n))[m]:=by
   have J:=gX (aT (B*2^n)) w;rw[atP Om,vV]at J;have h2:=oE (LV.take m);rw[atF,avJ Om]at h2;rcases atY (aT (B*2^n))[m] 2147483648 with h|h
   exfalso;have h3:4294967296^m*((aT (B*2^n))[m]+1)<=4294967296^m*2147483648:=awP _ h;rw[auJ,Nat.mul_one]at h3;omega;exact h
  have D:=T7 (C:=C) L (A*2^n) n o (nl (A*2^n)+1) e;have hI:GO (A*2^n) (val (aT (B*2^n))) (m+1) (nl (A*2^n)+1) e e (aT (A*2^n)++[0]) (asT e 0):=by
   refine⟨by rw[asX,lU];rfl,List.length_replicate,LU.app λx R=>by simp at R;omega,UX _,?_,?_,λi x _ R=>Zt R⟩;rw[jW,vU,KG];simp[val];have Φ:(aT (A*2^n)++[0]).length=nl (A*2^n)+1:=by rw[asX,lU];rfl
   have Λ:val (aT (A*2^n)++[0])=A*2^n:=by rw[jW,vU];simp[val]
   rw[SB (LU.app λx R=>by simp at R;omega) Om,Λ,vV,axC (Nat.pow_pos aR)];have J:A*2^n<4294967296^nl (A*2^n):=(oN _ _).1 (asU _);have R:nl (A*2^n)=m+e:=Om;rw[R,Nat.pow_add]at J;have h2:4294967296^m*4294967296^e<=(B*2^n)*4294967296^e:=auO _ Om;omega
  have N:bJ (aT (A*2^n))++[[PV.int .u32 0],[PV.int .u32 0]]=fQ (aT (A*2^n)++[0]) (bJ [0]):=by simp[fQ,bJ]
  rw[N]at hH;generalize ι:(aT (B*2^n))[m]=top at *
  have et:u_.wrap ((top:Nat):Int)=((top:Nat):Int):=eF Om;have k2:i_.wrap (((nl (A*2^n)+1:Nat):Int)-((m+1:Nat):Int))=((e:Nat):Int):=wO_
  have k3:((e:Nat):Int)*((4:Nat):Int)<=140737488355328:=Om;have k4:((e:Nat):Int)<=9223372036854775807:=Om;have hz:asT e [PV.int .u32 0]=bJ (asT e 0):=by simp[bJ]
  have jq:i_.wrap ((e:Int)-1)=(e:Int)-1:=wrap_i64 Om Om;simp only[go_sem,asO,lU,eu,b1,LJ,ξ,lV,em,rm,et,LK,k2,k3,k4,hz];refine aQ λE θ=>?_;have ζ:E≠o:=by rintro rfl;rw[hH]at θ;cases θ
  have u:¬o=E:=λh=>ζ h.symm;have y:=D E m (aT (B*2^n)) [0] ζ LV lV (by rw[ι];exact htop) Γ Om _ hI;rw[ι]at y;simp only[go_sem]at y;simp only[go_sem,LL,jq];refine y _ _ _ ?_ ?_ ?_;unfold duF;exact Lq;refine d_ (d_ a_ ?_) ?_;simp only[go_sem,u,hH];simp only[go_sem];clear y D;intro X Q F1 H1 l K Y;have ο:F1 10=some (.j n):=K 10 _ (by unfold duF;simp only[go_sem]);have ρ:F1 11=some (.osl o 1 0 (nl (A*2^n)+1)):=K 11 _ (by unfold duF;simp only[go_sem]);have σ:F1 14=some (.osl E 1 0 e):=K 14 _ (by unfold duF;simp only[go_sem]);have η:H1 o=some (.rows 1 (fQ X (bJ [0]))):=Y o _ (by simp only[go_sem,u]);have Θ:H1 E=some (.rows 1 (bJ Q)):=Y E _ Sq;have hu:val X<val (aT (B*2^n)):=by have:=l.r;rwa[avG]at this
  have O:=l.v;rw[vV]at hu O;have φ:val Q=A/B:=by
   have:A*2^n/(B*2^n)=val Q:=by rw[<-O,Nat.add_mul_div_right _ _ Om,Nat.div_eq_of_lt hu,atA]
   rw[<-this,Nat.mul_div_mul_right _ _ M]
  have ψ:val X/2^n=A%B:=by
   have:A*2^n%(B*2^n)=val X:=by rw[<-O,Nat.add_mul_mod_self_right,avV hu]
   rw[<-this,Nat.mul_mod_mul_right,Nat.mul_div_cancel _ M]
  have lX:=l.lu';have lQ:=l.lq';have υ:(bJ Q).take e=bJ Q:=atP (by rw[eP];omega);have β:(fQ X (bJ [0])).take (nl (A*2^n)+1)=bJ X:=by rw[fQ,List.take_append_of_le_length (by rw[eP];omega),atP (by rw[eP];omega)]
  have α:nl (A*2^n)+1<=(fQ X (bJ [0])).length:=by rw[fQ,asX,eP];omega
  have δ:(fQ X (bJ [0])).map (λr=>r.map (PV.cO E 1 (bJ Q)))=fQ X (bJ [0]):=by
   have:fQ X (bJ [0])=bJ (X++[0]):=by simp[fQ,bJ]
   rw[this];exact UP _ _ _ _
  have nX:=DG l.limU;have t1:=L.trim Q l.limQ Om;have t2:=L.trim X l.limU Om;have dn:=L.down (aT (val X)) n (cE _) (by rw[cH];omega) Om;rw[cC,ψ]at dn;rw[φ]at t1;generalize bJ [0]=Z0 at η β α δ;simp only[go_sem,LQ,σ];refine uG (o:=E) (s:=1) (rs:=bJ Q) t1 Θ (by simp only[go_sem,υ,show e<=Q.length by omega]) ?_;simp only[go_sem,ρ,u];refine uG (o:=o) (s:=1) (rs:=fQ X Z0) t2 (by simp only[go_sem,u,η,aS.frz,δ]) (by simp only[go_sem,β,α]) ?_;simp only[go_sem,ο];refine aD dn rfl ?_;simp only[go_sem];exact bM (vs:=[bB (aT (A/B)),bB (aT (A%B))]) (.inr rfl) .nil rfl a_ ⟨.refl _,rfl⟩
 simp only[aJ.wp,go_sem]at tail;simp only[go_sem,bH (Om:¬((nl B:Nat):Int)=1),asO,lB];refine aD bt rfl ?_;simp only[go_sem,μ,en];refine iL ua rfl a_ λr H1 hr _=>?_;have γ:(2:Nat)*1<=16777216:=by decide
 rcases hr with⟨h0,_⟩|⟨o,rs,rfl,rfl,hrl,hrt⟩
 exfalso;have:=congrArg awE h0;rw[eP,cH]at this;simp at this;omega;rw[PH.vK];rw[eP,cH]at hrl hrt;simp only[go_sem,γ,eP,cH];refine Gs (src:=[[.int .u32 0],[.int .u32 0]]) (rs:=rs) rfl ?_ Sq hrl ?_ λo' f'=>?_;unfold roomFor;simp only[maxLen,atZ,avD];omega;rw[hrt];simp only[go_sem];refine aD ub rfl ?_;simp only[go_sem];exact tail o _ _ rfl rfl rfl rfl rfl Sq;rw[hrt];simp only[go_sem];refine aD ub rfl ?_;simp only[go_sem];exact tail o' _ _ rfl rfl rfl rfl rfl Sq
def bQ(C:Ctx)(k:Nat)(pf:kJ):Prop:=∀(args:V_)(H:PH)(R:R_),Z' args<=pf.ntmps->pf.body.wp C (aV pf.res R) (g_ args) H->aH C k args H R
theorem bQ.go{k:Nat}{pf:kJ}(r:bQ C k pf){args:V_}{H:PH}{R:R_}(h:pf.body.wp C (aV pf.res R) (g_ args) H)(e:Nat.ble args.length pf.ntmps=true):aH C k args H R:=r args H R (Nat.le_of_ble_eq_true e) h
abbrev GP(C:Ctx):Prop:=∀n:Nat,n<100->aH C 195 [.int .i64 n] .nil (aK (.str (cT n)))
section
variable {C:Ctx} {F F':PF} {H:PH}
theorem gH(e:F.le F'){x:aP}{v:PV}(h:x.ev F=some v):x.ev F'=some v:=by
 cases x
 ·exact e _ _ h
 all_goals exact h
theorem MM(e:F.le F'):∀{xs:List aP}{vs:V_},aP.evs F xs=some vs->aP.evs F' xs=some vs
 |[],_,h=>h
 |x::xs,vs,h=>by
  rw[HG]at h ⊢;cases l:x.ev F with
  |none=>simp[l]at h
  |some v=>
   cases i:aP.evs F xs with
   |none=>simp[i]at h
   |some u =>rw[l,i]at h;rw[gH e l,MM e i];exact h
theorem Cm(e:F.le F'):∀{ps:List (Nat × Nat × aP)}{cs ds:V_},qN cs F ps=some ds->qN cs F' ps=some ds
 |[],_,_,h=>h
 |(off,size,x)::ps,cs,ds,h=>by
  simp only[qN]at h ⊢;cases i:x.ev F with
  |none=>simp[i]at h
  |some v =>rw[i]at h;rw[gH e i];simp only at h ⊢;split at h;rename_i l;rw[aF l];exact Cm e h;cases h
theorem KP(e:F.le F'){size:Nat}:∀{ps:List (Nat × aP)}{cs ds:P2_},iB size cs F ps=some ds->iB size cs F' ps=some ds
 |[],_,_,h=>h
 |(i,x)::ps,cs,ds,h=>by
  simp only[iB]at h ⊢;cases l:x.ev F with
  |none=>simp[l]at h
  |some v =>rw[l]at h;rw[gH e l];simp only at h ⊢;split at h;rename_i u;rw[aF u];exact KP e h;cases h
theorem TP(e:F.le F'){d n:Int}{x:Option aP}(h:bnd F d x=some n):bnd F' d x=some n:=by
 cases x with
 |none=>exact h
 |some x=>
  simp only[bnd]at h ⊢;cases i:x.ev F with
  |none=>simp[i]at h
  |some v=>rw[gH e i,<-i];exact h
theorem Eo{op:POp}{v:PV}(e:F.le F')(h:aX op F H=some v):aX op F' H=some v:=by
 cases op
 case mv x=>exact gH e h
 case pick c a b=>
  simp only[aX]at h ⊢;cases D:c.ev F with
  |none=>simp[D]at h
  |some t=>
   rw[D]at h;rw[gH e D];cases t<;>simp only at h ⊢<;>try cases h
   rename_i t;cases t
   ·simp only[auQ,if_false]at h ⊢;exact gH e h
   ·simp only[if_true]at h ⊢;exact gH e h
 case box r x=>
  cases r
  ·cases h
  simp only[aX]at h ⊢;rcases i:x.ev F with _|a
  ·simp[i]at h
  ·rw[gH e i,<-i];exact h
 case load n p=>
  cases n
  all_goals
   simp only[aX]at h ⊢;rcases i:p.ev F with _|a
   ·simp[i]at h
   ·rw[gH e i,<-i];exact h
 case build z ps =>simp only[aX,atB]at h ⊢;obtain⟨cs,A,B⟩:=h;exact⟨cs,Cm e A,B⟩
 case arH r s l z ps=>
  cases r
  ·cases h
  simp only[aX]at h ⊢;split at h
  ·rename_i D;rw[aF D];rw[atB]at h ⊢;obtain⟨cs,A,B⟩:=h;exact⟨cs,KP e A,B⟩
  ·cases h
 case mkfn n cs =>simp only[aX,atB]at h ⊢;obtain⟨vs,A,B⟩:=h;exact⟨vs,MM e A,B⟩
 case sliceA n s x lo hi mx=>
  cases lo<;>cases hi<;>cases mx<;>simp only[aX]at h ⊢<;>try cases h
  cases i:x.ev F with
  |none=>simp[i]at h
  |some a=>rw[gH e i,<-i];exact h
 case arZ x lo hi=>
  simp only[aX]at h ⊢;cases i:x.ev F with
  |none=>simp[i]at h
  |some a=>
   rw[i]at h;rw[gH e i];cases a<;>simp only at h ⊢<;>try cases h
   cases A:bnd F 0 lo with
   |none=>simp[A]at h
   |some l=>
    rename_i s;cases B:bnd F s.length hi with
    |none=>simp[A,B]at h
    |some u=>rw[TP e A,TP e B,<-A,<-B];exact h
 case slice s x lo hi mx=>
  simp only[aX]at h ⊢;cases i:x.ev F with
  |none=>simp[i]at h
  |some a=>
   rw[i]at h;rw[gH e i];have J:∀(d:Int)(w:PV),(match bnd F 0 lo,bnd F d hi with
     |some a1,some a2=>match(generalizing:=false) mx with
      |none=>PV.slice s w a1 a2 none
      |some m=>(bnd F 0 (some m)).bind λm=>PV.slice s w a1 a2 (some m)
     |_,_=>none)=some v->(match bnd F' 0 lo,bnd F' d hi with
     |some a1,some a2=>match(generalizing:=false) mx with
      |none=>PV.slice s w a1 a2 none
      |some m=>(bnd F' 0 (some m)).bind λm=>PV.slice s w a1 a2 (some m)
     |_,_=>none)=some v:=by
    intro d w h;cases A:bnd F 0 lo with
    |none=>simp[A]at h
    |some l=>
     cases B:bnd F d hi with
     |none=>simp[A,B]at h
     |some u=>
      rw[A,B]at h;rw[TP e A,TP e B];cases mx with
      |none=>exact h
      |some m=>
       simp only at h ⊢;cases E:bnd F 0 (some m)with
       |none=>simp[E]at h
       |some q=>rw[TP e E,<-E];exact h
   cases a<;>simp only at h ⊢<;>first|exact J _ _ h|cases h
 all_goals try exact h
 all_goals simp only[aX]at h ⊢
 all_goals first
  |(rename_i x y;rcases i:x.ev F with _|a;simp[i]at h;rcases hy:y.ev F with _|b;simp[i,hy]at h;rw[gH e i,gH e hy,<-i,<-hy];exact h)
  |(rename_i x y _;rcases i:x.ev F with _|a;simp[i]at h;rcases hy:y.ev F with _|b;simp[i,hy]at h;rw[gH e i,gH e hy,<-i,<-hy];exact h)
  |(rename_i x;rcases i:x.ev F with _|a;simp[i]at h;rw[gH e i,<-i];exact h)
  |(rename_i x _;rcases i:x.ev F with _|a;simp[i]at h;rw[gH e i,<-i];exact h)
theorem Bu{op:POp}{r:(Nat->PV) × aS}(e:F.le F')(h:cQ op F=some r):cQ op F'=some r:=by
 cases op
 case box b x=>
  cases b
  ·simp only[cQ]at h ⊢;cases i:x.ev F with
   |none=>simp[i]at h
   |some a=>rw[gH e i,<-i];exact h
  ·cases h
 case arH b s l z ps=>
  cases b
  ·simp only[cQ]at h ⊢;split at h
   ·rename_i A;rw[aF A];rw[atB]at h ⊢;obtain⟨cs,w,y⟩:=h;exact⟨cs,KP e w,y⟩
   ·cases h
  ·cases h
 case arK s b z l c=>
  simp only[cQ]at h ⊢;cases i:l.ev F with
  |none=>simp[i]at h
  |some a=>
   cases u:c.ev F with
   |none=>simp[i,u]at h
   |some b=>rw[gH e i,gH e u,<-i,<-u];exact h
 all_goals exact h
theorem Gu{op:POp}{K:R_}(e:F.le F')(h:cK op F H K):cK op F' H K:=by
 cases op
 case store n x y=>
  simp only[cK]at h ⊢;cases i:x.ev F with
  |none=>simp[i]at h
  |some a=>
   cases l:y.ev F with
   |none=>simp[i,l]at h
   |some b=>rw[gH e i,gH e l];rw[i,l]at h;exact h
 case append s b x y=>
  simp only[cK]at h ⊢;cases i:x.ev F with
  |none=>simp[i]at h
  |some a=>
   cases l:y.ev F with
   |none=>simp[i,l]at h
   |some b=>rw[gH e i,gH e l];rw[i,l]at h;exact h
 case arU sh x y z=>
  simp only[cK]at h ⊢;cases i:x.ev F with
  |none=>simp[i]at h
  |some a=>
   cases l:y.ev F with
   |none=>simp[i,l]at h
   |some b=>
    cases u:z.ev F with
    |none=>simp[i,l,u]at h
    |some c=>rw[gH e i,gH e l,gH e u];rw[i,l,u]at h;exact h
 case insert sh x y z=>
  simp only[cK]at h ⊢;cases i:x.ev F with
  |none=>simp[i]at h
  |some a=>
   cases l:y.ev F with
   |none=>simp[i,l]at h
   |some b=>
    cases u:z.ev F with
    |none=>simp[i,l,u]at h
    |some c=>rw[gH e i,gH e l,gH e u];rw[i,l,u]at h;exact h
 all_goals exact h
theorem PF.ahZ(l:F.le F')(i:Nat)(v:PV):(F.set i v).le (F'.set i v):=by
 intro j u h;rw[mL]at h ⊢;split at h;rename_i e;rw[aF e];exact h;rename_i e;rw[aC e];exact l j u h
theorem PF.AJ(e:F.le F')(d:O_)(v:PV):(F.put d v).le (F'.put d v):=by
 cases d with
 |none=>exact e
 |some d=>exact PF.ahZ e d v
theorem PF.agO(e:F.le F')(o s:Nat)(rs:P2_):(F.frz o s rs).le (F'.frz o s rs):=by
 intro j u h;rw[uZ,atB]at h ⊢;obtain⟨x,i,l⟩:=h;exact⟨x,e j x i,l⟩
theorem PF.le_trans{A B D:PF}(h:A.le B)(k:B.le D):A.le D:=λi v hi=>k i v (h i v hi)
theorem jM.up{l:PF}{u:PH}(h:jM F H l u):∀{F':PF},F.le F'->∃e,jM F' H e u/\l.le e:=by
 induction h with
 |refl F H=>exact λ{F'} i=>⟨F',.refl _ _,i⟩
 |step o y _ A =>intro F' i;obtain⟨e,w,x⟩:=A (PF.agO i o _ _);exact⟨e,.step o y w,x⟩
theorem kk{name:Nat}{args:Option V_}{d:O_}{K1 K2:K_}(A:∀F F' H,F.le F'->K1 F H->K2 F' H)(i:F.le F'){e:Option V_}(B:∀vs,args=some vs->e=some vs)(h:vO C name args d K1 F H):vO C name e d K2 F' H:=by
 obtain⟨vs,l,R,u,w,x,y⟩:=h;exact⟨vs,l,R,B _ u,w,x,λr H' a b=>A _ _ _ (PF.AJ i d r) (y r H' a b)⟩
theorem Dr{cs:V_}{args:List aP}(e:F.le F')(vs:V_)(h:(aP.evs F args).map (·++cs)=some vs):(aP.evs F' args).map (·++cs)=some vs:=by
 rw[atB]at h ⊢;obtain⟨x,i,l⟩:=h;exact⟨x,MM e i,l⟩
theorem I4{name:Nat}{args:List aP}{cs:V_}{d:O_}{K1 K2:K_}(l:∀F F' H,F.le F'->K1 F H->K2 F' H)(e:F.le F')(h:jX C name args cs d K1 F H):jX C name args cs d K2 F' H:=by
 rcases h with h|⟨F1,H1,h1,h2⟩
 exact .inl (kk l e (Dr e) h);obtain⟨i,w,u⟩:=h1.up e;exact .inr ⟨i,H1,w,kk l u (Dr u) h2⟩
theorem VH{op:POp}{d:O_}{K1 K2:K_}(u:∀F F' H,F.le F'->K1 F H->K2 F' H)(e:F.le F')(h:oU (cQ op F) d K1 F H):oU (cQ op F') d K2 F' H:=by
 obtain⟨y,x,i,l⟩:=h;exact⟨y,x,Bu e i,λo w=>u _ _ _ (PF.AJ e d _) (l o w)⟩
theorem sx{op:POp}{d:O_}{K1 K2:K_}(u:∀F F' H,F.le F'->K1 F H->K2 F' H)(e:F.le F')(h:xH (aX op F H) d K1 F H):xH (aX op F' H) d K2 F' H:=by
 obtain⟨v,i,l⟩:=h;exact⟨v,Eo e i,u _ _ _ (PF.AJ e d v) l⟩
theorem A7{op:POp}{d:O_}{K1 K2:K_}(i:∀F F' H,F.le F'->K1 F H->K2 F' H)(e:F.le F')(h:cK op F H λr H'=>K1 (F.put d r) H'):cK op F' H λr H'=>K2 (F'.put d r) H':=
 Gu e (IT (λv H' l=>i _ _ _ (PF.AJ e d v) l) h)
theorem aaH{op:POp}{d:O_}{K1 K2:K_}(i:∀F F' H,F.le F'->K1 F H->K2 F' H)(e:F.le F')(h:wpOp C op d K1 F H):wpOp C op d K2 F' H:=by
 cases op
 case call n a=>exact I4 i e h
 case asE x a=>
  have w:wS C (x.ev F) a d K1 F H:=h;show wS C (x.ev F') a d K2 F' H;cases K:x.ev F with
  |none=>rw[K]at w;exact w.elim
  |some u=>
   rw[gH e K];rw[K]at w;cases u<;>first|exact I4 i e w|exact w.elim|skip
   obtain⟨l,M,A⟩:=w;refine⟨l,M,?_⟩;rcases A with⟨vs,D,R,A,E,J,h5⟩|⟨F1,H1,k1,vs,D,R,A,E,J,h5⟩
   ·exact .inl ⟨vs,D,R,MM e A,E,J,λr H' p q=>i _ _ _ (PF.AJ e d r) (h5 r H' p q)⟩
   ·obtain⟨B,N,L⟩:=k1.up e;exact .inr ⟨B,H1,N,vs,D,R,MM L A,E,J,λr H' p q=>i _ _ _ (PF.AJ L d r) (h5 r H' p q)⟩
 case box r x=>cases r<;>first|exact VH (op:=.box false x) i e h|exact sx (op:=.box true x) i e h
 case arH r s l z ps=>cases r<;>first|exact VH (op:=.arH false s l z ps) i e h|exact sx (op:=.arH true s l z ps) i e h
 case alloc cs=>exact VH (op:=.alloc cs) i e h
 case arK s b z l c=>exact VH (op:=.arK s b z l c) i e h
 case asJ sh=>exact VH (op:=.asJ sh) i e h
 case store n x y=>exact A7 (op:=.store n x y) i e h
 case append s b x y=>exact A7 (op:=.append s b x y) i e h
 case arU sh x y z=>exact A7 (op:=.arU sh x y z) i e h
 case insert sh x y z=>exact A7 (op:=.insert sh x y z) i e h
 all_goals exact sx i e h
theorem VO{K1 K2:K_}(l:∀F F' H,F.le F'->K1 F H->K2 F' H):∀{ops:List bU}{F F':PF}{H:PH},F.le F'->wpOps C ops K1 F H->wpOps C ops K2 F' H
 |[],_,_,_,i,h=>l _ _ _ i h
 |⟨d,op,none⟩::rest,_,_,_,i,h=>aaH (λ_ _ _ a b=>VO l a b) i h
 |⟨d,op,some (t,u)⟩::rest,F,F',H,i,h=>by rw[Io]at h ⊢;unfold DA at h;split at h;rename_i b hb;rw[i t _ hb];unfold DA;simp only;split at h;rename_i e;rw[aF e];exact aaH (λ_ _ _ a b=>VO l a b) i h;rename_i e;rw[aC e];exact VO l (PF.AJ i d _) h;rename_i hb;rw[i t _ hb];exact VO l (PF.AJ i d _) h;exact h.elim
theorem Ee{Hs:PH}{S:Spec}{st:Bool}{op:POp}{K:R_}(e:F.le F')(h:(op.kind F).run C Hs S st K H):(op.kind F').run C Hs S st K H:=by
 have new:∀op:POp,(Kind.new (cQ op F)).run C Hs S st K H->(Kind.new (cQ op F')).run C Hs S st K H:=λop h=>by obtain⟨N,x,i,w⟩:=h;exact⟨N,x,Bu e i,w⟩
 have calm:∀op:POp,(Kind.calm (aX op F)).run C Hs S st K H->(Kind.calm (aX op F')).run C Hs S st K H:=λop h=>by obtain⟨v,i,w⟩:=h;exact⟨v,Eo e i,w⟩
 have M:∀op:POp,(Kind.write λH K=>cK op F H K).run C Hs S st K H->(Kind.write λH K=>cK op F' H K).run C Hs S st K H:=λop h=>Gu (op:=op) e (show cK op F H (λr H'=>Hs.le H'/\K r H')from h);cases op
 case call n a =>obtain⟨vs,D,R,i,w⟩:=h;exact⟨vs,D,R,MM e i,w⟩
 case asE x a=>
  unfold POp.kind at h ⊢;simp only at h ⊢;cases A:x.ev F with
  |none=>rw[A]at h;exact h.elim
  |some u=>
   rw[A]at h;rw[gH e A];cases u<;>simp only at h ⊢<;>first|exact h|skip
   obtain⟨vs,D,R,i,w⟩:=h;exact⟨vs,D,R,Dr e _ i,w⟩
 case insert sh x k v=>
  obtain⟨o,L,J,u,g,i,w⟩:=h;refine⟨o,L,J,u,g,?_,w⟩;cases A:x.ev F with
  |none=>simp[A]at i
  |some a=>
   cases B:k.ev F with
   |none=>simp[A,B]at i
   |some b=>
    cases E:v.ev F with
    |none=>simp[A,B,E]at i
    |some c=>rw[gH e A,gH e B,gH e E];rw[A,B,E]at i;exact i
 case box r x=>cases r<;>first|exact new (.box false x) h|exact calm (.box true x) h
 case arH r s l z ps=>cases r<;>first|exact new (.arH false s l z ps) h|exact calm (.arH true s l z ps) h
 case alloc cs=>exact new (.alloc cs) h
 case arK s b z l c=>exact new (.arK s b z l c) h
 case asJ sh=>exact new (.asJ sh) h
 case store n x y=>exact M (.store n x y) h
 case append s b x y=>exact M (.append s b x y) h
 case arU sh x y z=>exact M (.arU sh x y z) h
 all_goals exact calm _ h
theorem Wk{Hs:PH}{S:Spec}{st:Bool}{i:bU}{K:R_}(l:F.le F')(h:(i.kind F).run C Hs S st K H):(i.kind F').run C Hs S st K H:=by
 unfold bU.kind at h ⊢;split;rename_i u;rw[u]at h;exact Ee l h;rename_i t w u;rw[u]at h;simp only at h;split at h;rename_i b hb;rw[l t _ hb];simp only;split at h;rename_i e;rw[aF e];exact Ee l h;rename_i e;rw[aC e];exact h;rename_i hb;rw[l t _ hb];exact h;exact h.elim
theorem Ul{Hs:PH}{S:Spec}{K1 K2:K_}(u:∀F F' H,F.le F'->K1 F H->K2 F' H):∀{ops:List (bU × Bool)}{F F':PF}{H:PH},Hs.le H->F.le F'->wpD C Hs S ops K1 F H->wpD C Hs S ops K2 F' H
 |[],_,_,_,_,e,h=>u _ _ _ e h
 |i::rest,F,F',H,y,e,h=>by have w:(i.1.kind F).run C Hs S i.2 (λv H'=>wpD C Hs S rest K1 (F.put i.1.dst v) H') H:=h;exact Wk e (Kind.yI (yB _ _) (λv H' l x=>Ul u l (PF.AJ e _ v) x) y w)
class Up(K:bP):Prop where
 up:∀{e:lI}{F F':PF}{H:PH},F.le F'->K e F H->K e F' H
theorem jL:∀(c:aJ){K1 K2:bP}(_:∀e F F' H,F.le F'->K1 e F H->K2 e F' H){F F':PF}{H:PH},F.le F'->c.wp C K1 F H->c.wp C K2 F' H
 | .skip,_,_,l,_,_,_,i,h=>l _ _ _ _ i h
 | .region ops,_,_,l,_,_,_,i,h=>VO (l .normal) i h
 | .draw ops,_,_,l,_,_,_,i,⟨Hs,S,x,E⟩=>⟨Hs,S,x,Ul (l .normal) x i E⟩
 | .seq a b,K1,K2,l,_,_,_,i,h=>jL a (K1:=gL C (b.wp C) K1) (K2:=gL C (b.wp C) K2) (λe F F' H w u=>by
   cases e with
   |normal=>exact jL b l w u
   |exit id=>exact l (.exit id) _ _ _ w u
   |ret=>exact l .ret _ _ _ w u) i h
 | .cond c a b,K1,K2,l,F,F',H,i,h=>by rw[Zs]at h ⊢;unfold k6 at h;split at h;rename_i t O;rw[gH i O];unfold k6;simp only;split at h;rename_i e;rw[aF e];exact jL a l i h;rename_i e;rw[aC e];exact jL b l i h;exact h.elim
 | .block id c,K1,K2,l,_,_,_,i,h=>jL c (K1:=fL id K1) (K2:=fL id K2) (λe F F' H w u=>by
   cases e with
   |normal=>exact l .normal _ _ _ w u
   |exit j =>rw[KM]at u ⊢;split at u;rename_i e;rw[aF e];exact l .normal _ _ _ w u;rename_i e;rw[aC e];exact l (.exit j) _ _ _ w u
   |ret=>exact l .ret _ _ _ w u) i h
 | .loop c,K1,K2,l,F,F',H,i,⟨α,B,Hs,D,m,K,F1,J,x,E,L,M,h5⟩=>by
  obtain⟨y,R,U⟩:=x.up i;refine⟨α,B,Hs,D,m,K,y,J,R,E,PF.le_trans L U,M,λa N=>?_⟩;refine jL c (K1:=fK B Hs D m (m a) K1) (K2:=fK B Hs D m (m a) K2) (λe F F' H w u=>?_) PF.le_refl (h5 a N);cases e with
  |normal =>obtain⟨b,F2,H2,X,Y,Z,z4,z5⟩:=u;obtain⟨A,V,W⟩:=X.up w;exact⟨b,A,H2,V,Y,Z,PF.le_trans z4 W,z5⟩
  |exit id=>exact l (.exit id) _ _ _ w u
  |ret=>exact l .ret _ _ _ w u
 | .exit id,_,_,l,_,_,_,i,h=>l (.exit id) _ _ _ i h
 | .ret,_,_,l,_,_,_,i,h=>l .ret _ _ _ i h
instance Up.seq{K:bP}[Up K](b:aJ):Up (gL C (b.wp C) K) where
 up {e} {F} {F'} {H} hl hh:=by
  cases e with
  |normal=>exact jL b (λe F F' H a h=>Up.up a h) hl hh
  |exit id=>exact Up.up (K:=K) (e:=.exit id) hl hh
  |ret=>exact Up.up (K:=K) (e:=.ret) hl hh
instance Up.block{K:bP}[Up K](id:Nat):Up (fL id K) where
 up {e} {F} {F'} {H} hl hh:=by
  cases e with
  |normal=>exact Up.up (K:=K) (e:=.normal) hl hh
  |exit j =>rw[KM]at hh ⊢;split at hh;rename_i e;rw[aF e];exact Up.up (K:=K) (e:=.normal) hl hh;rename_i e;rw[aC e];exact Up.up (K:=K) (e:=.exit j) hl hh
  |ret=>exact Up.up (K:=K) (e:=.ret) hl hh
instance Up.loop{K:bP}[Up K]{α:Type}(l:α->PF)(Hs:α->PH)(u:α->Prop)(m:α->Nat)(n:Nat):Up (fK l Hs u m n K) where
 up {e} {F} {F'} {H} hl hh:=by
  cases e with
  |normal =>obtain⟨b,J,H2,y,A,B,D,E⟩:=hh;obtain⟨i,w,x⟩:=y.up hl;exact⟨b,i,H2,w,A,B,PF.le_trans D x,E⟩
  |exit id=>exact Up.up (K:=K) (e:=.exit id) hl hh
  |ret=>exact Up.up (K:=K) (e:=.ret) hl hh
theorem ahQ{H:PH}(e:F.le F'){x:dX}{v:PV}(h:x.ev F H=some v):x.ev F' H=some v:=by
 cases x with
 |tmp t=>exact e t v h
 |cell t n=>
  cases n<;>simp only[dX.ev]at h ⊢<;>(cases i:F t with
   |none=>simp[i]at h
   |some a=>rw[e t a i,<-i];exact h)
theorem t7{H:PH}(e:F.le F'):∀{xs:List dX}{vs:V_},dX.evs F H xs=some vs->dX.evs F' H xs=some vs
 |[],_,h=>h
 |x::xs,vs,h=>by
  rw[nT]at h ⊢;cases l:x.ev F H with
  |none=>simp[l]at h
  |some v=>
   cases i:dX.evs F H xs with
   |none=>simp[i]at h
   |some u =>rw[l,i]at h;rw[ahQ e l,t7 e i];exact h
instance Up.ret(res:List dX)(R:R_):Up (aV res R) where
 up {e} {F} {F'} {H} hl hh:=by
  cases e with
  |exit id=>exact hh
  |normal=>obtain⟨vs,i,l⟩:=hh;exact⟨vs,t7 hl i,l⟩
  |ret=>obtain⟨vs,i,l⟩:=hh;exact⟨vs,t7 hl i,l⟩
end
open Go Go.RowKit
def JA(R:PH->Prop):bP
 | .normal,_,H=>R H
 |_,_,_=>False
theorem bZ.putObj{E:Env}{H:PH}{w:World}{l:Nat}{o o':Obj}(hW:bZ E H w)(A:w.heap[l]?=some o)(B:∀c t b,o≠.cells c t b)(D:H l=none):bZ E H (w.putObj l o'):=by
 refine⟨λb cs h=>?_,λq x h=>?_,λq n h=>?_⟩;obtain⟨i,ty,fr,u⟩:=hW.g b cs h;have:b≠l:=λe=>by rw[e,A]at u;exact B _ _ _ (by injection u)
 exact⟨i,ty,fr,(World.putObj_heap_other this).trans u⟩;obtain⟨i,u⟩:=hW.h q x h;have:q≠l:=λe=>by rw[e,D]at h;cases h
 exact⟨by rw[World.putObj_size];exact i,u.mono (.refl E) (World.putObj_heap_other this)⟩;obtain⟨y,ty,fr,i,u⟩:=hW.s q n h;have:q≠l:=λe=>by rw[e,A]at i;exact B _ _ _ (by injection i)
 exact⟨y,ty,fr,(World.putObj_heap_other this).trans i,u⟩
theorem bZ.setObj{E:Env}{H:PH}{w:World}{l:Nat}{o:Obj}{x:aS}(hW:bZ E H w)(u:w.heap[l]?=some o)(B:∀c t b,o≠.cells c t b)(D:TI E w l x):bZ E (H.set l x) w:=by
 refine⟨λb cs h=>?_,λq y h=>?_,hW.s⟩;obtain⟨A,ty,fr,i⟩:=hW.g b cs h;have:¬b=l:=λe=>by rw[e,u]at i;exact B _ _ _ (by injection i)
 refine⟨λy F=>A y ?_,ty,fr,i⟩
 rwa[aO,aC this]at F
 rw[aO]at h;split at h;rename_i e;cases h;subst e;exact⟨(awB.1 u).1,D⟩;exact hW.h q y h
theorem Um{c:Code}{l m:Nat}{P:Program}{Q:Exit->Act->World->Prop}{i tm':Array Value}{ds:List Deferred}{w:World}(e:i=tm')(h:c.wpIn (Fz (some l)) m P Q { tmps:=tm',defers:=ds } w):c.wpIn (Fence.wide.inRound l) m P Q { tmps:=i,defers:=ds } w:=by
 subst e;exact h
section
variable {C:Ctx} {T:Tbl}
theorem Ir(V:C.P=T.P)(M:C.num=T.num){n t l:Nat}{J K:Code}{ζ O:aJ}(h1:T.code n J=some ζ)(h2:T.code n K=some O)(ht:t<n){F:PF}{x:PV}{H:PH}{R:PH->Prop}(hl:H l=none)
  (Ξ:ζ.wp C (gL C (O.wp C) (JA R)) (F.set t x) H) :
  MC C l [x] (H.set l (.loop F n t J K)) (λr H'=>r=.bool true/\∃H2,R H2/\H2 l=none/\H'=H2.set l (.loop F n t J K)):=by
 intro E w vs hN hW Λ;obtain⟨vl⟩:=vs;cases Λ with
 |cons e1 e2=>
 cases e2;rename_i v;obtain⟨hlt,rec,U,N,ε,δ,has,ι,ρ,hF⟩:=hW.h l (.loop F n t J K) (by rw[bK]);have Γ:bZ E H w:=hW.weaken λo y ho=>by
  have:¬o=l:=λe=>by rw[e,hl]at ho;cases ho
  rw[aO,aC this];exact ho
 refine⟨rec.fn,_,rec.assign,rec.body,run_yield U (by rw[δ];rfl),?_⟩;rw[has,ι,δ];refine roundIn_of_wpIn (F:=Fence.wide) trivial ?_;have hA:eX [] n E (F.set t x) { tmps:=rec.tmps.setIfInBounds t v,defers:=[] }:=by refine⟨by simp[ρ],rfl,λi pv hi=>?_⟩;rw[mL]at hi;split at hi;rename_i e;cases hi;subst e;simp only[axD];rw[Array.getElem?_setIfInBounds_self_of_lt Om];exact e1;rename_i e;simp only[axD];rw[Array.getElem?_setIfInBounds_ne (λh=>e h.symm),<-axD];exact hF i pv hi
 rw[V];refine Um (tm':=rec.tmps.setIfInBounds t v) aZ ?_;refine wB (ro:=some l) (fu:=0) V M J ζ (gL C (O.wp C) (JA R)) _ E (F.set t x) H _ w h1 Ξ hA Γ (hN.trans M) λe E1 F1 H1 a1 D υ φ u X=>?_;cases e with
 |exit id=>exact X.elim
 |ret=>exact X.elim
 |normal=>
  have α:D.heap[l]?=some (.loop rec):=(u.block l hlt hl).trans U;have W:H1 l=none:=by
   cases hh:H1 l with
   |none=>rfl
   |some y=>
    rcases u.new l y hh with⟨z,B⟩|hge
    rw[hl]at B;cases B;omega
  refine⟨_,run_beginRound α N,?_⟩;have χ:=φ.putObj (o':=.loop { rec with state:=.busy }) α (λ_ _ _ h=>by cases h) W;have S:l<D.heap.size:=(awB.1 α).1;have Θ:(D.putObj l (.loop { rec with state:=.busy })).heap[l]?=some (.loop { rec with state:=.busy }):=World.putObj_heap_same S;have σ:(D.putObj l (.loop { rec with state:=.busy })).heap.size=D.heap.size:=World.putObj_size;have γ:∀b,b≠l->(D.putObj l (.loop { rec with state:=.busy })).heap[b]?=D.heap[b]?:=λb hb=>World.putObj_heap_other hb;have ο:(D.putObj l (.loop { rec with state:=.busy })).os=D.os:=rfl;have τ:(D.putObj l (.loop { rec with state:=.busy })).tape=D.tape:=rfl;have ξ:(D.putObj l (.loop { rec with state:=.busy })).output=D.output:=rfl;generalize D.putObj l (.loop { rec with state:=.busy })=w2 at *
  refine wB (ro:=some l) (fu:=0) V M K O (JA R) _ E1 F1 H1 a1 w2 h2 X υ χ (u.env.num.trans (hN.trans M)) λe2 E2 F2 H2 a2 w3 Φ ψ A Y=>?_;cases e2 with
  |exit id=>exact Y.elim
  |ret=>exact Y.elim
  |normal=>
   have β:w3.heap[l]?=some (.loop { rec with state:=.busy }):=(A.block l (by rw[σ];exact S) W).trans Θ;have ν:l<w3.heap.size:=(awB.1 β).1;have θ:H2 l=none:=by
    cases hh:H2 l with
    |none=>rfl
    |some y=>
     rcases A.new l y hh with⟨z,B⟩|hge
     rw[W]at B;cases B;omega
   have η:({ { rec with state:=.busy }with state:=if(none:Option Code).isNone then .ready else .done,pending:=none }:Loop)=rec:=by obtain⟨a,b,c,d,e,f,g,h⟩:=rec;simp only at N ε;subst N ε;rfl
   refine⟨_,_,run_endRound none β,?_⟩;rw[η];have ω:=(ψ.putObj (o':=.loop rec) β (λ_ _ _ h=>by cases h) θ);have μ:(w3.putObj l (.loop rec)).heap[l]?=some (.loop rec):=World.putObj_heap_same ν;have κ:E.le E2:=u.env.trans A.env;refine⟨.bool true,.bool true,E2,H2.set l (.loop F n t J K),rfl,ω.setObj μ (λ_ _ _ h=>by cases h) ⟨rec,μ,N,ε,δ,has,ι,ρ,λi pv hi=>(hF i pv hi).mono κ⟩,.bool true,?_,rfl,H2,Y,θ,rfl⟩;refine⟨κ,?_,?_,?_,?_,λb hb hn=>?_,λo y ho=>?_,λb cs hb=>?_⟩;exact A.os.trans (ο.trans u.os);exact A.tape.trans (τ.trans u.tape);exact A.output.trans (ξ.trans u.output);have:=u.size;have:=A.size;rw[World.putObj_size];omega;have Z:b≠l:=λe=>by rw[e,bK]at hn;cases hn
   rw[aO,aC Z]at hn;have Δ:H1 b=none:=by
    cases hh:H1 b with
    |none=>rfl
    |some y=>
     rcases u.new b y hh with⟨z,B⟩|hge
     rw[hn]at B;cases B;omega
   rw[World.putObj_heap_other Z,A.block b (by have:=u.size;omega) Δ,γ b Z,u.block b hb hn];rw[aO]at ho;split at ho;rename_i e;exact .inl ⟨_,by rw[e,bK]⟩;rename_i e;rcases A.new o y ho with⟨z,B⟩|hge
   rcases u.new o z B with⟨z2,L⟩|hge
   exact .inl ⟨z2,by rw[aO,aC e];exact L⟩;exact .inr hge;have:=u.size;exact .inr Om;rcases A.newG b cs hb with hg|⟨z,B⟩|hge
   rcases u.newG b cs hg with hg|⟨z,B⟩|hge
   exact .inl hg;have e:¬b=l:=λe=>by rw[e,hl]at B;cases B
   exact .inr (.inl ⟨z,by rw[aO,aC e];exact B⟩);exact .inr (.inr hge);rcases u.new b z B with⟨z2,L⟩|hge
   have e:¬b=l:=λe=>by rw[e,hl]at L;cases L
   exact .inr (.inl ⟨z2,by rw[aO,aC e];exact L⟩);exact .inr (.inr hge);have:=u.size;exact .inr (.inr Om)
end
open Go Go.RowKit
abbrev CF(D:Nat):Deferred:={ target:=.collected D,args:=#[] }
theorem bZ.alloc{E:Env}{H:PH}{w:World}(hW:bZ E H w)(o:Obj):bZ E H (w.alloc o):=by
 have e:(w.alloc o).heap.size=w.heap.size+1:=World.size_alloc w o;have hb:∀b,b<w.heap.size->(w.alloc o).heap[b]?=w.heap[b]?:=λb hlt=>Below.heap_alloc w o b hlt;exact hW.same Om (λb hlt _=>hb b hlt) (λq x hq=>hb q (hW.h q x hq).1)
section
variable {C:Ctx} {T:Tbl} {ds:List Deferred} {fu:Nat}
theorem agN{f:FuncId}{args:Array Value}{w:World}{P:Program}{fn:Func}(l:P.funcs[f]?=some fn)(hb:fn.body.isSome=true)(i:(fn.name=="runtime.NumGoroutine")=false):(callFunc f args).run P w=.ok (.enter f args) w:=by
 have e:fn.body.isNone=false:=by cases h:fn.body<;>simp_all
 simp only[callFunc,Sem.run_bind,Sem.run_pure,Result.andThen_ok,run_program,l,i,e,auQ,if_false]
def Bc(C:Ctx)(name:Nat)(cs:V_)(F:PF)(H:PH)(n t:Nat)(e i:Code)(u:PH->Prop):Prop:=
 ∀l,H l=none->aH C name (DQ l::cs) (H.set l (.loop F n t e i)) (λ_ H'=>∃H2,u H2/\H2.le H'/\H2 l=none/\H' l=some (.loop F n t e i))
theorem Hv(β:C.P=T.P)(α:C.num=T.num){n t name:Nat}{g:Operand}{pg:aP}{J K:Code}{cs:V_}{E:Env}{F:PF}{H:PH}{a:Act}{w:World}{KH:PH->Prop}{Q:Exit->Act->World->Prop}(hg:T.opd g=some pg)(Γ:pg.ev F=some (.fn name cs))
  (Δ:Bc C name cs F H n t J K KH) (Z:eX ds n E F a) (hW:bZ E H w) (hN:E.num=T.num)
  (hT:∀D X H2 w',eX (CF D::ds) n X F { a with defers:=CF D::a.defers }->bZ X H2 w'->Ext E H w X H2 w'->w'.heap[D]?=some (.deferred (some []))->H2 D=none->w.heap.size<=D->KH H2->Q .normal { a with defers:=CF D::a.defers } w') :
  (Code.rangeFunc g #[t] J K).wpIn (Fz none) fu T.P Q a w:=by
 have r:=bL hg Γ Z hN;generalize Ψ:a.eval g=vg at r;cases r with
 |fn vc ψ ω=>
 have M:∀o x,H o=some x->o<w.heap.size:=λo x ho=>(hW.h o x ho).1;have nD:H w.heap.size=none:=by
  cases h:H w.heap.size with
  |none=>rfl
  |some x=>have:=M _ x h;omega
 have nl:H (w.heap.size+1)=none:=by
  cases h:H (w.heap.size+1)with
  |none=>rfl
  |some x=>have:=M _ x h;omega
 obtain⟨⟨fn,hf,hb,Θ⟩,U⟩:=Δ (w.heap.size+1) nl;rw[β]at hf;refine wpIn_rangeFunc λξ _=>?_;obtain⟨rec,O⟩:∃rec:Loop,rec={ state:=.ready,pending:=none,fn:=ξ,tmps:=a.tmps,params:=#[t],assign:=J,body:=K,defers:=w.heap.size }:=⟨_,rfl⟩;obtain⟨A,l⟩:∃A,(w.alloc (.deferred (some []))).alloc (.loop rec)=A:=⟨_,rfl⟩;have κ:(w.alloc (.deferred (some []))).heap.size=w.heap.size+1:=World.size_alloc _ _;have a':A.heap.size=w.heap.size+2:=by rw[<-l,World.size_alloc,κ]
 have θ:∀b,b<w.heap.size->A.heap[b]?=w.heap[b]?:=λb hb=>by rw[<-l];exact(Below.heap_alloc _ _ b Om).trans (Below.heap_alloc _ _ b hb)
 have ρ:A.heap[w.heap.size]?=some (.deferred (some [])):=by rw[<-l];exact(Below.heap_alloc _ _ _ Om).trans (World.alloc_heap_new w _)
 have ζ:A.heap[w.heap.size+1]?=some (.loop rec):=by
  rw[<-l];have:=World.alloc_heap_new (w.alloc (.deferred (some []))) (.loop rec)
  rwa[κ]at this
 have φ:bZ E H A:=by rw[<-l];exact(hW.alloc _).alloc _
 have χ:bZ E (H.set (w.heap.size+1) (.loop F n t J K)) A:=φ.setObj ζ (λ_ _ _ h=>by cases h) (by subst O;exact⟨_,ζ,rfl,rfl,rfl,rfl,rfl,Z.size,Z.t⟩);have Ξ:A.os=w.os:=by rw[<-l];rfl
 have Φ:A.tape=w.tape:=by rw[<-l];rfl
 have Λ:A.output=w.output:=by rw[<-l];rfl
 have N:C.num name=E.num name:=by rw[α,hN]
 refine⟨w.heap.size+1,[CF w.heap.size],A,{ target:=.fn (.func (E.num name)) vc,args:=#[.func (.yield (w.heap.size+1)) #[] #[]] },A,E.num name,#[Value.func (.yield (w.heap.size+1)) #[] #[]]++vc,A,?_,?_,?_,?_,?_,?_⟩;rw[<-l,O];exact run_enterLoop_outer _ _ _ _ _;simp only[resolve,Ψ];simp[go_sem];exact λ_ _=>trivial;simp only[invoke];exact agN (by rw[<-N];exact hf) hb Θ;intro h;cases h;have S:fV E (DQ (w.heap.size+1)::cs) (#[Value.func (.yield (w.heap.size+1)) #[] #[]]++vc).toList:=by rw[Array.toList_append];exact .cons (.lit _) (fV.aaG (by simpa using ψ) λj p u hp hu=>ω j p u hp (by simpa using hu))
 have hc:=U E A _ (hN.trans α.symm) χ S;rw[β,N]at hc;refine Fz.calls (hc.mono λe w3 he=>?_);obtain⟨v,pv,X,H',rfl,ε,hr,B,H2,υ,V,L,τ⟩:=he;obtain⟨Ω,ν,η,μ,ι,-⟩:=ε.h _ _ τ;have W:w.heap.size≠w.heap.size+1:=Om;have σ:w3.heap[w.heap.size]?=some (.deferred (some [])):=(B.block _ Om (by rw[aO,aC W];exact nD)).trans ρ;have δ:H' w.heap.size=none:=by
  cases hh:H' w.heap.size with
  |none=>rfl
  |some y=>
   rcases B.new _ y hh with⟨z,R⟩|hge
   rw[aO,aC W,nD]at R;cases R;omega
 have γ:H2 w.heap.size=none:=by
  cases hh:H2 w.heap.size with
  |none=>rfl
  |some y=>rw[V _ y hh]at δ;cases δ
 refine⟨ν.pending,_,run_endLoop η (by rw[μ];exact λh=>by cases h),?_⟩;rw[ι];simp only;have ο:eX (CF w.heap.size::ds) n X F { a with defers:=CF w.heap.size::a.defers }:=⟨Z.size,by simp only;rw[Z.defers],λi pv hi=>(Z.t i pv hi).mono B.env⟩;refine hT w.heap.size X H2 _ ο ((ε.weaken V).putObj η (λ_ _ _ h=>by cases h) L) ?_ ((World.putObj_heap_other W).trans σ) γ (asU _) υ;refine⟨B.env,B.os.trans Ξ,B.tape.trans Φ,B.output.trans Λ,?_,λb hb hn=>?_,λo y ho=>?_,λb cs hb=>?_⟩;have:=B.size;rw[World.putObj_size];omega;have Y:b≠w.heap.size+1:=Om;rw[World.putObj_heap_other Y,B.block b Om (by rw[aO,aC Y];exact hn),θ b hb];have Y:o≠w.heap.size+1:=λe=>by rw[e,L]at ho;cases ho
 rcases B.new o y (V o y ho)with⟨z,R⟩|hge
 rw[aO,aC Y]at R;exact .inl ⟨z,R⟩;exact .inr Om;rcases B.newG b cs hb with h|⟨z,R⟩|hge
 exact .inl h;by_cases Y:b=w.heap.size+1;exact .inr (.inr Om);rw[aO,aC Y]at R;exact .inr (.inl ⟨z,R⟩);exact .inr (.inr Om)
end
open Go Go.RowKit
inductive sM where
 |seq (a:aJ) (t:sM)
 |range (g:aP) (n t:Nat) (asg bdy:Code) (pas pbd rest:aJ)
def sM.wp (C : Ctx) : sM -> bP -> PF -> PH -> Prop
  | .seq a t, K, F, H => a.wp C (gL C (t.wp C) K) F H
  | .range g n t asg bdy pas pbd rest, K, F, H => ∃ name cs KH, g.ev F = some (.fn name cs) /\
      ((∀ (l : Nat) (x : PV) (J : PH) (J' : PH -> Prop), J l = none -> pas.wp C (gL C (pbd.wp C) (JA J')) (F.set t x) J ->
        MC C l [x] (J.set l (.loop F n t asg bdy)) (fun r H' => r = .bool true /\ ∃ H2, J' H2 /\ H2 l = none /\ H' = H2.set l (.loop F n t asg bdy))) -> Bc C name cs F H n t asg bdy KH) /\
      ∀ H2, KH H2 -> rest.wp C K F H2
namespace Tbl
variable (T:Tbl)
def tail(n:Nat):Code->Option sM
 | .seq (.rangeFunc g ps e i) rest=>match T.opd g,T.code n e,T.code n i,T.code n rest with
  |some x,some l,some u,some y=>match ps.toList with
   |[t]=>if t<n then some (.range x n t e i l u y)else none
   |_=>none
  |_,_,_,_=>none
 | .seq (.seq a (.block _ (.rangeFunc g ps e i))) rest=>match T.code n a,T.opd g,T.code n e,T.code n i,T.code n rest with
  |some w,some x,some l,some u,some y=>match ps.toList with
   |[t]=>if t<n then some (.seq w (.range x n t e i l u y))else none
   |_=>none
  |_,_,_,_,_=>none
 | .seq a b=>match T.code n a,tail n b with
  |some w,some A=>some (.seq w A)
  |_,_=>none
 |_=>none
end Tbl
section
variable {C:Ctx} {T:Tbl} {fu:Nat}
def GW(n:Nat)(E:Env)(H:PH)(w:World)(K:bP)(Q:Exit->Act->World->Prop):Prop:=
 ∀ds,(ds=[]\/∃D,ds=[CF D])->∀e l u H' x i,eX ds n l u x->bZ l H' i->Ext E H w l H' i->(∀D,ds=[CF D]->i.heap[D]?=some (.deferred (some []))/\H' D=none/\w.heap.size<=D)->K e u H'->Q e.out x i
theorem GW.after{n:Nat}{E u:Env}{H H':PH}{w y:World}{K:bP}{Q:Exit->Act->World->Prop}(h:GW n E H w K Q)(x:Ext E H w u H' y):GW n u H' y K Q:=
 λds i e A B H2 a2 M F hW L l J=>h ds i e A B H2 a2 M F hW (x.trans L) (λD hD=>⟨(l D hD).1,(l D hD).2.1,atT x.size (l D hD).2.2⟩) J
theorem GW.plain{n:Nat}{E:Env}{H:PH}{w:World}{K:bP}{Q:Exit->Act->World->Prop}(h:GW n E H w K Q):TL [] n E H w K Q:=
 λe i l H' u B x hW A y=>h [] (.inl rfl) e i l H' u B x hW A (λD hD=>by cases hD) y
theorem oq(L:C.P=T.P)(B:C.num=T.num){n t:Nat}{g:Operand}{pg:aP}{ps:Array Tmp}{u A rest:Code}{R S pr:aJ}{K:bP}{Q Q0:Exit->Act->World->Prop}{E:Env}{F:PF}{H:PH}{a:Act}{w:World}(hQ:∀a w,rest.wpIn (Fz none) fu T.P Q a w->Q0 .normal a w)
  (h1:T.opd g=some pg) (h2:T.code n u=some R) (h3:T.code n A=some S) (h4:T.code n rest=some pr) (h5:ps.toList=[t]) (ht:t<n)
  (γ:(sM.range pg n t u A R S pr).wp C K F H) (hA:eX [] n E F a) (hW:bZ E H w) (hN:E.num=T.num) (hT:GW n E H w K Q) :
  (Code.rangeFunc g ps u A).wpIn (Fz none) fu T.P Q0 a w:=by
 obtain⟨name,cs,KH,k1,k2,k3⟩:=γ;have β:ps=#[t]:=by obtain⟨l⟩:=ps;simp only at h5;subst h5;rfl
 subst β;refine Hv (ds:=[]) L B h1 k1 (k2 λl x J J' hJ hw=>Ir L B h2 h3 ht hJ hw) hA hW hN λD E' H2 w' U Z N hD O W Y=>?_;refine hQ _ w' ?_;refine wB (ro:=none) (fu:=fu) (ds:=[CF D]) L B rest pr K Q E' F H2 _ w' h4 (k3 H2 Y) U Z (N.env.num.trans hN) λe E3 F3 H3 a3 w3 V α M X=>?_;refine hT [CF D] (.inr ⟨D,rfl⟩) e E3 F3 H3 a3 w3 V α (N.trans M) (λD' i=>?_) X;injection i with i _
 injection i with i _
 injection i with i
 subst i;have hlt:D<w'.heap.size:=(awB.1 hD).1;refine⟨(M.block D hlt O).trans hD,?_,W⟩;cases hh:H3 D with
 |none=>rfl
 |some y=>
  rcases M.new D y hh with⟨z,hz⟩|hge
  rw[O]at hz;cases hz;omega
theorem Ol(A:C.P=T.P)(u:C.num=T.num){n:Nat}:∀(c:Code)(t:sM)(K:bP)(Q:Exit->Act->World->Prop)(E:Env)(F:PF)(H:PH)(a:Act)(w:World),
  T.tail n c=some t->t.wp C K F H->eX [] n E F a->bZ E H w->E.num=T.num->GW n E H w K Q->c.wpIn (Fz none) fu T.P Q a w:=by
 intro c
 induction c with
 |seq x y γ α=>
  intro t K Q E F H a w i L hA hW W J;unfold Tbl.tail at i;split at i;rename_i g ps B D rest e;cases e;split at i;rename_i pg M N pr V e2 Y Z;split at i;rename_i t0 e5;split at i;rename_i e6;cases i;exact wpIn_seq (oq A u (λ_ _ h=>h) V e2 Y Z e5 e6 L hA hW W J);cases i;cases i;cases i;rename_i a0 β g ps B D rest e;cases e;split at i;rename_i X pg M N pr e0 V e2 Y Z;split at i;rename_i t0 e5;split at i
  ·rename_i e6;cases i;have l:X.wp C (gL C ((sM.range pg n t0 B D M N pr).wp C) K) F H:=L;refine wpIn_seq (wpIn_seq (wB (ro:=none) (fu:=fu) (ds:=[]) A u a0 X (gL C ((sM.range pg n t0 B D M N pr).wp C) K) _ E F H a w e0 l hA hW W λe O R H' S U g1 g2 g3 g4=>?_));cases e with
   |normal=>exact wpIn_block (oq A u (λ_ _ h=>h) V e2 Y Z e5 e6 g4 g1 g2 (g3.env.num.trans W) (J.after g3))
   |exit id=>exact J.plain (.exit id) O R H' S U g1 g2 g3 g4
   |ret=>exact J.plain .ret O R H' S U g1 g2 g3 g4
  cases i;cases i;cases i;rename_i a0 b0 _ _ e;cases e;split at i
  ·rename_i X tb V e2;cases i;have l:X.wp C (gL C (tb.wp C) K) F H:=L;refine wpIn_seq (wB (ro:=none) (fu:=fu) (ds:=[]) A u x X (gL C (tb.wp C) K) _ E F H a w V l hA hW W λe O R H' S U g1 g2 g3 g4=>?_);cases e with
   |normal=>exact α tb K Q O R H' S U e2 g4 g1 g2 (g3.env.num.trans W) (J.after g3)
   |exit id=>exact J.plain (.exit id) O R H' S U g1 g2 g3 g4
   |ret=>exact J.plain .ret O R H' S U g1 g2 g3 g4
  cases i;cases i
 |_=>intro t K Q E F H a w i;simp[Tbl.tail]at i
end
structure GR where
 nparams:Nat
 ntmps:Nat
 body:sM
 res:List dX
namespace Tbl
variable (T:Tbl)
def zu(fn:Func):Option GR:=
 match fn.body with
 |some c=>match T.tail fn.ntmps c,T.t6 fn.results.toList with
  |some b,some rs=>some ⟨fn.params.size,fn.ntmps,b,rs⟩
  |_,_=>none
 |none=>none
end Tbl
theorem Ly{T:Tbl}{H:PH}(L:C.P=T.P)(K:C.num=T.num){name:Nat}{args:V_}{R:R_}{fn:Func}{pf:GR}(hf:C.P.funcs[C.num name]?=some fn)(δ:(fn.name=="runtime.NumGoroutine")=false)
  (l:T.zu fn=some pf) (S:Z' args<=pf.ntmps) (h:pf.body.wp C (aV pf.res R) (g_ args) H):aH C name args H R:=by
 unfold Tbl.zu at l;split at l;rename_i c hb;split at l
 ·rename_i b rs A F;cases l;refine⟨⟨fn,hf,by simp[hb],δ⟩,λE w vs hN hW W=>?_⟩;have η:vs.size=Z' args:=by simpa using W.len
  refine(callsIn_wide (n:=0)).1 (callsIn_of_wp_marks hf hb trivial ?_ rfl);rw[L];have hA:eX [] fn.ntmps E (g_ args) { tmps:=vs++auW (fn.ntmps-vs.size) undef,defers:=[] }:=by
   refine⟨by simp only at S;simp;omega,rfl,λi pv hi=>?_⟩;have B:i<vs.size:=by
    rw[η];rcases atY i args.length with h'|h'
    exact h';simp[g_,auE h']at hi
   simp only[axD];rw[Array.getElem?_append_left B,awR B];exact W.at_ i pv _ hi (by simp[B])
  refine Ol (fu:=0) L K c b (aV rs R) _ E (g_ args) H _ w A h hA hW (hN.trans K) λds β e u F' H' Y y J M x hm hK=>?_;have fin:∀Z,bZ u H' Z->Ext E H w u H' Z->aV rs R .ret F' H'->LeavesIn Fence.wide 0 T.P fn Y.tmps (λe y=>∃v pv u H',e=.returned v/\bZ u H' y/\bG u pv v/\Ext E H w u H' y/\R pv H') [] .returning Z:=by
   rintro Z N α ⟨θ,U,F1,H1,H2,γ,O,v0,ζ,hR⟩;obtain⟨us,g1,g2⟩:=QS J N fn.results.toList rs θ F U;have ε:=oc g2;obtain⟨E2,k1,k2,k3⟩:=γ.sound N;have V:=k3 (λ_=>if h:us.toArray.size=1 then us.toArray[0]else .tuple us.toArray) (λi pv hi=>by simp only[PF.set,upd]at hi;split at hi;cases hi;exact ε;cases hi) 0 v0 ζ
   refine⟨_,?_,_,v0,E2,H2,rfl,k1.weaken O,V,(α.trans k2).drop O,hR⟩;rw[ov,Array.mapM_eq_mapM_toList];simp[g1]
  have X:aV rs R .ret F' H'->bodyPostM Fence.wide 0 T.P fn (λe y=>∃v pv u H',e=.returned v/\bZ u H' y/\bG u pv v/\Ext E H w u H' y/\R pv H') .ret Y y:=by
   intro hr;show LeavesInM Fence.wide 0 T.P fn Y.tmps _ Y.defers .returning y;rw[J.defers];rcases β with rfl|⟨D,rfl⟩
   exact fin y M x hr;obtain⟨m1,m2,m3⟩:=hm D rfl;refine⟨(λh=>by cases h),.inl ⟨D,_,rfl,run_takeDeferred m1,?_⟩⟩;refine fin _ (M.putObj m1 (λ_ _ _ h=>by cases h) m2) ⟨x.env,x.os,x.tape,x.output,?_,λb hb hn=>?_,x.new,x.newG⟩ hr;rw[World.putObj_size];exact x.size;rw[World.putObj_heap_other Om];exact x.block b hb hn
  cases e with
  |normal=>exact X hK
  |exit id=>exact hK.elim
  |ret=>exact X hK
 cases l;cases l
end Go.PM
namespace Go.PM
open Go
def YD(C:Ctx)(k:Nat)(pf:GR):Prop:=∀(args:V_)(H:PH)(R:R_),Z' args<=pf.ntmps->pf.body.wp C (aV pf.res R) (g_ args) H->aH C k args H R
variable{C:Ctx}
theorem YD.go{k:Nat}{pf:GR}(r:YD C k pf){args:V_}{H:PH}{R:R_}(h:pf.body.wp C (aV pf.res R) (g_ args) H)(e:Nat.ble args.length pf.ntmps=true):aH C k args H R:=r args H R (Nat.le_of_ble_eq_true e) h
open Go Go.Na
structure dR where
 src:Nat
 dst:Nat
 cap:Nat
abbrev dR.cells(a:dR):V_:=[.int .i64 a.src,.int .i64 a.dst,.int .i64 a.cap,.int .i64 0]
abbrev anP(l:List dR):PV:=.sl 4 (l.map dR.cells)
structure dL where
 nodes:Nat
 source:Nat
 sink:Nat
 arcs:List dR
abbrev dL.cells(n:dL):V_:=[.int .i64 n.nodes,.int .i64 n.source,.int .i64 n.sink,anP n.arcs]
structure lH(n:dL):Prop where
 two:2<=n.nodes
 few:n.nodes<=700
 num:Z' n.arcs<=2500
 source:n.source<n.nodes
 sink:n.sink<n.nodes
 apart:n.source≠n.sink
 ends:∀a∈n.arcs,a.src<n.nodes/\a.dst<n.nodes/\a.cap<=2147483647
def oM:List dR->N_->Nat->Int
 |a::l,x::xs,v=>(if a.src=v then(x:Int)else 0)-(if a.dst=v then(x:Int)else 0)+oM l xs v
 |_,_,_=>0
def AG(S:Nat->Bool):List dR->N_->Int
 |a::l,x::xs=>(if S a.src=true/\S a.dst=false then(x:Int)else 0)-(if S a.src=false/\S a.dst=true then(x:Int)else 0)+AG S l xs
 |_,_=>0
def sG(S:Nat->Bool)(g:Nat->Int):Nat->Int
 |0=>0
 |n+1=>sG S g n+if S n=true then g n else 0
theorem jh(S:Nat->Bool)(g h:Nat->Int):∀n,sG S (λv=>g v+h v) n=sG S g n+sG S h n
 |0=>rfl
 |n+1=>by rw[sG,sG,sG,jh S g h n];split<;>omega
theorem FK{S:Nat->Bool}{g h:Nat->Int}:∀{n:Nat},(∀v,v<n->S v=true->g v=h v)->sG S g n=sG S h n
 |0,_=>rfl
 |n+1,e=>by rw[sG,sG,FK (n:=n) λv i=>e v Om];split;rename_i c;rw[e n Om c];rfl
theorem JV(S:Nat->Bool):∀n,sG S (λ_=>0) n=0
 |0=>rfl
 |n+1=>by rw[sG,JV S n];split<;>rfl
theorem RL(S:Nat->Bool)(a:Nat)(x:Int):∀{n:Nat},a<n->sG S (λv=>if a=v then x else 0) n=if S a=true then x else 0
 |0,h=>by omega
 |n+1,h=>by rw[sG];by_cases e:a=n;subst e;rw[FK (h:=λ_=>0) (n:=a) λv i _=>by rw[aC Om],JV,aF rfl];omega;rw[RL S a x (n:=n) Om,aC e];split<;>split<;>omega
theorem Kf(S:Nat->Bool){N:Nat}:∀{l:List dR}{xs:N_},(∀a∈l,a.src<N/\a.dst<N)->sG S (oM l xs) N=AG S l xs
 |[],_,_=>JV S N
 |_::_,[],_=>JV S N
 |a::l,x::xs,h=>by
  obtain⟨i,u⟩:=h a aZ;have w:=Kf S (l:=l) (xs:=xs) λb hb=>h b (awN _ hb);have e:sG S (oM (a::l) (x::xs)) N=sG S (λv=>if a.src=v then(x:Int)else 0) N+(sG S (λv=>if a.dst=v then -(x:Int)else 0) N+sG S (oM l xs) N):=by rw[<-jh,<-jh];refine FK λv _ _=>?_;rw[oM];split<;>split<;>omega
  rw[e,RL S _ _ i,RL S _ _ u,w,AG];cases S a.src<;>cases S a.dst<;>simp<;>omega
structure mJ(n:dL)(xs:N_):Prop where
 len:Z' xs=Z' n.arcs
 le:∀(i:Nat) a x,n.arcs[i]?=some a->xs[i]?=some x->x<=a.cap
 node:∀v,v<n.nodes->v≠n.source->v≠n.sink->oM n.arcs xs v=0
def vN(n:dL)(xs:N_):Int:=oM n.arcs xs n.source
def mD(S:Nat->Bool):List dR->Nat
 |[]=>0
 |a::l=>(if S a.src=true/\S a.dst=false then a.cap else 0)+mD S l
theorem mJ.cut{n:dL}(i:lH n){xs:N_}(h:mJ n xs){S:Nat->Bool}(w:S n.source=true)(x:S n.sink=false):AG S n.arcs xs=vN n xs:=by
 rw[<-Kf S (N:=n.nodes) λa l=>⟨(i.ends a l).1,(i.ends a l).2.1⟩];rw[FK (h:=λv=>if n.source=v then vN n xs else 0) λv y u=>?_,RL S _ _ i.source,aF w];by_cases e:n.source=v;subst e;rw[aF rfl];rfl;rw[aC e];exact h.node v y (λc=>e c.symm) λc=>by rw[c,x]at u;cases u
theorem J2(S:Nat->Bool):∀{l:List dR}{xs:N_},(∀(i:Nat) a x,l[i]?=some a->xs[i]?=some x->x<=a.cap)->AG S l xs<=mD S l
 |[],_,_=>by simp[AG,mD]
 |_::_,[],_=>by simp[AG]
 |a::l,x::xs,h=>by have u:=h 0 a x rfl rfl;have w:=J2 S (l:=l) (xs:=xs) λi b y hb e=>h (i+1) b y (by simpa using hb) (by simpa using e);rw[AG,mD];split<;>split<;>omega
theorem mJ.ahC{n:dL}(l:lH n){xs:N_}(h:mJ n xs){S:Nat->Bool}(e:S n.source=true)(i:S n.sink=false):vN n xs<=mD S n.arcs:=by
 rw[<-h.cut l e i];exact J2 S h.le
theorem J1(S:Nat->Bool):∀{l:List dR}{xs:N_},Z' xs=Z' l->(∀(i:Nat) a x,l[i]?=some a->xs[i]?=some x->(S a.src=true->S a.dst=false->x=a.cap)/\(S a.src=false->S a.dst=true->x=0))->AG S l xs=mD S l
 |[],_,_,_=>by simp[AG,mD]
 |_::_,[],h,_=>by simp at h
 |a::l,x::xs,A,h=>by have e:=h 0 a x rfl rfl;have D:=J1 S (l:=l) (xs:=xs) (by simpa using A) λi b y hb B=>h (i+1) b y (by simpa using hb) (by simpa using B);rw[AG,mD,D];cases w:S a.src<;>cases u:S a.dst;simp;have:=e.2 w u;simp;omega;have:=e.1 w u;simp;omega;simp
theorem mJ.full{n:dL}(w:lH n){xs:N_}(h:mJ n xs){S:Nat->Bool}(e:S n.source=true)(l:S n.sink=false)
  (u:∀(i:Nat) a x,n.arcs[i]?=some a->xs[i]?=some x->(S a.src=true->S a.dst=false->x=a.cap)/\(S a.src=false->S a.dst=true->x=0)):vN n xs=mD S n.arcs:=by
 rw[<-h.cut w e l];exact J1 S h.len u
theorem Jw:∀{l:List dR}{xs:N_}{i:Nat}{a:dR}{x:Nat}(y:Nat),l[i]?=some a->xs[i]?=some x->∀v,oM l (xs.set i y) v=oM l xs v+(if a.src=v then(y:Int)-x else 0)-(if a.dst=v then(y:Int)-x else 0)
 |[],_,_,_,_,_,h,_,_=>by simp at h
 |_::_,[],_,_,_,_,_,h,_=>by simp at h
 |b::l,z::xs,0,a,x,y,e,u,v=>by simp only[List.getElem?_cons_zero,auY.injEq]at e u;subst e;subst u;rw[avR,oM,oM];split<;>split<;>omega
 |b::l,z::xs,i+1,a,x,y,e,u,v=>by rw[List.set_cons_succ,oM,oM,Jw (l:=l) (xs:=xs) y (by simpa using e) (by simpa using u) v];omega
theorem Ea(l:List dR):∀(n:Nat)(v:Nat),oM l (asT n 0) v=0:=by
 induction l with
 |nil=>intro n v;cases n<;>rfl
 |cons a l e=>
  intro n v;cases n with
  |zero=>rfl
  |succ n =>rw[List.replicate_succ,oM,e];split<;>split<;>rfl
theorem Q2(n:dL):mJ n (asT n.arcs.length 0)/\vN n (asT n.arcs.length 0)=0:=by
 refine⟨⟨by simp,λi a x _ e=>?_,λv _ _ _=>Ea _ _ _⟩,Ea _ _ _⟩;have:=auZ e;rw[List.eq_of_mem_replicate this];exact asQ _
theorem kE{f:aB}(h:VF f){i:Nat}(hi:i<Z' f.arE):0<=lvl f i/\lvl f i<=4:=by
 rcases avB i with e|e
 rw[e,h.root.2.1];omega;have:=h.dom i e hi;omega
def dQ(n:Nat):Nat->Nat->List N_
 |0,_=>[[]]
 |k+1,a=>(auX a (n-k-a)).flatMap λi=>(dQ n k (i+1)).map (i::·)
def rL(n:Nat):N_->Option N_
 |[]=>none
 |x::t=>match rL n t with
  |some u=>some (x::u)
  |none=>if x+1+Z' t=n then none else some (auX (x+1) (Z' t+1))
theorem wm{n:Nat}:∀{s u:N_},rL n s=some u->Z' u=Z' s
 |[],_,h=>by cases h
 |x::t,u,h=>by rw[rL]at h;split at h;rename_i v e;cases h;simp[wm e];split at h;cases h;cases h;simp
inductive sN (n:Nat):N_->List N_->Prop
 |last {s:N_} (h:rL n s=none):sN n s [s]
 |step {s t:N_} {l:List N_} (h:rL n s=some t) (w:sN n t l):sN n s (s::l)
theorem sN.map{n x k:Nat}{rest:List N_}(u:(x+1+k=n/\rest=[])\/(x+1+k≠n/\sN n (auX (x+1) (k+1)) rest)){t:N_}{l:List N_}(w:sN n t l)(e:Z' t=k):sN n (x::t) (l.map (x::·)++rest):=by
 induction w with
 |@last s h=>
  rcases u with⟨i,rfl⟩|⟨i,h2⟩
  exact .last (by rw[rL,h];simp only;rw[aF (by rw[e];exact i)]);exact .step (by rw[rL,h];simp only;rw[aC (by rw[e];exact i),e]) h2
 |@step s t l h _ y=>exact .step (by rw[rL,h]) (y (by rw[wm h,e]))
theorem XP(n:Nat):∀(k a:Nat),a+k<=n->sN n (auX a k) (dQ n k a)
 |0,a,_=>.last rfl
 |k+1,a,h=>by
  rw[dQ];obtain⟨m,i⟩:∃m,n-k-a=m+1:=⟨n-k-a-1,by omega⟩;rw[i];clear h
  induction m generalizing a with
  |zero =>have:=sN.map (n:=n) (x:=a) (k:=k) (rest:=[]) (.inl ⟨by omega,rfl⟩) (XP n k (a+1) Om) List.length_range';rw[List.range'_succ (n:=0),List.flatMap_cons];exact this
  |succ m l =>rw[List.range'_succ (n:=m+1),List.flatMap_cons];have e:=l (a+1) Om;exact sN.map (.inr ⟨by omega,e⟩) (XP n k (a+1) Om) List.length_range'
theorem QD{n:Nat}:∀{s:N_},(∀i (h:i<Z' s),s[i]+Z' s=n+i)->rL n s=none
 |[],_=>rfl
 |x::t,h=>by rw[rL,QD (s:=t) λi hi=>by have:=h (i+1) (by simpa using hi);simp only[axH,atZ]at this;omega];have e:=h 0 aZ;simp only[axF,atZ]at e;simp only;rw[aF Om]
theorem Ec{n:Nat}:∀{s:N_}(i:Nat)(hi:i<Z' s),(∀j (h:j<Z' s),i<j->s[j]+Z' s=n+j)->s[i]+Z' s≠n+i->rL n s=some (s.take i++auX (s[i]+1) (Z' s-i))
 |[],i,hi,_,_=>by cases hi
 |x::t,0,_,h,e=>by rw[rL,QD (s:=t) λi hi=>by have:=h (i+1) (by simpa using hi) Om;simp only[axH,atZ]at this;omega];simp only[axF,atZ]at e ⊢;rw[aC Om];rfl
 |x::t,i+1,hi,h,e=>by
  have l:i<Z' t:=by simpa using hi
  simp only[axH,atZ]at e;rw[rL,Ec (s:=t) i l (λj w u=>by have:=h (j+1) (by simpa using w) Om;simp only[axH,atZ]at this;omega) Om];simp only[axH,atZ,List.take_succ_cons,awD];rw[show t.length+1-(i+1)=Z' t-i by omega]
theorem tF(n:Nat):∀(k a:Nat),∀s∈dQ n k a,Z' s=k/\(∀x∈s,a<=x/\x<n)/\s.Pairwise (· < ·)
 |0,a,s,h=>by rw[dQ,auB]at h;subst h;exact⟨rfl,(λx hx=>by cases hx),.nil⟩
 |k+1,a,s,h=>by
  rw[dQ,List.mem_flatMap]at h;obtain⟨i,hi,h⟩:=h;rw[atM]at h;obtain⟨t,w,rfl⟩:=h;rw[List.mem_range'_1]at hi;obtain⟨l,e,u⟩:=tF n k (i+1) t w;refine⟨by simp[l],λx hx=>?_,List.pairwise_cons.2 ⟨λy A=>by have:=(e y A).1;omega,u⟩⟩;rcases atG.1 hx with rfl|hx
  omega;have:=e x hx;omega
theorem tG(n:Nat):∀(k a:Nat),(dQ n k a).length<=2^(n-a)
 |0,a=>by rw[dQ];exact Nat.one_le_two_pow
 |k+1,a=>by
  rw[dQ];have e:∀(m a:Nat),m+a<=n->((auX a m).flatMap λi=>(dQ n k (i+1)).map (i::·)).length+2^(n-a-m)<=2^(n-a):=by
   intro m
   induction m with
   |zero=>intro a _;simp
   |succ m l=>
    intro a h;rw[List.range'_succ,List.flatMap_cons,asX,asO];have u:=tG n k (a+1);have w:=l (a+1) Om;rw[show n-a-(m+1)=n-(a+1)-m by omega];have x:2^(n-a)=2^(n-(a+1))+2^(n-(a+1)):=by rw[show n-a=(n-(a+1))+1 by omega,awL];omega
    omega
  rcases atY n a with h|h
  rw[show n-k-a=0 by omega];simp;exact atT (Nat.le_add_right _ _) (e (n-k-a) a Om)
def jI(f:aB)(p:bX)(set:I_):Bool:=(asP f.arE.length).all λi=>!(decide (dU f p i>0)&&decide (fO f set i>dU f p i))
def pF(f:aB)(p:bX)(d:Int):Bool:=p.arC.contains ((mdl f d.toNat:Nat):Int)
def mX(f:aB)(p:bX)(set:I_):Bool:=set.all (pF f p)&&jI f p set
def kh(set:I_)(top:Int)(i:Nat):Bool:=(decide (0<=set.getD i 0)&&decide (set.getD i 0<top))&&(decide (i=0)||decide (set.getD (i-1) 0<set.getD i 0))
def Bx(set:I_)(n top:Int):Bool:=decide ((Z' set:Int)=n)&&(asP set.length).all (kh set top)
def mF(f:aB)(arO:Int):bX:=f.arF.getD arO.toNat ny
def gR(p:bX):Int:=p.k+p.m
def mZ(f:aB)(arO:Int):Bool:=cI f&&(decide (0<=arO)&&decide (arO<Z' f.arF))
def cA(s:N_):I_:=s.map λ(x:Nat)=>(x:Int)
def gQ(f:aB)(p:bX):L2_:=((dQ f.arB.length (gR p).toNat 0).map cA).filter (mX f p)
def jF(f:aB)(level:Int):L2_:=
 if level=5 then(asP f.arB.length).map λ(d:Nat)=>[(d:Int)]
 else((asP f.arE.length).filter λi=>decide (lvl f i=level)).map λi=>cA ((asP f.arB.length).filter λd=>decide (dC f d level=i))
def eK(m:Int):Nat->Int
 |0=>1
 |i+1=>Int.tdiv (eK m i*(m-i)) (i+1)
def oI(u:L2_)(s:N_)(d:Nat):Bool:=s.any λi=>(u.getD i []).contains (d:Int)
def FI(f:aB)(u:L2_)(count:Nat):L2_:=(dQ u.length count 0).map λs=>cA ((asP f.arB.length).filter (oI u s))
def lJ(s set:I_):Nat:=set.countP λd=>s.contains d
def eO(sc:L2_)(set:I_)(m:Int):Nat:=sc.countP λs=>decide (((lJ s set:Nat):Int)>m)
theorem TR:∀{s t:I_},s.Nodup->t.Nodup->lJ s t=lJ t s
 |[],t,_,_=>by simp[lJ]
 |d::s,t,w,y=>by
  obtain⟨D,E⟩:=List.nodup_cons.1 w;have l:=TR E y;unfold lJ at l ⊢;rw[List.countP_cons,<-l];clear l w
  induction t with
  |nil=>simp
  |cons x t u=>
   obtain⟨F,J⟩:=List.nodup_cons.1 y;have:=u J;rw[List.countP_cons,List.countP_cons,this];by_cases e:x=d;subst e;have i:(x::s).contains x=true:=by simp
   have e2:s.contains x=false:=by simpa using D
   have A:t.contains x=false:=by simpa using F
   have B:(x::t).contains x=true:=by simp
   simp only[i,e2,A,B];have i:(d::s).contains x=s.contains x:=by simp[e]
   have e2:(x::t).contains d=t.contains d:=by have:¬d=x:=λh=>e h.symm;simp[this]
   rw[i,e2];omega
def fT(set:I_)(d:Int):Nat:=(set.takeWhile λx=>decide (x<d)).length
theorem ue(set:I_)(d:Int):fT set d<=Z' set:=(List.takeWhile_prefix _).length_le
theorem QZ(set:I_)(d:Int){i:Nat}(h:i<fT set d):set[i]'(Nat.lt_of_lt_of_le h (ue set d))<d:=by
 have hp:=List.takeWhile_prefix (p:=λx=>decide (x<d)) (l:=set);have u:(set.takeWhile λx=>decide (x<d))[i]∈set.takeWhile λx=>decide (x<d):=asS h;have w:=List.all_takeWhile (p:=λx=>decide (x<d)) (l:=set);have e:=atI.1 w _ u;rw[hp.getElem h]at e;exact of_decide_eq_true e
theorem Kd(set:I_)(d:Int)(h:fT set d<Z' set):¬set[fT set d]<d:=by
 induction set with
 |nil=>simp at h
 |cons x t i=>
  by_cases c:x<d;have e:fT (x::t) d=fT t d+1:=by simp[fT,List.takeWhile_cons,c]
  simp only[e,axH];exact i (by rw[e]at h;simpa using h);have e:fT (x::t) d=0:=by simp[fT,List.takeWhile_cons,c]
  simp only[e,axF];exact c
theorem Yn{set:I_}(w:set.Pairwise (· < ·))(d:Int):set.contains d=(decide (fT set d<Z' set)&&decide (set.getD (fT set d) 0=d)):=by
 by_cases h:fT set d<Z' set;have x:=Kd set d h;rw[aW h,atJ,asW,asZ h,auV];by_cases e:set[fT set d]=d;rw[aW e];simp only[avX];exact e ▸ asS h;rw[bD e];simp only[Bool.eq_false_iff,ne_eq,avX];intro u;obtain⟨i,hi,l⟩:=auG u;rcases Nat.lt_trichotomy i (fT set d)with c|c|c
 have:=QZ set d c;omega;subst c;exact e l;have:=List.pairwise_iff_getElem.1 w _ _ h hi c;omega;rw[bD h,atE];simp only[Bool.eq_false_iff,ne_eq,avX];intro u;obtain⟨i,hi,l⟩:=auG u;have:=QZ set d (i:=i) Om;omega
theorem Te(set:I_){d e:Int}(h:d<=e):fT set d<=fT set e:=by
 induction set with
 |nil=>simp[fT]
 |cons x t l =>by_cases c:x<d;have i:x<e:=Om;simp only[fT,List.takeWhile_cons,c,i,decide_true,if_true,atZ]at l ⊢;omega;simp[fT,List.takeWhile_cons,c]
theorem YO(a b:Nat):mkT (a:Int) (b:Int)=⟨false,aT (a/asR a b),aT (b/asR a b)⟩:=by
 have e:decide ((a:Int)<0)=false:=bD Om;have i:decide ((b:Int)<0)=false:=bD Om;unfold mkT rE FV.rf;rw[e,i,Int.natAbs_natCast,Int.natAbs_natCast];rfl
structure SmF(x:RF)(p q:Nat):Prop where
 eq:x=⟨false,aT (p/asR p q),aT (q/asR p q)⟩
 a:p<=8
 b:q<=8
 pos:0<q
 c:p<=6\/q=8
theorem SmF.mk'{a b:Nat}(e:a<=8)(hb:b<=8)(h:0<b)(i:a<=6\/b=8):SmF (mkT (a:Int) (b:Int)) a b:=⟨YO a b,e,hb,h,i⟩
theorem SmF.num{x:RF}{a b:Nat}(h:SmF x a b):val x.num=a/asR a b:=by rw[h.eq,cC]
theorem SmF.den{x:RF}{a b:Nat}(h:SmF x a b):val x.den=b/asR a b:=by rw[h.eq,cC]
theorem SmF.v{x:RF}{a b:Nat}(h:SmF x a b):x.v=(false,a/asR a b,b/asR a b):=by
 unfold RF.v;rw[h.num,h.den,h.eq]
theorem SmF.R5{x:RF}{a b:Nat}(_:SmF x a b):a/asR a b<=a:=avI ..
theorem SmF.Qj{x:RF}{a b:Nat}(_:SmF x a b):b/asR a b<=b:=avI ..
theorem SmF.den_pos{x:RF}{a b:Nat}(h:SmF x a b):0<b/asR a b:=Nat.div_pos (Nat.le_of_dvd h.pos (Nat.gcd_dvd_right a b)) (Nat.gcd_pos_of_pos_right a h.pos)
theorem FY{n:Nat}(h:n<=4096):fM n<=32:=(tZ n 32).2 Om
theorem Gw{n:Nat}(h:0<n):0<fM n:=by
 rcases avB (fM n)with e|e
 rw[uV]at e;omega;exact e
theorem AW{a b:Nat}(i:a<=4096)(hb:b<=4096)(h:0<b):fZ a b=true:=by
 have l:=FY i;have u:=FY hb;have e:=Gw h;unfold fZ;rw[aW e,aW (Om:fM b<=4096),aW (Om:fM a<=4096)];rfl
theorem Jn{n:Bool}{a b:Nat}(e:a<=4096)(hb:b<=4096):rD n a b=.ok (n&&decide (a/asR a b≠0),a/asR a b,b/asR a b):=by
 have i:=FY (atT (avI a (asR a b)) e);have l:=FY (atT (avI b (asR a b)) hb);unfold rD;rw[aC Om]
theorem SmF.lim{x:RF}{a b:Nat}(h:SmF x a b):dS x=true:=by
 have u:=h.R5;have w:=h.Qj;have e:=h.den_pos;have:=h.a;have:=h.b;have i:x.neg=false:=by rw[h.eq]
 unfold dS DY;rw[h.num,h.den,i,AW Om Om e,aF rfl,Jn Om Om];have l:=avI (a/asR a b) (asR (a/asR a b) (b/asR a b));have e2:=avI (b/asR a b) (asR (a/asR a b) (b/asR a b));simp only[atE,atH,atJ,asV,dT_];exact⟨FY Om,FY Om⟩
theorem SmF.vX{x:RF}{a b:Nat}(h:SmF x a b)(e:0<a):bY x=true:=by
 unfold bY;rw[h.num];exact aW (Nat.ne_of_gt (Nat.div_pos (Nat.le_of_dvd e (Nat.gcd_dvd_left a b)) (Nat.gcd_pos_of_pos_right a h.pos)))
theorem SmF.zero{x:RF}{b:Nat}(h:SmF x 0 b):bY x=false:=by
 unfold bY;rw[h.num,Nat.zero_div];rfl
theorem SmF.one{x:RF}{a b:Nat}(h:SmF x a b)(e:a<=b):HV x=true:=by
 have u:=h.R5;have w:=h.Qj;have i:=h.den_pos;have:=h.a;have:=h.b;have l:x.neg=false:=by rw[h.eq]
 unfold HV;rw[h.num,h.den,l,AW Om Om i];have:a/asR a b<=b/asR a b:=Nat.div_le_div_right e;show(true&&decide (jA (a/asR a b*1) (1*(b/asR a b))<=0))=true;rw[Nat.mul_one,Nat.one_mul,atJ];refine aW ?_;unfold jA;split;decide;split;omega;decide
theorem SmF.ok{x:RF}{a b:Nat}(h:SmF x a b):FOk x:=by
 rw[h.eq];exact fok h.a h.b h.pos h.c
theorem abL:∀c:Fin 9,∀k:Fin 9,c.val+k.val<=8 ->
  (c.val/asR c.val 8*(8/asR k.val 8)+k.val/asR k.val 8*(8/asR c.val 8))/asR (c.val/asR c.val 8*(8/asR k.val 8)+k.val/asR k.val 8*(8/asR c.val 8)) (8/asR c.val 8*(8/asR k.val 8))=(c.val+k.val)/asR (c.val+k.val) 8 /\
  8/asR c.val 8*(8/asR k.val 8)/asR (c.val/asR c.val 8*(8/asR k.val 8)+k.val/asR k.val 8*(8/asR c.val 8)) (8/asR c.val 8*(8/asR k.val 8))=8/asR (c.val+k.val) 8:=by decide +kernel
abbrev eV(c:Nat):FV:=(false,c/asR c 8,8/asR c 8)
theorem KO(c:Nat):0<8/asR c 8:=Nat.div_pos (Nat.le_of_dvd aR (Nat.gcd_dvd_right c 8)) (Nat.gcd_pos_of_pos_right c aR)
theorem Bq{c k:Nat}(h:c+k<=8):oH (eV c) (eV k)=.ok (eV (c+k)):=by
 obtain⟨e,e2⟩:=abL ⟨c,by omega⟩ ⟨k,by omega⟩ h;simp only at e e2;have a1:=avI c (asR c 8);have a2:=avI k (asR k 8);have a3:=avI 8 (asR c 8);have a4:=avI 8 (asR k 8);have i:=KO c;have l:=KO k;simp only[oH];rw[AW Om Om i,AW Om Om l,avW,aF rfl,aF trivial];have b1:c/asR c 8*(8/asR k 8)<=8*8:=awV Om a4;have b2:k/asR k 8*(8/asR c 8)<=8*8:=awV Om a3;have u:8/asR c 8*(8/asR k 8)<=8*8:=awV a3 a4;rw[Jn Om Om,e,e2];rfl
theorem WR:∀(l:N_)(c:Nat),c+l.sum<=8->(l.map eV).foldlM oH (eV c)=.ok (eV (c+l.sum))
 |[],c,_=>rfl
 |k::l,c,h=>by rw[List.sum_cons]at h;rw[atU,List.foldlM_cons,Bq Om,List.sum_cons,<-avZ];exact WR l (c+k) Om
theorem abK:eV 0=(false,0,1):=by decide +kernel
theorem Vv:eV 8=(false,1,1):=by decide +kernel
theorem aeN(l:N_)(h:l.sum=8):(match AR (l.map eV)with
  | .ok (n,a,b)=>decide (DU n a b false 1 1=0)
  | .error _=>false)=true:=by
 unfold AR;rw[<-abK,WR l 0 Om,atA,h,Vv];rfl
def dig(k:Nat):List UInt8:=if k<10 then[UInt8.ofNat (48+k)]else[UInt8.ofNat (48+k/10),UInt8.ofNat (48+k%10)]
def ZD:List UInt8->Nat
 |[a]=>a.toNat-48
 |[a,b]=>(a.toNat-48)*10+(b.toNat-48)
 |_=>0
theorem UT{k:Nat}(h:k<100):cT k=dig k:=by
 unfold cT dig;by_cases e:k<10;rw[aF e];exact Lib.decDigits_one e;rw[aC e];exact Lib.decDigits_two e h
theorem Cc:∀k:Fin 100,ZD (dig k.val)=k.val/\(dig k.val).length<=2/\((dig k.val).all λc=>iS c.toNat)=true:=by decide +kernel
theorem tr{p:List UInt8}{c:UInt8}{t:List UInt8}(e:p=c::t)(l:gV c.toNat=true)(x:(t.all λc=>iS c.toNat)=true)(y:Z' p<=8){k:Nat}(u:k<100):isName (p++cT k)=true:=by
 obtain⟨-,w,i⟩:=Cc ⟨k,u⟩;simp only at w i;subst e;rw[UT u];show(decide ((c::t++dig k).length<=16)&&gV c.toNat&&(c::t++dig k).all λc=>iS c.toNat)=true;have hi:iS c.toNat=true:=by unfold iS;rw[l];rfl
 rw[aW (by rw[asX];omega),l,awG,i,awS,x,hi];rfl
theorem ZU{l:List (List UInt8)}(u:∀x∈l,isName x=true)(w:l.Nodup):distinct l=true:=by
 unfold distinct;rw[atI];intro i hi;rw[atQ]at hi;have e:l.getD i []=l[i]:=by simp[asW,hi]
 rw[e,u _ (asS hi),atJ];have:¬l[i]∈l.take i:=by intro A;obtain⟨j,y,e⟩:=auG A;rw[atF]at y;rw[List.getElem_take]at e;have:=(List.nodup_iff_pairwise_ne.1 w);rw[List.pairwise_iff_getElem]at this;exact this j i Om hi Om e
 simp[this]
theorem VK{l:List (List UInt8)}{g:List UInt8->Nat}(h:∀i (hi:i<Z' l),g l[i]=i):l.Nodup:=by
 rw[List.nodup_iff_pairwise_ne,List.pairwise_iff_getElem];intro i j hi w hlt e;have u:=h i hi;have x:=h j w;rw[e]at u;omega
theorem zR{l:List (List UInt8)}{p:List UInt8}{c:UInt8}{t:List UInt8}(e:p=c::t)(u:gV c.toNat=true)(y:(t.all λc=>iS c.toNat)=true)(w:Z' p<=8)(B:Z' l<=100)(h:∀i (hi:i<Z' l),l[i]=p++cT i):distinct l=true:=by
 refine ZU ?_ (VK (g:=λs=>ZD (s.drop p.length)) ?_);intro x A;obtain⟨i,hi,rfl⟩:=auG A;rw[h i hi];exact tr e u y w Om;intro i hi;rw[h i hi];simp only[List.drop_left];rw[UT Om];exact(Cc ⟨i,by omega⟩).1
structure zF(x:RF):Prop where
 lim:dS x=true
 ok:FOk x
theorem SmF.o{x:RF}{a b:Nat}(h:SmF x a b):zF x:=⟨h.lim,h.ok⟩
theorem vP:SmF mI 0 1:=SmF.mk' (a:=0) (b:=1) aR aR aR aR
theorem xY(l:N_)(a:Nat):zF (iJ l a).1/\bY (iJ l a).1=true:=by
 have e:=cM l (show 0<6 by decide) a;have i:=cM l (show 0<8 by decide) (aI l 6 a).2;have:=SmF.mk' (a:=1+(aI l 6 a).1) (b:=1+(aI l 8 (aI l 6 a).2).1) Om Om Om Om;exact⟨this.o,this.vX Om⟩
theorem U9(l:N_)(i j a:Nat):zF (kW l i j a).1/\(j=i->bY (kW l i j a).1=false)/\(j=i+1->bY (kW l i j a).1=true):=by
 unfold kW;by_cases e:j=i+1;rw[aF e];exact⟨(xY l a).1,λh=>by omega,λ_=>(xY l a).2⟩;rw[aC e];by_cases u:j=i;rw[aF u];exact⟨vP.o,λ_=>vP.zero,λh=>absurd h e⟩;rw[aC u];simp only;split;exact⟨(xY l _).1,λh=>absurd h u,λh=>absurd h e⟩;exact⟨vP.o,λh=>absurd h u,λh=>absurd h e⟩
theorem J9(l:N_)(i a:Nat):∀n,(fE l i a n).1.length=n/\∀j (u:j<(fE l i a n).1.length),zF (fE l i a n).1[j]/\(j=i->bY (fE l i a n).1[j]=false)/\(j=i+1->bY (fE l i a n).1[j]=true)
 |0=>⟨rfl,λj u=>absurd u (by simp[fE])⟩
 |n+1=>by obtain⟨w,x⟩:=J9 l i a n;have e:(fE l i a (n+1)).1=(fE l i a n).1++[(kW l i n (fE l i a n).2).1]:=rfl;rw[e];refine⟨by simp[w],λj u=>?_⟩;by_cases hlt:j<(fE l i a n).1.length;rw[List.getElem_append_left hlt];exact x j hlt;rw[asX,atD]at u;have:j=n:=Om;subst this;rw[List.getElem_append_right Om];simp only[List.getElem_singleton];exact U9 l i j _
theorem J7(l:N_)(a:Nat):∀n,(nE l a n).1.length=n/\∀x∈(nE l a n).1,zF x/\bY x=true
 |0=>⟨rfl,λx i=>by cases i⟩
 |n+1=>by
  obtain⟨u,w⟩:=J7 l a n;have e:(nE l a (n+1)).1=(nE l a n).1++[(iJ l (nE l a n).2).1]:=rfl;rw[e];refine⟨by simp[u],λx i=>?_⟩;rw[auC,auB]at i;rcases i with i|rfl
  exact w x i;exact xY l _
theorem V0(l:N_)(n i a:Nat):zF (gY l n i a).1/\(i+1=n->bY (gY l n i a).1=true):=by
 unfold gY;by_cases h:i+1<n;simp only[aF h];refine⟨?_,λe=>by omega⟩;split;exact vP.o;exact(xY l a).1;simp only[aC h];exact⟨(xY l a).1,λ_=>(xY l a).2⟩
def agA(n:Nat)(arG:List (List RF)):Prop:=∀i (hi:i<Z' arG),arG[i].length=n/\∀j (e:j<arG[i].length),zF arG[i][j]/\(j=i->bY arG[i][j]=false)/\(j=i+1->bY arG[i][j]=true)
def afV(n:Nat)(exit:List RF):Prop:=∀i (hi:i<Z' exit),zF exit[i]/\(i+1=n->bY exit[i]=true)
structure anO(n i:Nat)(s:KK)(cs:N_):Prop where
 start:s.start=cs.map λc=>mkT ((c:Nat):Int) ((8:Nat):Int)
 lens:Z' s.exit=i/\Z' s.arG=i/\Z' cs=i
 left:cs.sum+s.left=8/\(i=n->0<n->s.left=0)
 exit:afV n s.exit
 arG:agA n s.arG
theorem yJ{α:Type}{P:Nat->α->Prop}{xs:List α}{x:α}(h:∀i (hi:i<Z' xs),P i xs[i])(e:P xs.length x):∀i (hi:i<(xs++[x]).length),P i (xs++[x])[i]:=by
 intro i hi;by_cases hlt:i<Z' xs;rw[List.getElem_append_left hlt];exact h i hlt;rw[asX,atD]at hi;have:i=Z' xs:=Om;subst this;rw[List.getElem_append_right Om];simpa using e
theorem vt(l:N_)(n a:Nat):∀i,i<=n->∃cs,anO n i (jB l n a i) cs
 |0,_=>⟨[],rfl,⟨rfl,rfl,rfl⟩,⟨rfl,λh u=>by omega⟩,λi hi=>absurd hi (by simp[jB]),λi hi=>absurd hi (by simp[jB])⟩
 |i+1,hi=>by
  obtain⟨cs,y,⟨u,w,A⟩,⟨h5,-⟩,B,h7⟩:=vt l n a i Om;generalize E:jB l n a i=s at *
  have e:jB l n a (i+1)=⟨s.start++[mkT ((fD l n i s).1:Nat) 8],s.exit++[(gY l n i (fD l n i s).2).1],s.arG++[(fE l i (gY l n i (fD l n i s).2).2 n).1],s.left-(fD l n i s).1,(fE l i (gY l n i (fD l n i s).2).2 n).2⟩:=by simp only[jB,E]
  rw[e];have D:(fD l n i s).1<=s.left/\(i+1=n->(fD l n i s).1=s.left):=by unfold fD;split;exact⟨by have:=cM l (Om:0<s.left+1) s.a;omega,λh=>by omega⟩;exact⟨asU _,λ_=>rfl⟩
  refine⟨cs++[(fD l n i s).1],?_,⟨by simp[u],by simp[w],by simp[A]⟩,⟨?_,λh _=>?_⟩,?_,?_⟩;simp only[y,atK,atU,auH];rfl;simp only[List.sum_append,List.sum_cons,List.sum_nil];omega;have:=D.2 h;simp only;omega;refine yJ (P:=λi x=>zF x/\(i+1=n->bY x=true)) B ?_;rw[u];exact V0 l n i _;refine yJ (P:=λi (r:List RF)=>Z' r=n/\∀j (F:j<Z' r),zF r[j]/\(j=i->bY r[j]=false)/\(j=i+1->bY r[j]=true)) h7 ?_;rw[w];exact J9 l i _ n
theorem Vx{x:cV}{e r:RF}(i:x.exit=[e])(l:x.arG=[[r]])(u:bY e=true):wD x=true:=by
 unfold wD;rw[i];show((eA x 2).all id)=true;simp only[eA,dW,nS,dB,i,l,atZ,avD,List.getD_cons_zero,atU,auH,u];cases bY r<;>rfl
theorem VT{x:cV}{y A e i l u:RF}(B:x.exit=[y,A])(D:x.arG=[[e,i],[l,u]])(E:bY A=true)(F:bY i=true)(a b:Bool) :
  ∃c,dW x [a,b] 2=[c,true]/\(b=true->c=true)/\(a=true->c=true):=by
 have J:nS x [a,b] 0=[((a||bY y)||bY e&&(a||bY y))||b,b]:=by unfold nS;rw[B,D];simp only[List.getD_cons_zero,atU,avR];generalize(a||bY y)=c;show dB [c,b] 0 [e,i] 2=_;have:dB [c,b] 0 [e,i] 1=[c||bY e&&c,b]:=rfl;show(let w:=dB [c,b] 0 [e,i] 1;w.set 0 (w.getD 0 false||([e,i].map bY).getD 1 false&&w.getD 1 false))=_;rw[this];show[(c||bY e&&c)||(bY i&&b),b]=_;rw[F,atJ]
 have K:∀c,nS x [c,b] 1=[c,true]:=by intro c;unfold nS;rw[B,D];have:dB [c,true] 1 [l,u] 1=[c,true||bY l&&c]:=rfl;show dB [c,b||bY A] 1 [l,u] 2=_;rw[E,Bool.or_true];show(let w:=dB [c,true] 1 [l,u] 1;w.set 1 (w.getD 1 false||([l,u].map bY).getD 1 false&&w.getD 1 false))=_;rw[this,Bool.true_or];show[c,true||bY u&&true]=_;rw[Bool.true_or]
 refine⟨_,by rw[show dW x [a,b] 2=nS x (nS x [a,b] 0) 1 from rfl,J,K],?_,?_⟩;rintro rfl;rw[Bool.or_true];rintro rfl;simp
theorem Vy{x:cV}{u F B l D E:RF}(i:x.exit=[u,F])(w:x.arG=[[B,l],[D,E]])(y:bY F=true)(A:bY l=true):wD x=true:=by
 unfold wD;rw[i];show((eA x 3).all id)=true;have e:∀r,eA x (r+1)=dW x (eA x r) 2:=λr=>by rw[eA,i];rfl
 have u:eA x 0=[false,false]:=by rw[eA,i];rfl
 obtain⟨J,L,-,-⟩:=VT i w y A false false;obtain⟨K,M,S,-⟩:=VT i w y A J true;obtain⟨R,N,O,-⟩:=VT i w y A K true;rw[e,e,e,u,L,M,N,O rfl];rfl
theorem Dk{c:Nat}:∀{cs:N_},c∈cs->c<=cs.sum
 |k::t,h=>by
  rw[List.sum_cons];rcases atG.1 h with rfl|h
  omega;have:=Dk h;omega
theorem MS{α:Type}{l:List α}(h:Z' l=2):∃a b,l=[a,b]:=by
 match l,h with
 |[a,b],_=>exact⟨a,b,rfl⟩
theorem aiF(cs:N_)(h:cs.sum=8):(match AR ((cs.map λc=>mkT ((c:Nat):Int) ((8:Nat):Int)).map RF.v)with
  | .ok (n,a,b)=>decide (DU n a b false 1 1=0)
  | .error _=>false)=true:=by
 have l:∀c∈cs,c<=8:=λc i=>by have:=Dk i;omega
 have e:((cs.map λc=>mkT ((c:Nat):Int) ((8:Nat):Int)).map RF.v)=cs.map eV:=by rw[avT];refine avO λc i=>?_;have:=l c i;exact(SmF.mk' (a:=c) (b:=8) Om aR aR (.inr rfl)).v
 rw[e];exact aeN cs h
theorem FX{α:Type}{p:α->Bool}{l:List α}(h:∀i (hi:i<Z' l),p l[i]=true):l.all p=true:=by
 rw[atI];intro x e;obtain⟨i,hi,rfl⟩:=auG e;exact h i hi
theorem st8:∀c:Fin 9,[(c.val/asR c.val 8,8/asR c.val 8),((8-c.val)/asR (8-c.val) 8,8/asR (8-c.val) 8)]∈stN:=by decide +kernel
theorem rf8{c:Nat}(h:c<=8):mkT (c:Nat) ((8:Nat):Int)=rfQ (c/asR c 8,8/asR c 8):=by
 have e:=avI c (asR c 8);have e2:=avI 8 (asR c 8);rw[YO,Fa Om Om (KO c)]
theorem alL{cs:N_}{l:List RF}(e:l=cs.map λc=>mkT ((c:Nat):Int) ((8:Nat):Int))(h8:cs.sum=8)(hl:Z' cs=1\/Z' cs=2):KL l:=by
 rcases hl with hl|hl
 obtain⟨c,rfl⟩:=List.length_eq_one_iff.1 hl;have:c=8:=by simpa using h8
 subst this;exact⟨[(1,1)],by decide,by rw[e];simp only[atU,auH,rf8 (asU 8)];rfl⟩;obtain⟨c,d,rfl⟩:=MS hl;have:c+d=8:=by simpa using h8
 obtain rfl:d=8-c:=Om;exact⟨_,st8 ⟨c,by omega⟩,by rw[e];simp only[atU,auH,rf8 (Om:c<=8),rf8 (Om:8-c<=8)]⟩
theorem M1(l:N_)(a:Nat)(L:List UInt8):nA { (wV l 2 a).1 with name:=L }=true/\({ (wV l 2 a).1 with name:=L }:cV).Ok:=by
 obtain⟨n,hn⟩:∃n,n=1+(aI l 2 a).1:=⟨_,rfl⟩;have X:n=1\/n=2:=by have:=cM l (show 0<2 by decide) a;omega
 obtain⟨cs,M,⟨h2,h3,h4⟩,⟨h5,R⟩,N,h7⟩:=vt l n (aI l 2 a).2 n (asU _);generalize hs:jB l n (aI l 2 a).2 n=s at *
 have e:({ (wV l 2 a).1 with name:=L }:cV)=⟨L,s.start,s.arG,s.exit⟩:=by simp only[wV,<-hn,hs]
 rw[e];have A:cs.sum=8:=by have:=R rfl Om;omega
 have W:∀c∈cs,c<=8:=λc S=>by have:=Dk S;omega
 have w:∀x∈s.start,zF x:=by intro x u;rw[M]at u;obtain⟨c,S,rfl⟩:=atM.1 u;have:=W c S;exact(SmF.mk' (a:=c) (b:=8) Om aR aR (.inr rfl)).o
 have β:Z' s.start=n:=by rw[M,asO,h4]
 have B:wD ⟨L,s.start,s.arG,s.exit⟩=true:=by
  rcases X with rfl|rfl
  obtain⟨e,he⟩:=List.length_eq_one_iff.1 h2;obtain⟨η,y⟩:=List.length_eq_one_iff.1 h3;have Y:=(h7 0 Om).1;obtain⟨r,K⟩:=List.length_eq_one_iff.1 Y;have u:=(N 0 Om).2 rfl;simp only[y,axF]at K;simp only[he,axF]at u;exact Vx he (by rw[y,K]) u;obtain⟨e0,e1,he⟩:=MS h2;obtain⟨r0,r1,y⟩:=MS h3;have F:=(h7 0 Om).1;have J:=(h7 1 Om).1;have u:=(N 1 Om).2 rfl;have Z:=((h7 0 Om).2 1 Om).2.2 rfl;simp only[he,axH,axF]at u;simp only[y,axH,axF]at F J Z;obtain⟨γ,δ,D⟩:=MS F;obtain⟨ε,ζ,O⟩:=MS J;simp only[D,axH,axF]at Z;exact Vy he (by rw[y,D,O]) u Z
 constructor;unfold nA;simp only[asV];refine⟨⟨⟨⟨⟨⟨⟨?_,?_⟩,?_⟩,?_⟩,?_⟩,?_⟩,?_⟩,B⟩;rw[within_iff];omega;exact aW Om;exact aW Om;exact atI.2 λx u=>(w x u).lim;exact FX λi hi=>(N i hi).1.lim;rw[atI];intro i hi;rw[atQ]at hi;obtain⟨k1,k2⟩:=h7 i hi;have eg:s.arG.getD i []=s.arG[i]:=by simp[asW,hi]
 rw[eg,asV,asV];refine⟨⟨aW Om,FX λj V=>(k2 j V).1.lim⟩,?_⟩;have E:i<s.arG[i].length:=Om;rw[getD_at E,(k2 i E).2.1 rfl];rfl;rw[M];exact aiF cs A;have U:∀m:Nat,m<=2->m<=9223372036854775807:=λm hm=>by omega
 have α:n<=2:=Om;refine⟨alL M A Om,⟨?_,λx u=>?_⟩,?_,λr y=>⟨?_,λx u=>?_⟩⟩;exact U s.exit.length Om;obtain⟨i,hi,rfl⟩:=auG u;exact(N i hi).1.ok;exact U s.arG.length Om;obtain⟨i,hi,rfl⟩:=auG y;have:=(h7 i hi).1;exact U (s.arG[i]'hi).length Om;obtain⟨i,hi,rfl⟩:=auG y;obtain⟨j,V,rfl⟩:=auG u;exact((h7 i hi).2 j V).1.ok
theorem ai(l:N_)(a:Nat):∀n,(jR l a n).1.length=n/\∀i (hi:i<(jR l a n).1.length),(jR l a n).1[i].name=[108,97,119]++cT i/\nA (jR l a n).1[i]=true/\(jR l a n).1[i].Ok
 |0=>⟨rfl,λi hi=>absurd hi (by simp[jR])⟩
 |n+1=>by obtain⟨u,w⟩:=ai l a n;have e:(jR l a (n+1)).1=(jR l a n).1++[{ (wV l 2 (jR l a n).2).1 with name:=[108,97,119]++cT n }]:=rfl;rw[e];refine⟨by simp[u],yJ (P:=λi (x:cV)=>x.name=[108,97,119]++cT i/\nA x=true/\x.Ok) w ?_⟩;rw[u];exact⟨rfl,M1 l _ _⟩
theorem TA(l:N_)(arJ:Nat)(y:0<arJ)(a:Nat):∀n,(gC l arJ a n).1.length=n/\∀i (hi:i<(gC l arJ a n).1.length),(gC l arJ a n).1[i].name=[109]++cT i/\∃e p w:Nat,(gC l arJ a n).1[i].arS=e/\1<=e/\e<=4/\(gC l arJ a n).1[i].port=p/\1<=p/\p<=8/\(gC l arJ a n).1[i].law=w/\w<arJ
 |0=>⟨rfl,λi hi=>absurd hi (by simp[gC])⟩
 |n+1=>by
  obtain⟨u,A⟩:=TA l arJ y a n;obtain⟨s,B⟩:∃s,s=gC l arJ a n:=⟨_,rfl⟩;have e:(gC l arJ a (n+1)).1=(gC l arJ a n).1++[⟨[109]++cT n,(1+(aI l 4 s.2).1:Nat),(1+(aI l 8 (aI l 4 s.2).2).1:Nat),((aI l arJ (aI l 8 (aI l 4 s.2).2).2).1:Nat)⟩]:=by rw[B];rfl
  rw[e];refine⟨by simp[u],yJ (P:=λi (x:dN)=>x.name=[109]++cT i/\∃e p w:Nat,x.arS=e/\1<=e/\e<=4/\x.port=p/\1<=p/\p<=8/\x.law=w/\w<arJ) A ?_⟩;rw[u];have E:=cM l (show 0<4 by decide) s.2;have F:=cM l (show 0<8 by decide) (aI l 4 s.2).2;have D:=cM l y (aI l 8 (aI l 4 s.2).2).2;exact⟨rfl,_,_,_,rfl,by omega,by omega,rfl,by omega,by omega,rfl,D⟩
theorem FJ(l:N_)(a:Nat):∃n:Nat,(jU l a).1=n/\n<=3:=by
 have h:=cM l (show 0<3 by decide) (aI l 3 a).2;unfold jU;simp only;split;exact⟨1+(aI l 3 (aI l 3 a).2).1,rfl,by omega⟩;exact⟨0,rfl,by omega⟩
theorem gG{n lo hi:Int}(e:lo<=n)(i:n<=hi):within n lo hi=true:=within_iff.2 ⟨e,i⟩
theorem ahN{B:List UInt8}{k m q s1 s2 s3 s4 g h:Nat}{ms:I_}{y:List RF}{mc:Nat}(F:1<=k)(J:k<=2)(V:m<=2)(L:k<=q)(M:q<=k+m)(N:s1<=3)(D:s2<=3)(O:s3<=3)(R:s4<=3)(E:g<=8)(U:h<=4)
  (w:Z' y=max m 1) (u:∀x∈y,zF x/\bY x=true)
  (K:mc<=2) (i:∃f:Nat,f<mc/\(ms=[(f:Int)]\/mc=2/\ms=[(f:Int),1-(f:Int)])) :
  lN mc ⟨B,(k:Nat),(m:Nat),(q:Nat),0,(s1:Nat),(s2:Nat),(s3:Nat),(s4:Nat),ms,y,mkT (g:Nat) ((8:Nat):Int),mkT (h:Nat) ((1:Nat):Int)⟩=true /\
  (⟨B,(k:Nat),(m:Nat),(q:Nat),0,(s1:Nat),(s2:Nat),(s3:Nat),(s4:Nat),ms,y,mkT (g:Nat) ((8:Nat):Int),mkT (h:Nat) ((1:Nat):Int)⟩:bX).Ok:=by
 have G:=SmF.mk' (a:=g) (b:=8) Om aR aR (.inr rfl);have Z:=SmF.mk' (a:=h) (b:=1) Om aR aR Om;obtain⟨f,S,i⟩:=i;constructor;unfold lN QE JM;simp only[asV,awS,List.all_nil,avK];refine⟨⟨⟨⟨⟨⟨⟨⟨gG Om Om,gG Om Om⟩,aW Om⟩,gG Om Om⟩,rfl⟩,gG Om Om,gG Om Om,gG Om Om,gG Om Om,gG Om Om⟩,?_⟩,⟨⟨⟨⟨aW (by rw[w];omega),?_⟩,G.lim⟩,G.one Om⟩,Z.lim⟩⟩,?_⟩;rcases i with e|⟨-,e⟩<;>rw[e]<;>rfl
 rw[atI];intro x l;rw[(u x l).1.lim,(u x l).2];rfl;rw[atI];rcases i with rfl|⟨rfl,rfl⟩
 intro j A;simp only[atZ,avD,atQ]at A;have:j=0:=Om;subst this;rw[asV];exact⟨gG aZ (by simp;omega),by simp⟩;intro j A;simp only[atZ,avD,atQ]at A;have:j=0\/j=1:=Om;rcases this with rfl|rfl
 rw[asV];exact⟨gG aZ (by simp;omega),by simp⟩;rw[asV];refine⟨gG (by simp;omega) (by simp;omega),?_⟩;have:¬(1-(f:Int)=f):=Om;simp[this];refine⟨by unfold eQ;constructor<;>simp only<;>omega,by unfold eQ;constructor<;>simp only<;>omega,by unfold eQ;constructor<;>simp only<;>omega,?_,?_,⟨?_,λx l=>(u x l).1.ok⟩,by rw[YO];exact tok E,Z.ok⟩;show ms.length<=_;rcases i with e|⟨-,e⟩<;>rw[e]<;>simp
 show ∀x∈ms,eQ x;unfold eQ;rcases i with e|⟨D,e⟩<;>rw[e]<;>intro x l<;>simp only[atG,atS,or_false]at l
 subst l;omega;rcases l with rfl|rfl<;>omega
 show y.length<=_;rw[w];omega
theorem y6(l:N_){mc:Nat}(A:0<mc)(B:mc<=2)(i a:Nat):(qF l mc i a).1.name=[112]++cT i/\lN mc (qF l mc i a).1=true/\(qF l mc i a).1.Ok:=by
 refine⟨rfl,?_⟩;have K:=cM l (show 0<2 by decide) a;have L:=cM l (show 0<3 by decide) (aI l 2 a).2;have J:=cM l (show 0<4 by decide) (aI l 3 (aI l 2 a).2).2;unfold qF;simp only;generalize aI l 2 a=k at *
 generalize aI l 3 k.2=m at *
 generalize aI l 4 m.2=h at *
 have hq:=cM l (Om:0<m.1+1) h.2;generalize aI l (m.1+1) h.2=q at *
 obtain⟨r1,r2⟩:=J7 l q.2 (max m.1 1);generalize nE l q.2 (max m.1 1)=r at *
 have F:=cM l (show 0<9 by decide) r.2;generalize aI l 9 r.2=g at *
 obtain⟨M,w,b1⟩:=FJ l g.2;generalize jU l g.2=s1 at *
 obtain⟨N,e2,b2⟩:=FJ l s1.2;generalize jU l s1.2=s2 at *
 obtain⟨O,x,e⟩:=FJ l s2.2;generalize jU l s2.2=s3 at *
 obtain⟨R,y,u⟩:=FJ l s3.2;generalize jU l s3.2=s4 at *
 have D:=cM l A s4.2;generalize aI l mc s4.2=f at *
 generalize aI l 2 f.2=b at *
 rw[w,e2,x,y];refine ahN Om Om Om Om Om b1 b2 e u Om Om r1 r2 B ⟨f.1,D,?_⟩;split;rename_i E;split;exact .inr ⟨by omega,rfl⟩;exact .inl rfl;exact .inl rfl
theorem JL(l:N_){mc:Nat}(u:0<mc)(w:mc<=2)(a:Nat):∀n,(fH l mc a n).1.length=n/\∀i (hi:i<(fH l mc a n).1.length),(fH l mc a n).1[i].name=[112]++cT i/\lN mc (fH l mc a n).1[i]=true/\(fH l mc a n).1[i].Ok
 |0=>⟨rfl,λi hi=>absurd hi (by simp[fH])⟩
 |n+1=>by obtain⟨y,A⟩:=JL l u w a n;have e:(fH l mc a (n+1)).1=(fH l mc a n).1++[(qF l mc n (fH l mc a n).2).1]:=rfl;rw[e];refine⟨by simp[y],yJ (P:=λi (x:bX)=>x.name=[112]++cT i/\lN mc x=true/\x.Ok) A ?_⟩;rw[y];exact y6 l u w n _
theorem NH(l:N_){pc:Nat}(u:0<pc)(a:Nat):∀n,(gF l pc a n).1.length=n/\∀i (hi:i<(gF l pc a n).1.length),(gF l pc a n).1[i].name=[118]++cT i/\∃p:Nat,(gF l pc a n).1[i].arO=p/\p<pc
 |0=>⟨rfl,λi hi=>absurd hi (by simp[gF])⟩
 |n+1=>by obtain⟨w,y⟩:=NH l u a n;have e:(gF l pc a (n+1)).1=(gF l pc a n).1++[⟨[118]++cT n,((aI l pc (gF l pc a n).2).1:Nat)⟩]:=rfl;rw[e];refine⟨by simp[w],yJ (P:=λi (x:gD)=>x.name=[118]++cT i/\∃p:Nat,x.arO=p/\p<pc) y ?_⟩;rw[w];exact⟨rfl,_,rfl,cM l u _⟩
abbrev lvs(ds:List cU):I_:=ds.map cU.level
def anL(ds:List cU)(i:Nat)(d:cU):Prop:=∃e p u:Nat,d.name=[pD e]++cT (i+1)/\d.level=e/\1<=e/\e<=4/\d.parent=p/\p<=i/\(lvs ds)[p]?=some ((e:Int)-1)/\d.arW=u/\1<=u/\u<=16/\zF d.arR
def afU(ds:List cU)(mc i:Nat)(d:eN):Prop:=∃m c:Nat,d.name=[100]++cT i/\d.model=m/\m<mc/\d.machine=c/\(lvs ds)[c]?=some 4
structure GV(mc arB:Nat)(s:GS):Prop where
 len:Z' s.arL<=35
 arV:Z' s.arV<=arB
 root:s.arL[0]?=some pV
 dom:∀i (hi:i+1<Z' s.arL),anL s.arL i s.arL[i+1]
 drv:∀i (hi:i<Z' s.arV),afU s.arL mc i s.arV[i]
theorem GV.a{mc arB:Nat}{s:GS}(h:GV mc arB s)(x:Nat):GV mc arB { s with a:=x }:=⟨h.len,h.arV,h.root,h.dom,h.drv⟩
theorem C0(l:N_){mc arB dom:Nat}(u:0<mc){s:GS}(h:GV mc arB s)(x:(lvs s.arL)[dom]?=some 4):∀n,GV mc arB (mG l mc arB dom s n)/\(mG l mc arB dom s n).arL=s.arL
 |0=>⟨h,rfl⟩
 |n+1=>by
  obtain⟨e,w⟩:=C0 l u h x n;simp only[mG];generalize mG l mc arB dom s n=t at *
  split;rename_i hlt;refine⟨⟨e.len,by simp only[asX,atD];omega,e.root,e.dom,?_⟩,w⟩;refine yJ (P:=λi d=>afU t.arL mc i d) e.drv ?_;exact⟨_,dom,rfl,rfl,cM l u _,rfl,by rw[w];exact x⟩;exact⟨e,w⟩
theorem GG{ds:List cU}{p:Nat}{x:Int}{t:List cU}(h:(lvs ds)[p]?=some x):(lvs (ds++t))[p]?=some x:=by
 unfold lvs at *
 rw[atK,avM];exact h;exact(atX.1 h).1
theorem abI(l:N_){mc arB dom level:Nat}{s:GS}(h:GV mc arB s)(A:1<=level)(L:level<=4)(E:(lvs s.arL)[dom]?=some ((level:Int)-1))(F:wF arB s=false) :
  GV mc arB (rT l level dom s)/\(∃t,(rT l level dom s).arL=s.arL++t)/\(rT l level dom s).arL.length=Z' s.arL+1/\(lvs (rT l level dom s).arL)[Z' s.arL]?=some (level:Int):=by
 unfold wF at F;simp only[Bool.or_eq_false_iff,decide_eq_false_iff_not]at F;have K:dom<Z' s.arL:=by
  have:=(atX.1 E).1
  rwa[asO]at this
 have N:=cM l (show 0<16 by decide) s.a;have M:=cM l (show 0<6 by decide) (aI l 3 (aI l 16 s.a).2).2;unfold rT;simp only;generalize aI l 16 s.a=u at *
 generalize aI l 3 u.2=t at *
 generalize aI l 6 t.2=k at *
 have B:zF (if t.1=0 then(mkT 1 ((2+k.1:Nat):Int),k.2)else(mI,t.2)).1:=by split;exact(SmF.mk' (a:=1) (b:=2+k.1) Om Om Om Om).o;exact vP.o
 generalize(if t.1=0 then(mkT 1 ((2+k.1:Nat):Int),k.2)else(mI,t.2))=sh at *
 refine⟨⟨by simp only[asX,atD];omega,h.arV,?_,?_,λi hi=>?_⟩,⟨_,rfl⟩,by simp,?_⟩;rw[avM Om];exact h.root;intro i hi;simp only[asX,atD]at hi;by_cases hlt:i+1<Z' s.arL;rw[List.getElem_append_left hlt];obtain⟨D,p,v,e,w,x,y,h5,J,h7,h8⟩:=h.dom i hlt;exact⟨D,p,v,e,w,x,y,h5,J,GG h7,h8⟩;have:i+1=Z' s.arL:=Om;rw[List.getElem_append_right Om];simp only[List.getElem_singleton];exact⟨level,dom,1+u.1,by rw[this],rfl,A,L,rfl,by omega,GG E,rfl,by omega,by omega,B⟩;obtain⟨m,c,e,w,x,y,h5⟩:=h.drv i hi;exact⟨m,c,e,w,x,y,GG h5⟩;unfold lvs;rw[atK,auS (by rw[asO];exact asU _),asO,auK];rfl
theorem C1(l:N_){mc arB dom level:Nat}(i:1<=level)(D:level<=4){rec:Nat->GS->GS}
  (e:∀d t,GV mc arB t->(lvs t.arL)[d]?=some (level:Int)->GV mc arB (rec d t)/\∃u,(rec d t).arL=t.arL++u) {s:GS} (h:GV mc arB s) (B:(lvs s.arL)[dom]?=some ((level:Int)-1)) :
  ∀n,GV mc arB (jK l level arB dom rec s n)/\∃u,(jK l level arB dom rec s n).arL=s.arL++u
 |0=>⟨h,[],by simp[jK]⟩
 |n+1=>by
  obtain⟨A,u,x⟩:=C1 l i D e h B n;simp only[jK];generalize jK l level arB dom rec s n=t at *
  split;exact⟨A,u,x⟩;rename_i E;have y:(lvs t.arL)[dom]?=some ((level:Int)-1):=by rw[x];exact GG B
  obtain⟨F,⟨v,J⟩,K,L⟩:=abI l A i D y (by simpa using E);obtain⟨M,w,N⟩:=e ((rT l level dom t).arL.length-1) (rT l level dom t) F (by rw[K,Nat.add_sub_cancel];exact L);exact⟨M,u++(v++w),by rw[N,J,x];simp⟩
theorem C2(l:N_){mc arB:Nat}(e:0<mc):∀(k:Nat),k<=4->∀(dom:Nat){s:GS},GV mc arB s->(lvs s.arL)[dom]?=some (4-(k:Int))->GV mc arB (gP l mc arB k dom s)/\∃u,(gP l mc arB k dom s).arL=s.arL++u
 |0,_,dom,s,h,i=>by simp only[gP];obtain⟨x,y⟩:=C0 l e (h.a (aI l 2 s.a).2) i (1+(aI l 2 s.a).1);exact⟨x,[],by rw[y];simp⟩
 |k+1,B,dom,s,h,i=>by simp only[gP];refine C1 l Om Om (λd t A w=>C2 l e k Om d A ?_) (h.a (aI l 2 s.a).2) ?_ _;rw[w];congr 1;omega;rw[i];congr 1;omega
theorem vw(e:Nat)(i:1<=e)(l:e<=4):gV (pD e).toNat=true/\pD e≠100:=by
 have:e=1\/e=2\/e=3\/e=4:=Om;rcases this with rfl|rfl|rfl|rfl<;>decide
theorem qt(c:UInt8){k:Nat}(e:k<100):ZD (([c]++cT k).drop 1)=k:=by
 show ZD (cT k)=k;rw[UT e];exact(Cc ⟨k,e⟩).1
theorem Hb{mc arB:Nat}{s:GS}(h:GV mc arB s)(M:arB<=60):distinct ((s.arL.drop 1).map cU.name++s.arV.map eN.name)=true:=by
 have E:∀i (hi:i<((s.arL.drop 1).map cU.name).length),∃l:Nat,1<=l/\l<=4/\((s.arL.drop 1).map cU.name)[i]=[pD l]++cT (i+1):=by intro i hi;rw[asO,auU]at hi;obtain⟨l,p,u,w,-,J,D,-⟩:=h.dom i Om;refine⟨l,J,D,?_⟩;rw[auN,List.getElem_drop];simp only[Nat.add_comm 1 i];exact w
 have hB:∀i (hi:i<(s.arV.map eN.name).length),(s.arV.map eN.name)[i]=[100]++cT i:=by intro i hi;rw[asO]at hi;obtain⟨m,c,w,-⟩:=h.drv i hi;rw[auN];exact w
 have N:((s.arL.drop 1).map cU.name).length<=40:=by rw[asO,auU];have:=h.len;omega
 have O:(s.arV.map eN.name).length<=60:=by rw[asO];have:=h.arV;omega
 generalize(s.arL.drop 1).map cU.name=A at *
 generalize s.arV.map eN.name=B at *
 refine ZU ?_ ?_;intro x hx;rcases auC.1 hx with hx|hx
 obtain⟨i,hi,rfl⟩:=auG hx;obtain⟨l,w,D,e⟩:=E i hi;rw[e];exact tr rfl (vw l w D).1 rfl aZ Om;obtain⟨i,hi,rfl⟩:=auG hx;rw[hB i hi];exact tr rfl aR rfl aZ Om;rw[avU];refine⟨?_,?_,?_⟩;refine VK (g:=λs=>ZD (s.drop 1)-1) λi hi=>?_;obtain⟨l,-,-,e⟩:=E i hi;rw[e,qt _ Om];omega;refine VK (g:=λs=>ZD (s.drop 1)) λi hi=>?_;rw[hB i hi];exact qt _ Om;intro x hx y L e;obtain⟨i,hi,rfl⟩:=auG hx;obtain⟨j,K,rfl⟩:=auG L;obtain⟨l,w,D,F⟩:=E i hi;rw[F,hB j K]at e;exact(vw l w D).2 (List.cons.inj e).1
theorem X9{mc arB a:Nat}:GV mc arB ⟨[pV],[],a⟩:=
 ⟨by simp,asQ _,rfl,λi hi=>absurd hi aZ,λi hi=>absurd hi aZ⟩
theorem acB{mc arB:Nat}{s:GS}(h:GV mc arB s)(f:aB)(B:f.arE=s.arL):sU f=true:=by
 have y:=h.root;have x:=h.dom;unfold sU;rw[B];cases l:s.arL with
 |nil=>rw[l]at y;cases y
 |cons r t=>
  rw[l]at y;have:r=pV:=by simpa using y
  subst this;show IZ f pV t=true;unfold IZ;simp only[asV];refine⟨⟨⟨⟨⟨⟨rfl,rfl⟩,rfl⟩,rfl⟩,vP.lim⟩,by rw[show pV.arR=mI from rfl,vP.zero];rfl⟩,?_⟩;rw[atI];intro i hi;rw[atQ]at hi;rw[asZ hi];obtain⟨F,p,u,D,A,J,K,h5,L,h7,h8,M,E,w⟩:=x i (by rw[l];simp;omega);have e:s.arL[i+1]'(by rw[l];simp;omega)=t[i]:=by simp[l]
  rw[e]at D A h5 h8 w;show OB f i t[i]=true;unfold OB;simp only[asV];refine⟨⟨⟨⟨?_,?_⟩,?_⟩,?_⟩,w.lim⟩;rw[h5];exact gG Om Om;rw[h5,A,B,auL,asW,h7,r8 Om Om];exact aW rfl;rw[A];exact gG Om Om;rw[h8];exact gG Om Om
theorem UO(l:N_)(arB arD a:Nat)(hd:arB<=24)(hv:arD<=12) :
  cI (jN l arB arD a).1=true/\(jN l arB arD a).1.Ok:=by
 unfold jN;simp only;have he:=cM l (show 0<2 by decide) a;generalize aI l 2 a=e at *
 have γ:=cM l (show 0<2 by decide) e.2;generalize aI l 2 e.2=F at *
 obtain⟨w1,V⟩:=ai l F.2 (1+F.1);generalize jR l F.2 (1+F.1)=arJ at *
 have δ:=cM l (show 0<2 by decide) arJ.2;generalize aI l 2 arJ.2=D at *
 obtain⟨Y,Z⟩:=TA l (1+F.1) Om D.2 (1+D.1);generalize gC l (1+F.1) D.2 (1+D.1)=arC at *
 obtain⟨G,-⟩:=C2 l (mc:=1+D.1) (arB:=arB) Om 4 aR 0 (s:=⟨[pV],[],arC.2⟩) X9 rfl;generalize gP l (1+D.1) arB 4 0 ⟨[pV],[],arC.2⟩=g at *
 have ε:=cM l (show 0<2 by decide) g.a;generalize aI l 2 g.a=pl at *
 obtain⟨p1,S⟩:=JL l (mc:=1+D.1) Om Om pl.2 (1+pl.1);generalize fH l (1+D.1) pl.2 (1+pl.1)=pols at *
 have ζ:=cM l (Om:0<arD+1) pols.2;generalize aI l (arD+1) pols.2=K at *
 obtain⟨v1,U⟩:=NH l (pc:=1+pl.1) Om K.2 K.1;generalize gF l (1+pl.1) K.2 K.1=vols at *
 have g1:=G.len;have g2:=G.arV;have R:∀f:aB,f.arE=g.arL->sU f=true:=λf hf=>acB G f hf;have w:∀n:Nat,n<=1000->n<=9223372036854775807:=λn h=>by omega
 have E:∀x∈g.arV,∃m c:Nat,x.model=m/\m<1+D.1/\x.machine=c/\c<Z' g.arL/\(lvs g.arL)[c]?=some 4:=by
  intro x A;obtain⟨i,hi,rfl⟩:=auG A;obtain⟨m,c,-,O,W,X,h5⟩:=G.drv i hi;refine⟨m,c,O,W,X,?_,h5⟩;have:=(atX.1 h5).1
  rwa[asO]at this
 constructor;unfold cI;rw[R _ rfl];simp only[asV,avK];refine⟨⟨?_,⟨⟨⟨⟨?_,?_⟩,?_⟩,?_⟩,?_⟩⟩,⟨⟨⟨?_,?_⟩,Hb G Om⟩,?_⟩,?_⟩;unfold sE;simp only[asV];exact⟨⟨⟨⟨⟨⟨gG Om Om,aW Om⟩,aW Om⟩,aW Om⟩,aW Om⟩,aW Om⟩,aW Om⟩;exact FX λi hi=>(V i hi).2.1;refine FX λi hi=>?_;obtain⟨-,x,y,z,B,e2,J,L,M,e6,e7,e8⟩:=Z i hi;unfold nB;simp only[asV];rw[B,L,e7,w1];exact⟨⟨gG Om Om,gG Om Om⟩,gG Om Om⟩;rw[atI];intro x A;obtain⟨m,c,B,e2,J,L,M⟩:=E x A;unfold kR;simp only[asV];rw[B,J,Y,auL,asW,M];exact⟨⟨gG Om Om,gG Om Om⟩,rfl⟩;refine FX λi hi=>?_;rw[Y];exact(S i hi).2.1;refine FX λi hi=>?_;obtain⟨-,p,B,e2⟩:=U i hi;unfold tJ;rw[B,p1];exact gG Om Om;refine zR (p:=[108,97,119]) rfl aR aR aR (by rw[asO];omega) λi hi=>?_;rw[auN];exact(V i (by simpa using hi)).1;refine zR (p:=[109]) rfl aR aR aR (by rw[asO];omega) λi hi=>?_;rw[auN];exact(Z i (by simpa using hi)).1;refine zR (p:=[112]) rfl aR aR aR (by rw[asO];omega) λi hi=>?_;rw[auN];exact(S i (by simpa using hi)).1;refine zR (p:=[118]) rfl aR aR aR (by rw[asO];omega) λi hi=>?_;rw[auN];exact(U i (by simpa using hi)).1;refine⟨w arJ.1.length Om,w arC.1.length Om,w g.arL.length Om,w g.arV.length Om,w pols.1.length Om,w vols.1.length Om,?_,?_,?_,?_,?_⟩;intro x A;obtain⟨i,hi,rfl⟩:=auG A;exact(V i hi).2.2;intro x A;obtain⟨i,hi,rfl⟩:=auG A;rcases avB i with rfl|hp
 have:g.arL[0]=pV:=by have:=G.root;rw[asZ hi]at this;exact auY.inj this
 rw[this];exact⟨vP.ok,by unfold eQ;decide,by unfold eQ;decide⟩;obtain⟨k,rfl⟩:∃k,i=k+1:=⟨i-1,by omega⟩;obtain⟨η,p,u,h1,O,W,X,h5,h6,h7,h8,h9,α,N⟩:=G.dom k hi;have β:k+1<Z' g.arL:=hi;rw[O,h5];exact⟨N.ok,by unfold eQ;omega,by unfold eQ;omega⟩;intro x A;obtain⟨m,c,B,e2,J,L,M⟩:=E x A;rw[B,J];unfold eQ;omega;intro x A;obtain⟨i,hi,rfl⟩:=auG A;exact(S i hi).2.2;intro x A;obtain⟨i,hi,rfl⟩:=auG A;obtain⟨-,p,B,e2⟩:=U i hi;rw[B];unfold eQ;omega
theorem Fq(f:aB)(i:VF f)(v:Nat)(h:v<Z' f.arD) :
  pu.wp C (aV Ap.res (cN (.j (fX f v)))) (g_ [.agg f.cells,.j v]) .nil:=by
 obtain⟨hp,he⟩:=iN i h;have e:=i.arO _ (asS hp);rw[he]at e;have l:i_.wrap ((bF f v).k+(bF f v).m)=(bF f v).k+(bF f v).m:=wrap_i64 Om Om;simp only[go_sem,pu,Ap];refine bE .nil cR a_ ?_;simp only[go_sem,oT h,i.AH h,lG hp,he];refine aQ λo u=>?_;simp only[go_sem,l];refine⟨a_,?_⟩;exact rF (n:=(bF f v).k+(bF f v).m) Ev rfl
abbrev iiv(l:I_):P2_:=l.map λx=>[PV.int .i64 x]
def Z4(l:N_)(v:PV)(o a:Nat)(f:aB)(r:PV)(H:PH):Prop:=Co r (ints (uO l f a).1)/\H=h_.set o (aY v (uO l f a).2)
theorem WA(l:N_){a:Nat}(h:a<=Z' l):∀k,(qV l a k).2<=Z' l/\(qV l a k).1.length=k
 |0=>⟨h,rfl⟩
 |k+1=>by obtain⟨e,i⟩:=WA l h k;exact⟨bO l 7 e,by simp only[qV,asX,atD,i]⟩
def D6(f:aB)(o:Nat)(w:PV)(i:Nat):PF:=((((n_.set 0 (.ptr o 2 0 0)).set 3 (.aU f.cells)).set 5 (w)).set 6 (.int .i64 i))
theorem Xi(L:zH C){l:N_}{v:PV}(T:Tp l v)(o a:Nat)(f:aB)(Z:Z' f.arB<=1000)(N:a<=Z' l):nw.wp C (aV Ah.res (Z4 l v o a f)) (g_ [.ptr o 2 0 0,.agg f.cells]) (h_.set o (aY v a)):=by
 have M:aN (h_.set o (aY v a)) [(o,aY v a)] []:=aN.nil.new (H:=h_) rfl (aY v a);simp only[go_sem,nw,Ah];refine dM L T (o:=o) (n:=4) (a:=a) aR N (by simp only[go_sem];rfl) (M.at 0 rfl) ?_;have A:=M.set 0 rfl (aY v (aI l 4 a).2);rw[PH.set_set]at A;have J:=bO l 4 N;have y:uO l f a=if(aI l 4 a).1=0 then([],(aI l 4 a).2)else qV l (aI l 4 a).2 f.arB.length:=rfl
 have F:∀r H,Z4 l v o a f r H↔Co r (ints (uO l f a).1)/\H=h_.set o (aY v (uO l f a).2):=λ_ _=>Iff.rfl;generalize aI l 4 a=t at *
 by_cases O:t.1=0;rw[aF O]at y;simp only[go_sem,bR (Om:(t.1:Int)=0)];refine bM (vs:=[.aG]) (.inr rfl) (h_.set o (aY v t.2)) Sq (d_ a_ (A.at 0 rfl)) ?_;rw[bN,F,y];exact⟨.nil 1,rfl⟩;rw[aC O]at y;have S:=A.lE 1;simp only[go_sem,bH (Om:(t.1:Int)≠0)];refine wp_loop (α:=T3_) (λs=>D6 f o s.2.1 s.1) (λs=>s.2.2) (λs=>s.1<=Z' f.arB/\aN s.2.2 [(o,aY v (qV l t.2 s.1).2)] [(s.2.1,1,iiv (qV l t.2 s.1).1)]) (λs=>Z' f.arB-s.1) (0,.aG,_) ⟨asQ _,S⟩ ?_ b_ ?_;unfold D6;exact Lq;rintro⟨k,w,Y⟩ ⟨U,i⟩;simp only at U i ⊢;obtain⟨V,W⟩:=WA l J k;simp only[go_sem,D6,asO];by_cases hlt:k<Z' f.arB;have e:(k:Int)<(Z' f.arB:Nat):=Om;have u:qV l t.2 (k+1)=((qV l t.2 k).1++[((aI l 7 (qV l t.2 k).2).1:Int)-1],(aI l 7 (qV l t.2 k).2).2):=rfl;have hz:=cM l (show 0<7 by decide) (qV l t.2 k).2;generalize hs:qV l t.2 k=s at *
 have K:i_.wrap (((aI l 7 s.2).1:Int)-1)=((aI l 7 s.2).1:Int)-1:=wrap_i64 Om Om;have D:(1:Nat)*1<=16777216:=by decide
 simp only[go_sem,e];refine dM L T (o:=o) (n:=7) (a:=s.2) aR V (by simp only[go_sem];rfl) (i.at 0 rfl) ?_;have E:=i.set 0 rfl (aY v (aI l 7 s.2).2);simp only[go_sem,K,D];refine E.append 0 (src:=[[PV.int .i64 (((aI l 7 s.2).1:Int)-1)]]) rfl Sq (by unfold roomFor;rw[asO,W];simp only[atD,maxLen];omega) λX H' R _=>?_;simp only[go_sem,wZz k];refine aE (k+1,X,H') ⟨hlt,?_⟩ sO_ ?_ b_;simp only;rw[u];have:iiv (s.1++[((aI l 7 s.2).1:Int)-1])=iiv s.1++[[PV.int .i64 (((aI l 7 s.2).1:Int)-1)]]:=by simp[iiv]
 rw[this];exact R;exact Lq;have e:¬(k:Int)<(Z' f.arB:Nat):=Om;have:k=Z' f.arB:=Om;subst this;rw[<-y]at i;simp only[go_sem,e];rcases i.own 0 rfl with⟨B,rfl⟩|⟨q,rs,rfl,_⟩
 refine bM (vs:=[.aG]) (.inr rfl) (h_.set o (aY v (uO l f a).2)) Sq (d_ a_ (i.at 0 rfl)) ?_;rw[bN,F];refine⟨?_,rfl⟩;unfold ints;rw[show(uO l f a).1.map (λx=>[PV.int .i64 x])=[]from B];exact .nil 1;obtain⟨rs,g1,g2,g3,-,g4⟩:=i.frz 0 rfl;refine pE (vs:=[.osl q 1 0 (iiv (uO l f a).1).length]) (.inr rfl) Sq (.step g1 (.done (H2:=h_.set o (aY v (uO l f a).2)) ?_ (d_ a_ ?_)));rw[bN,g3,F];exact⟨.refl _,rfl⟩;have:=g4.at 0 rfl;rw[this];simp only[aS.frz,atU,auH,T.frz];rfl
end Go.PM
