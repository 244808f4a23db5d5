/-Lemmas for the law. No condition.-/
import Derived.Test.YtjnaciiebeflnaaGreatDoorGC3
import Derived.RangeFuncRecord
import Derived.Lib.SlicesCompact
import Derived.Shelf.Slices.CompactI
import Derived.Shelf.Slices.In.SortNone
set_option linter.unusedSimpArgs false
set_option linter.unusedVariables false
open Nat renaming reduceEqDiff->γ,reduceAdd->δ,reduceSub->ε,reduceMul->ζ,reduceLT->η,reduceLeDiff->θ,reduceBEq->τ
open Int renaming reduceLT->ι,reduceLE->κ,reduceEq->μ,reduceToNat->ν,reduceAdd->ξ,reduceNeg->ο,reduceBEq->ρ,reduceBNe->σ
open List renaming reduceReplicate->υ
open List renaming length_map->auW,range->auX,length_append->auZ,replicate->avA,getElem_mem->avB,getElem?_eq_getElem->avF,length_singleton->avG,getD_eq_getElem?_getD->avI,mem_cons->avL,length_take->avN,getElem?_map->avO,take_of_length_le->avT,map_append->avU,mem_map->avV,take_length->avW,not_mem_nil->avY,all_eq_true->awA,append_assoc->awB,getElem?_eq_some_iff->awD,map_cons->awE,mem_range->awG,mem_append->awH,append_nil->awJ,length_cons->awK,mem_singleton->awL,drop_zero->awM,getElem?_eq_none->awN,take_succ_eq_append_getElem->awP,getElem_of_mem->awR,length_set->awS,getElem_map->awW,length_drop->awZ,drop_eq_getElem_cons->axB,length_nil->axC,map_nil->axD,mem_of_getElem?->axF,range'->axI,Sublist->axN,getElem?_range->axO,getElem?_append_right->axR,getElem?_append_left->axU,range_succ->axV,Perm->axY,ext_getElem->axZ,map_congr_left->ayB,nodup_append->ayC,map_map->ayD,map_set->ayE,set_append_right->ayF,take_append_drop->ayK,map_take->ayN,cons_append->ayQ,getElem?_drop->ayR,mem_cons_of_mem->ayT,all_cons->ayX,contains_iff_mem->ayY,nil_append->azA,set_cons_zero->azB,flatten_cons->azE,drop_of_length_le->azH,length_filter_le->azI,mem_or_eq_of_mem_set->azJ,getElem_append_right->azK,eq_nil_of_length_eq_zero->azL,getElem_append_left->azM
open Nat renaming zero_le->auY,gcd->avC,le_refl->avD,zero_add->avK,mul_add->avQ,lt_or_ge->avX,le_trans->avZ,mul_assoc->awC,mul_comm->awF,mul_le_mul_right->awI,add_mul->awO,add_zero->awQ,mod_eq_of_lt->awT,mod_lt->awY,pow_succ->axE,eq_zero_or_pos->axJ,add_assoc->axL,succ_mul->axM,min_eq_left->axS,sub_self->axT,mul_le_mul_left->axW,pos_of_ne_zero->axX,mul_le_mul->ayA,mul_one->ayG,pow_pos->ayH,div_le_self->ayL,div_lt_iff_lt_mul->ayO,pow_le_pow_right->ayU,div_eq_of_lt->azC,div_add_mod->azF
open Bool renaming and_eq_true->avE,not_true->avH,false_and->avJ,not_false->avP,true_and->avR,and_false->awU,false_eq_true->axH,and_true->axP,and_self->ayJ
open Option renaming map_eq_some_iff->avM,map_some->avS,some->awV,getD_some->axK,bind_eq_some_iff->azD
open Int renaming toNat_natCast->axA,tdiv->axQ
open Array renaming replicate->axG,getElem?_eq_some_iff->ayM,getElem?_eq_getElem->ayW,getD_eq_getD_getElem?->azG
open List renaming length->Z'
set_option maxRecDepth 100000
set_option maxHeartbeats 800000
open Go.IntKind renaming i64->i_,u64->u_
open Go.PM.PF renaming nil->n_,args->g_
open Go.PM.PH renaming nil->h_
noncomputable section
namespace Go.PM
open Go Go.Na
def Iq(k:Nat)(v:Nat):PF:=((n_.set 3 (.int .i64 k)).set 4 (.int .u32 v))
variable{C:Ctx}
theorem abO(L:vF C)(xs:N_)(N:Lim xs)(V:Z' xs<=35184372087808) :
  te.wp C (aW Cn.res (aL (.j (dC (val xs):Nat)))) (g_ [aN xs]) .nil:=by
 simp only[go_sem,te,Cn];refine aB (L.trim xs N V) rfl ?_;have W:=iK N;simp only[go_sem,auW,bJ,JJ];by_cases A:nl (val xs)=0
 ·simp only[go_sem,bG A];refine cL ?_;have:val xs=0:=kD.1 A;simp[bL,this,mE]
 obtain⟨n,S⟩:∃n,nl (val xs)=n+1:=⟨nl (val xs)-1,by omega⟩;obtain⟨t,y,E⟩:=Ip (xs:=aM (val xs)) (bE _) (by rw[aY];exact S);have w:t<4294967296:=bE _ t (axF y);have U:val xs=val ((aM (val xs)).take n)+4294967296^n*t:=by
  have:=aY (val xs);have e:n<(aM (val xs)).length:=by rw[bJ];omega
  have R:(aM (val xs))[n]=t:=by rw[avF e]at y;exact awV.inj y
  conv=>lhs;rw[<-this,<-avT (l:=aM (val xs)) (i:=n+1) (by rw[bJ];omega)]
  rw[cW _ e,R]
 have hb:dC (val xs)=32*n+dC t:=by have K:=gV ((bE (val xs)).take n);rw[avN,bJ,axS Om]at K;have x:=Dw (lo:=val ((aM (val xs)).take n)) (k:=32*n) (hi:=t) (by rw[Nat.pow_mul];exact K) E;rw[<-x,Nat.pow_mul];exact congrArg dC U
 have u:(aO (aM (val xs)))[n]?=some [.int .u32 (t:Nat)]:=by simp[aO,y]
 have O:i_.wrap (((nl (val xs):Nat):Int)-1)=(n:Int):=wO_
 have e2:i_.wrap (32*(n:Int))=((32*n:Nat):Int):=wO_
 simp only[go_sem,bS A,auW,bJ,O,e2,u];refine wp_loop (α:=Nat × Nat) (λa=>Iq a.1 a.2) (λ_=>.nil) (λa=>a.1+dC a.2=32*n+dC t/\a.2<4294967296) (λa=>a.2) (32*n,t) ⟨rfl,w⟩ ?_ a_ ?_
 ·unfold Iq;exact Lq
 rintro⟨k,v⟩ ⟨x,hlt⟩;simp only at x hlt;have M:dC t<=32:=(pS t 32).2 w;simp only[go_sem,Iq];by_cases J:(v:Int)>0
 ·have F:v≠0:=Om;have B:IntKind.u32.wrap (axQ (v:Int) 2)=((v/2:Nat):Int):=by rw[show axQ (v:Int) 2=((v/2:Nat):Int)from Int.ofNat_tdiv v 2,dB,awT Om]
  simp only[go_sem,J,B,wZz k];refine aE (k+1,v/2) ⟨?_,?_⟩ (Nat.div_lt_self Om aU) ?_ a_
  ·have:=uH F;simp only;omega
  ·simp only;omega
  ·exact Lq
 ·have:v=0:=Om;subst this;simp only[go_sem,J];refine cL ?_;rw[mE]at x;simp only[bL,PV.int.injEq,true_and];omega
theorem zh(n:Nat):4294967296^(n/32)*2^(n%32)=2^n:=by
 rw[show(4294967296:Nat)=2^32 by decide,<-Nat.pow_mul,<-Nat.pow_add];congr 1;omega
theorem V0(n:Nat):i_.wrap (axQ (n:Int) 32)=i_.wrap ((n/32:Nat):Int):=by
 rw[show axQ (n:Int) 32=((n/32:Nat):Int)from Int.ofNat_tdiv n 32]
theorem V6(n:Nat):Int.tmod (n:Int) 32=((n%32:Nat):Int):=Int.ofNat_tmod n 32
def acB(a:N_)(n:Nat)(v:PV)(c i:Nat):PF:=(((((n_.set 0 (aN a)).set 1 (.int .i64 n)).set 5 (v)).set 6 (.int .u64 c)).set 7 (.int .i64 i))
theorem alM(L:vF C)(a:N_)(n:Nat)(ha:Lim a)(h1:Z' a<=8388608)(hn:n<=8388608)(h0:Z' a=0->val a=0) :
  Iv.wp C (aW uup.res (qV 1 (aO (aM (val a*2^n))))) (g_ [aN a,.j n]) .nil:=by
 simp only[go_sem,Iv,uup,auW,JJ];by_cases J:Z' a=0;simp only[go_sem,bG J];rw[h0 J,Nat.zero_mul,iO];exact MV (.inr rfl) rfl;have ez:i_.wrap (axQ (n:Int) 32)=((n/32:Nat):Int):=by rw[V0,kp Om]
 have em:=V6 n;have eu:u_.wrap ((n%32:Nat):Int)=((n%32:Nat):Int):=bT Om;have Y:=zh n;have X:n%32<32:=awY _ aU;have hz:n/32<=8388608:=Om;generalize η:n/32=z at *
 generalize ε:n%32=s at *
 have V:((z:Nat):Int)*((4:Nat):Int)<=140737488355328:=Om;have W:((z:Nat):Int)<=9223372036854775807:=Om;have β:avA z [PV.int .u32 0]=aO (avA z 0):=by simp[aO]
 have O:2^s<=2147483648:=ayU (show 0<2 by decide) (Om:s<=31);have E:0<2^s:=ayH aU;simp only[go_sem,bS J,ez,V,W,β];refine aS λo ho=>?_;simp only[go_sem];refine wp_loop (α:=N_ × Nat × T3_) (λt=>acB a n t.2.2.2.1 t.2.1 t.2.2.1) (λt=>t.2.2.2.2)
  (λt=>t.2.2.1<=Z' a/\t.1.length=z+t.2.2.1/\Lim t.1/\t.2.1<2^s/\val t.1+4294967296^t.1.length*t.2.1=val (a.take t.2.2.1)*2^n/\bF t.2.2.2.2 1 t.2.2.2.1 (aO t.1)) (λt=>Z' a-t.2.2.1) (avA z 0,0,0,.osl o 1 0 z,h_.set o (.rows 1 (aO (avA z 0))))
  ⟨by simp,by simp,CM _,E,by simp[val,yP],.inr ⟨o,aO (avA z 0),by rw[cQ,List.length_replicate],s_,by rw[cQ];exact avD _,avW⟩⟩ ?_ b_ ?_
 unfold acB;exact Lq;rintro⟨P,c,i,v,H0⟩ ⟨hi,hP,l,hc,w,S⟩;simp only at hi hP l hc w S ⊢;simp only[go_sem,acB];by_cases K:i<Z' a;have A:(i:Int)<(Z' a:Nat):=Om;have δ:=ha _ (avB K);have Z:=cW a K;have U:=cG a K;generalize hx:a[i]=x at *
 have ζ:x*2^s<=4294967295*2147483648:=ayA Om O;have ex:u_.wrap ((x:Nat):Int)=((x:Nat):Int):=bT Om;have γ:2^s*x=x*2^s:=awF _ _;have N:shift .shl .u64 (x:Int) (s:Int)=some (.int .u64 ((2^s*x:Nat):Int)):=RH Om Om;have M:=orI (a:=2^s*x) (b:=c) (n:=c+2^s*x) Om Om (by rw[Nat.or_comm];exact G3 hc Om) Om;have F:(c+2^s*x)/4294967296<2^s:=by rw[ayO aU];have:2^s*(x+1)<=2^s*4294967296:=axW _ Om;rw[avQ,ayG]at this;omega
 have B:(1:Nat)*1<=16777216:=by decide
 simp only[go_sem,A,U,ex,em,eu,N,M,dB,B];refine eX (src:=[[.int .u32 (((c+2^s*x)%4294967296:Nat):Int)]]) S rfl (vQ Om) λv' H' u _=>?_;rw[vS]at u;simp only[go_sem,EV,wZz i];refine aE (P++[(c+2^s*x)%4294967296],(c+2^s*x)/4294967296,i+1,v',H') ⟨by simp only;omega,by simp;omega,l.app λy hy=>by simp at hy;subst hy;exact awY _ aU,F,?_,u⟩ sO_ ?_ b_;simp only;have hp:4294967296^P.length*(2^s*x)=4294967296^i*x*2^n:=by rw[hP,Nat.pow_add,<-Y];rw[awC,Nat.mul_left_comm (4294967296^i),<-awC (4294967296^z),awF (4294967296^z*2^s),awC,awF x]
 rw[mA,auZ,avG,axE,awC,axL,<-avQ,Nat.mod_add_div,Z,avQ,awO,<-axL,w,hp];exact Lq;have e:i=Z' a:=Om;subst e;have A:¬(Z' a:Int)<(Z' a:Nat):=Om;have B:(1:Nat)*1<=16777216:=by decide
 have hV:val (P++[c])=val a*2^n:=by rw[mA,w,avW]
 have R:Lim (P++[c]):=l.app λx hx=>by simp at hx;omega
 have ec:IntKind.u32.wrap ((c:Nat):Int)=((c:Nat):Int):=by rw[dB,awT Om]
 simp only[go_sem,A,ec,B];refine eX (src:=[[.int .u32 ((c:Nat):Int)]]) S rfl (vQ Om) λv' H' u _=>?_;rw[vS]at u;have X:=L.trimM _ R (by simp;omega);rw[hV]at X;refine Bk X u rfl λF1 H1 _ r H2 hr _=>?_;simp only[go_sem];exact U8 (.inr rfl) hr rfl
def XE(a:N_)(n:Nat)(v:PV)(i:Nat):PF:=((((n_.set 0 (aN a)).set 1 (.int .i64 n)).set 5 (v)).set 6 (.int .i64 i))
theorem abR(L:vF C)(a:N_)(n:Nat)(O:Lim a)(h1:Z' a<=8388608)(hn:n<=1000000000) :
  tf.wp C (aW sP.res (cC (aN (aM (val a/2^n))))) (g_ [aN a,.j n]) .nil:=by
 have ez:i_.wrap (axQ (n:Int) 32)=((n/32:Nat):Int):=by rw[V0,kp Om]
 have em:=V6 n;have eu:u_.wrap ((n%32:Nat):Int)=((n%32:Nat):Int):=bT Om;have S:=zh n;have W:n%32<32:=awY _ aU;have hz:n/32<=1000000000:=Om;generalize κ:n/32=z at *
 generalize ι:n%32=s at *
 simp only[go_sem,tf,sP,auW,ez];by_cases c0:Z' a<=z;have w:((z:Nat):Int)>=(Z' a:Nat):=Om;have hq:val a/2^n=0:=by refine azC (Nat.lt_of_lt_of_le (gV O) ?_);rw[<-S];exact avZ (ayU aU c0) (Nat.le_mul_of_pos_right _ (ayH aU))
 simp only[go_sem,w];rw[hq,iO];exact bC (vs:=[.aJ]) (.inr rfl) .nil rfl a_ ⟨.nil 1,rfl⟩;have w:¬((z:Nat):Int)>=(Z' a:Nat):=Om;have hR:val a/2^n=val (a.drop z)/2^s:=by rw[BB O Om,<-S,Nat.div_div_eq_div_mul]
 have M:Lim (a.drop z):=O.drop z;simp only[go_sem,w,ez];refine wp_loop (α:=N_ × PV × PH) (λt=>XE a n t.2.1 (z+t.1.length)) (λt=>t.2.2)
  (λt=>z+t.1.length<=Z' a/\t.1=fI t.1.length (val (a.drop z)/2^s)/\bF t.2.2 1 t.2.1 (aO t.1)) (λt=>Z' a-t.1.length) ([],.aJ,.nil)
  ⟨by simp;omega,rfl,.nil⟩ ?_ a_ ?_
 unfold XE
 (repeat' (first|exact d_|refine c_ ?_ ?_))<;>first|(simp only[go_sem,axC]<;>rfl)|rfl
 rintro⟨P,v,H0⟩ ⟨hP,hD,hO⟩;simp only at hP hD hO ⊢;simp only[go_sem,XE];have J:Lim P:=by rw[hD];exact qQ _ _
 by_cases X:z+Z' P<Z' a;have A:((z+Z' P:Nat):Int)<(Z' a:Nat):=Om;have θ:=O _ (avB X);have γ:=cG a X;have ε:Z' P<=(a.drop z).length:=by rw[awZ];omega
 have U:=BB M ε;have u:(a.drop z).drop P.length=a[z+Z' P]::a.drop (z+Z' P+1):=by rw[List.drop_drop,axB X]
 generalize hx:a[z+Z' P]=x at *
 have ex:u_.wrap ((x:Nat):Int)=((x:Nat):Int):=bT Om;have δ:(1:Nat)*1<=16777216:=by decide
 have ew:i_.wrap (((z+Z' P:Nat):Int)+1)=((z+Z' P+1:Nat):Int):=eC Om;have fin:∀(t:Nat)(F:PF),t<18446744073709551616->val (a.drop z)/4294967296^P.length%(4294967296*4294967296)=t->F 0=some (aN a)->F 1=some (.j n)->F 5=some v->F 6=some (.j (z+Z' P:Nat))->F 7=some (.int .u64 t) ->
   ∀K:bZ,(∀v' V H2,(XE a n v' (z+(Z' P+1))).le V->bF H2 1 v' (aO (P++[t/2^s%4294967296]))->(P++[t/2^s%4294967296])=fI (Z' P+1) (val (a.drop z)/2^s)->K .normal V H2) ->
   aI.wp C (.region kf) (fA 1 (fZ C (aI.wp C (.region XF)) K)) F H0:=by
  intro t F ht ζ f0 f1 f5 f6 f7 K hK;have E:shift .shr .u64 (t:Int) (s:Int)=some (.int .u64 ((t/2^s:Nat):Int)):=alH Om;simp only[go_sem,kf,f5,f7,f1,em,eu,E,dB,δ];refine eX (src:=[[.int .u32 ((t/2^s%4294967296:Nat):Int)]]) hO rfl (vQ Om) λv' H' N _=>?_;rw[vS]at N;simp only[go_sem,XF,f6,ew];refine hK v' _ H' ?_ N ?_;unfold XE;exact Lq;rw[CF,<-hD];congr 2;have e:val (a.drop z)/4294967296^P.length=t%4294967296+4294967296*(t/4294967296+4294967296*(val (a.drop z)/4294967296^P.length/(4294967296*4294967296))):=by have:=Nat.mod_add_div (val (a.drop z)/4294967296^P.length) (4294967296*4294967296);rw[ζ]at this;have h2:=Nat.mod_add_div t 4294967296;rw[avQ,<-axL,h2,<-awC];exact this.symm
  have:=cv W e;rw[this];congr 2;have h2:=Nat.mod_add_div t 4294967296;omega
 simp only[aI.wp,go_sem]at fin;simp only[go_sem,A,γ,ex,ew];by_cases Y:z+Z' P+1<Z' a;have B:((z+Z' P+1:Nat):Int)<(Z' a:Nat):=Om;have η:=O _ (avB Y);have R:=cG a Y;rw[axB Y]at u;generalize hy:a[z+Z' P+1]=y at *
 have ey:u_.wrap ((y:Nat):Int)=((y:Nat):Int):=bT Om;have E:shift .shl .u64 (y:Int) ((32:Nat):Int)=some (.int .u64 ((2^32*y:Nat):Int)):=RH aU Om;have β:=orI (a:=x) (b:=2^32*y) (n:=x+2^32*y) Om Om (G3 Om Om) Om;simp only[go_sem,B,ew,R,ey,show shift .shl .u64 (y:Int) 32=_ from E,β];refine fin (x+2^32*y) _ Om ?_ rfl rfl rfl rfl rfl _ ?_;rw[<-U,u];simp only[val];omega;intro v' V H2 Z e2 e3;refine aE (α:=N_ × PV × PH) (P++[(x+2^32*y)/2^s%4294967296],v',H2) ⟨by simp;omega,by simpa using e3,e2⟩ (by simp;omega) ?_ b_;simp only[auZ,avG];exact Z;have B:¬((z+Z' P+1:Nat):Int)<(Z' a:Nat):=Om;rw[azH (l:=a) (i:=z+Z' P+1) Om]at u;simp only[go_sem,B];refine fin x _ Om ?_ rfl rfl rfl rfl rfl _ ?_;rw[<-U,u];simp only[val];omega;intro v' V H2 Z e2 e3;refine aE (α:=N_ × PV × PH) (P++[x/2^s%4294967296],v',H2) ⟨by simp;omega,by simpa using e3,e2⟩ (by simp;omega) ?_ b_;simp only[auZ,avG];exact Z;have e:z+Z' P=Z' a:=Om;have A:¬((z+Z' P:Nat):Int)<(Z' a:Nat):=Om;have hV:val P=val (a.drop z)/2^s:=by rw[hD];refine tM (Nat.lt_of_le_of_lt (ayL _ _) ?_);have:=gV M;rw[awZ]at this;rw[show P.length=Z' a-z by omega];exact this
 have W:=L.trim _ J Om;rw[hV,<-hR]at W;simp only[go_sem,A];refine AF W hO rfl λF1 H1 _=>?_;simp only[go_sem];exact bC (.inr rfl) .nil rfl a_ ⟨.refl _,rfl⟩
structure TO(C:Ctx):Prop extends l7 C where
 bits:∀xs,Lim xs->Z' xs<=35184372087808->aH C 31 [aN xs] .nil (aL (.int .i64 (dC (val xs):Nat)))
 upM:∀(a:N_)(n:Nat),Lim a->Z' a<=8388608->n<=8388608->(Z' a=0->val a=0)->aH C 45 [aN a,.int .i64 n] .nil (qV 1 (aO (aM (val a*2^n))))
 down:∀(a:N_)(n:Nat),Lim a->Z' a<=8388608->n<=1000000000->aH C 40 [aN a,.int .i64 n] .nil (aL (aN (aM (val a/2^n))))
def udS:Spec:=λname vs=>match name,vs with
 |35,[.int _ v]=>some ([],λ_=>aL (aN (aM v.toNat)))
 |44,[x,y]=>some ([],λ_=>aL (aN (aM (val (lJ x)*val (lJ y)))))
 |32,[x,.osl q _ _ _]=>some ([q],λe r H'=>H'=e/\∀xs,Lim xs->e q=some (.rows 1 (aO xs))->r=.int .i64 (eZ (val (lJ x)) (val xs)))
 |_,_=>none
theorem abQ(v:Nat):udS 35 [.int .u64 v]=some ([],λ_=>aL (aN (aM v))):=rfl
theorem Wb(x y:N_):udS 44 [aN x,aN y]=some ([],λ_=>aL (aN (aM (val x*val y)))):=by
 show some ([],λ_=>aL (aN (aM (val (lJ (aN x))*val (lJ (aN y))))))=_;rw[fS,fS]
theorem Xl(q:Nat)(x L:N_):(h_.set q (.rows 1 (aO L)))=(h_.set q (.rows 1 (aO L)))/\∀xs,Lim xs->(h_.set q (.rows 1 (aO L))) q=some (.rows 1 (aO xs))->(PV.int .i64 (eZ (val x) (val L)))=.j (eZ (val (lJ (aN x))) (val xs)):=by
 refine⟨rfl,λxs i e=>?_⟩;rw[cE]at e;have:aO L=aO xs:=(aV.rows.inj (awV.inj e)).2;rw[VQ this,fS]
def duF(n o i:Nat)(y:N_)(top l e:Nat)(k:Int):PF:=
 ((((((n_.set 10 (.int .i64 n)).set 11 (.osl o 1 0 i)).set 12 (aN y)).set 13 (.int .u64 top)).set 14 (.osl l 1 0 e)).set 15 (.int .i64 k))
abbrev fM(X:N_)(Z:P2_):P2_:=aO X++Z
theorem SL{X:N_}{Z:P2_}{i:Nat}(h:i<Z' X):(fM X Z)[i]?=some [.int .u32 ((X[i]:Nat):Int)]:=by
 rw[fM,axU (by rw[cQ];exact h),cG X h]
theorem Az{X:N_}{Z:P2_}{i:Nat}(h:i<Z' X)(v:Nat):(fM X Z).set i [.int .u32 (v:Int)]=fM (X.set i v) Z:=by
 rw[fM,List.set_append_left _ _ (by rw[cQ];exact h),iL]
theorem Ay{X:N_}{Z:P2_}{j m:Nat}(h:j+m<=Z' X):((fM X Z).drop j).take m=aO ((X.drop j).take m):=by
 rw[fM,List.drop_append_of_le_length (by rw[cQ];omega),List.take_append_of_le_length (by rw[awZ,cQ];omega)];unfold aO;rw[<-List.map_drop,<-ayN]
theorem alK(L:TO C)(n o w:Nat)(y:N_)(top u Y j:Nat)(X:N_)(Z:P2_)(U:u≠o)(hy:Lim y)(hX:Lim X)(γ:Z' X=w)(hl:w<=5000)(hj:j+(Z' y+1)<=w)(J:0<val y)
  (qv:aV) (g0:Nat) (hg:val ((X.drop j).take (Z' y+1))/val y<=g0) (S:g0<4294967296) (K:bZ) (F:PF) (H:PH) (hF:((duF n o w y top u Y j).set 17 (.int .u64 g0)).le F) (hH:((h_.set o (.rows 1 (fM X Z))).set u qv).le H)
  (hK:∀F' H',((duF n o w y top u Y j).set 17 (.int .u64 (val ((X.drop j).take (Z' y+1))/val y:Nat))).le F'->((h_.set o (.rows 1 (fM X Z))).set u qv).le H'->K .normal F' H') :
  aI.wp C (.block 4 (.loop BR)) K F H:=by
 have e:¬o=u:=λh=>U h.symm;have i:((X.drop j).take (Z' y+1)).length=Z' y+1:=by rw[avN,awZ];omega
 have x:Lim ((X.drop j).take (Z' y+1)):=(hX.drop _).take _;have A:=Ay (X:=X) (Z:=Z) (j:=j) (m:=Z' y+1) Om;have B:j+(Z' y+1)<=(fM X Z).length:=by rw[fM,auZ,cQ];omega
 have O:aO ((X.drop j).take (Z' y+1))≠[]:=λh=>by have:=congrArg List.length h;rw[cQ,i]at this;simp at this
 generalize hW:(X.drop j).take (Z' y+1)=W at *
 generalize E:val W/val y=N at *
 simp only[go_sem];refine wp_loop (α:=Nat) (λg=>(duF n o w y top u Y j).set 17 (.int .u64 g)) (λ_=>(h_.set o (.rows 1 (fM X Z))).set u qv) (λg=>N<=g/\g<4294967296) (λg=>g) g0 ⟨hg,S⟩ hF hH ?_;rintro g ⟨β,hlt⟩;have e1:i_.wrap ((j:Int)+(Z' y:Int))=((j+Z' y:Nat):Int):=jM Om;have e2:i_.wrap (((j+Z' y:Nat):Int)+1)=((j+Z' y+1:Nat):Int):=eC Om;have b1:(j:Int)<=((j+Z' y+1:Nat):Int):=Om;have b2:((j+Z' y+1:Nat):Int)<=(w:Nat):=Om;have b3:j+Z' y+1-j=Z' y+1:=Om;have mk:=L.make g Om;have tm:=L.times y (aM g) hy (bE _) Om (by have M:nl g<=1:=sI (by rw[Nat.pow_one];exact hlt);rw[bJ];omega)
 rw[aY]at tm;have V:(aM (val y*g)).length<=35184372087808:=by have M:nl g<=1:=sI (by rw[Nat.pow_one];exact hlt);have h2:=pF (a:=val y) (b:=g) (iK hy) M;rw[bJ];omega
 have cm:=L.cmp (aM (val y*g)) W (bE _) x V Om;rw[aY]at cm;simp only[go_sem,BR];refine bK .nil udS a_ ?_;simp only[go_sem,duF];refine cB (abQ g) mk Sq a_ ?_;simp only[go_sem];have tS:=Wb y (aM g);rw[aY]at tS;refine cB tS tm Sq a_ ?_;simp only[go_sem,auW,e1,e2,b1,b2,b3];refine uY (src:=aO W) ?_ ?_ (λh=>absurd h O) λ_ o' l=>?_
 ·simp only[go_sem,e,B,A]
 ·unfold roomFor;rw[cQ,i];simp only[maxLen];omega
 refine⟨a_,?_⟩;rw[cQ,i];have n1:¬o'=u:=(kO.1 l).1;refine Xv (o:=o') (s:=1) (rs:=aO W) (vs:=[aN (aM (val y*g)),.osl o' 1 0 (Z' y+1)]) (v:=.j (eZ (val y*g) (val W))) rfl (.int _ _) Sq ?_ ?_ ?_ Sq a_ ?_
 ·rw[awE,awE,axD,AM (by rw[cQ,i];exact avD _),avT (by rw[cQ,i];exact avD _)];exact cm
 ·have:=Xl o' (aM (val y*g)) W;rw[aY]at this;exact this
 ·rintro r H' ⟨M,h2⟩;have:=h2 W x (by rw[cE]);rw[fS,aY]at this;exact⟨this,M⟩
 simp only[go_sem];by_cases c:val W<val y*g
 ·have R:eZ (val y*g) (val W)=1:=by unfold eZ;rw[aC Om,aF c]
  have hq:N<g:=by rw[<-E];exact(ayO J).2 (by rw[awF];exact c)
  have ew:u_.wrap ((g:Int)-1)=((g-1:Nat):Int):=by rw[wrap_u64 Om Om];omega
  simp only[go_sem,R,show(1:Int)>0 by decide,ew];refine aE (g-1) ⟨by omega,by omega⟩ Om ?_ ?_
  ·exact Lq
  ·refine e_ (e_ a_ ?_) ?_
   ·have n2:¬o=o':=λh=>by subst h;rw[aP,aC e,cE]at l;cases l
    simp only[go_sem,n2,e]
   ·have n3:¬u=o':=λh=>n1 h.symm;simp only[go_sem,n3]
 ·have R:¬eZ (val y*g) (val W)>0:=by unfold eZ;rw[aC c];split<;>decide
  have hq:g=N:=by
   have:g<=N:=by rw[<-E];exact(Nat.le_div_iff_mul_le J).2 (by rw[awF];omega)
   omega
  simp only[go_sem,R];refine hK _ _ ?_ ?_
  ·unfold duF
   (repeat' (first|exact d_|refine c_ ?_ ?_))<;>first|(simp only[go_sem,<-hq]<;>rfl)|rfl
  ·refine e_ (e_ a_ ?_) ?_
   ·have n2:¬o=o':=λh=>by subst h;rw[aP,aC e,cE]at l;cases l
    simp only[go_sem,n2,e]
   ·have n3:¬u=o':=λh=>n1 h.symm;simp only[go_sem,n3]
theorem afV(R k:Nat)(h:k<nl R):∃u:k<(aM R).length,(aM R)[k]=R/4294967296^k%4294967296:=by
 have e:k<(aM R).length:=by rw[bJ];exact h
 refine⟨e,?_⟩;have i:=BB (bE R) (Nat.le_of_lt e);rw[aY,axB e]at i;have l:=bE R _ (avB e);simp only[val]at i;rw[<-i,Nat.add_mul_mod_self_left,awT l]
theorem Y1(R k:Nat)(h:nl R<=k):R/4294967296^k%4294967296=0:=by
 rw[azC ((kU R k).1 h)]
theorem ahO{A P W Z:N_}{i:Nat}(e:Z' P=i)(hi:i<Z' W)(v:Nat):(A++(P++W.drop i)++Z).set (Z' A+i) v=A++((P++[v])++W.drop (i+1))++Z:=
 VQ (by rw[<-iL];exact MY e hi v)
theorem aoI(n o E:Nat)(y:N_)(top x Y j:Nat)(X:N_)(Z:P2_)(M:x≠o)(U:Z' X=E)(hl:E<=5000)(hj:j+(Z' y+1)<=E)
  (qv:aV) (g R:Nat) (K:bZ) (F:PF) (H:PH) (hF:((((duF n o E y top x Y j).set 17 (.int .u64 g)).set 18 (aN (aM R))).set 19 (.j 0)).le F) (hH:((h_.set o (.rows 1 (fM X Z))).set x qv).le H)
  (hK:∀F' H',((duF n o E y top x Y j).set 17 (.int .u64 g)).le F'->((h_.set o (.rows 1 (fM (X.take j++fI (Z' y+1) R++X.drop (j+(Z' y+1))) Z))).set x qv).le H'->K .normal F' H') :
  aI.wp C (.block 6 (.loop BS)) K F H:=by
 have u:¬o=x:=λh=>M h.symm;have hA:(X.take j).length=j:=by rw[avN];omega
 have ε:((X.drop j).take (Z' y+1)).length=Z' y+1:=by rw[avN,awZ];omega
 have θ:(X.drop (j+(Z' y+1))).length=E-(j+(Z' y+1)):=by rw[awZ,U]
 have B:X.take j++(X.drop j).take (Z' y+1)++X.drop (j+(Z' y+1))=X:=by rw[awB,<-List.drop_drop,ayK,ayK]
 rw[<-B]at hH;generalize γ:X.take j=A at *
 generalize δ:(X.drop j).take (Z' y+1)=W at *
 generalize η:X.drop (j+(Z' y+1))=w at *
 simp only[go_sem];refine wp_loop (α:=N_) (λP=>(((duF n o E y top x Y j).set 17 (.int .u64 g)).set 18 (aN (aM R))).set 19 (.j P.length)) (λP=>(h_.set o (.rows 1 (fM (A++(P++W.drop P.length)++w) Z))).set x qv)
  (λP=>Z' P<=Z' y+1/\P=fI P.length R) (λP=>Z' y+1-Z' P) [] ⟨auY _,rfl⟩ hF (by simpa using hH) ?_
 rintro P ⟨hP,hD⟩;simp only[go_sem,BS,duF];by_cases c:Z' P<Z' y+1;have O:(Z' P:Int)<=(Z' y:Nat):=Om;have ei:i_.wrap ((j:Int)+(Z' P:Int))=((j+Z' P:Nat):Int):=jM Om;have β:(A++(P++W.drop P.length)++w).length=E:=by simp only[auZ,awZ];omega
 have hi:j+Z' P<(A++(P++W.drop P.length)++w).length:=Om;have b1:((j+Z' P:Nat):Int)<(E:Nat):=Om;have r1:=SL (Z:=Z) hi;have s1:=Az (Z:=Z) hi 0;have N:j+Z' P<((A++(P++W.drop P.length)++w).set (j+Z' P) 0).length:=by rw[awS];exact hi
 have l:=λv=>ahO (A:=A) (P:=P) (W:=W) (Z:=w) (i:=Z' P) rfl Om v;rw[hA]at l;generalize ζ:A++(P++W.drop P.length)++w=XX at *
 have r2:(fM (A++((P++[0])++W.drop (Z' P+1))++w) Z)[j+Z' P]?=some [.int .u32 ((0:Nat):Int)]:=by rw[<-l 0,SL N,List.getElem_set_self]
 have s2:∀v,(fM (A++((P++[0])++W.drop (Z' P+1))++w) Z).set (j+Z' P) [.int .u32 ((v:Nat):Int)]=fM (A++((P++[v])++W.drop (Z' P+1))++w) Z:=by intro v;rw[<-l 0,Az N,List.set_set,l]
 have auG:=CF P.length R;rw[<-hD]at auG;have ew:i_.wrap ((Z' P:Int)+1)=((Z' P+1:Nat):Int):=eC Om;simp only[go_sem,O,ei,b1,u,r1,show([PV.int .u32 (0:Int)])=[PV.int .u32 ((0:Nat):Int)]from rfl,s1,bJ];by_cases c2:Z' P<nl R;have J:(Z' P:Int)<(nl R:Nat):=Om;obtain⟨S,V⟩:=afV R P.length c2;have hr:=cG (aM R) S;rw[V]at hr;simp only[go_sem,J,hr,ei,b1,u,r2,s2,List.set_set,l,ew];refine aE (P++[R/4294967296^P.length%4294967296]) ⟨by simp;omega,by rw[auZ,avG];exact auG.symm⟩ (by simp;omega) ?_ ?_;rw[auZ,avG];exact Lq;rw[auZ,avG];refine e_ (e_ a_ ?_) ?_<;>simp only[go_sem,u,show ¬x=o from M];have J:¬(Z' P:Int)<(nl R:Nat):=Om;have V:=Y1 R P.length Om;rw[V]at auG;simp only[go_sem,J,l,ew];refine aE (P++[0]) ⟨by simp;omega,by rw[auZ,avG];exact auG.symm⟩ (by simp;omega) ?_ ?_;rw[auZ,avG];exact Lq;rw[auZ,avG];refine e_ (e_ a_ ?_) ?_<;>simp only[go_sem,u,show ¬x=o from M];have O:¬(Z' P:Int)<=(Z' y:Nat):=Om;have e:Z' P=Z' y+1:=Om;simp only[go_sem,O];refine hK _ _ (by unfold duF;exact Lq) ?_;have h2:A++fI (Z' y+1) R++w=A++(P++W.drop P.length)++w:=by rw[azH Om,awJ,<-e,<-hD]
 rw[h2];exact b_
theorem Yj{y W:N_}{m:Nat}(E:Lim y)(hW:Lim W)(A:Z' y=m+1)(x:Z' W=m+2)(B:0<y[m]):val W/val y<=(4294967296*W[m+1]+W[m])/y[m]:=by
 have w:=cW y (Om:m<Z' y);rw[avT Om]at w;have l:=cW W (Om:m+1<Z' W);rw[avT Om,cW W (Om:m<Z' W)]at l;have u:=gV (hW.take m);rw[avN,axS Om]at u;have hp:0<4294967296^m:=ayH aU;have hb:4294967296^m*y[m]<=val y:=Om;have i:0<4294967296^m*y[m]:=Nat.mul_pos hp B;have e:val W=val (W.take m)+4294967296^m*(4294967296*W[m+1]+W[m]):=by rw[l,axE,avQ,awC];omega
 refine avZ (Nat.div_le_div_left hb i) ?_;rw[<-Nat.div_div_eq_div_mul,e,Nat.add_mul_div_left _ _ hp,azC u,avK];exact avD _
theorem Wc(L:TO C)(U0 n o l e i m:Nat)(y z:N_)(R:i≠o)(hy:Lim y)(M:Z' y=m+1)(ht:0<y[m])(f':l=e+(m+1))(U:l<=5000)(X:N_)(J:uB U0 (val y) (m+1) l e e X (avA e 0))(K:bZ)(F:PF)(H:PH)
  (hF:(duF n o l y (y[m]) i e ((e:Int)-1)).le F) (hH:((h_.set o (.rows 1 (fM X (aO z)))).set i (.rows 1 (aO (avA e 0)))).le H)
  (hK:∀X' Q' F' H',uB U0 (val y) (m+1) l e 0 X' Q'->(duF n o l y (y[m]) i e (-1)).le F'->((h_.set o (.rows 1 (fM X' (aO z)))).set i (.rows 1 (aO Q'))).le H'->K .normal F' H') :
  aI.wp C (.block 2 (.loop BT)) K F H:=by
 have u:¬o=i:=λh=>R h.symm;have p':¬i=o:=R;have hV:val y<4294967296^(m+1):=by have:=gV hy;rw[M]at this;exact this
 have ν:0<val y:=by have h1:=cW y (Om:m<Z' y);rw[avT Om]at h1;have:0<4294967296^m*y[m]:=Nat.mul_pos (ayH aU) ht;omega
 have u':=hy _ (avB (Om:m<Z' y));generalize htop:y[m]=top at *
 simp only[go_sem];refine wp_loop (α:=Nat × N_ × N_) (λt=>duF n o l y top i e ((t.1:Int)-1)) (λt=>(h_.set o (.rows 1 (fM t.2.1 (aO z)))).set i (.rows 1 (aO t.2.2)))
  (λt=>t.1<=e/\uB U0 (val y) (m+1) l e t.1 t.2.1 t.2.2) (λt=>t.1) (e,X,avA e 0) ⟨avD _,J⟩ hF hH ?_
 rintro⟨k,X,Q⟩ ⟨hk,J⟩;simp only at hk J;simp only[go_sem,BT,duF];by_cases h0:0<k;obtain⟨j,rfl⟩:∃j,k=j+1:=⟨k-1,by omega⟩;have hz:((j+1:Nat):Int)-1=(j:Int):=Om;have b':(j:Int)>=0:=Om;have dst:=D6 J hV Om f';rw[show m+1+1=m+2 from rfl]at dst;obtain⟨hlt,Θ⟩:=dst;have ξ:=J.lu';have q':=J.lq';have O:((X.drop j).take (m+2)).length=m+2:=by rw[avN,awZ];omega
 have γ:Lim ((X.drop j).take (m+2)):=(J.limU.drop _).take _;have s':m+1<((X.drop j).take (m+2)).length:=Om;have r':m<((X.drop j).take (m+2)).length:=Om;have a1:j+(m+1)<Z' X:=Om;have a0:j+m<Z' X:=Om;have w1:((X.drop j).take (m+2))[m+1]=X[j+(m+1)]:=by simp
 have w0:((X.drop j).take (m+2))[m]=X[j+m]:=by simp
 have ρ:=Yj hy γ M O (by rw[htop];exact ht);rw[w1,w0,htop]at ρ;have r1:=SL (Z:=aO z) a1;have r0:=SL (Z:=aO z) a0;have l1:=J.limU _ (avB a1);have l0:=J.limU _ (avB a0);generalize w':X[j+(m+1)]=A at *
 generalize v':X[j+m]=E at *
 have e1:i_.wrap ((j:Int)+(Z' y:Int))=((j+(m+1):Nat):Int):=by rw[M];exact jM Om
 have e0:i_.wrap (((j+(m+1):Nat):Int)-1)=((j+m:Nat):Int):=wO_
 have b1:((j+(m+1):Nat):Int)<(l:Nat):=Om;have b0:((j+m:Nat):Int)<(l:Nat):=Om;have Γ:u_.wrap ((A:Nat):Int)=((A:Nat):Int):=bT Om;have ω:u_.wrap ((E:Nat):Int)=((E:Nat):Int):=bT Om;have η:shift .shl .u64 (A:Int) 32=some (.int .u64 ((2^32*A:Nat):Int)):=RH (s:=32) Om Om;have ψ:(2:Nat)^32=4294967296:=by decide
 have ε:=orI (a:=2^32*A) (b:=E) (n:=2^32*A+E) Om Om (Nat.two_pow_add_eq_or_of_lt Om A).symm Om;rw[ψ]at η ε;have Φ:¬((top:Nat):Int)=0:=Om;have υ:(4294967296*A+E)/top<18446744073709551616:=Nat.lt_of_le_of_lt (ayL _ _) Om;have ζ:u_.wrap (axQ ((4294967296*A+E:Nat):Int) ((top:Nat):Int))=(((4294967296*A+E)/top:Nat):Int):=by rw[show axQ ((4294967296*A+E:Nat):Int) ((top:Nat):Int)=(((4294967296*A+E)/top:Nat):Int)from rfl];exact bT υ
 have φ:val ((X.drop j).take (m+2))/val y<4294967296:=(ayO ν).2 (by rw[awF];exact hlt);have ο:=Ay (X:=X) (Z:=aO z) (j:=j) (m:=m+2) Om;have σ:j+(m+2)<=(fM X (aO z)).length:=by rw[fM,auZ,cQ];omega
 have δ:val ((X.drop j).take (m+2))-val y*(val ((X.drop j).take (m+2))/val y)=val ((X.drop j).take (m+2))%val y:=by have:=azF (val ((X.drop j).take (m+2))) (val y);omega
 have B:val y*(val ((X.drop j).take (m+2))/val y)<=val ((X.drop j).take (m+2)):=Nat.mul_div_le _ _;clear w1 w0;have gu:=λg0=>alK (C:=C) L n o l y top i e j X (aO z) R hy J.limU ξ U Om ν (.rows 1 (aO Q)) g0;rw[M,show m+1+1=m+2 from rfl]at gu;generalize hW:(X.drop j).take (m+2)=W at *
 generalize t':val W/val y=N at *
 have Λ:aO W≠[]:=λh=>by have:=congrArg List.length h;rw[cQ,O]at this;simp at this
 have tail:∀(g0:Nat)(F:PF)(H:PH),N<=g0->g0<4294967296->((duF n o l y top i e j).set 17 (.int .u64 g0)).le F->((h_.set o (.rows 1 (fM X (aO z)))).set i (.rows 1 (aO Q))).le H ->
   aI.wp C (.seq (.block 4 (.loop BR)) (.seq (.region LD) (.seq (.seq (.region LF) (.block 6 (.loop BS))) (.region LG)))) (fA 3 (fZ C (aI.wp C (.region LH)) (fL (λ(t:Nat × N_ × N_)=>duF n o l y top i e ((t.1:Int)-1)) (λt=>(h_.set o (.rows 1 (fM t.2.1 (aO z)))).set i (.rows 1 (aO t.2.2))) (λt=>t.1<=e/\uB U0 (val y) (m+1) l e t.1 t.2.1 t.2.2) (λt=>t.1) (j+1) (fA 2 K)))) F H:=by
  intro g0 F H hg a' hF hH;have gu:=gu g0 hg a';simp only[go_sem]at gu;simp only[go_sem];refine gu _ F H hF hH ?_;intro V H1 w κ;have f11:V 11=some (.osl o 1 0 l):=w 11 _ (by unfold duF;simp only[go_sem]);have β:V 12=some (aN y):=w 12 _ (by unfold duF;simp only[go_sem]);have θ:V 15=some (.j j):=w 15 _ (by unfold duF;simp only[go_sem]);have ι:V 17=some (.int .u64 (N:Nat)):=w 17 _ (by unfold duF;simp only[go_sem]);have Δ:V 10=some (.j n):=w 10 _ (by unfold duF;simp only[go_sem]);have f13:V 13=some (.int .u64 top):=w 13 _ (by unfold duF;simp only[go_sem]);have f14:V 14=some (.osl i 1 0 e):=w 14 _ (by unfold duF;simp only[go_sem]);have ho:H1 o=some (.rows 1 (fM X (aO z))):=κ o _ (by simp only[go_sem,u]);have τ:H1 i=some (.rows 1 (aO Q)):=κ i _ Sq;have b3:(j:Int)<=((j+(m+1)+1:Nat):Int):=Om;have b4:((j+(m+1)+1:Nat):Int)<=(l:Nat):=Om;have b5:j+(m+1)+1-j=m+2:=Om;have e2:i_.wrap (((j+(m+1):Nat):Int)+1)=((j+(m+1)+1:Nat):Int):=eC Om;simp only[go_sem,LD,f11,θ,β,auW,e1,e2,b3,b4,b5];refine uY (src:=aO W) ?_ ?_ (λh=>absurd h Λ) λ_ o' S=>?_;simp only[go_sem,ho,σ,ο];unfold roomFor;rw[cQ,O];simp only[maxLen];omega;rw[cQ,O];have n1:¬i=o':=λh=>by subst h;rw[τ]at S;cases S
  have n2:¬o=o':=λh=>by subst h;rw[ho]at S;cases S
  have nq:nl N<=1:=sI (by rw[Nat.pow_one];exact φ);have tm:=L.times y (aM N) hy (bE _) Om (by rw[bJ];omega);rw[aY]at tm;have nW:=iK γ;have mn:=L.minus W (aM (val y*N)) γ (bE _) (by rw[aY];exact B) (by rw[bJ];exact avZ (iW B) nW) Om;rw[aY,δ]at mn;have Ξ:(aO W).take (m+2)=aO W:=avT (by rw[cQ];omega);simp only[go_sem,ι];refine aB (L.make N Om) Sq ?_;simp only[go_sem,β];refine aB tm Sq ?_;simp only[go_sem];refine tN (o:=o') (s:=1) (rs:=aO W) mn Sq (by simp only[go_sem,show m+2<=W.length by omega,Ξ]) ?_;simp only[go_sem,LF];have Ω:(fM X (aO z)).map (λr=>r.map (PV.dL o' 1 (aO W)))=fM X (aO z):=by
   have:fM X (aO z)=aO (X++z):=by simp[fM,aO]
   rw[this];exact yE _ _ _ _
  have Ψ:(aO Q).map (λr=>r.map (PV.dL o' 1 (aO W)))=aO Q:=yE _ _ _ _;have ur:=aoI (C:=C) n o l y top i e j X (aO z) R ξ U Om (.rows 1 (aO Q)) N (val W%val y);rw[M,show m+1+1=m+2 from rfl]at ur;simp only[go_sem]at ur;refine ur _ _ _ ?_ ?_ ?_;unfold duF
  (repeat' (first|exact d_|refine c_ ?_ ?_))<;>first|(simp only[go_sem,Δ,f11,β,f13,f14,θ,ι,n1,n2]<;>rfl)|rfl
  refine e_ (e_ a_ ?_) ?_;simp only[go_sem,u,n2,ho,aV.frz,Ω];simp only[go_sem,n1,τ,aV.frz,Ψ];intro Y H3 x μ;have i':Y 10=some (.j n):=x 10 _ (by unfold duF;simp only[go_sem]);have j':Y 11=some (.osl o 1 0 l):=x 11 _ (by unfold duF;simp only[go_sem]);have k':Y 12=some (aN y):=x 12 _ (by unfold duF;simp only[go_sem]);have l':Y 13=some (.int .u64 top):=x 13 _ (by unfold duF;simp only[go_sem]);have χ:Y 14=some (.osl i 1 0 e):=x 14 _ (by unfold duF;simp only[go_sem]);have m':Y 15=some (.j j):=x 15 _ (by unfold duF;simp only[go_sem]);have n':Y 17=some (.int .u64 N):=x 17 _ (by unfold duF;simp only[go_sem]);have g':H3 o=some (.rows 1 (fM (X.take j++fI (m+2) (val W%val y)++X.drop (j+(m+2))) (aO z))):=μ o _ (by simp only[go_sem,u]);have h':H3 i=some (.rows 1 (aO Q)):=μ i _ Sq;have e':j<Z' Q:=Om;have rq:=cG Q e';have d':(j:Int)<(e:Nat):=Om;have sq:=iL Q j N;have ec:IntKind.u32.wrap ((N:Nat):Int)=((N:Nat):Int):=by rw[dB,awT φ]
  have ej:i_.wrap ((j:Int)-1)=(j:Int)-1:=wrap_i64 Om Om;simp only[go_sem,LG,χ,m',n',d',h',rq,ec,sq,LH,ej];refine aE (α:=Nat × N_ × N_) (j,_,_) ⟨by simp only;omega,Θ⟩ sO_ ?_ ?_;unfold duF;exact lE5 i' j' k' l' χ;refine e_ (e_ a_ ?_) ?_;simp only[go_sem,u,g'];simp only[go_sem]
 simp only[aI.wp,go_sem]at tail;simp only[go_sem,hz,b'];refine bK .nil cS a_ ?_;simp only[go_sem,e1,e0,b1,b0,u,r1,r0,Γ,ω,η,ε,Φ,ζ];by_cases c:(4294967296*A+E)/top>4294967295;have c':(((4294967296*A+E)/top:Nat):Int)>4294967295:=Om;simp only[go_sem,c'];exact tail 4294967295 _ _ Om aU (by unfold duF;exact Lq) b_;have c':¬(((4294967296*A+E)/top:Nat):Int)>4294967295:=Om;simp only[go_sem,c'];exact tail _ _ _ ρ Om (by unfold duF;exact Lq) b_;have:k=0:=Om;subst this;have hz:¬((0:Nat):Int)-1>=0:=by decide
 simp only[go_sem,hz];refine hK X Q _ _ J ?_ b_;unfold duF;exact lE1 (show((0:Nat):Int)-1=-1 from rfl)
def abP(a:N_)(d q k r:Nat):PF:=(((((n_.set 0 (aN a)).set 1 (aN [d])).set 6 (.osl q 1 0 a.length)).set 7 (.int .u64 r)).set 8 (.int .i64 ((k:Int)-1)))
theorem Qx(L:TO C)(a:N_)(d:Nat)(ha:Lim a)(l:0<d)(hd:d<4294967296)(h1:Z' a<=1000)(F:PF)(f0:F 0=some (aN a))(f1:F 1=some (aN [d])) :
  aI.wp C (.seq (.region RY) (.seq (.region RZ) (.seq (.seq (.region SA) (.block 0 (.loop KV))) (.seq (.region KW) .ret)))) (aW [.tmp 4,.tmp 5] (cC (wG (val a) d))) F .nil:=by
 have Z:(Z' a:Int)*((4:Nat):Int)<=140737488355328:=Om;have β:(Z' a:Int)<=9223372036854775807:=Om;have hz:avA a.length [PV.int .u32 0]=aO (avA a.length 0++[]):=by simp[aO]
 simp only[go_sem,RY,f0,auW,Z,β,hz];refine aS λo ho=>?_;simp only[go_sem,RZ,SA,f0,auW];refine wp_loop (α:=Nat × N_ × Nat) (λt=>abP a d o t.1 t.2.2) (λt=>h_.set o (.rows 1 (aO (avA t.1 0++t.2.1))))
  (λt=>t.1+t.2.1.length=Z' a/\Lim t.2.1/\t.2.2<d/\val t.2.1*d+t.2.2=val (a.drop t.1)) (λt=>t.1) (Z' a,[],0) ⟨by simp,by simp[Lim],l,by simp[val]⟩ ?_ ?_ ?_
 unfold abP
 (repeat' (first|exact d_|refine c_ ?_ ?_))<;>first|(simp only[go_sem,f0,f1,wrap_i64 (Om:-9223372036854775808<=(Z' a:Int)-1) (Om:(Z' a:Int)-1<=9223372036854775807)]<;>rfl)|rfl
 exact e_ a_ Sq;rintro⟨k,S,r⟩ ⟨hk,i,O,e⟩;simp only at hk i O e;simp only[go_sem,KV,abP];by_cases h0:0<k;obtain⟨m,rfl⟩:∃m,k=m+1:=⟨k-1,by omega⟩;have A:((m+1:Nat):Int)-1=(m:Int):=Om;have X:(m:Int)>=0:=Om;have w:m<Z' a:=Om;have hlt:(m:Int)<(Z' a:Nat):=Om;have δ:=ha _ (avB w);have u:val (a.drop m)=a[m]+4294967296*val (a.drop (m+1)):=by rw[axB w];rfl
 have V:=cG a w;generalize hx:a[m]=x at *
 have ex:u_.wrap ((x:Nat):Int)=((x:Nat):Int):=bT Om;have ed:u_.wrap ((d:Nat):Int)=((d:Nat):Int):=bT Om;have K:shift .shl .u64 (r:Int) 32=some (.int .u64 ((2^32*r:Nat):Int)):=RH (s:=32) Om Om;have R:(2:Nat)^32=4294967296:=by decide
 have B:=orI (a:=2^32*r) (b:=x) (n:=2^32*r+x) Om Om (Nat.two_pow_add_eq_or_of_lt Om r).symm Om;rw[R]at K B;have hq:(4294967296*r+x)/d<4294967296:=by rw[ayO l];have:4294967296*(r+1)<=4294967296*d:=axW _ O;omega
 have W:¬((d:Nat):Int)=0:=Om;have E:u_.wrap (axQ ((4294967296*r+x:Nat):Int) ((d:Nat):Int))=(((4294967296*r+x)/d:Nat):Int):=by rw[show axQ ((4294967296*r+x:Nat):Int) ((d:Nat):Int)=(((4294967296*r+x)/d:Nat):Int)from rfl];exact bT Om
 have J:Int.tmod ((4294967296*r+x:Nat):Int) ((d:Nat):Int)=(((4294967296*r+x)%d:Nat):Int):=rfl;have ec:IntKind.u32.wrap (((4294967296*r+x)/d:Nat):Int)=(((4294967296*r+x)/d:Nat):Int):=by rw[dB,awT hq]
 have M:avA (m+1) 0++S=avA m 0++(0::S):=by rw[List.replicate_succ',awB];rfl
 have Y:(aO (avA m 0++(0::S)))[m]?=some [.int .u32 ((0:Nat):Int)]:=by rw[cG _ aZ];simp
 have N:(aO (avA m 0++(0::S))).set m [.int .u32 (((4294967296*r+x)/d:Nat):Int)]=aO (avA m 0++(((4294967296*r+x)/d)::S)):=by rw[iL,ayF _ _ aZ];simp
 simp only[go_sem,A,X,K,V,ex,B,ed,W,E,ec,hlt,M,Y,N,J];refine aE (m,((4294967296*r+x)/d)::S,(4294967296*r+x)%d) ⟨by simp only[awK];omega,λy hy=>?_,awY _ l,?_⟩ sO_ ?_ (e_ a_ Sq);rw[avL]at hy;rcases hy with rfl|hy
 exact hq;exact i y hy;simp only[val];rw[u,<-e,awO,avQ,awC];have:=azF (4294967296*r+x) d;rw[awF d]at this;omega
 (repeat' (first|exact d_|refine c_ ?_ ?_))<;>first|(simp only[go_sem,wrap_i64 (Om:-9223372036854775808<=(m:Int)-1) (Om:(m:Int)-1<=9223372036854775807)]<;>rfl)|rfl
 have:k=0:=Om;subst this;have A:¬((0:Nat):Int)-1>=0:=by decide
 rw[awM]at e;have hS:Z' S=Z' a:=Om;have hq:val S=val a/d:=by rw[<-e,awF,Nat.mul_add_div l,azC O,awQ]
 have γ:r=val a%d:=by rw[<-e,awF,Nat.mul_add_mod,awT O]
 have ε:avA 0 0++S=S:=by simp
 have hl:=L.trim S i Om;have U:(aO S).take a.length=aO S:=avT (by rw[cQ];omega);simp only[go_sem,A,KW,azA];refine tN (o:=o) (s:=1) (rs:=aO S) hl Sq (by simp only[go_sem,U,show a.length<=S.length by omega]) ?_;simp only[go_sem];refine aB (L.make r Om) Sq ?_;simp only[go_sem];refine bC (vs:=[aN (aM (val S)),aN (aM r)]) (.inr rfl) .nil Ev a_ ⟨?_,rfl⟩;rw[hq,γ];exact .refl _
theorem adV{B m:Nat}(h:nl B=m+1):32*m<dC B/\dC B<=32*(m+1):=by
 refine⟨?_,(pT B (m+1)).2 Om⟩;rcases avX (32*m) (dC B)with h1|h1
 exact h1;have:=(pT B m).1 h1;omega
theorem adW{B:Nat}(h:B≠0):2^(dC B-1)<=B:=by
 rcases avX B (2^(dC B-1))with h1|h1
 have i:=(pS B _).2 h1;have l:dC B≠0:=λe=>h (nB.1 e);omega;exact h1
theorem Qy(L:TO C)(A B:Nat)(hB:B≠0)(hA:nl A<=512)(Ω:nl B<=512) :
  XD.wp C (aW eM.res (cC (wG A B))) (g_ [aN (aM A),aN (aM B)]) .nil:=by
 have U:=bE A;have LB:=bE B;have vA:=aY A;have vB:=aY B;have lA:(aM A).length=nl A:=rfl;have lB:(aM B).length=nl B:=rfl;simp only[go_sem,XD,eM];refine aB (L.cmp _ _ U LB Om Om) rfl ?_;rw[vA,vB];by_cases c1:A<B;have hc:eZ A B<0:=by simp[eZ,c1]
 simp only[go_sem,hc];refine aB (L.trim _ U Om) rfl ?_;rw[vA];simp only[go_sem];refine bC (vs:=[.aJ,aN (aM A)]) (.inr rfl) .nil rfl a_ ⟨?_,rfl⟩;rw[wG,azC c1,awT c1,iO];exact CoL.tup (CoL.cons (.nil 1) (CoL.cons (.refl _) .nil));have hc:¬eZ A B<0:=by unfold eZ;rw[aC c1];split<;>decide
 have υ:0<B:=axX hB;have f':nl B≠0:=λh=>hB (kD.1 h);simp only[go_sem,hc,auW,lB];by_cases c2:nl B=1;have V:B<4294967296:=by have:=(kU B 1).1 Om;simpa using this
 have Γ:aM B=[B]:=tH hB V;have sh:=Qx (C:=C) L (aM A) B U υ V Om;rw[vA]at sh;simp only[aI.wp,go_sem]at sh;simp only[go_sem,bN (Om:((nl B:Nat):Int)=1)];exact sh _ rfl (by simp only[go_sem,Γ]);obtain⟨m,hm⟩:∃m,nl B=m+1:=⟨nl B-1,by omega⟩;have e':1<=m:=Om;obtain⟨c',δ⟩:=adV hm;obtain⟨n,hn⟩:∃n,n+dC B=32*(m+1):=⟨32*(m+1)-dC B,by omega⟩;have ζ:n<32:=Om;have N:0<2^n:=ayH aU;have Y:B<2^dC B:=(pS B _).1 (avD _);have W:=adW hB;have α:B*2^n<4294967296^(m+1):=by have:B*2^n<2^dC B*2^n:=Nat.mul_lt_mul_of_pos_right Y N;rw[<-Nat.pow_add,show dC B+n=32*(m+1) by omega,Nat.pow_mul]at this;exact this
 have Φ:4294967296^m*2147483648<=B*2^n:=by have:2^(dC B-1)*2^n<=B*2^n:=awI _ W;rw[<-Nat.pow_add,show dC B-1+n=32*m+31 by omega,Nat.pow_add,Nat.pow_mul]at this;exact this
 have nV:nl (B*2^n)=m+1:=by
  have K:=(kU (B*2^n) (m+1)).2 α;rcases avX (nl (B*2^n)) (m+1)with h|h
  have:=(kU (B*2^n) m).1 Om;have Θ:0<4294967296^m:=ayH aU;omega;omega
 have b':B*2^n≠0:=Nat.mul_ne_zero hB Om;have h':nl (A*2^n)<=nl A+1:=pF (avD _) (sI (by rw[Nat.pow_one];exact Nat.pow_lt_pow_right (a:=2) (m:=n) (n:=32) aU ζ));have ψ:B*2^n<=A*2^n:=awI _ Om;have i':m+1<=nl (A*2^n):=by rw[<-nV];exact iW ψ
 have a':A*2^n≠0:=Om;have ν:i_.wrap (32*((nl B:Nat):Int))=((32*(m+1):Nat):Int):=wO_
 have en:i_.wrap (((32*(m+1):Nat):Int)-((dC B:Nat):Int))=(n:Int):=wO_
 have bt:=L.bits (aM B) LB Om;rw[vB]at bt;have ua:=L.upM (aM A) n U Om Om (λh=>by have:=gV U;rw[h]at this;omega);have ub:=(L.upM (aM B) n LB Om Om (λh=>by have:=gV LB;rw[h]at this;omega)).freeze;rw[vA]at ua;rw[vB]at ub;have tail:∀(o:Nat)(F:PF)(H:PH),F 0=some (aN (aM A))->F 1=some (aN (aM B))->F 10=some (.j n)->F 11=some (.osl o 1 0 (nl (A*2^n)+2))->F 12=some (aN (aM (B*2^n)))->H o=some (.rows 1 (aO (aM (A*2^n))++[[.int .u32 0],[.int .u32 0]])) ->
   aI.wp C (.seq (.region KX) (.seq (.region KY) (.seq (.region KZ) (.seq (.seq (.region LC) (.block 2 (.loop BT))) (.seq (.region LJ) .ret))))) (aW [.tmp 4,.tmp 5] (cC (wG A B))) F H:=by
  intro o F H f0 f1 ξ f11 ο hH;have LU:=bE (A*2^n);have LV:=bE (B*2^n);have vU:=aY (A*2^n);have vV:=aY (B*2^n);have lU:(aM (A*2^n)).length=nl (A*2^n):=rfl;have lV:(aM (B*2^n)).length=m+1:=nV;have eu:i_.wrap (((nl (A*2^n):Nat):Int)+1)=((nl (A*2^n)+1:Nat):Int):=eC Om;have b1:((nl (A*2^n)+1:Nat):Int)<=((nl (A*2^n)+2:Nat):Int):=Om;simp only[go_sem,KX,f11,f0,ξ];refine aB ua.freeze rfl ?_;obtain⟨e,d'⟩:∃e,nl (A*2^n)+1-(m+1)=e:=⟨_,rfl⟩;have Δ:nl (A*2^n)+1=e+(m+1):=Om;have em:i_.wrap (((m+1:Nat):Int)-1)=((m:Nat):Int):=wO_
  have w:m<(aM (B*2^n)).length:=Om;have rm:=cG (aM (B*2^n)) w;have tl:=LV _ (avB w);have htop:0<(aM (B*2^n))[m]:=by
   have K:=cW (aM (B*2^n)) w;rw[avT Om,vV]at K;have h2:=gV (LV.take m);rw[avN,axS Om]at h2;have Θ:0<4294967296^m:=ayH aU;rcases axJ (aM (B*2^n))[m]with h|h
   rw[h]at K;omega;exact h
  have μ:2147483648<=(aM (B*2^n))[m]:=by
   have K:=cW (aM (B*2^n)) w;rw[avT Om,vV]at K;have h2:=gV (LV.take m);rw[avN,axS Om]at h2;rcases avX (aM (B*2^n))[m] 2147483648 with h|h
   exfalso;have h3:4294967296^m*((aM (B*2^n))[m]+1)<=4294967296^m*2147483648:=axW _ h;rw[avQ,ayG]at h3;omega;exact h
  have E:=Wc (C:=C) L (A*2^n) n o (nl (A*2^n)+1) e;have hI:uB (A*2^n) (val (aM (B*2^n))) (m+1) (nl (A*2^n)+1) e e (aM (A*2^n)++[0]) (avA e 0):=by
   refine⟨by rw[auZ,lU];rfl,List.length_replicate,LU.app λx S=>by simp at S;omega,CM _,?_,?_,λi x _ S=>I7 S⟩;rw[jD,vU,yP];simp[val];have Ψ:(aM (A*2^n)++[0]).length=nl (A*2^n)+1:=by rw[auZ,lU];rfl
   have Ξ:val (aM (A*2^n)++[0])=A*2^n:=by rw[jD,vU];simp[val]
   rw[BB (LU.app λx S=>by simp at S;omega) Om,Ξ,vV,ayO (ayH aU)];have K:A*2^n<4294967296^nl (A*2^n):=(kU _ _).1 (avD _);have S:nl (A*2^n)=m+e:=Om;rw[S,Nat.pow_add]at K;have h2:4294967296^m*4294967296^e<=(B*2^n)*4294967296^e:=awI _ Om;omega
  have O:aO (aM (A*2^n))++[[PV.int .u32 0],[PV.int .u32 0]]=fM (aM (A*2^n)++[0]) (aO [0]):=by simp[fM,aO]
  rw[O]at hH;generalize κ:(aM (B*2^n))[m]=top at *
  have et:u_.wrap ((top:Nat):Int)=((top:Nat):Int):=bT Om;have k2:i_.wrap (((nl (A*2^n)+1:Nat):Int)-((m+1:Nat):Int))=((e:Nat):Int):=wO_
  have k3:((e:Nat):Int)*((4:Nat):Int)<=140737488355328:=Om;have k4:((e:Nat):Int)<=9223372036854775807:=Om;have hz:avA e [PV.int .u32 0]=aO (avA e 0):=by simp[aO]
  have jq:i_.wrap ((e:Int)-1)=(e:Int)-1:=wrap_i64 Om Om;simp only[go_sem,auW,lU,eu,b1,KY,ο,lV,em,rm,et,KZ,k2,k3,k4,hz];refine aS λJ ι=>?_;have η:J≠o:=by rintro rfl;rw[hH]at ι;cases ι
  have u:¬o=J:=λh=>η h.symm;have y:=E J m (aM (B*2^n)) [0] η LV lV (by rw[κ];exact htop) Δ Om _ hI;rw[κ]at y;simp only[go_sem]at y;simp only[go_sem,LC,jq];refine y _ _ _ ?_ ?_ ?_;unfold duF;exact Lq;refine e_ (e_ a_ ?_) ?_;simp only[go_sem,u,hH];simp only[go_sem];clear y E;intro X Q F1 H1 l M Z;have ρ:F1 10=some (.j n):=M 10 _ (by unfold duF;simp only[go_sem]);have σ:F1 11=some (.osl o 1 0 (nl (A*2^n)+1)):=M 11 _ (by unfold duF;simp only[go_sem]);have τ:F1 14=some (.osl J 1 0 e):=M 14 _ (by unfold duF;simp only[go_sem]);have θ:H1 o=some (.rows 1 (fM X (aO [0]))):=Z o _ (by simp only[go_sem,u]);have Λ:H1 J=some (.rows 1 (aO Q)):=Z J _ Sq;have hu:val X<val (aM (B*2^n)):=by have:=l.r;rwa[awM]at this
  have R:=l.v;rw[vV]at hu R;have χ:val Q=A/B:=by
   have:A*2^n/(B*2^n)=val Q:=by rw[<-R,Nat.add_mul_div_right _ _ Om,azC hu,avK]
   rw[<-this,Nat.mul_div_mul_right _ _ N]
  have ω:val X/2^n=A%B:=by
   have:A*2^n%(B*2^n)=val X:=by rw[<-R,Nat.add_mul_mod_self_right,awT hu]
   rw[<-this,Nat.mul_mod_mul_right,Nat.mul_div_cancel _ N]
  have lX:=l.lu';have lQ:=l.lq';have φ:(aO Q).take e=aO Q:=avT (by rw[cQ];omega);have γ:(fM X (aO [0])).take (nl (A*2^n)+1)=aO X:=by rw[fM,List.take_append_of_le_length (by rw[cQ];omega),avT (by rw[cQ];omega)]
  have β:nl (A*2^n)+1<=(fM X (aO [0])).length:=by rw[fM,auZ,cQ];omega
  have ε:(fM X (aO [0])).map (λr=>r.map (PV.dL J 1 (aO Q)))=fM X (aO [0]):=by
   have:fM X (aO [0])=aO (X++[0]):=by simp[fM,aO]
   rw[this];exact yE _ _ _ _
  have nX:=iK l.limU;have t1:=L.trim Q l.limQ Om;have t2:=L.trim X l.limU Om;have dn:=L.down (aM (val X)) n (bE _) (by rw[bJ];omega) Om;rw[aY,ω]at dn;rw[χ]at t1;generalize aO [0]=Z0 at θ γ β ε;simp only[go_sem,LJ,τ];refine tN (o:=J) (s:=1) (rs:=aO Q) t1 Λ (by simp only[go_sem,φ,show e<=Q.length by omega]) ?_;simp only[go_sem,σ,u];refine tN (o:=o) (s:=1) (rs:=fM X Z0) t2 (by simp only[go_sem,u,θ,aV.frz,ε]) (by simp only[go_sem,γ,β]) ?_;simp only[go_sem,ρ];refine aB dn rfl ?_;simp only[go_sem];exact bC (vs:=[aN (aM (A/B)),aN (aM (A%B))]) (.inr rfl) .nil rfl a_ ⟨.refl _,rfl⟩
 simp only[aI.wp,go_sem]at tail;simp only[go_sem,bA (Om:¬((nl B:Nat):Int)=1),auW,lB];refine aB bt rfl ?_;simp only[go_sem,ν,en];refine iS ua rfl a_ λr H1 hr _=>?_;have δ:(2:Nat)*1<=16777216:=by decide
 rcases hr with⟨h0,_⟩|⟨o,rs,rfl,rfl,hrl,hrt⟩
 exfalso;have:=congrArg List.length h0;rw[cQ,bJ]at this;simp at this;omega;rw[PH.pG];rw[cQ,bJ]at hrl hrt;simp only[go_sem,δ,cQ,bJ];refine I3 (src:=[[.int .u32 0],[.int .u32 0]]) (rs:=rs) rfl ?_ Sq hrl ?_ λo' g'=>?_;unfold roomFor;simp only[maxLen,awK,axC];omega;rw[hrt];simp only[go_sem];refine aB ub rfl ?_;simp only[go_sem];exact tail o _ _ rfl rfl rfl rfl rfl Sq;rw[hrt];simp only[go_sem];refine aB ub rfl ?_;simp only[go_sem];exact tail o' _ _ rfl rfl rfl rfl rfl Sq
def bO(C:Ctx)(k:Nat)(pf:lH):Prop:=∀(args:V_)(H:PH)(R:R_),Z' args<=pf.ntmps->pf.body.wp C (aW pf.res R) (g_ args) H->aH C k args H R
theorem bO.go{k:Nat}{pf:lH}(r:bO C k pf){args:V_}{H:PH}{R:R_}(h:pf.body.wp C (aW pf.res R) (g_ args) H)(e:Nat.ble args.length pf.ntmps=true):aH C k args H R:=r args H R (Nat.le_of_ble_eq_true e) h
abbrev GH(C:Ctx):Prop:=∀n:Nat,n<100->aH C 195 [.int .i64 n] .nil (aL (.str (cP n)))
section
variable {C:Ctx} {F F':PF} {H:PH}
theorem gC(e:F.le F'){x:aR}{v:PV}(h:x.ev F=some v):x.ev F'=some v:=by
 cases x
 ·exact e _ _ h
 all_goals exact h
theorem MF(e:F.le F'):∀{xs:List aR}{vs:V_},aR.evs F xs=some vs->aR.evs F' xs=some vs
 |[],_,h=>h
 |x::xs,vs,h=>by
  rw[GW]at h ⊢;cases l:x.ev F with
  |none=>simp[l]at h
  |some v=>
   cases i:aR.evs F xs with
   |none=>simp[i]at h
   |some u =>rw[l,i]at h;rw[gC e l,MF e i];exact h
theorem Eg(e:F.le F'):∀{ps:List (Nat × Nat × aR)}{cs ds:V_},qC cs F ps=some ds->qC cs F' ps=some ds
 |[],_,_,h=>h
 |(off,size,x)::ps,cs,ds,h=>by
  simp only[qC]at h ⊢;cases i:x.ev F with
  |none=>simp[i]at h
  |some v =>rw[i]at h;rw[gC e i];simp only at h ⊢;split at h;rename_i l;rw[aF l];exact Eg e h;cases h
theorem JU(e:F.le F'){size:Nat}:∀{ps:List (Nat × aR)}{cs ds:P2_},gY size cs F ps=some ds->gY size cs F' ps=some ds
 |[],_,_,h=>h
 |(i,x)::ps,cs,ds,h=>by
  simp only[gY]at h ⊢;cases l:x.ev F with
  |none=>simp[l]at h
  |some v =>rw[l]at h;rw[gC e l];simp only at h ⊢;split at h;rename_i u;rw[aF u];exact JU e h;cases h
theorem TT(e:F.le F'){d n:Int}{x:Option aR}(h:bnd F d x=some n):bnd F' d x=some n:=by
 cases x with
 |none=>exact h
 |some x=>
  simp only[bnd]at h ⊢;cases i:x.ev F with
  |none=>simp[i]at h
  |some v=>rw[gC e i,<-i];exact h
theorem G7{op:POp}{v:PV}(e:F.le F')(h:bD op F H=some v):bD op F' H=some v:=by
 cases op
 case mv x=>exact gC e h
 case pick c a b=>
  simp only[bD]at h ⊢;cases E:c.ev F with
  |none=>simp[E]at h
  |some t=>
   rw[E]at h;rw[gC e E];cases t<;>simp only at h ⊢<;>try cases h
   rename_i t;cases t
   ·simp only[axH,if_false]at h ⊢;exact gC e h
   ·simp only[if_true]at h ⊢;exact gC e h
 case box r x=>
  cases r
  ·cases h
  simp only[bD]at h ⊢;rcases i:x.ev F with _|a
  ·simp[i]at h
  ·rw[gC e i,<-i];exact h
 case load n p=>
  cases n
  all_goals
   simp only[bD]at h ⊢;rcases i:p.ev F with _|a
   ·simp[i]at h
   ·rw[gC e i,<-i];exact h
 case build z ps =>simp only[bD,avM]at h ⊢;obtain⟨cs,A,B⟩:=h;exact⟨cs,Eg e A,B⟩
 case atO r s l z ps=>
  cases r
  ·cases h
  simp only[bD]at h ⊢;split at h
  ·rename_i E;rw[aF E];rw[avM]at h ⊢;obtain⟨cs,A,B⟩:=h;exact⟨cs,JU e A,B⟩
  ·cases h
 case mkfn n cs =>simp only[bD,avM]at h ⊢;obtain⟨vs,A,B⟩:=h;exact⟨vs,MF e A,B⟩
 case sliceA n s x lo hi mx=>
  cases lo<;>cases hi<;>cases mx<;>simp only[bD]at h ⊢<;>try cases h
  cases i:x.ev F with
  |none=>simp[i]at h
  |some a=>rw[gC e i,<-i];exact h
 case auH x lo hi=>
  simp only[bD]at h ⊢;cases i:x.ev F with
  |none=>simp[i]at h
  |some a=>
   rw[i]at h;rw[gC e i];cases a<;>simp only at h ⊢<;>try cases h
   cases A:bnd F 0 lo with
   |none=>simp[A]at h
   |some l=>
    rename_i s;cases B:bnd F s.length hi with
    |none=>simp[A,B]at h
    |some u=>rw[TT e A,TT e B,<-A,<-B];exact h
 case slice s x lo hi mx=>
  simp only[bD]at h ⊢;cases i:x.ev F with
  |none=>simp[i]at h
  |some a=>
   rw[i]at h;rw[gC e i];have K:∀(d:Int)(w:PV),(match bnd F 0 lo,bnd F d hi with
     |some a1,some a2=>match(generalizing:=false) mx with
      |none=>PV.slice s w a1 a2 none
      |some m=>(bnd F 0 (some m)).bind λm=>PV.slice s w a1 a2 (some m)
     |_,_=>none)=some v->(match bnd F' 0 lo,bnd F' d hi with
     |some a1,some a2=>match(generalizing:=false) mx with
      |none=>PV.slice s w a1 a2 none
      |some m=>(bnd F' 0 (some m)).bind λm=>PV.slice s w a1 a2 (some m)
     |_,_=>none)=some v:=by
    intro d w h;cases A:bnd F 0 lo with
    |none=>simp[A]at h
    |some l=>
     cases B:bnd F d hi with
     |none=>simp[A,B]at h
     |some u=>
      rw[A,B]at h;rw[TT e A,TT e B];cases mx with
      |none=>exact h
      |some m=>
       simp only at h ⊢;cases J:bnd F 0 (some m)with
       |none=>simp[J]at h
       |some q=>rw[TT e J,<-J];exact h
   cases a<;>simp only at h ⊢<;>first|exact K _ _ h|cases h
 all_goals try exact h
 all_goals simp only[bD]at h ⊢
 all_goals first
  |(rename_i x y;rcases i:x.ev F with _|a;simp[i]at h;rcases hy:y.ev F with _|b;simp[i,hy]at h;rw[gC e i,gC e hy,<-i,<-hy];exact h)
  |(rename_i x y _;rcases i:x.ev F with _|a;simp[i]at h;rcases hy:y.ev F with _|b;simp[i,hy]at h;rw[gC e i,gC e hy,<-i,<-hy];exact h)
  |(rename_i x;rcases i:x.ev F with _|a;simp[i]at h;rw[gC e i,<-i];exact h)
  |(rename_i x _;rcases i:x.ev F with _|a;simp[i]at h;rw[gC e i,<-i];exact h)
theorem Dp{op:POp}{r:(Nat->PV) × aV}(e:F.le F')(h:cN op F=some r):cN op F'=some r:=by
 cases op
 case box b x=>
  cases b
  ·simp only[cN]at h ⊢;cases i:x.ev F with
   |none=>simp[i]at h
   |some a=>rw[gC e i,<-i];exact h
  ·cases h
 case atO b s l z ps=>
  cases b
  ·simp only[cN]at h ⊢;split at h
   ·rename_i A;rw[aF A];rw[avM]at h ⊢;obtain⟨cs,w,y⟩:=h;exact⟨cs,JU e w,y⟩
   ·cases h
  ·cases h
 case atS s b z l c=>
  simp only[cN]at h ⊢;cases i:l.ev F with
  |none=>simp[i]at h
  |some a=>
   cases u:c.ev F with
   |none=>simp[i,u]at h
   |some b=>rw[gC e i,gC e u,<-i,<-u];exact h
 all_goals exact h
theorem I5{op:POp}{K:R_}(e:F.le F')(h:cH op F H K):cH op F' H K:=by
 cases op
 case store n x y=>
  simp only[cH]at h ⊢;cases i:x.ev F with
  |none=>simp[i]at h
  |some a=>
   cases l:y.ev F with
   |none=>simp[i,l]at h
   |some b=>rw[gC e i,gC e l];rw[i,l]at h;exact h
 case append s b x y=>
  simp only[cH]at h ⊢;cases i:x.ev F with
  |none=>simp[i]at h
  |some a=>
   cases l:y.ev F with
   |none=>simp[i,l]at h
   |some b=>rw[gC e i,gC e l];rw[i,l]at h;exact h
 case auC sh x y z=>
  simp only[cH]at h ⊢;cases i:x.ev F with
  |none=>simp[i]at h
  |some a=>
   cases l:y.ev F with
   |none=>simp[i,l]at h
   |some b=>
    cases u:z.ev F with
    |none=>simp[i,l,u]at h
    |some c=>rw[gC e i,gC e l,gC e u];rw[i,l,u]at h;exact h
 case insert sh x y z=>
  simp only[cH]at h ⊢;cases i:x.ev F with
  |none=>simp[i]at h
  |some a=>
   cases l:y.ev F with
   |none=>simp[i,l]at h
   |some b=>
    cases u:z.ev F with
    |none=>simp[i,l,u]at h
    |some c=>rw[gC e i,gC e l,gC e u];rw[i,l,u]at h;exact h
 all_goals exact h
theorem PF.alE(l:F.le F')(i:Nat)(v:PV):(F.set i v).le (F'.set i v):=by
 intro j u h;rw[mO]at h ⊢;split at h;rename_i e;rw[aF e];exact h;rename_i e;rw[aC e];exact l j u h
theorem PF.zU(e:F.le F')(d:O_)(v:PV):(F.put d v).le (F'.put d v):=by
 cases d with
 |none=>exact e
 |some d=>exact PF.alE e d v
theorem PF.ajW(e:F.le F')(o s:Nat)(rs:P2_):(F.frz o s rs).le (F'.frz o s rs):=by
 intro j u h;rw[wQ,avM]at h ⊢;obtain⟨x,i,l⟩:=h;exact⟨x,e j x i,l⟩
theorem PF.le_trans{A B D:PF}(h:A.le B)(k:B.le D):A.le D:=λi v hi=>k i v (h i v hi)
theorem jH.up{l:PF}{u:PH}(h:jH F H l u):∀{F':PF},F.le F'->∃e,jH F' H e u/\l.le e:=by
 induction h with
 |refl F H=>exact λ{F'} i=>⟨F',.refl _ _,i⟩
 |step o y _ A =>intro F' i;obtain⟨e,w,x⟩:=A (PF.ajW i o _ _);exact⟨e,.step o y w,x⟩
theorem mf{name:Nat}{args:Option V_}{d:O_}{K1 K2:K_}(A:∀F F' H,F.le F'->K1 F H->K2 F' H)(i:F.le F'){e:Option V_}(B:∀vs,args=some vs->e=some vs)(h:uZ C name args d K1 F H):uZ C name e d K2 F' H:=by
 obtain⟨vs,l,R,u,w,x,y⟩:=h;exact⟨vs,l,R,B _ u,w,x,λr H' a b=>A _ _ _ (PF.zU i d r) (y r H' a b)⟩
theorem Ft{cs:V_}{args:List aR}(e:F.le F')(vs:V_)(h:(aR.evs F args).map (·++cs)=some vs):(aR.evs F' args).map (·++cs)=some vs:=by
 rw[avM]at h ⊢;obtain⟨x,i,l⟩:=h;exact⟨x,MF e i,l⟩
theorem Ku{name:Nat}{args:List aR}{cs:V_}{d:O_}{K1 K2:K_}(l:∀F F' H,F.le F'->K1 F H->K2 F' H)(e:F.le F')(h:jS C name args cs d K1 F H):jS C name args cs d K2 F' H:=by
 rcases h with h|⟨F1,H1,h1,h2⟩
 exact .inl (mf l e (Ft e) h);obtain⟨i,k1,k2⟩:=h1.up e;exact .inr ⟨i,H1,k1,mf l k2 (Ft k2) h2⟩
theorem VN{op:POp}{d:O_}{K1 K2:K_}(u:∀F F' H,F.le F'->K1 F H->K2 F' H)(e:F.le F')(h:oQ (cN op F) d K1 F H):oQ (cN op F') d K2 F' H:=by
 obtain⟨y,x,i,l⟩:=h;exact⟨y,x,Dp e i,λo w=>u _ _ _ (PF.zU e d _) (l o w)⟩
theorem u9{op:POp}{d:O_}{K1 K2:K_}(u:∀F F' H,F.le F'->K1 F H->K2 F' H)(e:F.le F')(h:wX (bD op F H) d K1 F H):wX (bD op F' H) d K2 F' H:=by
 obtain⟨v,i,l⟩:=h;exact⟨v,G7 e i,u _ _ _ (PF.zU e d v) l⟩
theorem C1{op:POp}{d:O_}{K1 K2:K_}(i:∀F F' H,F.le F'->K1 F H->K2 F' H)(e:F.le F')(h:cH op F H λr H'=>K1 (F.put d r) H'):cH op F' H λr H'=>K2 (F'.put d r) H':=
 I5 e (ID (λv H' l=>i _ _ _ (PF.zU e d v) l) h)
theorem adH{op:POp}{d:O_}{K1 K2:K_}(i:∀F F' H,F.le F'->K1 F H->K2 F' H)(e:F.le F')(h:wpOp C op d K1 F H):wpOp C op d K2 F' H:=by
 cases op
 case call n a=>exact Ku i e h
 case auM x a=>
  have w:wD C (x.ev F) a d K1 F H:=h;show wD C (x.ev F') a d K2 F' H;cases M:x.ev F with
  |none=>rw[M]at w;exact w.elim
  |some u=>
   rw[gC e M];rw[M]at w;cases u<;>first|exact Ku i e w|exact w.elim|skip
   obtain⟨l,O,A⟩:=w;refine⟨l,O,?_⟩;rcases A with⟨vs,E,R,A,J,K,h5⟩|⟨F1,H1,k1,vs,E,R,A,J,K,h5⟩
   ·exact .inl ⟨vs,E,R,MF e A,J,K,λr H' p q=>i _ _ _ (PF.zU e d r) (h5 r H' p q)⟩
   ·obtain⟨B,k2,N⟩:=k1.up e;exact .inr ⟨B,H1,k2,vs,E,R,MF N A,J,K,λr H' p q=>i _ _ _ (PF.zU N d r) (h5 r H' p q)⟩
 case box r x=>cases r<;>first|exact VN (op:=.box false x) i e h|exact u9 (op:=.box true x) i e h
 case atO r s l z ps=>cases r<;>first|exact VN (op:=.atO false s l z ps) i e h|exact u9 (op:=.atO true s l z ps) i e h
 case alloc cs=>exact VN (op:=.alloc cs) i e h
 case atS s b z l c=>exact VN (op:=.atS s b z l c) i e h
 case auR sh=>exact VN (op:=.auR sh) i e h
 case store n x y=>exact C1 (op:=.store n x y) i e h
 case append s b x y=>exact C1 (op:=.append s b x y) i e h
 case auC sh x y z=>exact C1 (op:=.auC sh x y z) i e h
 case insert sh x y z=>exact C1 (op:=.insert sh x y z) i e h
 all_goals exact u9 i e h
theorem VU{K1 K2:K_}(l:∀F F' H,F.le F'->K1 F H->K2 F' H):∀{ops:List bX}{F F':PF}{H:PH},F.le F'->wpOps C ops K1 F H->wpOps C ops K2 F' H
 |[],_,_,_,i,h=>l _ _ _ i h
 |⟨d,op,none⟩::rest,_,_,_,i,h=>adH (λ_ _ _ a b=>VU l a b) i h
 |⟨d,op,some (t,u)⟩::rest,F,F',H,i,h=>by rw[Kd]at h ⊢;unfold CK at h;split at h;rename_i b hb;rw[i t _ hb];unfold CK;simp only;split at h;rename_i e;rw[aF e];exact adH (λ_ _ _ a b=>VU l a b) i h;rename_i e;rw[aC e];exact VU l (PF.zU i d _) h;rename_i hb;rw[i t _ hb];exact VU l (PF.zU i d _) h;exact h.elim
theorem Gw{Hs:PH}{S:Spec}{st:Bool}{op:POp}{K:R_}(e:F.le F')(h:(op.kind F).run C Hs S st K H):(op.kind F').run C Hs S st K H:=by
 have new:∀op:POp,(Kind.new (cN op F)).run C Hs S st K H->(Kind.new (cN op F')).run C Hs S st K H:=λop h=>by obtain⟨O,x,i,w⟩:=h;exact⟨O,x,Dp e i,w⟩
 have calm:∀op:POp,(Kind.calm (bD op F)).run C Hs S st K H->(Kind.calm (bD op F')).run C Hs S st K H:=λop h=>by obtain⟨v,i,w⟩:=h;exact⟨v,G7 e i,w⟩
 have N:∀op:POp,(Kind.write λH K=>cH op F H K).run C Hs S st K H->(Kind.write λH K=>cH op F' H K).run C Hs S st K H:=λop h=>I5 (op:=op) e (show cH op F H (λr H'=>Hs.le H'/\K r H')from h);cases op
 case call n a =>obtain⟨vs,D,R,i,w⟩:=h;exact⟨vs,D,R,MF e i,w⟩
 case auM x a=>
  unfold POp.kind at h ⊢;simp only at h ⊢;cases A:x.ev F with
  |none=>rw[A]at h;exact h.elim
  |some u=>
   rw[A]at h;rw[gC e A];cases u<;>simp only at h ⊢<;>first|exact h|skip
   obtain⟨vs,D,R,i,w⟩:=h;exact⟨vs,D,R,Ft e _ i,w⟩
 case insert sh x k v=>
  obtain⟨o,M,J,u,g,i,w⟩:=h;refine⟨o,M,J,u,g,?_,w⟩;cases A:x.ev F with
  |none=>simp[A]at i
  |some a=>
   cases B:k.ev F with
   |none=>simp[A,B]at i
   |some b=>
    cases E:v.ev F with
    |none=>simp[A,B,E]at i
    |some c=>rw[gC e A,gC e B,gC e E];rw[A,B,E]at i;exact i
 case box r x=>cases r<;>first|exact new (.box false x) h|exact calm (.box true x) h
 case atO r s l z ps=>cases r<;>first|exact new (.atO false s l z ps) h|exact calm (.atO true s l z ps) h
 case alloc cs=>exact new (.alloc cs) h
 case atS s b z l c=>exact new (.atS s b z l c) h
 case auR sh=>exact new (.auR sh) h
 case store n x y=>exact N (.store n x y) h
 case append s b x y=>exact N (.append s b x y) h
 case auC sh x y z=>exact N (.auC sh x y z) h
 all_goals exact calm _ h
theorem Ys{Hs:PH}{S:Spec}{st:Bool}{i:bX}{K:R_}(l:F.le F')(h:(i.kind F).run C Hs S st K H):(i.kind F').run C Hs S st K H:=by
 unfold bX.kind at h ⊢;split;rename_i u;rw[u]at h;exact Gw l h;rename_i t w u;rw[u]at h;simp only at h;split at h;rename_i b hb;rw[l t _ hb];simp only;split at h;rename_i e;rw[aF e];exact Gw l h;rename_i e;rw[aC e];exact h;rename_i hb;rw[l t _ hb];exact h;exact h.elim
theorem Ws{Hs:PH}{S:Spec}{K1 K2:K_}(u:∀F F' H,F.le F'->K1 F H->K2 F' H):∀{ops:List (bX × Bool)}{F F':PF}{H:PH},Hs.le H->F.le F'->wpD C Hs S ops K1 F H->wpD C Hs S ops K2 F' H
 |[],_,_,_,_,e,h=>u _ _ _ e h
 |i::rest,F,F',H,y,e,h=>by have w:(i.1.kind F).run C Hs S i.2 (λv H'=>wpD C Hs S rest K1 (F.put i.1.dst v) H') H:=h;exact Ys e (Kind.xU (xP _ _) (λv H' l x=>Ws u l (PF.zU e _ v) x) y w)
class Up(K:bZ):Prop where
 up:∀{e:lG}{F F':PF}{H:PH},F.le F'->K e F H->K e F' H
theorem sT:∀(c:aI){K1 K2:bZ}(_:∀e F F' H,F.le F'->K1 e F H->K2 e F' H){F F':PF}{H:PH},F.le F'->c.wp C K1 F H->c.wp C K2 F' H
 | .skip,_,_,l,_,_,_,i,h=>l _ _ _ _ i h
 | .region ops,_,_,l,_,_,_,i,h=>VU (l .normal) i h
 | .draw ops,_,_,l,_,_,_,i,⟨Hs,S,x,J⟩=>⟨Hs,S,x,Ws (l .normal) x i J⟩
 | .seq a b,K1,K2,l,_,_,_,i,h=>sT a (K1:=fZ C (b.wp C) K1) (K2:=fZ C (b.wp C) K2) (λe F F' H w u=>by
   cases e with
   |normal=>exact sT b l w u
   |exit id=>exact l (.exit id) _ _ _ w u
   |ret=>exact l .ret _ _ _ w u) i h
 | .cond c a b,K1,K2,l,F,F',H,i,h=>by rw[acL]at h ⊢;unfold YJ at h;split at h;rename_i t U;rw[gC i U];unfold YJ;simp only;split at h;rename_i e;rw[aF e];exact sT a l i h;rename_i e;rw[aC e];exact sT b l i h;exact h.elim
 | .block id c,K1,K2,l,_,_,_,i,h=>sT c (K1:=fA id K1) (K2:=fA id K2) (λe F F' H w u=>by
   cases e with
   |normal=>exact l .normal _ _ _ w u
   |exit j =>rw[JR]at u ⊢;split at u;rename_i e;rw[aF e];exact l .normal _ _ _ w u;rename_i e;rw[aC e];exact l (.exit j) _ _ _ w u
   |ret=>exact l .ret _ _ _ w u) i h
 | .loop c,K1,K2,l,F,F',H,i,⟨α,B,Hs,E,m,M,F1,K,x,J,N,O,h5⟩=>by
  obtain⟨y,k1,k2⟩:=x.up i;refine⟨α,B,Hs,E,m,M,y,K,k1,J,PF.le_trans N k2,O,λa R=>?_⟩;refine sT c (K1:=fL B Hs E m (m a) K1) (K2:=fL B Hs E m (m a) K2) (λe F F' H w u=>?_) PF.le_refl (h5 a R);cases e with
  |normal =>obtain⟨b,F2,H2,X,Y,Z,z4,z5⟩:=u;obtain⟨A,V,W⟩:=X.up w;exact⟨b,A,H2,V,Y,Z,PF.le_trans z4 W,z5⟩
  |exit id=>exact l (.exit id) _ _ _ w u
  |ret=>exact l .ret _ _ _ w u
 | .exit id,_,_,l,_,_,_,i,h=>l (.exit id) _ _ _ i h
 | .ret,_,_,l,_,_,_,i,h=>l .ret _ _ _ i h
instance Up.seq{K:bZ}[Up K](b:aI):Up (fZ C (b.wp C) K) where
 up {e} {F} {F'} {H} hl hh:=by
  cases e with
  |normal=>exact sT b (λe F F' H a h=>Up.up a h) hl hh
  |exit id=>exact Up.up (K:=K) (e:=.exit id) hl hh
  |ret=>exact Up.up (K:=K) (e:=.ret) hl hh
instance Up.block{K:bZ}[Up K](id:Nat):Up (fA id K) where
 up {e} {F} {F'} {H} hl hh:=by
  cases e with
  |normal=>exact Up.up (K:=K) (e:=.normal) hl hh
  |exit j =>rw[JR]at hh ⊢;split at hh;rename_i e;rw[aF e];exact Up.up (K:=K) (e:=.normal) hl hh;rename_i e;rw[aC e];exact Up.up (K:=K) (e:=.exit j) hl hh
  |ret=>exact Up.up (K:=K) (e:=.ret) hl hh
instance Up.loop{K:bZ}[Up K]{α:Type}(l:α->PF)(Hs:α->PH)(u:α->Prop)(m:α->Nat)(n:Nat):Up (fL l Hs u m n K) where
 up {e} {F} {F'} {H} hl hh:=by
  cases e with
  |normal =>obtain⟨b,M,H2,y,A,B,E,J⟩:=hh;obtain⟨i,w,x⟩:=y.up hl;exact⟨b,i,H2,w,A,B,PF.le_trans E x,J⟩
  |exit id=>exact Up.up (K:=K) (e:=.exit id) hl hh
  |ret=>exact Up.up (K:=K) (e:=.ret) hl hh
theorem akU{H:PH}(e:F.le F'){x:eE}{v:PV}(h:x.ev F H=some v):x.ev F' H=some v:=by
 cases x with
 |tmp t=>exact e t v h
 |cell t n=>
  cases n<;>simp only[eE.ev]at h ⊢<;>(cases i:F t with
   |none=>simp[i]at h
   |some a=>rw[e t a i,<-i];exact h)
theorem wz{H:PH}(e:F.le F'):∀{xs:List eE}{vs:V_},eE.evs F H xs=some vs->eE.evs F' H xs=some vs
 |[],_,h=>h
 |x::xs,vs,h=>by
  rw[nZ]at h ⊢;cases l:x.ev F H with
  |none=>simp[l]at h
  |some v=>
   cases i:eE.evs F H xs with
   |none=>simp[i]at h
   |some u =>rw[l,i]at h;rw[akU e l,wz e i];exact h
instance Up.ret(res:List eE)(R:R_):Up (aW res R) where
 up {e} {F} {F'} {H} hl hh:=by
  cases e with
  |exit id=>exact hh
  |normal=>obtain⟨vs,i,l⟩:=hh;exact⟨vs,wz hl i,l⟩
  |ret=>obtain⟨vs,i,l⟩:=hh;exact⟨vs,wz hl i,l⟩
end
open Go Go.RowKit
def IK(R:PH->Prop):bZ
 | .normal,_,H=>R H
 |_,_,_=>False
theorem bY.putObj{E:Env}{H:PH}{w:World}{l:Nat}{o o':Obj}(hW:bY E H w)(A:w.heap[l]?=some o)(B:∀c t b,o≠.cells c t b)(F:H l=none):bY E H (w.putObj l o'):=by
 refine⟨λb cs h=>?_,λq x h=>?_,λq n h=>?_⟩;obtain⟨i,ty,fr,u⟩:=hW.g b cs h;have:b≠l:=λe=>by rw[e,A]at u;exact B _ _ _ (by injection u)
 exact⟨i,ty,fr,(World.putObj_heap_other this).trans u⟩;obtain⟨i,u⟩:=hW.h q x h;have:q≠l:=λe=>by rw[e,F]at h;cases h
 exact⟨by rw[World.putObj_size];exact i,u.mono (.refl E) (World.putObj_heap_other this)⟩;obtain⟨y,ty,fr,i,u⟩:=hW.s q n h;have:q≠l:=λe=>by rw[e,A]at i;exact B _ _ _ (by injection i)
 exact⟨y,ty,fr,(World.putObj_heap_other this).trans i,u⟩
theorem bY.setObj{E:Env}{H:PH}{w:World}{l:Nat}{o:Obj}{x:aV}(hW:bY E H w)(u:w.heap[l]?=some o)(B:∀c t b,o≠.cells c t b)(F:TM E w l x):bY E (H.set l x) w:=by
 refine⟨λb cs h=>?_,λq y h=>?_,hW.s⟩;obtain⟨A,ty,fr,i⟩:=hW.g b cs h;have:¬b=l:=λe=>by rw[e,u]at i;exact B _ _ _ (by injection i)
 refine⟨λy J=>A y ?_,ty,fr,i⟩
 rwa[aP,aC this]at J
 rw[aP]at h;split at h;rename_i e;cases h;subst e;exact⟨(ayM.1 u).1,F⟩;exact hW.h q y h
theorem Wt{c:Code}{l m:Nat}{P:Program}{Q:Exit->Act->World->Prop}{i tm':Array Value}{ds:List Deferred}{w:World}(e:i=tm')(h:c.wpIn (Fz (some l)) m P Q { tmps:=tm',defers:=ds } w):c.wpIn (Fence.wide.inRound l) m P Q { tmps:=i,defers:=ds } w:=by
 subst e;exact h
section
variable {C:Ctx} {T:Tbl}
theorem Kg(X:C.P=T.P)(O:C.num=T.num){n t l:Nat}{K M:Code}{θ U:aI}(h1:T.code n K=some θ)(h2:T.code n M=some U)(ht:t<n){F:PF}{x:PV}{H:PH}{R:PH->Prop}(hl:H l=none)
  (Ψ:θ.wp C (fZ C (U.wp C) (IK R)) (F.set t x) H) :
  LS C l [x] (H.set l (.loop F n t K M)) (λr H'=>r=.bool true/\∃H2,R H2/\H2 l=none/\H'=H2.set l (.loop F n t K M)):=by
 intro E w vs hN hW Φ;obtain⟨vl⟩:=vs;cases Φ with
 |cons e1 e2=>
 cases e2;rename_i v;obtain⟨hlt,rec,W,S,η,ζ,has,μ,τ,hF⟩:=hW.h l (.loop F n t K M) (by rw[cE]);have Θ:bY E H w:=hW.weaken λo y ho=>by
  have:¬o=l:=λe=>by rw[e,hl]at ho;cases ho
  rw[aP,aC this];exact ho
 refine⟨rec.fn,_,rec.assign,rec.body,run_yield W (by rw[ζ];rfl),?_⟩;rw[has,μ,ζ];refine roundIn_of_wpIn (F:=Fence.wide) trivial ?_;have hA:eS [] n E (F.set t x) { tmps:=rec.tmps.setIfInBounds t v,defers:=[] }:=by refine⟨by simp[τ],rfl,λi pv hi=>?_⟩;rw[mO]at hi;split at hi;rename_i e;cases hi;subst e;simp only[azG];rw[Array.getElem?_setIfInBounds_self_of_lt Om];exact e1;rename_i e;simp only[azG];rw[Array.getElem?_setIfInBounds_ne (λh=>e h.symm),<-azG];exact hF i pv hi
 rw[X];refine Wt (tm':=rec.tmps.setIfInBounds t v) aZ ?_;refine vJ (ro:=some l) (fu:=0) X O K θ (fZ C (U.wp C) (IK R)) _ E (F.set t x) H _ w h1 Ψ hA Θ (hN.trans O) λe E1 F1 H1 a1 J χ ψ u Z=>?_;cases e with
 |exit id=>exact Z.elim
 |ret=>exact Z.elim
 |normal=>
  have γ:J.heap[l]?=some (.loop rec):=(u.block l hlt hl).trans W;have Y:H1 l=none:=by
   cases hh:H1 l with
   |none=>rfl
   |some y=>
    rcases u.new l y hh with⟨z,B⟩|hge
    rw[hl]at B;cases B;omega
  refine⟨_,run_beginRound γ S,?_⟩;have ω:=ψ.putObj (o':=.loop { rec with state:=.busy }) γ (λ_ _ _ h=>by cases h) Y;have V:l<J.heap.size:=(ayM.1 γ).1;have Ξ:(J.putObj l (.loop { rec with state:=.busy })).heap[l]?=some (.loop { rec with state:=.busy }):=World.putObj_heap_same V;have υ:(J.putObj l (.loop { rec with state:=.busy })).heap.size=J.heap.size:=World.putObj_size;have ε:∀b,b≠l->(J.putObj l (.loop { rec with state:=.busy })).heap[b]?=J.heap[b]?:=λb hb=>World.putObj_heap_other hb;have σ:(J.putObj l (.loop { rec with state:=.busy })).os=J.os:=rfl;have φ:(J.putObj l (.loop { rec with state:=.busy })).tape=J.tape:=rfl;have ρ:(J.putObj l (.loop { rec with state:=.busy })).output=J.output:=rfl;generalize J.putObj l (.loop { rec with state:=.busy })=w2 at *
  refine vJ (ro:=some l) (fu:=0) X O M U (IK R) _ E1 F1 H1 a1 w2 h2 Z χ ω (u.env.num.trans (hN.trans O)) λe2 E2 F2 H2 a2 w3 Ω Γ A α=>?_;cases e2 with
  |exit id=>exact α.elim
  |ret=>exact α.elim
  |normal=>
   have δ:w3.heap[l]?=some (.loop { rec with state:=.busy }):=(A.block l (by rw[υ];exact V) Y).trans Ξ;have ο:l<w3.heap.size:=(ayM.1 δ).1;have κ:H2 l=none:=by
    cases hh:H2 l with
    |none=>rfl
    |some y=>
     rcases A.new l y hh with⟨z,B⟩|hge
     rw[Y]at B;cases B;omega
   have ι:({ { rec with state:=.busy }with state:=if(none:Option Code).isNone then .ready else .done,pending:=none }:Loop)=rec:=by obtain⟨a,b,c,d,e,f,g,h⟩:=rec;simp only at S η;subst S η;rfl
   refine⟨_,_,run_endRound none δ,?_⟩;rw[ι];have Δ:=(Γ.putObj (o':=.loop rec) δ (λ_ _ _ h=>by cases h) κ);have ξ:(w3.putObj l (.loop rec)).heap[l]?=some (.loop rec):=World.putObj_heap_same ο;have ν:E.le E2:=u.env.trans A.env;refine⟨.bool true,.bool true,E2,H2.set l (.loop F n t K M),rfl,Δ.setObj ξ (λ_ _ _ h=>by cases h) ⟨rec,ξ,S,η,ζ,has,μ,τ,λi pv hi=>(hF i pv hi).mono ν⟩,.bool true,?_,rfl,H2,α,κ,rfl⟩;refine⟨ν,?_,?_,?_,?_,λb hb hn=>?_,λo y ho=>?_,λb cs hb=>?_⟩;exact A.os.trans (σ.trans u.os);exact A.tape.trans (φ.trans u.tape);exact A.output.trans (ρ.trans u.output);have:=u.size;have:=A.size;rw[World.putObj_size];omega;have β:b≠l:=λe=>by rw[e,cE]at hn;cases hn
   rw[aP,aC β]at hn;have Λ:H1 b=none:=by
    cases hh:H1 b with
    |none=>rfl
    |some y=>
     rcases u.new b y hh with⟨z,B⟩|hge
     rw[hn]at B;cases B;omega
   rw[World.putObj_heap_other β,A.block b (by have:=u.size;omega) Λ,ε b β,u.block b hb hn];rw[aP]at ho;split at ho;rename_i e;exact .inl ⟨_,by rw[e,cE]⟩;rename_i e;rcases A.new o y ho with⟨z,B⟩|hge
   rcases u.new o z B with⟨z2,N⟩|hge
   exact .inl ⟨z2,by rw[aP,aC e];exact N⟩;exact .inr hge;have:=u.size;exact .inr Om;rcases A.newG b cs hb with hg|⟨z,B⟩|hge
   rcases u.newG b cs hg with hg|⟨z,B⟩|hge
   exact .inl hg;have e:¬b=l:=λe=>by rw[e,hl]at B;cases B
   exact .inr (.inl ⟨z,by rw[aP,aC e];exact B⟩);exact .inr (.inr hge);rcases u.new b z B with⟨z2,N⟩|hge
   have e:¬b=l:=λe=>by rw[e,hl]at N;cases N
   exact .inr (.inl ⟨z2,by rw[aP,aC e];exact N⟩);exact .inr (.inr hge);have:=u.size;exact .inr (.inr Om)
end
open Go Go.RowKit
abbrev BL(D:Nat):Deferred:={ target:=.collected D,args:=#[] }
theorem bY.alloc{E:Env}{H:PH}{w:World}(hW:bY E H w)(o:Obj):bY E H (w.alloc o):=by
 have e:(w.alloc o).heap.size=w.heap.size+1:=World.size_alloc w o;have hb:∀b,b<w.heap.size->(w.alloc o).heap[b]?=w.heap[b]?:=λb hlt=>Below.heap_alloc w o b hlt;exact hW.same Om (λb hlt _=>hb b hlt) (λq x hq=>hb q (hW.h q x hq).1)
section
variable {C:Ctx} {T:Tbl} {ds:List Deferred} {fu:Nat}
theorem ajV{f:FuncId}{args:Array Value}{w:World}{P:Program}{fn:Func}(l:P.funcs[f]?=some fn)(hb:fn.body.isSome=true)(i:(fn.name=="runtime.NumGoroutine")=false):(callFunc f args).run P w=.ok (.enter f args) w:=by
 have e:fn.body.isNone=false:=by cases h:fn.body<;>simp_all
 simp only[callFunc,Sem.run_bind,Sem.run_pure,Result.andThen_ok,run_program,l,i,e,axH,if_false]
def C6(C:Ctx)(name:Nat)(cs:V_)(F:PF)(H:PH)(n t:Nat)(e i:Code)(u:PH->Prop):Prop:=
 ∀l,H l=none->aH C name (DB l::cs) (H.set l (.loop F n t e i)) (λ_ H'=>∃H2,u H2/\H2.le H'/\H2 l=none/\H' l=some (.loop F n t e i))
theorem J0(β:C.P=T.P)(α:C.num=T.num){n t name:Nat}{g:Operand}{pg:aR}{J K:Code}{cs:V_}{E:Env}{F:PF}{H:PH}{a:Act}{w:World}{KH:PH->Prop}{Q:Exit->Act->World->Prop}(hg:T.opd g=some pg)(Γ:pg.ev F=some (.fn name cs))
  (Δ:C6 C name cs F H n t J K KH) (hA:eS ds n E F a) (hW:bY E H w) (hN:E.num=T.num)
  (hT:∀D Y H2 w',eS (BL D::ds) n Y F { a with defers:=BL D::a.defers }->bY Y H2 w'->Ext E H w Y H2 w'->w'.heap[D]?=some (.deferred (some []))->H2 D=none->w.heap.size<=D->KH H2->Q .normal { a with defers:=BL D::a.defers } w') :
  (Code.rangeFunc g #[t] J K).wpIn (Fz none) fu T.P Q a w:=by
 have r:=bQ hg Γ hA hN;generalize Ψ:a.eval g=vg at r;cases r with
 |fn vc ψ ω=>
 have N:∀o x,H o=some x->o<w.heap.size:=λo x ho=>(hW.h o x ho).1;have nD:H w.heap.size=none:=by
  cases h:H w.heap.size with
  |none=>rfl
  |some x=>have:=N _ x h;omega
 have nl:H (w.heap.size+1)=none:=by
  cases h:H (w.heap.size+1)with
  |none=>rfl
  |some x=>have:=N _ x h;omega
 obtain⟨⟨fn,hf,hb,Θ⟩,V⟩:=Δ (w.heap.size+1) nl;rw[β]at hf;refine wpIn_rangeFunc λξ _=>?_;obtain⟨rec,R⟩:∃rec:Loop,rec={ state:=.ready,pending:=none,fn:=ξ,tmps:=a.tmps,params:=#[t],assign:=J,body:=K,defers:=w.heap.size }:=⟨_,rfl⟩;obtain⟨A,l⟩:∃A,(w.alloc (.deferred (some []))).alloc (.loop rec)=A:=⟨_,rfl⟩;have κ:(w.alloc (.deferred (some []))).heap.size=w.heap.size+1:=World.size_alloc _ _;have a':A.heap.size=w.heap.size+2:=by rw[<-l,World.size_alloc,κ]
 have θ:∀b,b<w.heap.size->A.heap[b]?=w.heap[b]?:=λb hb=>by rw[<-l];exact(Below.heap_alloc _ _ b Om).trans (Below.heap_alloc _ _ b hb)
 have ρ:A.heap[w.heap.size]?=some (.deferred (some [])):=by rw[<-l];exact(Below.heap_alloc _ _ _ Om).trans (World.alloc_heap_new w _)
 have ζ:A.heap[w.heap.size+1]?=some (.loop rec):=by
  rw[<-l];have:=World.alloc_heap_new (w.alloc (.deferred (some []))) (.loop rec)
  rwa[κ]at this
 have φ:bY E H A:=by rw[<-l];exact(hW.alloc _).alloc _
 have χ:bY E (H.set (w.heap.size+1) (.loop F n t J K)) A:=φ.setObj ζ (λ_ _ _ h=>by cases h) (by subst R;exact⟨_,ζ,rfl,rfl,rfl,rfl,rfl,hA.size,hA.t⟩);have Ξ:A.os=w.os:=by rw[<-l];rfl
 have Φ:A.tape=w.tape:=by rw[<-l];rfl
 have Λ:A.output=w.output:=by rw[<-l];rfl
 have O:C.num name=E.num name:=by rw[α,hN]
 refine⟨w.heap.size+1,[BL w.heap.size],A,{ target:=.fn (.func (E.num name)) vc,args:=#[.func (.yield (w.heap.size+1)) #[] #[]] },A,E.num name,#[Value.func (.yield (w.heap.size+1)) #[] #[]]++vc,A,?_,?_,?_,?_,?_,?_⟩;rw[<-l,R];exact run_enterLoop_outer _ _ _ _ _;simp only[resolve,Ψ];simp[go_sem];exact λ_ _=>trivial;simp only[invoke];exact ajV (by rw[<-O];exact hf) hb Θ;intro h;cases h;have U:fW E (DB (w.heap.size+1)::cs) (#[Value.func (.yield (w.heap.size+1)) #[] #[]]++vc).toList:=by rw[Array.toList_append];exact .cons (.lit _) (fW.adG (by simpa using ψ) λj p u hp hu=>ω j p u hp (by simpa using hu))
 have hc:=V E A _ (hN.trans α.symm) χ U;rw[β,O]at hc;refine Fz.calls (hc.mono λe w3 he=>?_);obtain⟨v,pv,Y,H',rfl,ε,hr,B,H2,υ,W,M,τ⟩:=he;obtain⟨Ω,ν,η,μ,ι,-⟩:=ε.h _ _ τ;have X:w.heap.size≠w.heap.size+1:=Om;have σ:w3.heap[w.heap.size]?=some (.deferred (some [])):=(B.block _ Om (by rw[aP,aC X];exact nD)).trans ρ;have δ:H' w.heap.size=none:=by
  cases hh:H' w.heap.size with
  |none=>rfl
  |some y=>
   rcases B.new _ y hh with⟨z,S⟩|hge
   rw[aP,aC X,nD]at S;cases S;omega
 have γ:H2 w.heap.size=none:=by
  cases hh:H2 w.heap.size with
  |none=>rfl
  |some y=>rw[W _ y hh]at δ;cases δ
 refine⟨ν.pending,_,run_endLoop η (by rw[μ];exact λh=>by cases h),?_⟩;rw[ι];simp only;have ο:eS (BL w.heap.size::ds) n Y F { a with defers:=BL w.heap.size::a.defers }:=⟨hA.size,by simp only;rw[hA.defers],λi pv hi=>(hA.t i pv hi).mono B.env⟩;refine hT w.heap.size Y H2 _ ο ((ε.weaken W).putObj η (λ_ _ _ h=>by cases h) M) ?_ ((World.putObj_heap_other X).trans σ) γ (avD _) υ;refine⟨B.env,B.os.trans Ξ,B.tape.trans Φ,B.output.trans Λ,?_,λb hb hn=>?_,λo y ho=>?_,λb cs hb=>?_⟩;have:=B.size;rw[World.putObj_size];omega;have Z:b≠w.heap.size+1:=Om;rw[World.putObj_heap_other Z,B.block b Om (by rw[aP,aC Z];exact hn),θ b hb];have Z:o≠w.heap.size+1:=λe=>by rw[e,M]at ho;cases ho
 rcases B.new o y (W o y ho)with⟨z,S⟩|hge
 rw[aP,aC Z]at S;exact .inl ⟨z,S⟩;exact .inr Om;rcases B.newG b cs hb with h|⟨z,S⟩|hge
 exact .inl h;by_cases Z:b=w.heap.size+1;exact .inr (.inr Om);rw[aP,aC Z]at S;exact .inr (.inl ⟨z,S⟩);exact .inr (.inr Om)
end
open Go Go.RowKit
inductive rX where
 |seq (a:aI) (t:rX)
 |range (g:aR) (n t:Nat) (asg bdy:Code) (pas pbd rest:aI)
def rX.wp (C : Ctx) : rX -> bZ -> PF -> PH -> Prop
  | .seq a t, K, F, H => a.wp C (fZ C (t.wp C) K) F H
  | .range g n t asg bdy pas pbd rest, K, F, H => ∃ name cs KH, g.ev F = some (.fn name cs) /\
      ((∀ (l : Nat) (x : PV) (J : PH) (J' : PH -> Prop), J l = none -> pas.wp C (fZ C (pbd.wp C) (IK J')) (F.set t x) J ->
        LS C l [x] (J.set l (.loop F n t asg bdy)) (fun r H' => r = .bool true /\ ∃ H2, J' H2 /\ H2 l = none /\ H' = H2.set l (.loop F n t asg bdy))) -> C6 C name cs F H n t asg bdy KH) /\
      ∀ H2, KH H2 -> rest.wp C K F H2
namespace Tbl
variable (T:Tbl)
def tail(n:Nat):Code->Option rX
 | .seq (.rangeFunc g ps e i) rest=>match T.opd g,T.code n e,T.code n i,T.code n rest with
  |some x,some l,some u,some y=>match ps.toList with
   |[t]=>if t<n then some (.range x n t e i l u y)else none
   |_=>none
  |_,_,_,_=>none
 | .seq (.seq a (.block _ (.rangeFunc g ps e i))) rest=>match T.code n a,T.opd g,T.code n e,T.code n i,T.code n rest with
  |some w,some x,some l,some u,some y=>match ps.toList with
   |[t]=>if t<n then some (.seq w (.range x n t e i l u y))else none
   |_=>none
  |_,_,_,_,_=>none
 | .seq a b=>match T.code n a,tail n b with
  |some w,some A=>some (.seq w A)
  |_,_=>none
 |_=>none
end Tbl
section
variable {C:Ctx} {T:Tbl} {fu:Nat}
def GM(n:Nat)(E:Env)(H:PH)(w:World)(K:bZ)(Q:Exit->Act->World->Prop):Prop:=
 ∀ds,(ds=[]\/∃D,ds=[BL D])->∀e l u H' x i,eS ds n l u x->bY l H' i->Ext E H w l H' i->(∀D,ds=[BL D]->i.heap[D]?=some (.deferred (some []))/\H' D=none/\w.heap.size<=D)->K e u H'->Q e.out x i
theorem GM.after{n:Nat}{E u:Env}{H H':PH}{w y:World}{K:bZ}{Q:Exit->Act->World->Prop}(h:GM n E H w K Q)(x:Ext E H w u H' y):GM n u H' y K Q:=
 λds i e A B H2 a2 N F hW M l J=>h ds i e A B H2 a2 N F hW (x.trans M) (λD hD=>⟨(l D hD).1,(l D hD).2.1,avZ x.size (l D hD).2.2⟩) J
theorem GM.plain{n:Nat}{E:Env}{H:PH}{w:World}{K:bZ}{Q:Exit->Act->World->Prop}(h:GM n E H w K Q):TP [] n E H w K Q:=
 λe i l H' u B x hW A y=>h [] (.inl rfl) e i l H' u B x hW A (λD hD=>by cases hD) y
theorem rc(M:C.P=T.P)(B:C.num=T.num){n t:Nat}{g:Operand}{pg:aR}{ps:Array Tmp}{u A rest:Code}{S U pr:aI}{K:bZ}{Q Q0:Exit->Act->World->Prop}{E:Env}{F:PF}{H:PH}{a:Act}{w:World}(hQ:∀a w,rest.wpIn (Fz none) fu T.P Q a w->Q0 .normal a w)
  (h1:T.opd g=some pg) (h2:T.code n u=some S) (h3:T.code n A=some U) (h4:T.code n rest=some pr) (h5:ps.toList=[t]) (ht:t<n)
  (δ:(rX.range pg n t u A S U pr).wp C K F H) (hA:eS [] n E F a) (hW:bY E H w) (hN:E.num=T.num) (hT:GM n E H w K Q) :
  (Code.rangeFunc g ps u A).wpIn (Fz none) fu T.P Q0 a w:=by
 obtain⟨name,cs,KH,k1,k2,k3⟩:=δ;have γ:ps=#[t]:=by obtain⟨l⟩:=ps;simp only at h5;subst h5;rfl
 subst γ;refine J0 (ds:=[]) M B h1 k1 (k2 λl x J J' hJ hw=>Kg M B h2 h3 ht hJ hw) hA hW hN λD E' H2 w' V α O hD R X Z=>?_;refine hQ _ w' ?_;refine vJ (ro:=none) (fu:=fu) (ds:=[BL D]) M B rest pr K Q E' F H2 _ w' h4 (k3 H2 Z) V α (O.env.num.trans hN) λe E3 F3 H3 a3 w3 W β N Y=>?_;refine hT [BL D] (.inr ⟨D,rfl⟩) e E3 F3 H3 a3 w3 W β (O.trans N) (λD' i=>?_) Y;injection i with i _
 injection i with i _
 injection i with i
 subst i;have hlt:D<w'.heap.size:=(ayM.1 hD).1;refine⟨(N.block D hlt R).trans hD,?_,X⟩;cases hh:H3 D with
 |none=>rfl
 |some y=>
  rcases N.new D y hh with⟨z,hz⟩|hge
  rw[R]at hz;cases hz;omega
theorem Qq(A:C.P=T.P)(u:C.num=T.num){n:Nat}:∀(c:Code)(t:rX)(K:bZ)(Q:Exit->Act->World->Prop)(E:Env)(F:PF)(H:PH)(a:Act)(w:World),
  T.tail n c=some t->t.wp C K F H->eS [] n E F a->bY E H w->E.num=T.num->GM n E H w K Q->c.wpIn (Fz none) fu T.P Q a w:=by
 intro c
 induction c with
 |seq x y γ α=>
  intro t K Q E F H a w i N hA hW Y M;unfold Tbl.tail at i;split at i;rename_i g ps B J rest e;cases e;split at i;rename_i pg O R pr X e2 e3 e4;split at i;rename_i t0 e5;split at i;rename_i e6;cases i;exact wpIn_seq (rc A u (λ_ _ h=>h) X e2 e3 e4 e5 e6 N hA hW Y M);cases i;cases i;cases i;rename_i a0 β g ps B J rest e;cases e;split at i;rename_i Z pg O R pr e0 X e2 e3 e4;split at i;rename_i t0 e5;split at i
  ·rename_i e6;cases i;have l:Z.wp C (fZ C ((rX.range pg n t0 B J O R pr).wp C) K) F H:=N;refine wpIn_seq (wpIn_seq (vJ (ro:=none) (fu:=fu) (ds:=[]) A u a0 Z (fZ C ((rX.range pg n t0 B J O R pr).wp C) K) _ E F H a w e0 l hA hW Y λe S U H' V W g1 g2 g3 g4=>?_));cases e with
   |normal=>exact wpIn_block (rc A u (λ_ _ h=>h) X e2 e3 e4 e5 e6 g4 g1 g2 (g3.env.num.trans Y) (M.after g3))
   |exit id=>exact M.plain (.exit id) S U H' V W g1 g2 g3 g4
   |ret=>exact M.plain .ret S U H' V W g1 g2 g3 g4
  cases i;cases i;cases i;rename_i a0 b0 _ _ e;cases e;split at i
  ·rename_i Z tb X e2;cases i;have l:Z.wp C (fZ C (tb.wp C) K) F H:=N;refine wpIn_seq (vJ (ro:=none) (fu:=fu) (ds:=[]) A u x Z (fZ C (tb.wp C) K) _ E F H a w X l hA hW Y λe S U H' V W g1 g2 g3 g4=>?_);cases e with
   |normal=>exact α tb K Q S U H' V W e2 g4 g1 g2 (g3.env.num.trans Y) (M.after g3)
   |exit id=>exact M.plain (.exit id) S U H' V W g1 g2 g3 g4
   |ret=>exact M.plain .ret S U H' V W g1 g2 g3 g4
  cases i;cases i
 |_=>intro t K Q E F H a w i;simp[Tbl.tail]at i
end
structure GJ where
 nparams:Nat
 ntmps:Nat
 body:rX
 res:List eE
namespace Tbl
variable (T:Tbl)
def Bt(fn:Func):Option GJ:=
 match fn.body with
 |some c=>match T.tail fn.ntmps c,T.wy fn.results.toList with
  |some b,some rs=>some ⟨fn.params.size,fn.ntmps,b,rs⟩
  |_,_=>none
 |none=>none
end Tbl
theorem Nt{T:Tbl}{H:PH}(M:C.P=T.P)(K:C.num=T.num){name:Nat}{args:V_}{R:R_}{fn:Func}{pf:GJ}(hf:C.P.funcs[C.num name]?=some fn)(δ:(fn.name=="runtime.NumGoroutine")=false)
  (l:T.Bt fn=some pf) (U:Z' args<=pf.ntmps) (h:pf.body.wp C (aW pf.res R) (g_ args) H):aH C name args H R:=by
 unfold Tbl.Bt at l;split at l;rename_i c hb;split at l
 ·rename_i b rs A F;cases l;refine⟨⟨fn,hf,by simp[hb],δ⟩,λE w vs hN hW X=>?_⟩;have η:vs.size=Z' args:=by simpa using X.len
  refine(callsIn_wide (n:=0)).1 (callsIn_of_wp_marks hf hb trivial ?_ rfl);rw[M];have hA:eS [] fn.ntmps E (g_ args) { tmps:=vs++axG (fn.ntmps-vs.size) undef,defers:=[] }:=by
   refine⟨by simp only at U;simp;omega,rfl,λi pv hi=>?_⟩;have B:i<vs.size:=by
    rw[η];rcases avX i args.length with h'|h'
    exact h';simp[g_,awN h']at hi
   simp only[azG];rw[Array.getElem?_append_left B,ayW B];exact X.at_ i pv _ hi (by simp[B])
  refine Qq (fu:=0) M K c b (aW rs R) _ E (g_ args) H _ w A h hA hW (hN.trans K) λds β e u F' H' Z y J N x hm hK=>?_;have fin:∀w2,bY u H' w2->Ext E H w u H' w2->aW rs R .ret F' H'->LeavesIn Fence.wide 0 T.P fn Z.tmps (λe y=>∃v pv u H',e=.returned v/\bY u H' y/\bH u pv v/\Ext E H w u H' y/\R pv H') [] .returning w2:=by
   rintro w2 O α ⟨θ,V,F1,H1,H2,γ,S,v0,ζ,hR⟩;obtain⟨us,g1,g2⟩:=QV J O fn.results.toList rs θ F V;have ε:=qr g2;obtain⟨E2,k1,k2,k3⟩:=γ.sound O;have W:=k3 (λ_=>if h:us.toArray.size=1 then us.toArray[0]else .tuple us.toArray) (λi pv hi=>by simp only[PF.set,upd]at hi;split at hi;cases hi;exact ε;cases hi) 0 v0 ζ
   refine⟨_,?_,_,v0,E2,H2,rfl,k1.weaken S,W,(α.trans k2).drop S,hR⟩;rw[rh,Array.mapM_eq_mapM_toList];simp[g1]
  have Y:aW rs R .ret F' H'->bodyPostM Fence.wide 0 T.P fn (λe y=>∃v pv u H',e=.returned v/\bY u H' y/\bH u pv v/\Ext E H w u H' y/\R pv H') .ret Z y:=by
   intro hr;show LeavesInM Fence.wide 0 T.P fn Z.tmps _ Z.defers .returning y;rw[J.defers];rcases β with rfl|⟨D,rfl⟩
   exact fin y N x hr;obtain⟨m1,m2,m3⟩:=hm D rfl;refine⟨(λh=>by cases h),.inl ⟨D,_,rfl,run_takeDeferred m1,?_⟩⟩;refine fin _ (N.putObj m1 (λ_ _ _ h=>by cases h) m2) ⟨x.env,x.os,x.tape,x.output,?_,λb hb hn=>?_,x.new,x.newG⟩ hr;rw[World.putObj_size];exact x.size;rw[World.putObj_heap_other Om];exact x.block b hb hn
  cases e with
  |normal=>exact Y hK
  |exit id=>exact hK.elim
  |ret=>exact Y hK
 cases l;cases l
end Go.PM
namespace Go.PM
open Go
def YD(C:Ctx)(k:Nat)(pf:GJ):Prop:=∀(args:V_)(H:PH)(R:R_),Z' args<=pf.ntmps->pf.body.wp C (aW pf.res R) (g_ args) H->aH C k args H R
variable{C:Ctx}
theorem YD.go{k:Nat}{pf:GJ}(r:YD C k pf){args:V_}{H:PH}{R:R_}(h:pf.body.wp C (aW pf.res R) (g_ args) H)(e:Nat.ble args.length pf.ntmps=true):aH C k args H R:=r args H R (Nat.le_of_ble_eq_true e) h
open Go Go.Na
structure dV where
 src:Nat
 dst:Nat
 cap:Nat
abbrev dV.cells(a:dV):V_:=[.int .i64 a.src,.int .i64 a.dst,.int .i64 a.cap,.int .i64 0]
abbrev aqJ(l:List dV):PV:=.sl 4 (l.map dV.cells)
structure dP where
 nodes:Nat
 source:Nat
 sink:Nat
 arcs:List dV
abbrev dP.cells(n:dP):V_:=[.int .i64 n.nodes,.int .i64 n.source,.int .i64 n.sink,aqJ n.arcs]
structure lF(n:dP):Prop where
 two:2<=n.nodes
 few:n.nodes<=700
 num:Z' n.arcs<=2500
 source:n.source<n.nodes
 sink:n.sink<n.nodes
 apart:n.source≠n.sink
 ends:∀a∈n.arcs,a.src<n.nodes/\a.dst<n.nodes/\a.cap<=2147483647
def oL:List dV->N_->Nat->Int
 |a::l,x::xs,v=>(if a.src=v then(x:Int)else 0)-(if a.dst=v then(x:Int)else 0)+oL l xs v
 |_,_,_=>0
def zS(S:Nat->Bool):List dV->N_->Int
 |a::l,x::xs=>(if S a.src=true/\S a.dst=false then(x:Int)else 0)-(if S a.src=false/\S a.dst=true then(x:Int)else 0)+zS S l xs
 |_,_=>0
def rU(S:Nat->Bool)(g:Nat->Int):Nat->Int
 |0=>0
 |n+1=>rU S g n+if S n=true then g n else 0
theorem kb(S:Nat->Bool)(g h:Nat->Int):∀n,rU S (λv=>g v+h v) n=rU S g n+rU S h n
 |0=>rfl
 |n+1=>by rw[rU,rU,rU,kb S g h n];split<;>omega
theorem EX{S:Nat->Bool}{g h:Nat->Int}:∀{n:Nat},(∀v,v<n->S v=true->g v=h v)->rU S g n=rU S h n
 |0,_=>rfl
 |n+1,e=>by rw[rU,rU,EX (n:=n) λv i=>e v Om];split;rename_i c;rw[e n Om c];rfl
theorem JF(S:Nat->Bool):∀n,rU S (λ_=>0) n=0
 |0=>rfl
 |n+1=>by rw[rU,JF S n];split<;>rfl
theorem RR(S:Nat->Bool)(a:Nat)(x:Int):∀{n:Nat},a<n->rU S (λv=>if a=v then x else 0) n=if S a=true then x else 0
 |0,h=>by omega
 |n+1,h=>by rw[rU];by_cases e:a=n;subst e;rw[EX (h:=λ_=>0) (n:=a) λv i _=>by rw[aC Om],JF,aF rfl];omega;rw[RR S a x (n:=n) Om,aC e];split<;>split<;>omega
theorem Mi(S:Nat->Bool){N:Nat}:∀{l:List dV}{xs:N_},(∀a∈l,a.src<N/\a.dst<N)->rU S (oL l xs) N=zS S l xs
 |[],_,_=>JF S N
 |_::_,[],_=>JF S N
 |a::l,x::xs,h=>by
  obtain⟨i,u⟩:=h a aZ;have w:=Mi S (l:=l) (xs:=xs) λb hb=>h b (ayT _ hb);have e:rU S (oL (a::l) (x::xs)) N=rU S (λv=>if a.src=v then(x:Int)else 0) N+(rU S (λv=>if a.dst=v then -(x:Int)else 0) N+rU S (oL l xs) N):=by rw[<-kb,<-kb];refine EX λv _ _=>?_;rw[oL];split<;>split<;>omega
  rw[e,RR S _ _ i,RR S _ _ u,w,zS];cases S a.src<;>cases S a.dst<;>simp<;>omega
structure mM(n:dP)(xs:N_):Prop where
 len:Z' xs=Z' n.arcs
 le:∀(i:Nat) a x,n.arcs[i]?=some a->xs[i]?=some x->x<=a.cap
 node:∀v,v<n.nodes->v≠n.source->v≠n.sink->oL n.arcs xs v=0
def uX(n:dP)(xs:N_):Int:=oL n.arcs xs n.source
def mI(S:Nat->Bool):List dV->Nat
 |[]=>0
 |a::l=>(if S a.src=true/\S a.dst=false then a.cap else 0)+mI S l
theorem mM.cut{n:dP}(i:lF n){xs:N_}(h:mM n xs){S:Nat->Bool}(w:S n.source=true)(x:S n.sink=false):zS S n.arcs xs=uX n xs:=by
 rw[<-Mi S (N:=n.nodes) λa l=>⟨(i.ends a l).1,(i.ends a l).2.1⟩];rw[EX (h:=λv=>if n.source=v then uX n xs else 0) λv y u=>?_,RR S _ _ i.source,aF w];by_cases e:n.source=v;subst e;rw[aF rfl];rfl;rw[aC e];exact h.node v y (λc=>e c.symm) λc=>by rw[c,x]at u;cases u
theorem Ly(S:Nat->Bool):∀{l:List dV}{xs:N_},(∀(i:Nat) a x,l[i]?=some a->xs[i]?=some x->x<=a.cap)->zS S l xs<=mI S l
 |[],_,_=>by simp[zS,mI]
 |_::_,[],_=>by simp[zS]
 |a::l,x::xs,h=>by have u:=h 0 a x rfl rfl;have w:=Ly S (l:=l) (xs:=xs) λi b y hb e=>h (i+1) b y (by simpa using hb) (by simpa using e);rw[zS,mI];split<;>split<;>omega
theorem mM.akE{n:dP}(l:lF n){xs:N_}(h:mM n xs){S:Nat->Bool}(e:S n.source=true)(i:S n.sink=false):uX n xs<=mI S n.arcs:=by
 rw[<-h.cut l e i];exact Ly S h.le
theorem Lx(S:Nat->Bool):∀{l:List dV}{xs:N_},Z' xs=Z' l->(∀(i:Nat) a x,l[i]?=some a->xs[i]?=some x->(S a.src=true->S a.dst=false->x=a.cap)/\(S a.src=false->S a.dst=true->x=0))->zS S l xs=mI S l
 |[],_,_,_=>by simp[zS,mI]
 |_::_,[],h,_=>by simp at h
 |a::l,x::xs,A,h=>by have e:=h 0 a x rfl rfl;have E:=Lx S (l:=l) (xs:=xs) (by simpa using A) λi b y hb B=>h (i+1) b y (by simpa using hb) (by simpa using B);rw[zS,mI,E];cases w:S a.src<;>cases u:S a.dst;simp;have:=e.2 w u;simp;omega;have:=e.1 w u;simp;omega;simp
theorem mM.full{n:dP}(w:lF n){xs:N_}(h:mM n xs){S:Nat->Bool}(e:S n.source=true)(l:S n.sink=false)
  (u:∀(i:Nat) a x,n.arcs[i]?=some a->xs[i]?=some x->(S a.src=true->S a.dst=false->x=a.cap)/\(S a.src=false->S a.dst=true->x=0)):uX n xs=mI S n.arcs:=by
 rw[<-h.cut w e l];exact Lx S h.len u
theorem Lp:∀{l:List dV}{xs:N_}{i:Nat}{a:dV}{x:Nat}(y:Nat),l[i]?=some a->xs[i]?=some x->∀v,oL l (xs.set i y) v=oL l xs v+(if a.src=v then(y:Int)-x else 0)-(if a.dst=v then(y:Int)-x else 0)
 |[],_,_,_,_,_,h,_,_=>by simp at h
 |_::_,[],_,_,_,_,_,h,_=>by simp at h
 |b::l,z::xs,0,a,x,y,e,u,v=>by simp only[List.getElem?_cons_zero,awV.injEq]at e u;subst e;subst u;rw[azB,oL,oL];split<;>split<;>omega
 |b::l,z::xs,i+1,a,x,y,e,u,v=>by rw[List.set_cons_succ,oL,oL,Lp (l:=l) (xs:=xs) y (by simpa using e) (by simpa using u) v];omega
theorem Gm(l:List dV):∀(n:Nat)(v:Nat),oL l (avA n 0) v=0:=by
 induction l with
 |nil=>intro n v;cases n<;>rfl
 |cons a l e=>
  intro n v;cases n with
  |zero=>rfl
  |succ n =>rw[List.replicate_succ,oL,e];split<;>split<;>rfl
theorem S1(n:dP):mM n (avA n.arcs.length 0)/\uX n (avA n.arcs.length 0)=0:=by
 refine⟨⟨by simp,λi a x _ e=>?_,λv _ _ _=>Gm _ _ _⟩,Gm _ _ _⟩;have:=axF e;rw[List.eq_of_mem_replicate this];exact auY _
theorem qF{f:aD}(h:VF f){i:Nat}(hi:i<Z' f.atK):0<=lvl f i/\lvl f i<=4:=by
 rcases axJ i with e|e
 rw[e,h.root.2.1];omega;have:=h.dom i e hi;omega
def dK(n:Nat):Nat->Nat->List N_
 |0,_=>[[]]
 |k+1,a=>(axI a (n-k-a)).flatMap λi=>(dK n k (i+1)).map (i::·)
def qY(n:Nat):N_->Option N_
 |[]=>none
 |x::t=>match qY n t with
  |some u=>some (x::u)
  |none=>if x+1+Z' t=n then none else some (axI (x+1) (Z' t+1))
theorem y7{n:Nat}:∀{s u:N_},qY n s=some u->Z' u=Z' s
 |[],_,h=>by cases h
 |x::t,u,h=>by rw[qY]at h;split at h;rename_i v e;cases h;simp[y7 e];split at h;cases h;cases h;simp
inductive rY (n:Nat):N_->List N_->Prop
 |last {s:N_} (h:qY n s=none):rY n s [s]
 |step {s t:N_} {l:List N_} (h:qY n s=some t) (w:rY n t l):rY n s (s::l)
theorem rY.map{n x k:Nat}{rest:List N_}(u:(x+1+k=n/\rest=[])\/(x+1+k≠n/\rY n (axI (x+1) (k+1)) rest)){t:N_}{l:List N_}(w:rY n t l)(e:Z' t=k):rY n (x::t) (l.map (x::·)++rest):=by
 induction w with
 |@last s h=>
  rcases u with⟨i,rfl⟩|⟨i,h2⟩
  exact .last (by rw[qY,h];simp only;rw[aF (by rw[e];exact i)]);exact .step (by rw[qY,h];simp only;rw[aC (by rw[e];exact i),e]) h2
 |@step s t l h _ y=>exact .step (by rw[qY,h]) (y (by rw[y7 h,e]))
theorem XS(n:Nat):∀(k a:Nat),a+k<=n->rY n (axI a k) (dK n k a)
 |0,a,_=>.last rfl
 |k+1,a,h=>by
  rw[dK];obtain⟨m,i⟩:∃m,n-k-a=m+1:=⟨n-k-a-1,by omega⟩;rw[i];clear h
  induction m generalizing a with
  |zero =>have:=rY.map (n:=n) (x:=a) (k:=k) (rest:=[]) (.inl ⟨by omega,rfl⟩) (XS n k (a+1) Om) List.length_range';rw[List.range'_succ (n:=0),List.flatMap_cons];exact this
  |succ m l =>rw[List.range'_succ (n:=m+1),List.flatMap_cons];have e:=l (a+1) Om;exact rY.map (.inr ⟨by omega,e⟩) (XS n k (a+1) Om) List.length_range'
theorem QE{n:Nat}:∀{s:N_},(∀i (h:i<Z' s),s[i]+Z' s=n+i)->qY n s=none
 |[],_=>rfl
 |x::t,h=>by rw[qY,QE (s:=t) λi hi=>by have:=h (i+1) (by simpa using hi);simp only[List.getElem_cons_succ,awK]at this;omega];have e:=h 0 aZ;simp only[List.getElem_cons_zero,awK]at e;simp only;rw[aF Om]
theorem Gn{n:Nat}:∀{s:N_}(i:Nat)(hi:i<Z' s),(∀j (h:j<Z' s),i<j->s[j]+Z' s=n+j)->s[i]+Z' s≠n+i->qY n s=some (s.take i++axI (s[i]+1) (Z' s-i))
 |[],i,hi,_,_=>by cases hi
 |x::t,0,_,h,e=>by rw[qY,QE (s:=t) λi hi=>by have:=h (i+1) (by simpa using hi) Om;simp only[List.getElem_cons_succ,awK]at this;omega];simp only[List.getElem_cons_zero,awK]at e ⊢;rw[aC Om];rfl
 |x::t,i+1,hi,h,e=>by
  have l:i<Z' t:=by simpa using hi
  simp only[List.getElem_cons_succ,awK]at e;rw[qY,Gn (s:=t) i l (λj w u=>by have:=h (j+1) (by simpa using w) Om;simp only[List.getElem_cons_succ,awK]at this;omega) Om];simp only[List.getElem_cons_succ,awK,List.take_succ_cons,ayQ];rw[show t.length+1-(i+1)=Z' t-i by omega]
theorem xX(n:Nat):∀(k a:Nat),∀s∈dK n k a,Z' s=k/\(∀x∈s,a<=x/\x<n)/\s.Pairwise (· < ·)
 |0,a,s,h=>by rw[dK,awL]at h;subst h;exact⟨rfl,(λx hx=>by cases hx),.nil⟩
 |k+1,a,s,h=>by
  rw[dK,List.mem_flatMap]at h;obtain⟨i,hi,h⟩:=h;rw[avV]at h;obtain⟨t,w,rfl⟩:=h;rw[List.mem_range'_1]at hi;obtain⟨l,e,u⟩:=xX n k (i+1) t w;refine⟨by simp[l],λx hx=>?_,List.pairwise_cons.2 ⟨λy A=>by have:=(e y A).1;omega,u⟩⟩;rcases avL.1 hx with rfl|hx
  omega;have:=e x hx;omega
theorem AY(n:Nat):∀(k a:Nat),(dK n k a).length<=2^(n-a)
 |0,a=>by rw[dK];exact Nat.one_le_two_pow
 |k+1,a=>by
  rw[dK];have e:∀(m a:Nat),m+a<=n->((axI a m).flatMap λi=>(dK n k (i+1)).map (i::·)).length+2^(n-a-m)<=2^(n-a):=by
   intro m
   induction m with
   |zero=>intro a _;simp
   |succ m l=>
    intro a h;rw[List.range'_succ,List.flatMap_cons,auZ,auW];have u:=AY n k (a+1);have w:=l (a+1) Om;rw[show n-a-(m+1)=n-(a+1)-m by omega];have x:2^(n-a)=2^(n-(a+1))+2^(n-(a+1)):=by rw[show n-a=(n-(a+1))+1 by omega,axE];omega
    omega
  rcases avX n a with h|h
  rw[show n-k-a=0 by omega];simp;exact avZ (Nat.le_add_right _ _) (e (n-k-a) a Om)
def ahT(f:aD)(p:cO)(set:I_):Bool:=(auX f.atK.length).all λi=>!(decide (eN f p i>0)&&decide (kX f set i>eN f p i))
def R2(f:aD)(p:cO)(d:Int):Bool:=p.atI.contains ((mdl f d.toNat:Nat):Int)
def DC(f:aD)(p:cO)(set:I_):Bool:=set.all (R2 f p)&&ahT f p set
def acY(set:I_)(top:Int)(i:Nat):Bool:=(decide (0<=set.getD i 0)&&decide (set.getD i 0<top))&&(decide (i=0)||decide (set.getD (i-1) 0<set.getD i 0))
def W8(set:I_)(n top:Int):Bool:=decide ((Z' set:Int)=n)&&(auX set.length).all (acY set top)
def mR(f:aD)(atW:Int):cO:=f.atL.getD atW.toNat adF
def wC(p:cO):Int:=p.k+p.m
def CL(f:aD)(atW:Int):Bool:=cM f&&(decide (0<=atW)&&decide (atW<Z' f.atL))
def W5(f:aD)(atW:Int)(set:I_):Bool:=CL f atW&&(W8 set (wC (mR f atW)) f.atH.length&&DC f (mR f atW) set)
def cA(s:N_):I_:=s.map λ(x:Nat)=>(x:Int)
def JC(f:aD)(p:cO):L2_:=((dK f.atH.length (wC p).toNat 0).map cA).filter (DC f p)
def iU(f:aD)(level:Int):L2_:=
 if level=5 then(auX f.atH.length).map λ(d:Nat)=>[(d:Int)]
 else((auX f.atK.length).filter λi=>decide (lvl f i=level)).map λi=>cA ((auX f.atH.length).filter λd=>decide (dE f d level=i))
def eO(m:Int):Nat->Int
 |0=>1
 |i+1=>axQ (eO m i*(m-i)) (i+1)
def lK(u:L2_)(s:N_)(d:Nat):Bool:=s.any λi=>(u.getD i []).contains (d:Int)
def vZ(f:aD)(u:L2_)(count:Nat):L2_:=(dK u.length count 0).map λs=>cA ((auX f.atH.length).filter (lK u s))
def kA(s set:I_):Nat:=set.countP λd=>s.contains d
def pK(sc:L2_)(set:I_)(m:Int):Nat:=sc.countP λs=>decide (((kA s set:Nat):Int)>m)
theorem xn:∀{s t:I_},s.Nodup->t.Nodup->kA s t=kA t s
 |[],t,_,_=>by simp[kA]
 |d::s,t,w,y=>by
  obtain⟨E,F⟩:=List.nodup_cons.1 w;have l:=xn F y;unfold kA at l ⊢;rw[List.countP_cons,<-l];clear l w
  induction t with
  |nil=>simp
  |cons x t u=>
   obtain⟨k1,k2⟩:=List.nodup_cons.1 y;have:=u k2;rw[List.countP_cons,List.countP_cons,this];by_cases e:x=d;subst e;have i:(x::s).contains x=true:=by simp
   have e2:s.contains x=false:=by simpa using E
   have A:t.contains x=false:=by simpa using k1
   have B:(x::t).contains x=true:=by simp
   simp only[i,e2,A,B];have i:(d::s).contains x=s.contains x:=by simp[e]
   have e2:(x::t).contains d=t.contains d:=by have:¬d=x:=λh=>e h.symm;simp[this]
   rw[i,e2];omega
def fP(set:I_)(d:Int):Nat:=(set.takeWhile λx=>decide (x<d)).length
theorem xd(set:I_)(d:Int):fP set d<=Z' set:=(List.takeWhile_prefix _).length_le
theorem RE(set:I_)(d:Int){i:Nat}(h:i<fP set d):set[i]'(Nat.lt_of_lt_of_le h (xd set d))<d:=by
 have hp:=List.takeWhile_prefix (p:=λx=>decide (x<d)) (l:=set);have u:(set.takeWhile λx=>decide (x<d))[i]∈set.takeWhile λx=>decide (x<d):=avB h;have w:=List.all_takeWhile (p:=λx=>decide (x<d)) (l:=set);have e:=awA.1 w _ u;rw[hp.getElem h]at e;exact of_decide_eq_true e
theorem Mf(set:I_)(d:Int)(h:fP set d<Z' set):¬set[fP set d]<d:=by
 induction set with
 |nil=>simp at h
 |cons x t i=>
  by_cases c:x<d;have e:fP (x::t) d=fP t d+1:=by simp[fP,List.takeWhile_cons,c]
  simp only[e,List.getElem_cons_succ];exact i (by rw[e]at h;simpa using h);have e:fP (x::t) d=0:=by simp[fP,List.takeWhile_cons,c]
  simp only[e,List.getElem_cons_zero];exact c
theorem aaV{set:I_}(w:set.Pairwise (· < ·))(d:Int):set.contains d=(decide (fP set d<Z' set)&&decide (set.getD (fP set d) 0=d)):=by
 by_cases h:fP set d<Z' set;have x:=Mf set d h;rw[bG h,avR,avI,avF h,axK];by_cases e:set[fP set d]=d;rw[bG e];simp only[ayY];exact e ▸ avB h;rw[bS e];simp only[Bool.eq_false_iff,ne_eq,ayY];intro u;obtain⟨i,hi,l⟩:=awR u;rcases Nat.lt_trichotomy i (fP set d)with c|c|c
 have:=RE set d c;omega;subst c;exact e l;have:=List.pairwise_iff_getElem.1 w _ _ h hi c;omega;rw[bS h,avJ];simp only[Bool.eq_false_iff,ne_eq,ayY];intro u;obtain⟨i,hi,l⟩:=awR u;have:=RE set d (i:=i) Om;omega
theorem Vm(set:I_){d e:Int}(h:d<=e):fP set d<=fP set e:=by
 induction set with
 |nil=>simp[fP]
 |cons x t l =>by_cases c:x<d;have i:x<e:=Om;simp only[fP,List.takeWhile_cons,c,i,decide_true,if_true,awK]at l ⊢;omega;simp[fP,List.takeWhile_cons,c]
theorem Lj(a b:Nat):mkT (a:Int) (b:Int)=⟨false,aM (a/avC a b),aM (b/avC a b)⟩:=by
 have e:decide ((a:Int)<0)=false:=bS Om;have i:decide ((b:Int)<0)=false:=bS Om;unfold mkT qS FV.rf;rw[e,i,Int.natAbs_natCast,Int.natAbs_natCast];rfl
structure SmF(x:RF)(p q:Nat):Prop where
 eq:x=⟨false,aM (p/avC p q),aM (q/avC p q)⟩
 a:p<=64
 b:q<=64
 pos:0<q
theorem SmF.mk'{a b:Nat}(e:a<=64)(hb:b<=64)(h:0<b):SmF (mkT (a:Int) (b:Int)) a b:=⟨Lj a b,e,hb,h⟩
theorem SmF.num{x:RF}{a b:Nat}(h:SmF x a b):val x.num=a/avC a b:=by rw[h.eq,aY]
theorem SmF.den{x:RF}{a b:Nat}(h:SmF x a b):val x.den=b/avC a b:=by rw[h.eq,aY]
theorem SmF.v{x:RF}{a b:Nat}(h:SmF x a b):x.v=(false,a/avC a b,b/avC a b):=by
 unfold RF.v;rw[h.num,h.den,h.eq]
theorem SmF.Gt{x:RF}{a b:Nat}(_:SmF x a b):a/avC a b<=a:=ayL ..
theorem SmF.D2{x:RF}{a b:Nat}(_:SmF x a b):b/avC a b<=b:=ayL ..
theorem SmF.den_pos{x:RF}{a b:Nat}(h:SmF x a b):0<b/avC a b:=Nat.div_pos (Nat.le_of_dvd h.pos (Nat.gcd_dvd_right a b)) (Nat.gcd_pos_of_pos_right a h.pos)
theorem FJ{n:Nat}(h:n<=4096):dC n<=32:=(pS n 32).2 Om
theorem I9{n:Nat}(h:0<n):0<dC n:=by
 rcases axJ (dC n)with e|e
 rw[nB]at e;omega;exact e
theorem AC{a b:Nat}(i:a<=4096)(hb:b<=4096)(h:0<b):dU a b=true:=by
 have l:=FJ i;have u:=FJ hb;have e:=I9 h;unfold dU;rw[bG e,bG (Om:dC b<=4096),bG (Om:dC a<=4096)];rfl
theorem Le{n:Bool}{a b:Nat}(e:a<=4096)(hb:b<=4096):kI n a b=.ok (n&&decide (a/avC a b≠0),a/avC a b,b/avC a b):=by
 have i:=FJ (avZ (ayL a (avC a b)) e);have l:=FJ (avZ (ayL b (avC a b)) hb);unfold kI;rw[aC Om]
theorem SmF.lim{x:RF}{a b:Nat}(h:SmF x a b):dS x=true:=by
 have u:=h.Gt;have w:=h.D2;have e:=h.den_pos;have:=h.a;have:=h.b;have i:x.neg=false:=by rw[h.eq]
 unfold dS sM;rw[h.num,h.den,i,AC Om Om e,aF rfl,Le Om Om];have l:=ayL (a/avC a b) (avC (a/avC a b) (b/avC a b));have e2:=ayL (b/avC a b) (avC (a/avC a b) (b/avC a b));simp only[avJ,avP,avR,avE,dT_];exact⟨FJ Om,FJ Om⟩
theorem SmF.rZ{x:RF}{a b:Nat}(h:SmF x a b)(e:0<a):bW x=true:=by
 unfold bW;rw[h.num];exact bG (Nat.ne_of_gt (Nat.div_pos (Nat.le_of_dvd e (Nat.gcd_dvd_left a b)) (Nat.gcd_pos_of_pos_right a h.pos)))
theorem SmF.zero{x:RF}{b:Nat}(h:SmF x 0 b):bW x=false:=by
 unfold bW;rw[h.num,Nat.zero_div];rfl
theorem SmF.one{x:RF}{a b:Nat}(h:SmF x a b)(e:a<=b):DG x=true:=by
 have u:=h.Gt;have w:=h.D2;have i:=h.den_pos;have:=h.a;have:=h.b;have l:x.neg=false:=by rw[h.eq]
 unfold DG;rw[h.num,h.den,l,AC Om Om i];have:a/avC a b<=b/avC a b:=Nat.div_le_div_right e;show(true&&decide (eZ (a/avC a b*1) (1*(b/avC a b))<=0))=true;rw[ayG,Nat.one_mul,avR];refine bG ?_;unfold eZ;split;decide;split;omega;decide
theorem SmF.ok{x:RF}{a b:Nat}(h:SmF x a b):x.Ok:=by
 have e:=h.Gt;have i:=h.D2;have:=h.a;have:=h.b;have k1:nl (a/avC a b)<=1:=(kU _ _).2 Om;have k2:nl (b/avC a b)<=1:=(kU _ _).2 Om;rw[h.eq];refine⟨bE _,bE _,?_,?_⟩;show(aM _).length<=_;rw[bJ];omega;show(aM _).length<=_;rw[bJ];omega
theorem aeK:∀c:Fin 9,∀k:Fin 9,c.val+k.val<=8 ->
  (c.val/avC c.val 8*(8/avC k.val 8)+k.val/avC k.val 8*(8/avC c.val 8))/avC (c.val/avC c.val 8*(8/avC k.val 8)+k.val/avC k.val 8*(8/avC c.val 8)) (8/avC c.val 8*(8/avC k.val 8))=(c.val+k.val)/avC (c.val+k.val) 8 /\
  8/avC c.val 8*(8/avC k.val 8)/avC (c.val/avC c.val 8*(8/avC k.val 8)+k.val/avC k.val 8*(8/avC c.val 8)) (8/avC c.val 8*(8/avC k.val 8))=8/avC (c.val+k.val) 8:=by decide +kernel
abbrev eV(c:Nat):FV:=(false,c/avC c 8,8/avC c 8)
theorem au(c:Nat):0<8/avC c 8:=Nat.div_pos (Nat.le_of_dvd aU (Nat.gcd_dvd_right c 8)) (Nat.gcd_pos_of_pos_right c aU)
theorem Dl{c k:Nat}(h:c+k<=8):jN (eV c) (eV k)=.ok (eV (c+k)):=by
 obtain⟨e,e2⟩:=aeK ⟨c,by omega⟩ ⟨k,by omega⟩ h;simp only at e e2;have a1:=ayL c (avC c 8);have a2:=ayL k (avC k 8);have a3:=ayL 8 (avC c 8);have a4:=ayL 8 (avC k 8);have i:=au c;have l:=au k;simp only[jN];rw[AC Om Om i,AC Om Om l,ayJ,aF rfl,aF trivial];have b1:c/avC c 8*(8/avC k 8)<=8*8:=ayA Om a4;have b2:k/avC k 8*(8/avC c 8)<=8*8:=ayA Om a3;have u:8/avC c 8*(8/avC k 8)<=8*8:=ayA a3 a4;rw[Le Om Om,e,e2];rfl
theorem WU:∀(l:N_)(c:Nat),c+l.sum<=8->(l.map eV).foldlM jN (eV c)=.ok (eV (c+l.sum))
 |[],c,_=>rfl
 |k::l,c,h=>by rw[List.sum_cons]at h;rw[awE,List.foldlM_cons,Dl Om,List.sum_cons,<-axL];exact WU l (c+k) Om
theorem aeJ:eV 0=(false,0,1):=by decide +kernel
theorem X2:eV 8=(false,1,1):=by decide +kernel
theorem ahV(l:N_)(h:l.sum=8):(match rT (l.map eV)with
  | .ok (n,a,b)=>decide (uQ n a b false 1 1=0)
  | .error _=>false)=true:=by
 unfold rT;rw[<-aeJ,WU l 0 Om,avK,h,X2];rfl
def dig(k:Nat):List UInt8:=if k<10 then[UInt8.ofNat (48+k)]else[UInt8.ofNat (48+k/10),UInt8.ofNat (48+k%10)]
def ZQ:List UInt8->Nat
 |[a]=>a.toNat-48
 |[a,b]=>(a.toNat-48)*10+(b.toNat-48)
 |_=>0
theorem UX{k:Nat}(h:k<100):cP k=dig k:=by
 unfold cP dig;by_cases e:k<10;rw[aF e];exact Lib.decDigits_one e;rw[aC e];exact Lib.decDigits_two e h
theorem D4:∀k:Fin 100,ZQ (dig k.val)=k.val/\(dig k.val).length<=2/\((dig k.val).all λc=>iJ c.toNat)=true:=by decide +kernel
theorem wb{p:List UInt8}{c:UInt8}{t:List UInt8}(e:p=c::t)(l:gP c.toNat=true)(x:(t.all λc=>iJ c.toNat)=true)(y:Z' p<=8){k:Nat}(u:k<100):isName (p++cP k)=true:=by
 obtain⟨-,w,i⟩:=D4 ⟨k,u⟩;simp only at w i;subst e;rw[UX u];show(decide ((c::t++dig k).length<=16)&&gP c.toNat&&(c::t++dig k).all λc=>iJ c.toNat)=true;have hi:iJ c.toNat=true:=by unfold iJ;rw[l];rfl
 rw[bG (by rw[auZ];omega),l,List.all_append,i,ayX,x,hi];rfl
theorem ao{l:List (List UInt8)}(u:∀x∈l,isName x=true)(w:l.Nodup):distinct l=true:=by
 unfold distinct;rw[awA];intro i hi;rw[awG]at hi;have e:l.getD i []=l[i]:=by simp[avI,hi]
 rw[e,u _ (avB hi),avR];have:¬l[i]∈l.take i:=by intro A;obtain⟨j,y,e⟩:=awR A;rw[avN]at y;rw[List.getElem_take]at e;have:=(List.nodup_iff_pairwise_ne.1 w);rw[List.pairwise_iff_getElem]at this;exact this j i Om hi Om e
 simp[this]
theorem VP{l:List (List UInt8)}{g:List UInt8->Nat}(h:∀i (hi:i<Z' l),g l[i]=i):l.Nodup:=by
 rw[List.nodup_iff_pairwise_ne,List.pairwise_iff_getElem];intro i j hi w hlt e;have u:=h i hi;have x:=h j w;rw[e]at u;omega
theorem zE{l:List (List UInt8)}{p:List UInt8}{c:UInt8}{t:List UInt8}(e:p=c::t)(u:gP c.toNat=true)(y:(t.all λc=>iJ c.toNat)=true)(w:Z' p<=8)(B:Z' l<=100)(h:∀i (hi:i<Z' l),l[i]=p++cP i):distinct l=true:=by
 refine ao ?_ (VP (g:=λs=>ZQ (s.drop p.length)) ?_);intro x A;obtain⟨i,hi,rfl⟩:=awR A;rw[h i hi];exact wb e u y w Om;intro i hi;rw[h i hi];simp only[List.drop_left];rw[UX Om];exact(D4 ⟨i,by omega⟩).1
structure yU(x:RF):Prop where
 lim:dS x=true
 ok:x.Ok
theorem SmF.o{x:RF}{a b:Nat}(h:SmF x a b):yU x:=⟨h.lim,h.ok⟩
theorem vC:SmF mL 0 1:=SmF.mk' (a:=0) (b:=1) aU aU aU
theorem xN(l:N_)(a:Nat):yU (iD l a).1/\bW (iD l a).1=true:=by
 have e:=cK l (show 0<6 by decide) a;have i:=cK l (show 0<8 by decide) (aG l 6 a).2;have:=SmF.mk' (a:=1+(aG l 6 a).1) (b:=1+(aG l 8 (aG l 6 a).2).1) Om Om Om;exact⟨this.o,this.rZ Om⟩
theorem Xe(l:N_)(i j a:Nat):yU (kT l i j a).1/\(j=i->bW (kT l i j a).1=false)/\(j=i+1->bW (kT l i j a).1=true):=by
 unfold kT;by_cases e:j=i+1;rw[aF e];exact⟨(xN l a).1,λh=>by omega,λ_=>(xN l a).2⟩;rw[aC e];by_cases u:j=i;rw[aF u];exact⟨vC.o,λ_=>vC.zero,λh=>absurd h e⟩;rw[aC u];simp only;split;exact⟨(xN l _).1,λh=>absurd h u,λh=>absurd h e⟩;exact⟨vC.o,λh=>absurd h u,λh=>absurd h e⟩
theorem Mb(l:N_)(i a:Nat):∀n,(fC l i a n).1.length=n/\∀j (u:j<(fC l i a n).1.length),yU (fC l i a n).1[j]/\(j=i->bW (fC l i a n).1[j]=false)/\(j=i+1->bW (fC l i a n).1[j]=true)
 |0=>⟨rfl,λj u=>absurd u (by simp[fC])⟩
 |n+1=>by obtain⟨w,x⟩:=Mb l i a n;have e:(fC l i a (n+1)).1=(fC l i a n).1++[(kT l i n (fC l i a n).2).1]:=rfl;rw[e];refine⟨by simp[w],λj u=>?_⟩;by_cases hlt:j<(fC l i a n).1.length;rw[azM hlt];exact x j hlt;rw[auZ,avG]at u;have:j=n:=Om;subst this;rw[azK Om];simp only[List.getElem_singleton];exact Xe l i j _
theorem Ma(l:N_)(a:Nat):∀n,(nJ l a n).1.length=n/\∀x∈(nJ l a n).1,yU x/\bW x=true
 |0=>⟨rfl,λx i=>by cases i⟩
 |n+1=>by
  obtain⟨u,w⟩:=Ma l a n;have e:(nJ l a (n+1)).1=(nJ l a n).1++[(iD l (nJ l a n).2).1]:=rfl;rw[e];refine⟨by simp[u],λx i=>?_⟩;rw[awH,awL]at i;rcases i with i|rfl
  exact w x i;exact xN l _
theorem X6(l:N_)(n i a:Nat):yU (gS l n i a).1/\(i+1=n->bW (gS l n i a).1=true):=by
 unfold gS;by_cases h:i+1<n;simp only[aF h];refine⟨?_,λe=>by omega⟩;split;exact vC.o;exact(xN l a).1;simp only[aC h];exact⟨(xN l a).1,λ_=>(xN l a).2⟩
def ajJ(n:Nat)(atM:List (List RF)):Prop:=∀i (hi:i<Z' atM),atM[i].length=n/\∀j (e:j<atM[i].length),yU atM[i][j]/\(j=i->bW atM[i][j]=false)/\(j=i+1->bW atM[i][j]=true)
def ajD(n:Nat)(exit:List RF):Prop:=∀i (hi:i<Z' exit),yU exit[i]/\(i+1=n->bW exit[i]=true)
structure aqH(n i:Nat)(s:JQ)(cs:N_):Prop where
 start:s.start=cs.map λc=>mkT ((c:Nat):Int) ((8:Nat):Int)
 lens:Z' s.exit=i/\Z' s.atM=i/\Z' cs=i
 left:cs.sum+s.left=8/\(i=n->0<n->s.left=0)
 exit:ajD n s.exit
 atM:ajJ n s.atM
theorem xV{α:Type}{P:Nat->α->Prop}{xs:List α}{x:α}(h:∀i (hi:i<Z' xs),P i xs[i])(e:P xs.length x):∀i (hi:i<(xs++[x]).length),P i (xs++[x])[i]:=by
 intro i hi;by_cases hlt:i<Z' xs;rw[azM hlt];exact h i hlt;rw[auZ,avG]at hi;have:i=Z' xs:=Om;subst this;rw[azK Om];simpa using e
theorem yg(l:N_)(n a:Nat):∀i,i<=n->∃cs,aqH n i (iT l n a i) cs
 |0,_=>⟨[],rfl,⟨rfl,rfl,rfl⟩,⟨rfl,λh u=>by omega⟩,λi hi=>absurd hi (by simp[iT]),λi hi=>absurd hi (by simp[iT])⟩
 |i+1,hi=>by
  obtain⟨cs,y,⟨u,w,A⟩,⟨h5,-⟩,B,h7⟩:=yg l n a i Om;generalize F:iT l n a i=s at *
  have e:iT l n a (i+1)=⟨s.start++[mkT ((fB l n i s).1:Nat) 8],s.exit++[(gS l n i (fB l n i s).2).1],s.atM++[(fC l i (gS l n i (fB l n i s).2).2 n).1],s.left-(fB l n i s).1,(fC l i (gS l n i (fB l n i s).2).2 n).2⟩:=by simp only[iT,F]
  rw[e];have E:(fB l n i s).1<=s.left/\(i+1=n->(fB l n i s).1=s.left):=by unfold fB;split;exact⟨by have:=cK l (Om:0<s.left+1) s.a;omega,λh=>by omega⟩;exact⟨avD _,λ_=>rfl⟩
  refine⟨cs++[(fB l n i s).1],?_,⟨by simp[u],by simp[w],by simp[A]⟩,⟨?_,λh _=>?_⟩,?_,?_⟩;simp only[y,avU,awE,axD];rfl;simp only[List.sum_append,List.sum_cons,List.sum_nil];omega;have:=E.2 h;simp only;omega;refine xV (P:=λi x=>yU x/\(i+1=n->bW x=true)) B ?_;rw[u];exact X6 l n i _;refine xV (P:=λi (r:List RF)=>Z' r=n/\∀j (J:j<Z' r),yU r[j]/\(j=i->bW r[j]=false)/\(j=i+1->bW r[j]=true)) h7 ?_;rw[w];exact Mb l i _ n
theorem X4{x:cU}{e r:RF}(i:x.exit=[e])(l:x.atM=[[r]])(u:bW e=true):tT x=true:=by
 unfold tT;rw[i];show((eD x 2).all id)=true;simp only[eD,eA,nY,dA,i,l,awK,axC,List.getD_cons_zero,awE,axD,u];cases bW r<;>rfl
theorem VY{x:cU}{y A e i l u:RF}(B:x.exit=[y,A])(E:x.atM=[[e,i],[l,u]])(F:bW A=true)(J:bW i=true)(a b:Bool) :
  ∃c,eA x [a,b] 2=[c,true]/\(b=true->c=true)/\(a=true->c=true):=by
 have K:nY x [a,b] 0=[((a||bW y)||bW e&&(a||bW y))||b,b]:=by unfold nY;rw[B,E];simp only[List.getD_cons_zero,awE,azB];generalize(a||bW y)=c;show dA [c,b] 0 [e,i] 2=_;have:dA [c,b] 0 [e,i] 1=[c||bW e&&c,b]:=rfl;show(let w:=dA [c,b] 0 [e,i] 1;w.set 0 (w.getD 0 false||([e,i].map bW).getD 1 false&&w.getD 1 false))=_;rw[this];show[(c||bW e&&c)||(bW i&&b),b]=_;rw[J,avR]
 have M:∀c,nY x [c,b] 1=[c,true]:=by intro c;unfold nY;rw[B,E];have:dA [c,true] 1 [l,u] 1=[c,true||bW l&&c]:=rfl;show dA [c,b||bW A] 1 [l,u] 2=_;rw[F,Bool.or_true];show(let w:=dA [c,true] 1 [l,u] 1;w.set 1 (w.getD 1 false||([l,u].map bW).getD 1 false&&w.getD 1 false))=_;rw[this,Bool.true_or];show[c,true||bW u&&true]=_;rw[Bool.true_or]
 refine⟨_,by rw[show eA x [a,b] 2=nY x (nY x [a,b] 0) 1 from rfl,K,M],?_,?_⟩;rintro rfl;rw[Bool.or_true];rintro rfl;simp
theorem X5{x:cU}{u J B l E F:RF}(i:x.exit=[u,J])(w:x.atM=[[B,l],[E,F]])(y:bW J=true)(A:bW l=true):tT x=true:=by
 unfold tT;rw[i];show((eD x 3).all id)=true;have e:∀r,eD x (r+1)=eA x (eD x r) 2:=λr=>by rw[eD,i];rfl
 have u:eD x 0=[false,false]:=by rw[eD,i];rfl
 obtain⟨K,k1,-,-⟩:=VY i w y A false false;obtain⟨M,k2,S,-⟩:=VY i w y A K true;obtain⟨R,N,O,-⟩:=VY i w y A M true;rw[e,e,e,u,k1,k2,N,O rfl];rfl
theorem Ff{c:Nat}:∀{cs:N_},c∈cs->c<=cs.sum
 |k::t,h=>by
  rw[List.sum_cons];rcases avL.1 h with rfl|h
  omega;have:=Ff h;omega
theorem YT{α:Type}{l:List α}(h:Z' l=2):∃a b,l=[a,b]:=by
 match l,h with
 |[a,b],_=>exact⟨a,b,rfl⟩
theorem alI(cs:N_)(h:cs.sum=8):(match rT ((cs.map λc=>mkT ((c:Nat):Int) ((8:Nat):Int)).map RF.v)with
  | .ok (n,a,b)=>decide (uQ n a b false 1 1=0)
  | .error _=>false)=true:=by
 have l:∀c∈cs,c<=8:=λc i=>by have:=Ff i;omega
 have e:((cs.map λc=>mkT ((c:Nat):Int) ((8:Nat):Int)).map RF.v)=cs.map eV:=by rw[ayD];refine ayB λc i=>?_;have:=l c i;exact(SmF.mk' (a:=c) (b:=8) Om aU aU).v
 rw[e];exact ahV cs h
theorem FI{α:Type}{p:α->Bool}{l:List α}(h:∀i (hi:i<Z' l),p l[i]=true):l.all p=true:=by
 rw[awA];intro x e;obtain⟨i,hi,rfl⟩:=awR e;exact h i hi
theorem Ov(l:N_)(a:Nat)(N:List UInt8):nE { (wI l 2 a).1 with name:=N }=true/\({ (wI l 2 a).1 with name:=N }:cU).Ok:=by
 obtain⟨n,hn⟩:∃n,n=1+(aG l 2 a).1:=⟨_,rfl⟩;have Z:n=1\/n=2:=by have:=cK l (show 0<2 by decide) a;omega
 obtain⟨cs,S,⟨h2,h3,h4⟩,⟨h5,V⟩,O,h7⟩:=yg l n (aG l 2 a).2 n (avD _);generalize hs:iT l n (aG l 2 a).2 n=s at *
 have e:({ (wI l 2 a).1 with name:=N }:cU)=⟨N,s.start,s.atM,s.exit⟩:=by simp only[wI,<-hn,hs]
 rw[e];have M:cs.sum=8:=by have:=V rfl Om;omega
 have Y:∀c∈cs,c<=8:=λc W=>by have:=Ff W;omega
 have w:∀x∈s.start,yU x:=by intro x u;rw[S]at u;obtain⟨c,W,rfl⟩:=avV.1 u;have:=Y c W;exact(SmF.mk' (a:=c) (b:=8) Om aU aU).o
 have γ:Z' s.start=n:=by rw[S,auW,h4]
 have A:tT ⟨N,s.start,s.atM,s.exit⟩=true:=by
  rcases Z with rfl|rfl
  obtain⟨e,he⟩:=List.length_eq_one_iff.1 h2;obtain⟨θ,y⟩:=List.length_eq_one_iff.1 h3;have α:=(h7 0 Om).1;obtain⟨r,K⟩:=List.length_eq_one_iff.1 α;have u:=(O 0 Om).2 rfl;simp only[y,List.getElem_cons_zero]at K;simp only[he,List.getElem_cons_zero]at u;exact X4 he (by rw[y,K]) u;obtain⟨e0,e1,he⟩:=YT h2;obtain⟨r0,r1,y⟩:=YT h3;have F:=(h7 0 Om).1;have J:=(h7 1 Om).1;have u:=(O 1 Om).2 rfl;have hy:=((h7 0 Om).2 1 Om).2.2 rfl;simp only[he,List.getElem_cons_succ,List.getElem_cons_zero]at u;simp only[y,List.getElem_cons_succ,List.getElem_cons_zero]at F J hy;obtain⟨δ,ε,B⟩:=YT F;obtain⟨ζ,η,U⟩:=YT J;simp only[B,List.getElem_cons_succ,List.getElem_cons_zero]at hy;exact X5 he (by rw[y,B,U]) u hy
 constructor;unfold nE;simp only[avE];refine⟨⟨⟨⟨⟨⟨⟨?_,?_⟩,?_⟩,?_⟩,?_⟩,?_⟩,?_⟩,A⟩;rw[within_iff];omega;exact bG Om;exact bG Om;exact awA.2 λx u=>(w x u).lim;exact FI λi hi=>(O i hi).1.lim;rw[awA];intro i hi;rw[awG]at hi;obtain⟨k1,k2⟩:=h7 i hi;have eg:s.atM.getD i []=s.atM[i]:=by simp[avI,hi]
 rw[eg,avE,avE];refine⟨⟨bG Om,FI λj X=>(k2 j X).1.lim⟩,?_⟩;have E:i<s.atM[i].length:=Om;rw[getD_at E,(k2 i E).2.1 rfl];rfl;rw[S];exact alI cs M;have R:∀m:Nat,m<=2->m<=9223372036854775807:=λm hm=>by omega
 have β:n<=2:=Om;refine⟨⟨?_,λx u=>(w x u).ok⟩,⟨?_,λx u=>?_⟩,?_,λr y=>⟨?_,λx u=>?_⟩⟩;exact R s.start.length Om;exact R s.exit.length Om;obtain⟨i,hi,rfl⟩:=awR u;exact(O i hi).1.ok;exact R s.atM.length Om;obtain⟨i,hi,rfl⟩:=awR y;have:=(h7 i hi).1;exact R (s.atM[i]'hi).length Om;obtain⟨i,hi,rfl⟩:=awR y;obtain⟨j,X,rfl⟩:=awR u;exact((h7 i hi).2 j X).1.ok
theorem bo(l:N_)(a:Nat):∀n,(jP l a n).1.length=n/\∀i (hi:i<(jP l a n).1.length),(jP l a n).1[i].name=[108,97,119]++cP i/\nE (jP l a n).1[i]=true/\(jP l a n).1[i].Ok
 |0=>⟨rfl,λi hi=>absurd hi (by simp[jP])⟩
 |n+1=>by obtain⟨u,w⟩:=bo l a n;have e:(jP l a (n+1)).1=(jP l a n).1++[{ (wI l 2 (jP l a n).2).1 with name:=[108,97,119]++cP n }]:=rfl;rw[e];refine⟨by simp[u],xV (P:=λi (x:cU)=>x.name=[108,97,119]++cP i/\nE x=true/\x.Ok) w ?_⟩;rw[u];exact⟨rfl,Ov l _ _⟩
theorem TE(l:N_)(atQ:Nat)(y:0<atQ)(a:Nat):∀n,(fV l atQ a n).1.length=n/\∀i (hi:i<(fV l atQ a n).1.length),(fV l atQ a n).1[i].name=[109]++cP i/\∃e p w:Nat,(fV l atQ a n).1[i].auA=e/\1<=e/\e<=4/\(fV l atQ a n).1[i].port=p/\1<=p/\p<=8/\(fV l atQ a n).1[i].law=w/\w<atQ
 |0=>⟨rfl,λi hi=>absurd hi (by simp[fV])⟩
 |n+1=>by
  obtain⟨u,A⟩:=TE l atQ y a n;obtain⟨s,B⟩:∃s,s=fV l atQ a n:=⟨_,rfl⟩;have e:(fV l atQ a (n+1)).1=(fV l atQ a n).1++[⟨[109]++cP n,(1+(aG l 4 s.2).1:Nat),(1+(aG l 8 (aG l 4 s.2).2).1:Nat),((aG l atQ (aG l 8 (aG l 4 s.2).2).2).1:Nat)⟩]:=by rw[B];rfl
  rw[e];refine⟨by simp[u],xV (P:=λi (x:dR)=>x.name=[109]++cP i/\∃e p w:Nat,x.auA=e/\1<=e/\e<=4/\x.port=p/\1<=p/\p<=8/\x.law=w/\w<atQ) A ?_⟩;rw[u];have k1:=cK l (show 0<4 by decide) s.2;have k2:=cK l (show 0<8 by decide) (aG l 4 s.2).2;have E:=cK l y (aG l 8 (aG l 4 s.2).2).2;exact⟨rfl,_,_,_,rfl,by omega,by omega,rfl,by omega,by omega,rfl,E⟩
theorem EW(l:N_)(a:Nat):∃n:Nat,(jQ l a).1=n/\n<=3:=by
 have h:=cK l (show 0<3 by decide) (aG l 3 a).2;unfold jQ;simp only;split;exact⟨1+(aG l 3 (aG l 3 a).2).1,rfl,by omega⟩;exact⟨0,rfl,by omega⟩
theorem fY{n lo hi:Int}(e:lo<=n)(i:n<=hi):within n lo hi=true:=within_iff.2 ⟨e,i⟩
theorem akQ{B:List UInt8}{k m q s1 s2 s3 s4 g h:Nat}{ms:I_}{y:List RF}{mc:Nat}(F:1<=k)(J:k<=2)(X:m<=2)(M:k<=q)(N:q<=k+m)(O:s1<=3)(E:s2<=3)(R:s3<=3)(S:s4<=3)(V:g<=8)(W:h<=4)
  (w:Z' y=max m 1) (u:∀x∈y,yU x/\bW x=true)
  (K:mc<=2) (i:∃f:Nat,f<mc/\(ms=[(f:Int)]\/mc=2/\ms=[(f:Int),1-(f:Int)])) :
  lT mc ⟨B,(k:Nat),(m:Nat),(q:Nat),0,(s1:Nat),(s2:Nat),(s3:Nat),(s4:Nat),ms,y,mkT (g:Nat) ((8:Nat):Int),mkT (h:Nat) ((1:Nat):Int)⟩=true /\
  (⟨B,(k:Nat),(m:Nat),(q:Nat),0,(s1:Nat),(s2:Nat),(s3:Nat),(s4:Nat),ms,y,mkT (g:Nat) ((8:Nat):Int),mkT (h:Nat) ((1:Nat):Int)⟩:cO).Ok:=by
 have G:=SmF.mk' (a:=g) (b:=8) Om aU aU;have Z:=SmF.mk' (a:=h) (b:=1) Om aU aU;obtain⟨f,U,i⟩:=i;constructor;unfold lT QG IW;simp only[avE,ayX,List.all_nil,axP];refine⟨⟨⟨⟨⟨⟨⟨⟨fY Om Om,fY Om Om⟩,bG Om⟩,fY Om Om⟩,rfl⟩,fY Om Om,fY Om Om,fY Om Om,fY Om Om,fY Om Om⟩,?_⟩,⟨⟨⟨⟨bG (by rw[w];omega),?_⟩,G.lim⟩,G.one Om⟩,Z.lim⟩⟩,?_⟩;rcases i with e|⟨-,e⟩<;>rw[e]<;>rfl
 rw[awA];intro x l;rw[(u x l).1.lim,(u x l).2];rfl;rw[awA];rcases i with rfl|⟨rfl,rfl⟩
 intro j A;simp only[awK,axC,awG]at A;have:j=0:=Om;subst this;rw[avE];exact⟨fY aZ (by simp;omega),by simp⟩;intro j A;simp only[awK,axC,awG]at A;have:j=0\/j=1:=Om;rcases this with rfl|rfl
 rw[avE];exact⟨fY aZ (by simp;omega),by simp⟩;rw[avE];refine⟨fY (by simp;omega) (by simp;omega),?_⟩;have:¬(1-(f:Int)=f):=Om;simp[this];refine⟨by unfold eI;constructor<;>simp only<;>omega,by unfold eI;constructor<;>simp only<;>omega,by unfold eI;constructor<;>simp only<;>omega,?_,?_,⟨?_,λx l=>(u x l).1.ok⟩,G.ok,Z.ok⟩;show ms.length<=_;rcases i with e|⟨-,e⟩<;>rw[e]<;>simp
 show ∀x∈ms,eI x;unfold eI;rcases i with e|⟨E,e⟩<;>rw[e]<;>intro x l<;>simp only[avL,avY,or_false]at l
 subst l;omega;rcases l with rfl|rfl<;>omega
 show y.length<=_;rw[w];omega
theorem Ba(l:N_){mc:Nat}(A:0<mc)(B:mc<=2)(i a:Nat):(pV l mc i a).1.name=[112]++cP i/\lT mc (pV l mc i a).1=true/\(pV l mc i a).1.Ok:=by
 refine⟨rfl,?_⟩;have M:=cK l (show 0<2 by decide) a;have N:=cK l (show 0<3 by decide) (aG l 2 a).2;have K:=cK l (show 0<4 by decide) (aG l 3 (aG l 2 a).2).2;unfold pV;simp only;generalize aG l 2 a=k at *
 generalize aG l 3 k.2=m at *
 generalize aG l 4 m.2=h at *
 have hq:=cK l (Om:0<m.1+1) h.2;generalize aG l (m.1+1) h.2=q at *
 obtain⟨r1,r2⟩:=Ma l q.2 (max m.1 1);generalize nJ l q.2 (max m.1 1)=r at *
 have J:=cK l (show 0<9 by decide) r.2;generalize aG l 9 r.2=g at *
 obtain⟨O,w,b1⟩:=EW l g.2;generalize jQ l g.2=s1 at *
 obtain⟨R,e2,b2⟩:=EW l s1.2;generalize jQ l s1.2=s2 at *
 obtain⟨S,x,e⟩:=EW l s2.2;generalize jQ l s2.2=s3 at *
 obtain⟨U,y,u⟩:=EW l s3.2;generalize jQ l s3.2=s4 at *
 have E:=cK l A s4.2;generalize aG l mc s4.2=f at *
 generalize aG l 2 f.2=b at *
 rw[w,e2,x,y];refine akQ Om Om Om Om Om b1 b2 e u Om Om r1 r2 B ⟨f.1,E,?_⟩;split;rename_i F;split;exact .inr ⟨by omega,rfl⟩;exact .inl rfl;exact .inl rfl
theorem IV(l:N_){mc:Nat}(u:0<mc)(w:mc<=2)(a:Nat):∀n,(fG l mc a n).1.length=n/\∀i (hi:i<(fG l mc a n).1.length),(fG l mc a n).1[i].name=[112]++cP i/\lT mc (fG l mc a n).1[i]=true/\(fG l mc a n).1[i].Ok
 |0=>⟨rfl,λi hi=>absurd hi (by simp[fG])⟩
 |n+1=>by obtain⟨k1,k2⟩:=IV l u w a n;have e:(fG l mc a (n+1)).1=(fG l mc a n).1++[(pV l mc n (fG l mc a n).2).1]:=rfl;rw[e];refine⟨by simp[k1],xV (P:=λi (x:cO)=>x.name=[112]++cP i/\lT mc x=true/\x.Ok) k2 ?_⟩;rw[k1];exact Ba l u w n _
theorem NC(l:N_){pc:Nat}(u:0<pc)(a:Nat):∀n,(fX l pc a n).1.length=n/\∀i (hi:i<(fX l pc a n).1.length),(fX l pc a n).1[i].name=[118]++cP i/\∃p:Nat,(fX l pc a n).1[i].atW=p/\p<pc
 |0=>⟨rfl,λi hi=>absurd hi (by simp[fX])⟩
 |n+1=>by obtain⟨k1,k2⟩:=NC l u a n;have e:(fX l pc a (n+1)).1=(fX l pc a n).1++[⟨[118]++cP n,((aG l pc (fX l pc a n).2).1:Nat)⟩]:=rfl;rw[e];refine⟨by simp[k1],xV (P:=λi (x:gN)=>x.name=[118]++cP i/\∃p:Nat,x.atW=p/\p<pc) k2 ?_⟩;rw[k1];exact⟨rfl,_,rfl,cK l u _⟩
abbrev lvs(ds:List cR):I_:=ds.map cR.level
def aqE(ds:List cR)(i:Nat)(d:cR):Prop:=∃e p u:Nat,d.name=[oW e]++cP (i+1)/\d.level=e/\1<=e/\e<=4/\d.parent=p/\p<=i/\(lvs ds)[p]?=some ((e:Int)-1)/\d.auE=u/\1<=u/\u<=16/\yU d.atZ
def ajC(ds:List cR)(mc i:Nat)(d:eP):Prop:=∃m c:Nat,d.name=[100]++cP i/\d.model=m/\m<mc/\d.machine=c/\(lvs ds)[c]?=some 4
structure GV(mc atH:Nat)(s:GS):Prop where
 len:Z' s.atT<=35
 auD:Z' s.auD<=atH
 root:s.atT[0]?=some pM
 dom:∀i (hi:i+1<Z' s.atT),aqE s.atT i s.atT[i+1]
 drv:∀i (hi:i<Z' s.auD),ajC s.atT mc i s.auD[i]
theorem GV.a{mc atH:Nat}{s:GS}(h:GV mc atH s)(x:Nat):GV mc atH { s with a:=x }:=⟨h.len,h.auD,h.root,h.dom,h.drv⟩
theorem Es(l:N_){mc atH dom:Nat}(u:0<mc){s:GS}(h:GV mc atH s)(x:(lvs s.atT)[dom]?=some 4):∀n,GV mc atH (mK l mc atH dom s n)/\(mK l mc atH dom s n).atT=s.atT
 |0=>⟨h,rfl⟩
 |n+1=>by
  obtain⟨e,w⟩:=Es l u h x n;simp only[mK];generalize mK l mc atH dom s n=t at *
  split;rename_i hlt;refine⟨⟨e.len,by simp only[auZ,avG];omega,e.root,e.dom,?_⟩,w⟩;refine xV (P:=λi d=>ajC t.atT mc i d) e.drv ?_;exact⟨_,dom,rfl,rfl,cK l u _,rfl,by rw[w];exact x⟩;exact⟨e,w⟩
theorem FW{ds:List cR}{p:Nat}{x:Int}{t:List cR}(h:(lvs ds)[p]?=some x):(lvs (ds++t))[p]?=some x:=by
 unfold lvs at *
 rw[avU,axU];exact h;exact(awD.1 h).1
theorem aeH(l:N_){mc atH dom level:Nat}{s:GS}(h:GV mc atH s)(A:1<=level)(N:level<=4)(F:(lvs s.atT)[dom]?=some ((level:Int)-1))(J:vK atH s=false) :
  GV mc atH (rH l level dom s)/\(∃t,(rH l level dom s).atT=s.atT++t)/\(rH l level dom s).atT.length=Z' s.atT+1/\(lvs (rH l level dom s).atT)[Z' s.atT]?=some (level:Int):=by
 unfold vK at J;simp only[Bool.or_eq_false_iff,decide_eq_false_iff_not]at J;have M:dom<Z' s.atT:=by
  have:=(awD.1 F).1
  rwa[auW]at this
 have R:=cK l (show 0<16 by decide) s.a;have O:=cK l (show 0<6 by decide) (aG l 3 (aG l 16 s.a).2).2;unfold rH;simp only;generalize aG l 16 s.a=u at *
 generalize aG l 3 u.2=t at *
 generalize aG l 6 t.2=k at *
 have B:yU (if t.1=0 then(mkT 1 ((2+k.1:Nat):Int),k.2)else(mL,t.2)).1:=by split;exact(SmF.mk' (a:=1) (b:=2+k.1) Om Om Om).o;exact vC.o
 generalize(if t.1=0 then(mkT 1 ((2+k.1:Nat):Int),k.2)else(mL,t.2))=sh at *
 refine⟨⟨by simp only[auZ,avG];omega,h.auD,?_,?_,λi hi=>?_⟩,⟨_,rfl⟩,by simp,?_⟩;rw[axU Om];exact h.root;intro i hi;simp only[auZ,avG]at hi;by_cases hlt:i+1<Z' s.atT;rw[azM hlt];obtain⟨E,p,v,e,w,x,y,h5,K,h7,h8⟩:=h.dom i hlt;exact⟨E,p,v,e,w,x,y,h5,K,FW h7,h8⟩;have:i+1=Z' s.atT:=Om;rw[azK Om];simp only[List.getElem_singleton];exact⟨level,dom,1+u.1,by rw[this],rfl,A,N,rfl,by omega,FW F,rfl,by omega,by omega,B⟩;obtain⟨m,c,e,w,x,y,h5⟩:=h.drv i hi;exact⟨m,c,e,w,x,y,FW h5⟩;unfold lvs;rw[avU,axR (by rw[auW];exact avD _),auW,axT];rfl
theorem Et(l:N_){mc atH dom level:Nat}(i:1<=level)(E:level<=4){rec:Nat->GS->GS}
  (e:∀d t,GV mc atH t->(lvs t.atT)[d]?=some (level:Int)->GV mc atH (rec d t)/\∃u,(rec d t).atT=t.atT++u) {s:GS} (h:GV mc atH s) (B:(lvs s.atT)[dom]?=some ((level:Int)-1)) :
  ∀n,GV mc atH (jG l level atH dom rec s n)/\∃u,(jG l level atH dom rec s n).atT=s.atT++u
 |0=>⟨h,[],by simp[jG]⟩
 |n+1=>by
  obtain⟨A,u,x⟩:=Et l i E e h B n;simp only[jG];generalize jG l level atH dom rec s n=t at *
  split;exact⟨A,u,x⟩;rename_i F;have y:(lvs t.atT)[dom]?=some ((level:Int)-1):=by rw[x];exact FW B
  obtain⟨k1,⟨v,k2⟩,J,K⟩:=aeH l A i E y (by simpa using F);obtain⟨M,w,N⟩:=e ((rH l level dom t).atT.length-1) (rH l level dom t) k1 (by rw[J,Nat.add_sub_cancel];exact K);exact⟨M,u++(v++w),by rw[N,k2,x];simp⟩
theorem Eu(l:N_){mc atH:Nat}(e:0<mc):∀(k:Nat),k<=4->∀(dom:Nat){s:GS},GV mc atH s->(lvs s.atT)[dom]?=some (4-(k:Int))->GV mc atH (gM l mc atH k dom s)/\∃u,(gM l mc atH k dom s).atT=s.atT++u
 |0,_,dom,s,h,i=>by simp only[gM];obtain⟨x,y⟩:=Es l e (h.a (aG l 2 s.a).2) i (1+(aG l 2 s.a).1);exact⟨x,[],by rw[y];simp⟩
 |k+1,B,dom,s,h,i=>by simp only[gM];refine Et l Om Om (λd t A w=>Eu l e k Om d A ?_) (h.a (aG l 2 s.a).2) ?_ _;rw[w];congr 1;omega;rw[i];congr 1;omega
theorem yi(e:Nat)(i:1<=e)(l:e<=4):gP (oW e).toNat=true/\oW e≠100:=by
 have:e=1\/e=2\/e=3\/e=4:=Om;rcases this with rfl|rfl|rfl|rfl<;>decide
theorem ti(c:UInt8){k:Nat}(e:k<100):ZQ (([c]++cP k).drop 1)=k:=by
 show ZQ (cP k)=k;rw[UX e];exact(D4 ⟨k,e⟩).1
theorem Jm{mc atH:Nat}{s:GS}(h:GV mc atH s)(O:atH<=60):distinct ((s.atT.drop 1).map cR.name++s.auD.map eP.name)=true:=by
 have F:∀i (hi:i<((s.atT.drop 1).map cR.name).length),∃l:Nat,1<=l/\l<=4/\((s.atT.drop 1).map cR.name)[i]=[oW l]++cP (i+1):=by intro i hi;rw[auW,awZ]at hi;obtain⟨l,p,u,w,-,K,E,-⟩:=h.dom i Om;refine⟨l,K,E,?_⟩;rw[awW,List.getElem_drop];simp only[Nat.add_comm 1 i];exact w
 have hB:∀i (hi:i<(s.auD.map eP.name).length),(s.auD.map eP.name)[i]=[100]++cP i:=by intro i hi;rw[auW]at hi;obtain⟨m,c,w,-⟩:=h.drv i hi;rw[awW];exact w
 have R:((s.atT.drop 1).map cR.name).length<=40:=by rw[auW,awZ];have:=h.len;omega
 have S:(s.auD.map eP.name).length<=60:=by rw[auW];have:=h.auD;omega
 generalize(s.atT.drop 1).map cR.name=A at *
 generalize s.auD.map eP.name=B at *
 refine ao ?_ ?_;intro x hx;rcases awH.1 hx with hx|hx
 obtain⟨i,hi,rfl⟩:=awR hx;obtain⟨l,w,E,e⟩:=F i hi;rw[e];exact wb rfl (yi l w E).1 rfl aZ Om;obtain⟨i,hi,rfl⟩:=awR hx;rw[hB i hi];exact wb rfl aU rfl aZ Om;rw[ayC];refine⟨?_,?_,?_⟩;refine VP (g:=λs=>ZQ (s.drop 1)-1) λi hi=>?_;obtain⟨l,-,-,e⟩:=F i hi;rw[e,ti _ Om];omega;refine VP (g:=λs=>ZQ (s.drop 1)) λi hi=>?_;rw[hB i hi];exact ti _ Om;intro x hx y N e;obtain⟨i,hi,rfl⟩:=awR hx;obtain⟨j,M,rfl⟩:=awR N;obtain⟨l,w,E,J⟩:=F i hi;rw[J,hB j M]at e;exact(yi l w E).2 (List.cons.inj e).1
theorem aaI{mc atH a:Nat}:GV mc atH ⟨[pM],[],a⟩:=
 ⟨by simp,auY _,rfl,λi hi=>absurd hi aZ,λi hi=>absurd hi aZ⟩
theorem afF{mc atH:Nat}{s:GS}(h:GV mc atH s)(f:aD)(B:f.atK=s.atT):sD f=true:=by
 have y:=h.root;have x:=h.dom;unfold sD;rw[B];cases l:s.atT with
 |nil=>rw[l]at y;cases y
 |cons r t=>
  rw[l]at y;have:r=pM:=by simpa using y
  subst this;show IJ f pM t=true;unfold IJ;simp only[avE];refine⟨⟨⟨⟨⟨⟨rfl,rfl⟩,rfl⟩,rfl⟩,vC.lim⟩,by rw[show pM.atZ=mL from rfl,vC.zero];rfl⟩,?_⟩;rw[awA];intro i hi;rw[awG]at hi;rw[avF hi];obtain⟨J,p,u,E,A,K,M,h5,N,h7,h8,O,F,w⟩:=x i (by rw[l];simp;omega);have e:s.atT[i+1]'(by rw[l];simp;omega)=t[i]:=by simp[l]
  rw[e]at E A h5 h8 w;show NY f i t[i]=true;unfold NY;simp only[avE];refine⟨⟨⟨⟨?_,?_⟩,?_⟩,?_⟩,w.lim⟩;rw[h5];exact fY Om Om;rw[h5,A,B,axA,avI,h7,ui Om Om];exact bG rfl;rw[A];exact fY Om Om;rw[h8];exact fY Om Om
theorem UP(l:N_)(atH atJ a:Nat)(hd:atH<=24)(hv:atJ<=12) :
  cM (jJ l atH atJ a).1=true/\(jJ l atH atJ a).1.Ok:=by
 unfold jJ;simp only;have he:=cK l (show 0<2 by decide) a;generalize aG l 2 a=e at *
 have γ:=cK l (show 0<2 by decide) e.2;generalize aG l 2 e.2=J at *
 obtain⟨w1,X⟩:=bo l J.2 (1+J.1);generalize jP l J.2 (1+J.1)=atQ at *
 have δ:=cK l (show 0<2 by decide) atQ.2;generalize aG l 2 atQ.2=E at *
 obtain⟨m1,m2⟩:=TE l (1+J.1) Om E.2 (1+E.1);generalize fV l (1+J.1) E.2 (1+E.1)=atI at *
 obtain⟨G,-⟩:=Eu l (mc:=1+E.1) (atH:=atH) Om 4 aU 0 (s:=⟨[pM],[],atI.2⟩) aaI rfl;generalize gM l (1+E.1) atH 4 0 ⟨[pM],[],atI.2⟩=g at *
 have ε:=cK l (show 0<2 by decide) g.a;generalize aG l 2 g.a=pl at *
 obtain⟨p1,V⟩:=IV l (mc:=1+E.1) Om Om pl.2 (1+pl.1);generalize fG l (1+E.1) pl.2 (1+pl.1)=pols at *
 have ζ:=cK l (Om:0<atJ+1) pols.2;generalize aG l (atJ+1) pols.2=M at *
 obtain⟨v1,W⟩:=NC l (pc:=1+pl.1) Om M.2 M.1;generalize fX l (1+pl.1) M.2 M.1=vols at *
 have g1:=G.len;have g2:=G.auD;have U:∀f:aD,f.atK=g.atT->sD f=true:=λf hf=>afF G f hf;have w:∀n:Nat,n<=1000->n<=9223372036854775807:=λn h=>by omega
 have F:∀x∈g.auD,∃m c:Nat,x.model=m/\m<1+E.1/\x.machine=c/\c<Z' g.atT/\(lvs g.atT)[c]?=some 4:=by
  intro x A;obtain⟨i,hi,rfl⟩:=awR A;obtain⟨m,c,-,S,Y,Z,h5⟩:=G.drv i hi;refine⟨m,c,S,Y,Z,?_,h5⟩;have:=(awD.1 h5).1
  rwa[auW]at this
 constructor;unfold cM;rw[U _ rfl];simp only[avE,axP];refine⟨⟨?_,⟨⟨⟨⟨?_,?_⟩,?_⟩,?_⟩,?_⟩⟩,⟨⟨⟨?_,?_⟩,Jm G Om⟩,?_⟩,?_⟩;unfold rR;simp only[avE];exact⟨⟨⟨⟨⟨⟨fY Om Om,bG Om⟩,bG Om⟩,bG Om⟩,bG Om⟩,bG Om⟩,bG Om⟩;exact FI λi hi=>(X i hi).2.1;refine FI λi hi=>?_;obtain⟨-,x,y,z,B,e2,K,N,O,e6,e7,e8⟩:=m2 i hi;unfold nF;simp only[avE];rw[B,N,e7,w1];exact⟨⟨fY Om Om,fY Om Om⟩,fY Om Om⟩;rw[awA];intro x A;obtain⟨m,c,B,e2,K,N,O⟩:=F x A;unfold kN;simp only[avE];rw[B,K,m1,axA,avI,O];exact⟨⟨fY Om Om,fY Om Om⟩,rfl⟩;refine FI λi hi=>?_;rw[m1];exact(V i hi).2.1;refine FI λi hi=>?_;obtain⟨-,p,B,e2⟩:=W i hi;unfold sR;rw[B,p1];exact fY Om Om;refine zE (p:=[108,97,119]) rfl aU aU aU (by rw[auW];omega) λi hi=>?_;rw[awW];exact(X i (by simpa using hi)).1;refine zE (p:=[109]) rfl aU aU aU (by rw[auW];omega) λi hi=>?_;rw[awW];exact(m2 i (by simpa using hi)).1;refine zE (p:=[112]) rfl aU aU aU (by rw[auW];omega) λi hi=>?_;rw[awW];exact(V i (by simpa using hi)).1;refine zE (p:=[118]) rfl aU aU aU (by rw[auW];omega) λi hi=>?_;rw[awW];exact(W i (by simpa using hi)).1;refine⟨w atQ.1.length Om,w atI.1.length Om,w g.atT.length Om,w g.auD.length Om,w pols.1.length Om,w vols.1.length Om,?_,?_,?_,?_,?_⟩;intro x A;obtain⟨i,hi,rfl⟩:=awR A;exact(X i hi).2.2;intro x A;obtain⟨i,hi,rfl⟩:=awR A;rcases axJ i with rfl|hp
 have:g.atT[0]=pM:=by have:=G.root;rw[avF hi]at this;exact awV.inj this
 rw[this];exact⟨vC.ok,by unfold eI;decide,by unfold eI;decide⟩;obtain⟨k,rfl⟩:∃k,i=k+1:=⟨i-1,by omega⟩;obtain⟨η,p,u,h1,S,Y,Z,h5,h6,h7,h8,h9,α,R⟩:=G.dom k hi;have β:k+1<Z' g.atT:=hi;rw[S,h5];exact⟨R.ok,by unfold eI;omega,by unfold eI;omega⟩;intro x A;obtain⟨m,c,B,e2,K,N,O⟩:=F x A;rw[B,K];unfold eI;omega;intro x A;obtain⟨i,hi,rfl⟩:=awR A;exact(V i hi).2.2;intro x A;obtain⟨i,hi,rfl⟩:=awR A;obtain⟨-,p,B,e2⟩:=W i hi;rw[B];unfold eI;omega
theorem Hy(f:aD)(i:VF f)(v:Nat)(h:v<Z' f.atJ) :
  sf.wp C (aW Ck.res (cC (.j (fT f v)))) (g_ [.agg f.cells,.j v]) .nil:=by
 obtain⟨hp,he⟩:=mS i h;have e:=i.atW _ (avB hp);rw[he]at e;have l:i_.wrap ((cT f v).k+(cT f v).m)=(cT f v).k+(cT f v).m:=wrap_i64 Om Om;simp only[go_sem,sf,Ck];refine bK .nil cS a_ ?_;simp only[go_sem,sS h,i.HO h,oT hp,he];refine aS λo u=>?_;simp only[go_sem,l];refine⟨a_,?_⟩;exact qU (n:=(cT f v).k+(cT f v).m) Ev rfl
abbrev iiv(l:I_):P2_:=l.map λx=>[PV.int .i64 x]
def acU(l:N_)(v:PV)(o a:Nat)(f:aD)(r:PV)(H:PH):Prop:=Co r (ints (tZ l f a).1)/\H=h_.set o (bB v (tZ l f a).2)
theorem WD(l:N_){a:Nat}(h:a<=Z' l):∀k,(qI l a k).2<=Z' l/\(qI l a k).1.length=k
 |0=>⟨h,rfl⟩
 |k+1=>by obtain⟨e,i⟩:=WD l h k;exact⟨bU l 7 e,by simp only[qI,auZ,avG,i]⟩
def Gf(f:aD)(o:Nat)(w:PV)(i:Nat):PF:=((((n_.set 0 (.ptr o 2 0 0)).set 3 (.aX f.cells)).set 5 (w)).set 6 (.int .i64 i))
theorem Zl(N:yV C){l:N_}{v:PV}(T:Tp l v)(o a:Nat)(f:aD)(Z:Z' f.atH<=1000)(R:a<=Z' l):p8.wp C (aW Ca.res (acU l v o a f)) (g_ [.ptr o 2 0 0,.agg f.cells]) (h_.set o (bB v a)):=by
 have O:aQ (h_.set o (bB v a)) [(o,bB v a)] []:=aQ.nil.new (H:=h_) rfl (bB v a);simp only[go_sem,p8,Ca];refine dQ N T (o:=o) (n:=4) (a:=a) aU R (by simp only[go_sem];rfl) (O.at 0 rfl) ?_;have A:=O.set 0 rfl (bB v (aG l 4 a).2);rw[PH.set_set]at A;have K:=bU l 4 R;have y:tZ l f a=if(aG l 4 a).1=0 then([],(aG l 4 a).2)else qI l (aG l 4 a).2 f.atH.length:=rfl
 have J:∀r H,acU l v o a f r H↔Co r (ints (tZ l f a).1)/\H=h_.set o (bB v (tZ l f a).2):=λ_ _=>Iff.rfl;generalize aG l 4 a=t at *
 by_cases S:t.1=0;rw[aF S]at y;simp only[go_sem,bN (Om:(t.1:Int)=0)];refine bC (vs:=[.aJ]) (.inr rfl) (h_.set o (bB v t.2)) Sq (e_ a_ (A.at 0 rfl)) ?_;rw[bL,J,y];exact⟨.nil 1,rfl⟩;rw[aC S]at y;have V:=A.nT 1;simp only[go_sem,bA (Om:(t.1:Int)≠0)];refine wp_loop (α:=T3_) (λs=>Gf f o s.2.1 s.1) (λs=>s.2.2) (λs=>s.1<=Z' f.atH/\aQ s.2.2 [(o,bB v (qI l t.2 s.1).2)] [(s.2.1,1,iiv (qI l t.2 s.1).1)]) (λs=>Z' f.atH-s.1) (0,.aJ,_) ⟨auY _,V⟩ ?_ b_ ?_;unfold Gf;exact Lq;rintro⟨k,w,Y⟩ ⟨W,i⟩;simp only at W i ⊢;obtain⟨k1,k2⟩:=WD l K k;simp only[go_sem,Gf,auW];by_cases hlt:k<Z' f.atH;have e:(k:Int)<(Z' f.atH:Nat):=Om;have u:qI l t.2 (k+1)=((qI l t.2 k).1++[((aG l 7 (qI l t.2 k).2).1:Int)-1],(aG l 7 (qI l t.2 k).2).2):=rfl;have hz:=cK l (show 0<7 by decide) (qI l t.2 k).2;generalize hs:qI l t.2 k=s at *
 have M:i_.wrap (((aG l 7 s.2).1:Int)-1)=((aG l 7 s.2).1:Int)-1:=wrap_i64 Om Om;have E:(1:Nat)*1<=16777216:=by decide
 simp only[go_sem,e];refine dQ N T (o:=o) (n:=7) (a:=s.2) aU k1 (by simp only[go_sem];rfl) (i.at 0 rfl) ?_;have F:=i.set 0 rfl (bB v (aG l 7 s.2).2);simp only[go_sem,M,E];refine F.append 0 (src:=[[PV.int .i64 (((aG l 7 s.2).1:Int)-1)]]) rfl Sq (by unfold roomFor;rw[auW,k2];simp only[avG,maxLen];omega) λX H' U _=>?_;simp only[go_sem,wZz k];refine aE (k+1,X,H') ⟨hlt,?_⟩ sO_ ?_ b_;simp only;rw[u];have:iiv (s.1++[((aG l 7 s.2).1:Int)-1])=iiv s.1++[[PV.int .i64 (((aG l 7 s.2).1:Int)-1)]]:=by simp[iiv]
 rw[this];exact U;exact Lq;have e:¬(k:Int)<(Z' f.atH:Nat):=Om;have:k=Z' f.atH:=Om;subst this;rw[<-y]at i;simp only[go_sem,e];rcases i.own 0 rfl with⟨B,rfl⟩|⟨q,rs,rfl,_⟩
 refine bC (vs:=[.aJ]) (.inr rfl) (h_.set o (bB v (tZ l f a).2)) Sq (e_ a_ (i.at 0 rfl)) ?_;rw[bL,J];refine⟨?_,rfl⟩;unfold ints;rw[show(tZ l f a).1.map (λx=>[PV.int .i64 x])=[]from B];exact .nil 1;obtain⟨rs,g1,g2,g3,-,g4⟩:=i.frz 0 rfl;refine rO (vs:=[.osl q 1 0 (iiv (tZ l f a).1).length]) (.inr rfl) Sq (.step g1 (.done (H2:=h_.set o (bB v (tZ l f a).2)) ?_ (e_ a_ ?_)));rw[bL,g3,J];exact⟨.refl _,rfl⟩;have:=g4.at 0 rfl;rw[this];simp only[aV.frz,awE,axD,T.frz];rfl
abbrev qG(l:L2_):P2_:=l.map λr=>[ints r]
theorem afW(l:L2_):Flat (qG l):=sK λr i c e=>by
 obtain⟨x,_,rfl⟩:=avV.1 i;rw[awL]at e;subst e;rfl
theorem Yo(l:N_)(atH at_ i:Nat){a:Nat}(h:a<=Z' l):(tW l atH at_ i a).2<=Z' l:=by
 unfold tW;split;exact h;have:=bU l 6 h;simp only;split;exact bU l atH this;split;exact bU l (atH+1) this;exact this
theorem HG(l:N_)(atH at_:Nat){a:Nat}(h:a<=Z' l):∀k,(nN l atH at_ a k).2<=Z' l/\(nN l atH at_ a k).1.length=k
 |0=>⟨h,rfl⟩
 |k+1=>by obtain⟨e,i⟩:=HG l atH at_ h k;exact⟨Yo l atH at_ k e,by simp only[nN,auZ,avG,i]⟩
theorem ED(l:N_)(f:aD){a:Nat}(h:a<=Z' l):∀k,(eG l f a k).2<=Z' l/\(eG l f a k).1.length=k
 |0=>⟨h,rfl⟩
 |k+1=>by obtain⟨e,i⟩:=ED l f h k;exact⟨(HG l _ _ (bU l _ e) _).1,by simp only[eG,auZ,avG,i]⟩
def Zg(f:aD)(o:Nat)(w:PV)(i:Nat):PF:=((((n_.set 0 (.ptr o 2 0 0)).set 3 (.aX f.cells)).set 5 (w)).set 6 (.int .i64 i))
def lC(f:aD)(o:Nat)(w:PV)(i:Nat)(e:PV)(at_ k:Nat):PF:=(((((((n_.set 0 (.ptr o 2 0 0)).set 3 (.aX f.cells)).set 5 (w)).set 6 (.int .i64 i)).set 7 (e)).set 8 (.int .i64 at_)).set 9 (.int .i64 k))
def Zh:aI:=(.seq (.region PZ) (.seq (.seq (.region QA) (.cond (.tmp 34) (.seq (.region JY) (.seq (.region JZ) (.block 4 (.seq (.region KB) (.cond (.tmp 44) (.region KC) (.seq (.region BM) (.cond (.tmp 51) (.region KD) .skip))))))) .skip)) (.region BN)))
theorem agA:JX=.seq (.seq (.region PY) (.cond (.tmp 28) .skip (.exit 2))) (.seq (.block 3 Zh) (.region KE)):=rfl
theorem Zi(S:yV C){l:N_}{v:PV}(T:Tp l v)(o:Nat)(f:aD)(hd:Z' f.atH<=1000)(w N:PV)(i at_ k a:Nat)(α:at_<=2000)(hk:k<=2000)(Z:a<=Z' l)(L:List LI)(V:bZ)(F:PF)(H:PH)
  (B:(lC f o w i N at_ k).le F) (U:aQ H [(o,bB v a)] L)
  (R:∀u H',(lC f o w i N at_ k).le u->u 10=some (.j (tW l f.atH.length at_ k a).1)->aQ H' [(o,bB v (tW l f.atH.length at_ k a).2)] L->aI.wp C (.region BN) V u H') :
  aI.wp C Zh V F H:=by
 unfold Zh;have f0:F 0=some (.ptr o 2 0 0):=B 0 _ (by unfold lC;simp only[go_sem]);have y:F 3=some (.aX f.cells):=B 3 _ (by unfold lC;simp only[go_sem]);have O:F 5=some w:=B 5 _ (by unfold lC;simp only[go_sem]);have f6:F 6=some (.j i):=B 6 _ (by unfold lC;simp only[go_sem]);have f7:F 7=some N:=B 7 _ (by unfold lC;simp only[go_sem]);have E:F 8=some (.j at_):=B 8 _ (by unfold lC;simp only[go_sem]);have J:F 9=some (.j k):=B 9 _ (by unfold lC;simp only[go_sem]);have x:∀u:PF,u 0=some (.ptr o 2 0 0)->u 3=some (.aX f.cells)->u 5=some w->u 6=some (.j i)->u 7=some N->u 8=some (.j at_)->u 9=some (.j k)->(lC f o w i N at_ k).le u:=λu a0 a3 a5 a6 a7 a8 a9=>by unfold lC;exact lE7 a0 a3 a5 a6 a7 a8 a9
 have e:tW l f.atH.length at_ k a=if f.atH.length=0 then(-1,a)else if(aG l 6 a).1=0 then(((aG l f.atH.length (aG l 6 a).2).1:Int),(aG l f.atH.length (aG l 6 a).2).2)else if(aG l 6 a).1=1 then(((aG l (Z' f.atH+1) (aG l 6 a).2).1:Int)-1,(aG l (Z' f.atH+1) (aG l 6 a).2).2)else((((at_+k)%f.atH.length:Nat):Int),(aG l 6 a).2):=rfl
 simp only[go_sem,PZ,QA,y,auW];by_cases Y:Z' f.atH=0;rw[aF Y]at e;have A:¬(Z' f.atH:Int)>0:=Om;simp only[go_sem,A];refine R _ _ (x _ (by simp only[go_sem,f0]) (by simp only[go_sem,y]) (by simp only[go_sem,O]) (by simp only[go_sem,f6]) (by simp only[go_sem,f7]) (by simp only[go_sem,E]) (by simp only[go_sem,J])) ?_ ?_;rw[e];simp only[go_sem];rw[e];exact U;rw[aC Y]at e;have A:(Z' f.atH:Int)>0:=Om;have e1:i_.wrap ((at_:Int)+(k:Int))=((at_+k:Nat):Int):=wO_
 have na:=bU l 6 Z;have β:=cK l (show 0<6 by decide) a;have hz:¬(Z' f.atH:Int)=0:=Om;have em:Int.tmod ((at_+k:Nat):Int) (Z' f.atH:Nat)=(((at_+k)%f.atH.length:Nat):Int):=Int.ofNat_tmod _ _;have e2:i_.wrap ((Z' f.atH:Int)+1)=((Z' f.atH+1:Nat):Int):=eC Om;simp only[go_sem,A,JY,E,J,y,auW,e1,hz,em,JZ,f0];refine dQ S T (o:=o) (n:=6) (a:=a) aU Z (by simp only[go_sem,f0];rfl) (U.at 0 rfl) ?_;have K:=U.set 0 rfl (bB v (aG l 6 a).2);generalize aG l 6 a=t at *
 simp only[go_sem,KB];by_cases W:t.1=0;rw[aF W]at e;simp only[go_sem,bN (Om:(t.1:Int)=0),KC,f0,y,auW];refine dQ S T (o:=o) (n:=Z' f.atH) (a:=t.2) Om na (by simp only[go_sem,f0]) (K.at 0 rfl) ?_;have M:=K.set 0 rfl (bB v (aG l f.atH.length t.2).2);rw[PH.set_set]at M;simp only[go_sem];refine R _ _ (x _ (by simp only[go_sem,f0]) (by simp only[go_sem,y]) (by simp only[go_sem,O]) (by simp only[go_sem,f6]) (by simp only[go_sem,f7]) (by simp only[go_sem,E]) (by simp only[go_sem,J])) ?_ ?_;rw[e];simp only[go_sem];rw[e];exact M;rw[aC W]at e;by_cases X:t.1=1;rw[aF X]at e;have nd:=cK l (Om:0<Z' f.atH+1) t.2;have e3:i_.wrap (((aG l (Z' f.atH+1) t.2).1:Int)-1)=((aG l (Z' f.atH+1) t.2).1:Int)-1:=wrap_i64 Om Om;simp only[go_sem,bA (Om:(t.1:Int)≠0),BM,bN (Om:(t.1:Int)=1),KD,f0,y,auW,e2];refine dQ S T (o:=o) (n:=Z' f.atH+1) (a:=t.2) Om na (by simp only[go_sem,f0]) (K.at 0 rfl) ?_;have M:=K.set 0 rfl (bB v (aG l (Z' f.atH+1) t.2).2);rw[PH.set_set]at M;simp only[go_sem,e3];refine R _ _ (x _ (by simp only[go_sem,f0]) (by simp only[go_sem,y]) (by simp only[go_sem,O]) (by simp only[go_sem,f6]) (by simp only[go_sem,f7]) (by simp only[go_sem,E]) (by simp only[go_sem,J])) ?_ ?_;rw[e];simp only[go_sem];rw[e];exact M;rw[aC X]at e;simp only[go_sem,bA (Om:(t.1:Int)≠0),BM,bA (Om:(t.1:Int)≠1)];refine R _ _ (x _ (by simp only[go_sem,f0]) (by simp only[go_sem,y]) (by simp only[go_sem,O]) (by simp only[go_sem,f6]) (by simp only[go_sem,f7]) (by simp only[go_sem,E]) (by simp only[go_sem,J])) ?_ ?_;rw[e];simp only[go_sem];rw[e];exact K
theorem agB(O:yV C){l:N_}{v:PV}(T:Tp l v)(o:Nat)(f:aD)(hd:Z' f.atH<=1000)(i n:Nat)(hn:n<=1000)(M:aH C 82 [.agg f.cells,.j i] .nil (aL (.j n)))(w:PV)(R:P2_)(at_ a:Nat)(β:at_<=1000)(ha:a<=Z' l)(K:bZ)(F:PF)(H:PH)
  (Z:(lC f o w i .aJ at_ 0).le F) (B:aQ H [(o,bB v a)] [(w,1,R),(.aJ,1,iiv [])])
  (hK:∀A N H',(lC f o w i A at_ n).le N->aQ H' [(o,bB v (nN l f.atH.length at_ a n).2)] [(w,1,R),(A,1,iiv (nN l f.atH.length at_ a n).1)]->K (.exit 2) N H') :
  aI.wp C (.loop JX) K F H:=by
 refine wp_loop (α:=T3_) (λs=>lC f o w i s.2.1 at_ s.1) (λs=>s.2.2) (λs=>s.1<=n/\aQ s.2.2 [(o,bB v (nN l f.atH.length at_ a s.1).2)] [(w,1,R),(s.2.1,1,iiv (nN l f.atH.length at_ a s.1).1)]) (λs=>n-s.1) (0,.aJ,H) ⟨auY _,B⟩ Z b_ ?_;rintro⟨k,A,H0⟩ ⟨hk,B⟩;simp only at hk B ⊢;obtain⟨k1,k2⟩:=HG l f.atH.length at_ ha k;have y:nN l f.atH.length at_ a (k+1)=((nN l f.atH.length at_ a k).1++[(tW l f.atH.length at_ k (nN l f.atH.length at_ a k).2).1],(tW l f.atH.length at_ k (nN l f.atH.length at_ a k).2).2):=rfl;generalize hs:nN l f.atH.length at_ a k=s at *
 rw[agA];simp only[go_sem,PY,lC];refine aB M Sq ?_;by_cases hlt:k<n;have u:(k:Int)<(n:Nat):=Om;have J:(1:Nat)*1<=16777216:=by decide
 simp only[go_sem,u];refine Zi (C:=C) O T o f hd w A i at_ k s.2 Om Om k1 _ _ _ _ (by unfold lC;exact Lq) B ?_;intro x H1 e E Y;have f0:x 0=some (.ptr o 2 0 0):=e 0 _ (by unfold lC;simp only[go_sem]);have S:x 3=some (.aX f.cells):=e 3 _ (by unfold lC;simp only[go_sem]);have U:x 5=some w:=e 5 _ (by unfold lC;simp only[go_sem]);have f6:x 6=some (.j i):=e 6 _ (by unfold lC;simp only[go_sem]);have f7:x 7=some A:=e 7 _ (by unfold lC;simp only[go_sem]);have V:x 8=some (.j at_):=e 8 _ (by unfold lC;simp only[go_sem]);have W:x 9=some (.j k):=e 9 _ (by unfold lC;simp only[go_sem]);simp only[go_sem,BN,f7,E,J];refine Y.append 1 (src:=[[PV.int .i64 (tW l f.atH.length at_ k s.2).1]]) rfl Sq (by unfold roomFor;rw[auW,k2];simp only[avG,maxLen];omega) λw' H' X _=>?_;simp only[go_sem,KE,W,wZz k];refine aE (k+1,w',H') ⟨hlt,?_⟩ sO_ ?_ b_;simp only;rw[y];have:iiv (s.1++[(tW l f.atH.length at_ k s.2).1])=iiv s.1++[[PV.int .i64 (tW l f.atH.length at_ k s.2).1]]:=by simp[iiv]
 rw[this];exact X;exact lE5 f0 S U f6 V;have u:¬(k:Int)<(n:Nat):=Om;have:k=n:=Om;subst this;simp only[go_sem,u];refine hK A _ _ ?_ (by rw[hs];exact B);unfold lC;exact Lq
def Ki(l:N_)(v:PV)(o a:Nat)(f:aD)(r:PV)(H:PH):Prop:=Co r (lay (eG l f a f.atJ.length).1)/\H=h_.set o (bB v (eG l f a f.atJ.length).2)
theorem O6(R:yV C){l:N_}{v:PV}(T:Tp l v)(o a:Nat)(f:aD)(hV:VF f)(M:∀i,i<Z' f.atJ->aH C 82 [.agg f.cells,.j i] .nil (aL (.j (fT f i))))(ha:a<=Z' l) :
  VK.wp C (aW iA.res (Ki l v o a f)) (g_ [.ptr o 2 0 0,.agg f.cells]) (h_.set o (bB v a)):=by
 have hd:=hV.small.atH;have γ:=hV.small.atJ;have h0:aQ (h_.set o (bB v a)) [(o,bB v a)] [(.aJ,1,qG [])]:=(aQ.nil.new (H:=h_) rfl (bB v a)).nT 1;have U:∀r H,Ki l v o a f r H↔Co r (lay (eG l f a f.atJ.length).1)/\H=h_.set o (bB v (eG l f a f.atJ.length).2):=λ_ _=>Iff.rfl;simp only[go_sem,VK,iA];refine wp_loop (α:=T3_) (λs=>Zg f o s.2.1 s.1) (λs=>s.2.2) (λs=>s.1<=Z' f.atJ/\aQ s.2.2 [(o,bB v (eG l f a s.1).2)] [(s.2.1,1,qG (eG l f a s.1).1)]) (λs=>Z' f.atJ-s.1) (0,.aJ,_) ⟨auY _,h0⟩ ?_ b_ ?_;unfold Zg;exact Lq;rintro⟨i,w,H0⟩ ⟨hi,y⟩;simp only at hi y ⊢;obtain⟨k1,k2⟩:=ED l f ha i;simp only[go_sem,Zg,auW];by_cases hlt:i<Z' f.atJ;have u:(i:Int)<(Z' f.atJ:Nat):=Om;obtain⟨hp,he⟩:=mS hV hlt;have E:=hV.atW _ (avB hp);rw[he]at E;obtain⟨n,N⟩:∃n:Nat,fT f i=n:=⟨(fT f i).toNat,by unfold fT;omega⟩;have β:1<=n/\n<=8:=by unfold fT at N;omega
 have B:=M i hlt;rw[N]at B;have x:eG l f a (i+1)=((eG l f a i).1++[(nN l f.atH.length (aG l (Z' f.atH+1) (eG l f a i).2).1 (aG l (Z' f.atH+1) (eG l f a i).2).2 (fT f i).toNat).1],(nN l f.atH.length (aG l (Z' f.atH+1) (eG l f a i).2).1 (aG l (Z' f.atH+1) (eG l f a i).2).2 (fT f i).toNat).2):=rfl;rw[N,axA]at x;generalize hs:eG l f a i=s at *
 have e2:i_.wrap ((Z' f.atH:Int)+1)=((Z' f.atH+1:Nat):Int):=eC Om;have δ:=cK l (Om:0<Z' f.atH+1) s.2;have F:=bU l (Z' f.atH+1) k1;simp only[go_sem,u,auW,e2];refine dQ R T (o:=o) (n:=Z' f.atH+1) (a:=s.2) Om k1 Sq (y.at 0 rfl) ?_;have h1:=(y.set 0 rfl (bB v (aG l (Z' f.atH+1) s.2).2)).nT 1;generalize aG l (Z' f.atH+1) s.2=t at *
 obtain⟨r1,r2⟩:=HG l f.atH.length t.1 F n;simp only[go_sem];refine agB (C:=C) R T o f Om i n Om B w (qG s.1) t.1 t.2 Om F _ _ _ (by unfold lC;exact Lq) h1 ?_;intro w7 A H1 e S;generalize V:nN l f.atH.length t.1 t.2 n=row at *
 obtain⟨q,rfl⟩:=(S.own 1 rfl).one (by rw[auW];omega);have f0:A 0=some (.ptr o 2 0 0):=e 0 _ (by unfold lC;simp only[go_sem]);have f3:A 3=some (.aX f.cells):=e 3 _ (by unfold lC;simp only[go_sem]);have f5:A 5=some w:=e 5 _ (by unfold lC;simp only[go_sem]);have f6:A 6=some (.j i):=e 6 _ (by unfold lC;simp only[go_sem]);have f7:A 7=some (.osl q 1 0 (iiv row.1).length):=e 7 _ (by unfold lC;simp only[go_sem]);have K:(1:Nat)*1<=16777216:=by decide
 simp only[go_sem,f5,f7,K];refine S.append 0 (src:=[[.osl q 1 0 (iiv row.1).length]]) rfl Sq (by unfold roomFor;rw[auW,k2];simp only[avG,maxLen];omega) λw' H' h3 hw=>?_;obtain⟨O,rfl⟩:=hw aZ;obtain⟨rs,z1,z2,z3,z4,z5⟩:=h3.frz 1 rfl;have W:=z4 0 _ aU rfl;simp only at W;have y0:=T.frz q 1 rs;have X:PV.frz q 1 rs (PV.osl O 1 0 (qG s.1++[[PV.osl q 1 0 (iiv row.1).length]]).length)=PV.osl O 1 0 (qG s.1++[[PV.osl q 1 0 (iiv row.1).length]]).length:=W;simp only[go_sem,f6,wZz i];refine VB (i+1,PV.osl O 1 0 (qG s.1++[[PV.osl q 1 0 (iiv row.1).length]]).length,H'.frz q 1 rs) z1 ⟨hlt,?_⟩ sO_ ?_ b_;simp only;rw[x];have eB:([(o,bB v row.2)]:List BX).map (λb=>(b.1,b.2.frz q 1 rs))=[(o,bB v row.2)]:=by show[(o,aV.rows 2 [[PV.dL q 1 rs v,.j row.2]])]=_;rw[y0]
 have Y:(qG s.1++[[PV.osl q 1 0 (iiv row.1).length]]).map (λr=>r.map (PV.dL q 1 rs))=qG (s.1++[row.1]):=by rw[avU,afW];show qG s.1++[[PV.dL q 1 rs (.osl q 1 0 (iiv row.1).length)]]=_;rw[z2];simp[qG]
 rw[<-eB,<-Y];exact z5;have Z:(qG s.1++[[PV.osl q 1 0 (iiv row.1).length]]).length=(qG s.1++[[PV.osl q 1 0 row.1.length]]).length:=by simp
 rw[Z]at X ⊢;exact lE3 f0 f3 X;have u:¬(i:Int)<(Z' f.atJ:Nat):=Om;have:i=Z' f.atJ:=Om;subst this;simp only[go_sem,u];rcases y.own 0 rfl with⟨J,rfl⟩|⟨q,rs,rfl,_⟩
 refine bC (vs:=[.aJ]) (.inr rfl) (h_.set o (bB v (eG l f a f.atJ.length).2)) Sq (e_ a_ (y.at 0 rfl)) ?_;rw[bL,U];refine⟨?_,rfl⟩;unfold lay;rw[show(eG l f a f.atJ.length).1.map (λr=>[ints r])=[]from J];exact .nil 1;obtain⟨rs,g1,g2,g3,-,g4⟩:=y.frz 0 rfl;refine rO (vs:=[.osl q 1 0 (qG (eG l f a f.atJ.length).1).length]) (.inr rfl) Sq (.step g1 (.done (H2:=h_.set o (bB v (eG l f a f.atJ.length).2)) ?_ (e_ a_ ?_)));rw[bL,g3,U];exact⟨.refl _,rfl⟩;have:=g4.at 0 rfl;rw[this];simp only[aV.frz,awE,axD,T.frz];rfl
theorem exactly{name:Nat}{args:V_}{H H2:PH}{v:PV}(h:aH C name args H (λr H'=>Co r v/\H'=H2)):aH C name args H (λr H'=>r=v/\H'=H2):=
 h.post λr H' e=>⟨_,e.1,rfl,e.2⟩
theorem S0(l:N_)(atH atJ:Nat){a:Nat}(h:a<=Z' l):(jJ l atH atJ a).2<=Z' l:=by
 have x:=bU l 2 h;have u:=bU l 2 x;obtain⟨i,-⟩:=OX l u (1+(aG l 2 (aG l 2 a).2).1);have w:=bU l 2 i;obtain⟨e,-⟩:=EO l (1+(aG l 2 (aG l 2 a).2).1) w (1+(aG l 2 (jP l (aG l 2 (aG l 2 a).2).2 (1+(aG l 2 (aG l 2 a).2).1)).2).1);obtain⟨y,-⟩:=OL (mc:=1+(aG l 2 (jP l (aG l 2 (aG l 2 a).2).2 (1+(aG l 2 (aG l 2 a).2).1)).2).1) 4 0 (⟨by simp,auY _,e⟩:GOk l atH ⟨[pM],[],_⟩);exact(LL l _ (bU l (atJ+1) (zT l _ (bU l 2 y.a) _).1) _).1
theorem Yn(l:N_)(atH at_ i a:Nat):-1<=(tW l atH at_ i a).1/\(tW l atH at_ i a).1<atH:=by
 unfold tW;split;simp only;omega;rename_i h;have e:=cK l (Om:0<atH) (aG l 6 a).2;have u:=cK l (Om:0<atH+1) (aG l 6 a).2;have w:=awY (at_+i) (Om:0<atH);simp only;split;simp only;omega;split;simp only;omega;simp only;omega
theorem Fo(l:N_)(atH at_ a:Nat):∀k,∀x∈(nN l atH at_ a k).1,-1<=x/\x<atH
 |0,x,h=>by cases h
 |k+1,x,h=>by
  rcases awH.1 h with h|h
  exact Fo l atH at_ a k x h;rw[awL]at h;subst h;exact Yn l atH at_ k _
structure yT(f:aD)(L:L2_):Prop where
 len:Z' L=Z' f.atJ
 row:∀v (h:v<Z' L),((L[v].length:Nat):Int)=fT f v
 home:∀r∈L,∀x∈r,-1<=x/\x<Z' f.atH
theorem yh(l:N_){f:aD}(hV:VF f){a:Nat}(A:a<=Z' l):∀k,k<=Z' f.atJ->(eG l f a k).1.length=k/\(∀v (h:v<(eG l f a k).1.length),(((eG l f a k).1[v].length:Nat):Int)=fT f v)/\∀r∈(eG l f a k).1,∀x∈r,-1<=x/\x<Z' f.atH
 |0,_=>⟨rfl,λv h=>absurd h (by simp[eG]),λr h=>by cases h⟩
 |k+1,M=>by
  obtain⟨y,E,F⟩:=yh l hV A k Om;obtain⟨hp,he⟩:=mS hV (Om:k<Z' f.atJ);have i:=hV.atW _ (avB hp);rw[he]at i;have J:((fT f k).toNat:Int)=fT f k:=by unfold fT;omega
  have u:=(ED l f A k).1;have K:=(HG l f.atH.length (aG l (Z' f.atH+1) (eG l f a k).2).1 (bU l (Z' f.atH+1) u) (fT f k).toNat).2;have hi:=Fo l f.atH.length (aG l (Z' f.atH+1) (eG l f a k).2).1 (aG l (Z' f.atH+1) (eG l f a k).2).2 (fT f k).toNat;have e:(eG l f a (k+1)).1=(eG l f a k).1++[(nN l f.atH.length (aG l (Z' f.atH+1) (eG l f a k).2).1 (aG l (Z' f.atH+1) (eG l f a k).2).2 (fT f k).toNat).1]:=rfl;rw[e];generalize(nN l f.atH.length (aG l (Z' f.atH+1) (eG l f a k).2).1 (aG l (Z' f.atH+1) (eG l f a k).2).2 (fT f k).toNat).1=row at *
  generalize(eG l f a k).1=L at *
  refine⟨by simp[y],λv h=>?_,λr h=>?_⟩;by_cases B:v<Z' L;rw[azM B];exact E v B;have w:v=k:=by simp at h;omega
  subst w;rw[azK Om];simp only[y,axT,List.getElem_cons_zero];rw[K,J];rcases awH.1 h with h|h
  exact F r h;rw[awL]at h;subst h;exact hi
theorem yT.anV{f:aD}{L:L2_}(h:yT f L)(hV:VF f):∀k,k<=Z' L->(L.take k).flatten.length<=k*8:=by
 have x:=h.len;intro k
 induction k with
 |zero=>intro _;simp
 |succ k u =>intro i;rw[yD L i,auZ];have w:=u Om;have l:=h.row k i;obtain⟨hp,he⟩:=mS hV (Om:k<Z' f.atJ);have e:=hV.atW _ (avB hp);rw[he]at e;unfold fT at l;omega
theorem yT.ok{f:aD}(hV:VF f){L:L2_}(h:yT f L):iV L:=by
 have i:=hV.small.atJ;have e:=h.len;have:=h.anV hV L.length (avD _);rw[avW]at this;exact⟨by omega,by omega⟩

theorem wW{k v:Int}{n:Nat}{p:Nat->Bool}:cD k v n p=[]↔∀i,i<n->p i=false:=by
 unfold cD;rw[List.map_eq_nil_iff,List.filter_eq_nil_iff];constructor;intro h i hi;have:=h i (awG.2 hi);simpa using this;intro h i hi;rw[h i (awG.1 hi)];decide
theorem Td{f:aD}{l:L2_}{room:I_}(i:cM f=true)(e:Z' l=Z' f.atJ) :
  lO f l room=true↔qW f l l.length=[]/\∀d,d<Z' f.atH->over f l room d=false:=by
 unfold lO sQ adN;rw[i,aF rfl,aF e,avR,dT_,List.length_eq_zero_iff,List.append_eq_nil_iff,wW]
theorem ba{p:Int->Bool}:∀{l:I_}{i:Nat},(∀x∈l,p x=false)->gO p l i=none
 |[],_,_=>rfl
 |y::t,i,h=>by rw[gO,h y aZ,aC aU];exact ba λx e=>h x (by simp[e])
theorem yT.shape{f:aD}{L:L2_}(h:yT f L){v:Nat}(i:v<Z' L):sZ f L v=none:=by
 have e:L.getD v []=L[v]:=by simp[avI,i]
 unfold sZ;rw[e,aF (h.row v i),ba];rfl;intro x l;have:=h.home _ (avB i) x l;simp[kW];omega
section
variable {H:PH} {B:List BX} {L:List LI} {s:Nat} {rows:P2_}
theorem qV.some(s:Nat)(rows:P2_)(G:PH):∃r H',qV s rows r H'/\pI G .nil H':=by
 obtain⟨o,l⟩:=G.fresh;refine⟨.osl o s 0 rows.length,h_.set o (.rows s rows),.inr ⟨o,rows,rfl,rfl,avD _,avW⟩,λq x i _=>?_⟩;rw[aP]at i;split at i;rename_i e;rw[e];exact l;cases i
end

section
variable {C:Ctx} {F:PF} {H:PH} {B:List BX} {L:List LI} {args:List aR} {d:O_} {K:K_}
theorem aQ.kd(h:aQ H B L)(i:Nat){o name:Nat}{x y:aV}{r:PV}{vs:V_}(hi:B[i]?=some (o,x))(l:aH C name vs (h_.set o x) (λr' H'=>r'=r/\H'=h_.set o y))(e:aR.evs F args=some vs)
  (u:∀H',aQ H' (B.set i (o,y)) L->K (F.put d r) H'):jS C name args [] d K F H:=oV l (h.at i hi) e (u _ (h.set i hi y))
theorem aQ.TV(h:aQ H B L){x:aV}{e:Nat->PV}(i:∀o H',aQ H' (B++[(o,x)]) L->K (F.put d (e o)) H'):oQ (some (e,x)) d K F H:=aS λo l=>i o _ (h.new l x)
end
theorem Vb{f:aD}(hV:VF f)(room:I_){d:Nat}(e:d<Z' f.atH):0<=pH f room d/\pH f room d<=ext f d/\1<=ext f d/\ext f d<=16:=by
 obtain⟨i,he⟩:=hV.Ef e;have:=hV.model _ (avB i);rw[he]at this;unfold pH;split;omega;omega
def fE(g:Nat->Nat):Nat->Nat
 |0=>0
 |n+1=>fE g n+g n
theorem HY(g h:Nat->Nat):∀n,fE (λk=>g k+h k) n=fE g n+fE h n
 |0=>rfl
 |n+1=>by rw[fE,fE,fE,HY g h n];omega
theorem GD{g h:Nat->Nat}:∀{n:Nat},(∀k,k<n->g k<=h k)->fE g n<=fE h n
 |0,_=>avD _
 |n+1,e=>by rw[fE,fE];exact Nat.add_le_add (GD λk i=>e k Om) (e n Om)
theorem RQ{g h:Nat->Nat}:∀{n:Nat},(∀k,k<n->g k=h k)->fE g n=fE h n
 |0,_=>rfl
 |n+1,e=>by rw[fE,fE,RQ (n:=n) λk i=>e k Om,e n Om]
theorem Aj:∀n,fE (λ_=>0) n=0
 |0=>rfl
 |n+1=>by rw[fE,Aj n]
theorem WV(g:Nat->Nat->Nat)(n:Nat):∀m,fE (λv=>fE (g v) n) m=fE (λd=>fE (λv=>g v d) m) n
 |0=>by rw[fE];exact(Aj n).symm
 |m+1=>by rw[fE,WV g n m,<-HY];rfl
theorem Mh{g:Nat->Nat}:∀{n k:Nat},k<n->g k<=fE g n
 |0,_,h=>by omega
 |n+1,k,h=>by rw[fE];by_cases e:k=n;subst e;omega;have:=Mh (g:=g) (n:=n) (k:=k) Om;omega
theorem ka(c:Nat)(g:Nat->Nat):∀n,fE (λk=>c*g k) n=c*fE g n
 |0=>rfl
 |n+1=>by rw[fE,fE,ka c g n,avQ]
def one(b:Bool):Nat:=if b=true then 1 else 0
theorem ZB:one true=1:=rfl
theorem Ce:one false=0:=rfl
def JS(p:Nat->Bool)(n:Nat):Nat:=fE (λk=>one (p k)) n
def gX(f:aD)(v i:Nat):Nat:=if i=0 then 2+v else 2+Z' f.atJ+v*(Z' f.atK-1)+i-1
def fF(f:aD)(d:Nat):Nat:=2+Z' f.atJ*Z' f.atK+d
def lL(f:aD)(v:Nat):Nat:=(fT f v).toNat
def QC(f:aD)(v i:Nat):Nat:=if eN f (cT f v) i=0 then lL f v else(eN f (cT f v) i).toNat
def rp(f:aD)(room:I_)(d:Nat):Nat:=(pH f room d).toNat
def okD(f:aD)(v d:Nat):Bool:=R2 f (cT f v) d
def DD(f:aD)(v k:Nat):dV:=⟨gX f v (tP f (k+1)),gX f v (k+1),QC f v (k+1)⟩
def pB(f:aD)(v d:Nat):dV:=⟨gX f v (eJ f d),fF f d,1⟩
def pR(f:aD)(v:Nat):List dV:=⟨0,2+v,lL f v⟩::((auX (Z' f.atK-1)).map (DD f v)++((auX f.atH.length).filter (okD f v)).map (pB f v))
def JD(f:aD)(room:I_)(d:Nat):dV:=⟨fF f d,1,rp f room d⟩
def mJ(f:aD)(room:I_):List dV:=(auX f.atJ.length).flatMap (pR f)++(auX f.atH.length).map (JD f room)
def lD(f:aD)(room:I_):dP:=⟨fF f f.atH.length,0,1,mJ f room⟩
def Do(f:aD):Nat:=fE (lL f) f.atJ.length
theorem AD{f:aD}(h:VF f){v:Nat}(l:v<Z' f.atJ):lL f v<=8/\1<=lL f v/\(lL f v:Int)=fT f v/\∀i,QC f v i<=8:=by
 obtain⟨hp,he⟩:=mS h l;have e:=h.atW _ (avB hp);rw[he]at e;have u:fT f v=(cT f v).k+(cT f v).m:=rfl;unfold QC lL;refine⟨by omega,by omega,by omega,λi=>?_⟩;have:=e.2.2.2.2.2.2.1 (lvl f i).toNat;unfold eN;split<;>omega
theorem rt{f:aD}(h:VF f)(room:I_){d:Nat}(e:d<Z' f.atH):rp f room d<=16/\(rp f room d:Int)=pH f room d:=by
 have:=Vb h room e;unfold rp;omega
theorem FK{f:aD}(h:VF f){v i:Nat}(l:v<Z' f.atJ)(hi:i<Z' f.atK):2<=gX f v i/\gX f v i<fF f 0:=by
 have w:=h.root.1;have e:(v+1)*(Z' f.atK-1)<=Z' f.atJ*(Z' f.atK-1):=awI _ l;rw[axM]at e;have u:Z' f.atJ*Z' f.atK=Z' f.atJ*(Z' f.atK-1)+Z' f.atJ:=by
  conv=>lhs;rw[show f.atK.length=(Z' f.atK-1)+1 by omega,Nat.mul_succ]
 unfold gX fF;split<;>omega
theorem Iz(f:aD)(v:Nat):(pR f v).length<=Z' f.atK+Z' f.atH+1:=by
 unfold pR;rw[awK,auZ,auW,auW,List.length_range];have:=azI (okD f v) (auX f.atH.length);rw[List.length_range]at this;omega
theorem Zo(f:aD)(room:I_):(mJ f room).length<=Z' f.atJ*(Z' f.atK+Z' f.atH+1)+Z' f.atH:=by
 unfold mJ;rw[auZ,auW,List.length_range];have e:∀n,((auX n).flatMap (pR f)).length<=n*(Z' f.atK+Z' f.atH+1):=by
  intro n
  induction n with
  |zero=>simp
  |succ n i =>rw[axV,List.flatMap_append,auZ,axM];have:=Iz f n;simp only[List.flatMap_cons,List.flatMap_nil,awJ];omega
 have:=e f.atJ.length;omega
theorem T3{f:aD}(h:VF f)(room:I_):lF (lD f room):=by
 obtain⟨s1,s2,s3,s4,M,N⟩:=h.small;have F:fF f f.atH.length=fF f 0+Z' f.atH:=by unfold fF;omega
 have K:Z' f.atJ*Z' f.atK<=12*40:=ayA Om Om;have B:=h.root.1;have hb:fF f 0=2+Z' f.atJ*Z' f.atK:=rfl;refine⟨?_,?_,?_,?_,?_,(show(0:Nat)≠1 by decide),λa ha=>?_⟩;show 2<=fF f f.atH.length;omega;show fF f f.atH.length<=700;omega;refine avZ (Zo f room) ?_;have:Z' f.atJ*(Z' f.atK+Z' f.atH+1)<=12*(40+24+1):=ayA Om Om;omega;show 0<fF f f.atH.length;omega;show 1<fF f f.atH.length;omega;show a.src<fF f f.atH.length/\a.dst<fF f f.atH.length/\a.cap<=2147483647;have w:∀d,d<Z' f.atH->fF f d<fF f f.atH.length:=λd w=>by unfold fF;omega
 rcases awH.1 (show a∈mJ f room from ha)with ha|ha
 obtain⟨v,u,ha⟩:=List.mem_flatMap.1 ha;have u:=awG.1 u;obtain⟨b1,b2,E,y⟩:=AD h u;rcases avL.1 ha with rfl|ha
 have:=(FK h u B).2;simp only[gX,if_true]at this;simp only;exact⟨by omega,by omega,by omega⟩;rcases awH.1 ha with ha|ha
 obtain⟨k,x,rfl⟩:=avV.1 ha;have x:=awG.1 x;have hp:=(h.dom (k+1) Om Om).2.1;have A:=(FK h u (i:=tP f (k+1)) Om).2;have J:=(FK h u (i:=k+1) Om).2;have:=y (k+1);simp only[DD];exact⟨by omega,by omega,by omega⟩;obtain⟨d,l,rfl⟩:=avV.1 ha;have e:=awG.1 (List.mem_filter.1 l).1;have A:=(FK h u (i:=eJ f d) (h.drive d e).2.2.2.1).2;have:=w d e;simp only[pB];exact⟨by omega,this,by omega⟩;obtain⟨d,l,rfl⟩:=avV.1 ha;have e:=awG.1 l;have:=w d e;have:=rt h room e;simp only[JD];exact⟨by omega,by omega,by omega⟩
def inD(f:aD)(i d:Nat):Bool:=decide (dE f d (lvl f i)=i)
structure YA(f:aD)(room:I_)(u:Nat->Nat->Bool):Prop where
 num:∀v,v<Z' f.atJ->JS (u v) f.atH.length=lL f v
 ok:∀v d,v<Z' f.atJ->d<Z' f.atH->u v d=true->okD f v d=true
 bound:∀v i,v<Z' f.atJ->0<i->i<Z' f.atK->eN f (cT f v) i≠0->JS (λd=>u v d&&inD f i d) f.atH.length<=(eN f (cT f v) i).toNat
 room:∀d,d<Z' f.atH->JS (λv=>u v d) f.atJ.length<=rp f room d
theorem tE(S:Nat->Bool):∀l m:List dV,mI S (l++m)=mI S l+mI S m
 |[],m=>by simp[mI]
 |a::l,m=>by rw[ayQ,mI,mI,tE S l m];omega
def oZ(S:Nat->Bool)(a:dV):Nat:=if S a.src=true/\S a.dst=false then a.cap else 0
theorem d8(S:Nat->Bool)(F:Nat->dV):∀n,mI S ((auX n).map F)=fE (λk=>oZ S (F k)) n
 |0=>rfl
 |n+1=>by rw[axV,avU,tE,d8 S F n,fE];rfl
theorem xo(S:Nat->Bool)(F:Nat->List dV):∀n,mI S ((auX n).flatMap F)=fE (λk=>mI S (F k)) n
 |0=>rfl
 |n+1=>by rw[axV,List.flatMap_append,tE,xo S F n,fE];simp
theorem ZZ(S:Nat->Bool)(F:Nat->dV)(p:Nat->Bool):∀n,mI S (((auX n).filter p).map F)=fE (λk=>if p k=true then oZ S (F k)else 0) n
 |0=>rfl
 |n+1=>by rw[axV,List.filter_append,avU,tE,ZZ S F p n,fE];cases h:p n<;>simp[h,mI,oZ]
theorem Pq(a b:Bool)(h:a=true->b=true):one a<=one b:=by
 cases a<;>cases b<;>simp_all [one]
theorem Sd{f:aD}(h:VF f){d:Nat}(x:d<Z' f.atH)(S:Nat->Bool)(D:Nat->Nat)(w:S (D 0)=true):∀k,k<=4->S (D (upN f k (eJ f d)))=false->∃i,0<i/\i<Z' f.atK/\inD f i d=true/\S (D (tP f i))=true/\S (D i)=false:=by
 have top:upN f 4 (eJ f d)=0:=by
  obtain⟨a,b⟩:=CW h x (k:=4) (avD _);rcases axJ (upN f 4 (eJ f d))with e|e
  exact e;have:=(h.dom _ e a).2.2.2.1;omega
 intro k y l;obtain⟨m,B⟩:∃m,m=4-k:=⟨_,rfl⟩
 induction m generalizing k with
 |zero =>have:k=4:=Om;subst this;rw[top,w]at l;cases l
 |succ m A=>
  cases hp:S (D (upN f (k+1) (eJ f d)))with
  |false=>exact A (k+1) Om hp Om
  |true=>
   obtain⟨a,b⟩:=CW h x y;have u:0<upN f k (eJ f d):=by
    rcases axJ (upN f k (eJ f d))with e|e
    rw[e,w]at l;cases l;exact e
   refine⟨upN f k (eJ f d),u,a,?_,hp,l⟩;unfold inD dE;rw[b,dT_];congr 1;omega
theorem YA.vol{f:aD}(h:VF f){room:I_}{u:Nat->Nat->Bool}(A:YA f room u)(S:Nat->Bool)(N:S 0=true){v:Nat}(E:v<Z' f.atJ) :
  lL f v<=mI S (pR f v)+fE (λd=>one (u v d)*one (S (fF f d))) f.atH.length:=by
 have R:mI S (pR f v)=oZ S ⟨0,2+v,lL f v⟩+(fE (λk=>oZ S (DD f v k)) (Z' f.atK-1)+fE (λd=>if okD f v d=true then oZ S (pB f v d)else 0) f.atH.length):=by unfold pR;rw[mI,tE,d8,ZZ];rfl
 rw[R];cases M:S (2+v)with
 |false=>
  have:oZ S ⟨0,2+v,lL f v⟩=lL f v:=by unfold oZ;simp[N,M]
  omega
 |true=>
  have l:S (gX f v 0)=true:=M;have each:∀d,d<Z' f.atH->one (u v d)<=one (u v d)*one (S (fF f d))+((if okD f v d=true then oZ S (pB f v d)else 0)+fE (λk=>one (u v d&&inD f (k+1) d)*one (S (gX f v (tP f (k+1)))&&!S (gX f v (k+1)))) (Z' f.atK-1)):=by
   intro d J;cases V:u v d with
   |false=>exact auY _
   |true=>
    have B:=A.ok v d E J V;cases O:S (fF f d)with
    |true=>rw[ZB];omega
    |false=>
     cases F:S (gX f v (eJ f d))with
     |true=>
      have:oZ S (pB f v d)=1:=by unfold oZ pB;simp[O,F]
      rw[aF B,this,ZB,Ce];omega
     |false =>obtain⟨i,Z,i1,W,X,Y⟩:=Sd h J S (gX f v) l 0 Om F;have K:=Mh (g:=λk=>one (true&&inD f (k+1) d)*one (S (gX f v (tP f (k+1)))&&!S (gX f v (k+1)))) (n:=Z' f.atK-1) (k:=i-1) Om;simp only[show i-1+1=i by omega,W,X,Y,ZB,ayJ,avP]at K;rw[ZB,Ce];omega
  have w:=A.num v E;have x:=GD (n:=Z' f.atH) each;rw[HY,HY,WV]at x;have y:fE (λk=>fE (λd=>one (u v d&&inD f (k+1) d)*one (S (gX f v (tP f (k+1)))&&!S (gX f v (k+1)))) f.atH.length) (Z' f.atK-1)<=fE (λk=>oZ S (DD f v k)) (Z' f.atK-1):=by
   refine GD λk K=>?_;have e:fE (λd=>one (u v d&&inD f (k+1) d)*one (S (gX f v (tP f (k+1)))&&!S (gX f v (k+1)))) f.atH.length=one (S (gX f v (tP f (k+1)))&&!S (gX f v (k+1)))*JS (λd=>u v d&&inD f (k+1) d) f.atH.length:=by unfold JS;rw[<-ka];exact RQ λd _=>awF _ _
   rw[e];unfold oZ DD;simp only;cases g1:S (gX f v (tP f (k+1)))<;>cases g2:S (gX f v (k+1))<;>simp only[ZB,Ce,awU,avJ,avP,avH,ayJ,axH,if_false,if_true,Nat.zero_mul,Nat.one_mul,and_false,false_and,and_self,avD,auY,reduceCtorEq];unfold QC;split;have:JS (λd=>u v d&&inD f (k+1) d) f.atH.length<=JS (u v) f.atH.length:=GD λd _=>Pq _ _ λh=>by rw[avE]at h;exact h.1
   omega;rename_i U;exact A.bound v (k+1) E Om Om U
  unfold JS at w;omega
theorem YA.cut{f:aD}(h:VF f){room:I_}{u:Nat->Nat->Bool}(A:YA f room u)(S:Nat->Bool)(l:S 0=true)(w:S 1=false):Do f<=mI S (mJ f room):=by
 unfold mJ;rw[tE,xo,d8];have i:Do f<=fE (λv=>mI S (pR f v)+fE (λd=>one (u v d)*one (S (fF f d))) f.atH.length) f.atJ.length:=GD λv y=>A.vol h S l y;rw[HY,WV]at i;have e2:fE (λd=>fE (λv=>one (u v d)*one (S (fF f d))) f.atJ.length) f.atH.length<=fE (λk=>oZ S (JD f room k)) f.atH.length:=by
  refine GD λd x=>?_;have e:fE (λv=>one (u v d)*one (S (fF f d))) f.atJ.length=one (S (fF f d))*JS (λv=>u v d) f.atJ.length:=by unfold JS;rw[<-ka];exact RQ λv _=>awF _ _
  rw[e];have:=A.room d x;unfold oZ JD;simp only[w];cases S (fF f d)with
  |false=>simp[Ce]
  |true=>simp[ZB];exact this
 omega



theorem aiI{f:aD}{p:cO}{v:Nat}{row:I_}:tB f p v row=[]↔(∀i,i<Z' row->0<=row.getD i 0)/\(∀d,d<Z' f.atH->row.count (d:Int)<=1)/\(∀i,i<Z' row->0<=row.getD i 0->p.atI.contains ((mdl f (row.getD i 0).toNat:Nat):Int)=true)/\∀i,i<Z' f.atK->eN f p i>0->kX f row i<=eN f p i:=by
 have e:∀d,d<Z' f.atH->(fJ f.atH.length row).getD d 0=(row.count (d:Int):Nat):=λd h=>by simp[fJ,avI,h]
 have l:∀i,i<Z' f.atK->(fO f row).getD i 0=kX f row i:=λi h=>by simp[fO,avI,h]
 unfold tB;rw[List.append_eq_nil_iff,List.append_eq_nil_iff,List.append_eq_nil_iff,wW,wW,wW,wW,and_assoc,and_assoc];refine and_congr ?_ (and_congr ?_ (and_congr ?_ ?_));refine forall_congr' λi=>forall_congr' λhi=>?_;unfold home;rw[decide_eq_false_iff_not];omega;refine forall_congr' λd=>forall_congr' λu=>?_;unfold lY;rw[e d u,decide_eq_false_iff_not];omega;refine forall_congr' λi=>forall_congr' λhi=>?_;unfold dZ;by_cases c:0<=row.getD i 0<;>simp[c];refine forall_congr' λi=>forall_congr' λhi=>?_;unfold nM;rw[l i hi,Bool.and_eq_false_iff,decide_eq_false_iff_not,decide_eq_false_iff_not];omega
theorem acF{f:aD}(i:cM f=true){l:L2_}(u:yT f l)(room:I_):lO f l room=true↔(∀v (h:v<Z' l),tB f (cT f v) v l[v]=[])/\∀d,d<Z' f.atH->((l.flatten.count (d:Int):Nat):Int)<=pH f room d:=by
 rw[Td i u.len];refine and_congr ?_ ?_;unfold qW;rw[List.flatMap_eq_nil_iff];constructor;intro h v i;have:=h v (awG.2 i);unfold uO at this;rw[u.shape i]at this;have e:l.getD v []=l[v]:=by simp[avI,i]
 rw[e]at this;exact this;intro h v A;have i:=awG.1 A;unfold uO;rw[u.shape i];have e:l.getD v []=l[v]:=by simp[avI,i]
 simp only;rw[e];exact h v i;refine forall_congr' λd=>forall_congr' λw=>?_;have x:(iF f l).getD d 0=(l.flatten.count (d:Int):Nat):=by simp[iF,fJ,avI,w]
 have y:(iE f room).getD d 0=pH f room d:=by simp[iE,avI,w]
 unfold over;rw[x,y,decide_eq_false_iff_not];omega
def arS(f:aD)(u:Nat->Nat->Bool)(v:Nat):I_:=cA ((auX f.atH.length).filter (u v))
def arH(f:aD)(u:Nat->Nat->Bool):L2_:=(auX f.atJ.length).map (arS f u)
def gL:=bP [2,23,24,50,90] Proofs.Tryz.f50
def DQ:aI:=(.seq (sq (aA gL 21) (.cond (Tm 70) .skip (.exit 6))) (.block 7 (.region (aA gL 22))))
def aj:aI:=(sq (aA gL 0) (sq (aA gL 1) (iH (aA gL 2) 14 (.seq (dD (aA gL 3) 0 (jB (aA gL 4) 19 0 (aA gL 7) (sq (aA gL 5) (.region (aA gL 6))))) (sq (aA gL 8) .ret)) (sq (aA gL 9) (.seq (dD (aA gL 10) 2 (jB (aA gL 11) 36 2 (aA gL 16) (sq (aA gL 12) (sq (aA gL 13) (.cond (Tm 43) (sq (aA gL 14) (.region (aA gL 15))) .skip))))) (.seq (dD (aA gL 17) 4 (jB (aA gL 18) 57 4 (aA gL 23) (sq (aA gL 19) (sq (aA gL 20) (.seq (.block 6 (.loop DQ)) (dq (eH gL 0) (.draw (eH gL 1)))))))) (sq (aA gL 24) .ret)))))))
def YG:=bP [] Proofs.Tryz.f51
def TZ:=bV YG
def mV:=bP [] Proofs.Tryz.f24
def CD:aI:=(.seq (sq (aA mV 9) (.cond (Tm 37) .skip (.exit 4))) (.block 5 (.region (aA mV 10))))
def IH:aI:=(jB (aA mV 7) 23 2 (aA mV 13) (sq (aA mV 8) (.seq (.block 4 (.loop CD)) (sq (aA mV 11) (.cond (Tm 51) (.region (aA mV 12)) .skip)))))
def mj:aI:=(sq (aA mV 0) (sq (aA mV 1) (.seq (dD (aA mV 2) 0 (jB (aA mV 3) 17 0 (aA mV 16) (sq (aA mV 4) (sq (aA mV 5) (.seq (dD (aA mV 6) 2 IH) (sq (aA mV 14) (.cond (Tm 57) (.region (aA mV 15)) .skip))))))) (sq (aA mV 17) .ret))))
def Br:=bP [] Proofs.Tryz.f52
def mr:=bV Br
def kM:=bP [] Proofs.Tryz.f101
def UG:aI:=(jB (aA kM 3) 16 0 (aA kM 6) (sq (aA kM 4) (.region (aA kM 5))))
def UH:=aA kM 7
def UI:=aA kM 8
def zC:=eH kM 0
def NR:=aA kM 9
def DR:aI:=(.seq (dq zC (.cond (Tm 42) .skip (.exit 4))) (.block 5 (.region NR)))
def DT:=aA kM 10
def NS:=aA kM 11
def NT:=aA kM 12
def DU:=aA kM 13
def NU:=aA kM 14
def NV:=aA kM 15
def DS:aI:=(dY DU 57 6 NV (.region NU))
def mu:aI:=(.seq (sq UH (.cond (Tm 26) .skip (.exit 2))) (.block 3 (sq UI (.seq (.block 4 (.loop DR)) (iH DT 46 .ret (sq NS (dD NT 6 DS)))))))
def an:aI:=(iH (aA kM 0) 10 .ret (sq (aA kM 1) (.seq (dD (aA kM 2) 0 UG) (.block 2 (.loop mu)))))
theorem Gg(a b:N_):cA (a++b)=cA a++cA b:=avU
theorem gZ(a:N_):(cA a).length=Z' a:=auW _
theorem AR{a:N_}{i:Nat}(h:i<Z' a):(aT (cA a))[i]?=some [PV.int .i64 (a[i]:Nat)]:=by
 unfold aT cA;rw[avO,avO,avF h];rfl
theorem io(a:N_)(i x:Nat):(aT (cA a)).set i [PV.int .i64 (x:Nat)]=aT (cA (a.set i x)):=by
 unfold aT cA;rw[ayE,ayE]
theorem Vz{top n:Nat}(h:top<n):dK top n 0=[]:=by
 cases n with
 |zero=>omega
 |succ n =>rw[dK,show top-n-0=0 by omega];rfl
theorem rY.head{n:Nat}{s:N_}{l:List N_}(h:rY n s l):∃r,l=s::r:=by
 cases h with
 |last=>exact⟨_,rfl⟩
 |step=>exact⟨_,rfl⟩
def tV(n i:Nat):N_:=axI 0 i++avA (n-i) 0
theorem N1(n:Nat):tV n 0=avA n 0:=by unfold tV;simp
theorem Sx{n i:Nat}(h:i<=n):(tV n i).length=n:=by unfold tV;simp;omega
theorem N0(n:Nat):tV n n=axI 0 n:=by unfold tV;simp
theorem Sy{n i:Nat}(h:i<n):(tV n i).set i i=tV n (i+1):=by
 unfold tV;obtain⟨m,e⟩:∃m,n-i=m+1:=⟨n-i-1,by omega⟩;rw[e,List.replicate_succ,ayF _ _ aZ,List.length_range',axT,azB,show n-(i+1)=m by omega,List.range'_concat];simp
def onU(s:N_)(j y m:Nat):N_:=s.take j++axI y (m-j)++s.drop m
theorem Lt{s:N_}{j y m:Nat}(e:j<=m)(i:m<=Z' s):(onU s j y m).length=Z' s:=by
 unfold onU;simp;omega
theorem agR{s:N_}{j y:Nat}(h:j<Z' s):s.set j y=onU s j y (j+1):=by
 unfold onU;rw[List.set_eq_take_append_cons_drop,aF h,show j+1-j=1 by omega];simp
theorem Zw{s:N_}{j y m:Nat}(l:j<m)(i:m<=Z' s):∃h,(onU s j y m)[m-1]'h=y+(m-1-j):=by
 refine⟨by rw[Lt Om i];omega,?_⟩;unfold onU;have e:(s.take j).length=j:=by rw[avN];omega
 rw[azM (by simp;omega),azK Om];simp[e]
theorem agS{s:N_}{j y m:Nat}(l:j<=m)(i:m<Z' s):(onU s j y m).set m (y+(m-j))=onU s j y (m+1):=by
 unfold onU;have e:(s.take j++axI y (m-j)).length=m:=by simp;omega
 rw[ayF _ _ Om,e,axT,axB i,azB,show m+1-j=(m-j)+1 by omega,List.range'_concat];simp
theorem Zv{s:N_}{j y:Nat}:onU s j y s.length=s.take j++axI y (Z' s-j):=by
 unfold onU;simp
theorem adZ{K:bZ}[Up K]{n o1 o2 q:Nat}{y:PV}{F:PF}{H:PH}(M:n<=1000)(hq:H q=some (.rows 1 (aT (cA (tV n 0)))))(A:(((((((n_.set 0 (y)).set 1 (.ptr o1 1 0 0)).set 2 (.ptr o2 1 0 0)).set 4 (.osl q 1 0 n)).set 14 (.j n)).set 15 (.j 0))).le F)
  (B:K (.exit 0) (((((n_.set 0 (y)).set 1 (.ptr o1 1 0 0)).set 2 (.ptr o2 1 0 0)).set 4 (.osl q 1 0 n))) (H.set q (.rows 1 (aT (cA (axI 0 n)))))):aI.wp C (.loop UG) K F H:=by
 refine wp_loop (α:=Nat × PH) (λs=>((((((n_.set 0 (y)).set 1 (.ptr o1 1 0 0)).set 2 (.ptr o2 1 0 0)).set 4 (.osl q 1 0 n)).set 14 (.j n)).set 15 (.j s.1))) (λs=>s.2) (λs=>s.1<=n/\s.2=H.set q (.rows 1 (aT (cA (tV n s.1))))) (λs=>n-s.1) (0,H) ⟨auY _,?_⟩ A b_ ?_;refine PH.ext λo=>?_;show H o=(H.set q _) o;rw[aP];split;rename_i e;rw[e,hq];rfl;rintro⟨i,E⟩ ⟨hi,x⟩;simp only at hi x;subst x;simp only[go_sem,UG];by_cases hlt:i<n;have l:(i:Int)<(n:Nat):=Om;have J:=Sx hi;have u:=AR (a:=tV n i) (i:=i) Om;have w:i<(aT (cA (tV n i))).length:=by rw[cJ,gZ];omega
 simp only[go_sem,l,u,w,avK,io,Sy hlt,wZz i];exact aE (i+1,_) ⟨hlt,rfl⟩ sO_ Lq b_;have l:¬(i:Int)<(n:Nat):=Om;have:i=n:=Om;subst this;rw[N0];simp only[go_sem,l];exact Up.up Lq B
def cyF(y:PV)(o1 o2 q n:Nat):PF:=((((n_.set 0 (y)).set 1 (.ptr o1 1 0 0)).set 2 (.ptr o2 1 0 0)).set 4 (.osl q 1 0 n))
theorem Si{K:bZ}[Up K]{n top o1 o2 q:Nat}{y:PV}{s:N_}(X:Z' s=n)(W:n<=1000)(Y:top<=1000)(S:n<=top){F:PF}{H:PH}(b1:H o1=some (.rows 1 [[.j n]]))(b2:H o2=some (.rows 1 [[.j top]]))(hq:H q=some (.rows 1 (aT (cA s))))
  (R:((cyF y o1 o2 q n).set 6 (.j ((n:Int)-1))).le F)
  (E:∀m,m<=n->(∀i (h:i<Z' s),m<=i->s[i]+n=top+i)->(0<m->∀(h:m-1<Z' s),s[m-1]+n≠top+(m-1))->K (.exit 4) ((cyF y o1 o2 q n).set 6 (.j ((m:Int)-1))) H):aI.wp C (.loop DR) K F H:=by
 refine wp_loop (α:=Nat) (λm=>(cyF y o1 o2 q n).set 6 (.j ((m:Int)-1))) (λ_=>H) (λm=>m<=n/\∀i (h:i<Z' s),m<=i->s[i]+n=top+i) (λm=>m) n ⟨avD _,λi h V=>by omega⟩ R b_ ?_;rintro m ⟨J,l⟩;rw[show DR=(.seq (.seq (.draw zC) (.cond (.tmp 42) .skip (.exit 4))) (.block 5 (.region NR)))from rfl];simp only[go_sem];refine bK .nil cS a_ ?_;by_cases O:m=0;subst O;simp only[go_sem,zC,cyF,show ¬((0:Nat):Int)-1>=0 by omega];refine Up.up ?_ (E 0 J l (λh=>by omega));unfold cyF;exact Lq;obtain⟨k,rfl⟩:∃k,m=k+1:=⟨m-1,by omega⟩;have A:(((k+1:Nat):Int)-1)=(k:Int):=Om;have B:k<Z' s:=Om;have w:=AR B;have x:k<(aT (cA s)).length:=by rw[cJ,gZ];omega
 have M:i_.wrap ((top:Int)-(n:Int))=(top:Int)-n:=wrap_i64 Om Om;have N:i_.wrap ((top:Int)-(n:Int)+(k:Int))=(top:Int)-n+k:=wrap_i64 Om Om;have u:(k:Int)<(n:Nat):=Om;by_cases c:s[k]+n=top+k;simp only[go_sem,zC,cyF,A,show(k:Int)>=0 by omega,hq,w,x,u,b1,b2,avK,M,N,bN (Om:((s[k]:Nat):Int)=(top:Int)-n+k),NR];have U:i_.wrap ((k:Int)-1)=(k:Int)-1:=wrap_i64 Om Om;refine aE k ⟨by omega,λi h hi=>?_⟩ Om (lE1 U) b_;by_cases e:i=k;subst e;exact c;exact l i h Om;simp only[go_sem,zC,cyF,A,show(k:Int)>=0 by omega,hq,w,x,u,b1,b2,avK,M,N,bA (Om:((s[k]:Nat):Int)≠(top:Int)-n+k)];refine Up.up ?_ (E (k+1) J l (λ_ h=>c));unfold cyF;exact lE1 A
theorem aeA{K:bZ}[Up K]{n o1 o2 q j x:Nat}{y:PV}{s:N_}(W:Z' s=n)(hn:n<=1000)(hx:x<=1000000)(V:j<n){F:PF}{H:PH}(b1:H o1=some (.rows 1 [[.j n]]))(O:¬o1=q)(hq:H q=some (.rows 1 (aT (cA (onU s j x (j+1))))))
  (S:((cyF y o1 o2 q n).set 7 (.j (j+1:Nat))).le F)
  (U:K (.exit 6) (cyF y o1 o2 q n) (H.set q (.rows 1 (aT (cA (s.take j++axI x (n-j))))))):aI.wp C (.loop DS) K F H:=by
 refine wp_loop (α:=Nat × PH) (λm=>(cyF y o1 o2 q n).set 7 (.j m.1)) (λm=>m.2) (λm=>j+1<=m.1/\m.1<=n/\m.2=H.set q (.rows 1 (aT (cA (onU s j x m.1))))) (λm=>n-m.1) (j+1,H) ⟨avD _,V,?_⟩ S b_ ?_;refine PH.ext λo=>?_;show H o=(H.set q _) o;rw[aP];split;rename_i e;rw[e,hq];rfl;rintro⟨m,Z⟩ ⟨J,M,R⟩;simp only at J M R;subst R;have B:¬q=o1:=λe=>O e.symm;rw[show DS=(.seq (.seq (.region DU) (.cond (.tmp 57) .skip (.exit 6))) (.seq (.block 7 (.region NU)) (.region NV)))from rfl];by_cases hlt:m<n;have i:(m:Int)<(n:Nat):=Om;obtain⟨hp,he⟩:=Zw (s:=s) (j:=j) (y:=x) (m:=m) Om Om;have l:=AR hp;rw[he]at l;have hl:=Lt (s:=s) (j:=j) (y:=x) (m:=m) Om Om;have E:m-1<(aT (cA (onU s j x m))).length:=by rw[cJ,gZ];omega
 have w:m<(aT (cA (onU s j x m))).length:=by rw[cJ,gZ];omega
 have u:(aT (cA (onU s j x m)))[m]?=some [PV.int .i64 ((onU s j x m)[m]'Om:Nat)]:=AR Om;have X:i_.wrap ((m:Int)-1)=((m-1:Nat):Int):=wO_
 have Y:i_.wrap (((x+(m-1-j):Nat):Int)+1)=((x+(m-j):Nat):Int):=wO_
 have A:((m-1:Nat):Int)<(n:Nat):=Om;have N:=agS (s:=s) (j:=j) (y:=x) (m:=m) Om Om;simp only[go_sem,DU,cyF,b1,O,B,i,NU,X,A,l,E,avK,Y,u,w,io,N,NV,wZz m];refine aE (m+1,_) ⟨by simp only;omega,hlt,rfl⟩ sO_ Lq b_;have i:¬(m:Int)<(n:Nat):=Om;have:m=n:=Om;subst this;have e:=Zv (s:=s) (j:=j) (y:=x);rw[W]at e;rw[e];simp only[go_sem,DU,cyF,b1,O,B,i];refine Up.up ?_ U;unfold cyF;exact Lq
theorem rY.done{n:Nat}{s:N_}{l:List N_}(h:rY n s l)(i:qY n s=none):l=[s]:=by
 cases h with
 |last=>rfl
 |step e=>rw[i]at e;cases e
theorem rY.next{n:Nat}{s t:N_}{l:List N_}(h:rY n s l)(i:qY n s=some t):∃r,l=s::r/\rY n t r:=by
 cases h with
 |last e=>rw[i]at e;cases e
 |step e w=>rw[i]at e;cases e;exact⟨_,rfl,w⟩
structure W3(J:Nat->PH->Prop)(ss:List N_)(top n o1 o2 q k:Nat)(s:N_)(G H:PH):Prop where
 lt:k<Z' ss
 walk:rY top s (ss.drop k)
 len:Z' s=n
 rng:∀x∈s,x<top
 j:J k G
 le:G.le H
 g1:G o1=none
 g2:G o2=none
 gq:G q=none
 b1:H o1=some (.rows 1 [[.int .i64 n]])
 b2:H o2=some (.rows 1 [[.int .i64 top]])
 bq:H q=some (.rows 1 (aT (cA s)))
theorem Xi{l o1 o2 n top:Nat}(J:Nat->PH->Prop)(u:List N_)(U:u=dK top n 0)(h1:1<=n)(hn:n<=1000)(ht:top<=1000)
  (hY:∀k (hk:k<Z' u) G c,J k G->G c=none->LS C l [.osl c 1 0 n] (G.set c (.rows 1 (aT (cA u[k])))) (λr H'=>r=.bool true/\J (k+1) H'))
  {O H:PH} (X:J 0 O) (w:O.le H) (b1:H o1=some (.rows 1 [[.j n]])) (b2:H o2=some (.rows 1 [[.j top]])) (g1:O o1=none) (g2:O o2=none) :
  an.wp C (aW kM.res (λ_ H'=>∃G,J u.length G/\G.le H')) (g_ [DB l,.ptr o1 1 0 0,.ptr o2 1 0 0]) H:=by
 simp only[go_sem,an,kM,b1,b2];by_cases c:n>top;have:u=[]:=by rw[U];exact Vz c
 subst this;simp only[go_sem,show(n:Int)>(top:Nat) by omega];exact bC (vs:=[]) (.inr rfl) O rfl w ⟨O,X,b_⟩;simp only[go_sem,show ¬(n:Int)>(top:Nat) by omega,b1,show(0:Int)<=n by omega,Int.le_refl,show(n:Int)*((8:Nat):Int)<=140737488355328 by omega,show(n:Int)<=9223372036854775807 by omega,axA];refine aS λq hq=>?_;obtain⟨a1,φ⟩:¬o1=q/\¬q=o1:=⟨(λe=>by rw[e,hq]at b1;cases b1),λe=>by rw[<-e,hq]at b1;cases b1⟩;obtain⟨a2,χ⟩:¬o2=q/\¬q=o2:=⟨(λe=>by rw[e,hq]at b2;cases b2),λe=>by rw[<-e,hq]at b2;cases b2⟩;have ez:avA n [PV.int .i64 0]=aT (cA (tV n 0)):=by rw[N1];unfold aT cA;rw[List.map_replicate,List.map_replicate];rfl
 rw[ez];simp only[go_sem];refine adZ (n:=n) (o1:=o1) (o2:=o2) (q:=q) (y:=DB l) hn (by rw[cE]) Lq ?_;rw[PH.set_set];have β:O q=none:=by
  cases h:O q with
  |none=>rfl
  |some x=>rw[w q x h]at hq;cases hq
 have hw:=XS top n 0 Om;rw[<-U]at hw;obtain⟨r0,ζ⟩:=hw.head;have R:=xX top n 0;rw[<-U]at R;simp only[go_sem];refine wp_loop (α:=Nat × N_ × PH × PH) (λ_=>cyF (DB l) o1 o2 q n) (λx=>x.2.2.2) (λx=>W3 J u top n o1 o2 q x.1 x.2.1 x.2.2.1 x.2.2.2) (λx=>Z' u-x.1) (0,axI 0 n,O,H.set q (.rows 1 (aT (cA (axI 0 n))))) ?_ (by unfold cyF;exact Lq) b_ ?_;exact⟨(by simp only;rw[ζ];simp),hw,List.length_range',(λx hx=>by rw[List.mem_range'_1]at hx;omega),X,PH.le_trans w (PH.UZ _ hq),g1,g2,β,(by simp only;rw[aP,aC a1];exact b1),(by simp only;rw[aP,aC a2];exact b2),(by simp only;rw[cE])⟩;clear b1 b2 g1 g2 β hq w X hw ζ ez;rintro⟨k,s,G,H⟩ A;have A:W3 J u top n o1 o2 q k s G H:=A;obtain⟨hlt,W,E,η,X,w,g1,g2,gq,b1,b2,bq⟩:=A;have F:u.drop k=u[k]::u.drop (k+1):=axB hlt;have τ:u[k]=s:=by obtain⟨r,M⟩:=W.head;rw[F]at M;injection M
 have V:dH H 1 (.osl q 1 0 n)=some (aT (cA s)):=by
  have:=(show bF H 1 (.osl q 1 0 (aT (cA s)).length) (aT (cA s))from .inr ⟨q,_,rfl,bq,avD _,avW⟩).view
  rwa[cJ,gZ,E]at this
 rw[show mu=(.seq (.seq (.region UH) (.cond (.tmp 26) .skip (.exit 2))) (.block 3 (.seq (.region UI) (.seq (.block 4 (.loop DR)) (.seq (.seq (.region DT) (.cond (.tmp 46) .ret .skip)) (.seq (.region NS) (.seq (.region NT) (.block 6 (.loop DS)))))))))from rfl];simp only[go_sem,UH,cyF];refine uY V (by unfold roomFor;rw[cJ,gZ];simp only[maxLen];omega) (λh=>?_) λ_ c hc=>?_;have:=congrArg List.length h;rw[cJ,gZ,E]at this;simp at this;omega;rw[cJ,gZ,E];have ι:G c=none:=by
  cases h:G c with
  |none=>rfl
  |some x=>rw[w c x h]at hc;cases hc
 have hy:=hY k hlt G c X ι;rw[τ]at hy;have ne:∀{b:Nat}{x:aV},H b=some x->¬b=c:=λhb e=>by rw[e,hc]at hb;cases hb
 refine⟨l,rfl,.inl ⟨_,G.set c (.rows 1 (aT (cA s))),_,Ev,?_,hy,?_⟩⟩;intro o x N;rw[aP]at N ⊢;split at N;rename_i e;rw[aF e];exact N;rename_i e;rw[aC e];exact w o x N;rintro _ H' ⟨rfl,Y⟩ κ;have keep:∀{b:Nat}{x:aV},H b=some x->G b=none->H' b=none/\((H.set c (.rows 1 (aT (cA s)))).over (G.set c (.rows 1 (aT (cA s)))) H') b=some x:=λ{b}{x} hb hg=>by
  have e:=ne hb;have h':H' b=none:=by
   cases h:H' b with
   |none=>rfl
   |some y =>have:=κ b y h (by rw[aP,aC e];exact hg);rw[aP,aC e,hb]at this;cases this
  refine⟨h',?_⟩;rw[jV,h'];simp only[aP,aC e,hg,hb]
 obtain⟨k1,d1⟩:=keep b1 g1;obtain⟨k2,d2⟩:=keep b2 g2;obtain⟨kq,dq⟩:=keep bq gq;have S:H'.le ((H.set c (.rows 1 (aT (cA s)))).over (G.set c (.rows 1 (aT (cA s)))) H'):=λo x N=>by rw[jV,N]
 generalize(H.set c (.rows 1 (aT (cA s)))).over (G.set c (.rows 1 (aT (cA s)))) H'=H2 at *
 have w1:i_.wrap ((n:Int)-1)=(n:Int)-1:=wrap_i64 Om Om;simp only[go_sem,UI,d1,w1];refine Si (n:=n) (top:=top) (o1:=o1) (o2:=o2) (q:=q) (y:=DB l) (s:=s) E hn ht Om d1 d2 dq (by unfold cyF;exact Lq) λm hm K γ=>?_;by_cases m0:m=0;subst m0;have ρ:qY top s=none:=QE λi hi=>by have:=K i hi (auY _);omega
 have Z:k+1=Z' u:=by have:=congrArg List.length (W.done ρ);rw[awZ,avG]at this;omega
 simp only[go_sem,cyF,DT,show((0:Nat):Int)-1<0 by omega];exact bC (vs:=[]) (.inr rfl) H' rfl S ⟨H',by rw[<-Z];exact Y,b_⟩;obtain⟨j,rfl⟩:∃j,m=j+1:=⟨m-1,by omega⟩;have B:j<Z' s:=Om;have ο:(j:Int)<(n:Nat):=Om;have e0:(((j+1:Nat):Int)-1)=(j:Int):=Om;have δ:=Gn (n:=top) (s:=s) j B (λi hi ξ=>by have:=K i hi ξ;omega) (by have:=γ (Nat.succ_pos _) B;simp only[Nat.add_sub_cancel]at this;omega);rw[E]at δ;have ψ:=η s[j] (avB B);have μ:=AR B;have ν:j<(aT (cA s)).length:=by rw[cJ,gZ];exact B
 have w2:i_.wrap (((s[j]:Nat):Int)+1)=((s[j]+1:Nat):Int):=eC Om;have ε:=agR (s:=s) (j:=j) (y:=s[j]+1) B;simp only[go_sem,cyF,DT,e0,show ¬(j:Int)<0 by omega,NS,dq,μ,ν,ο,avK,w2,io,ε,NT,wZz j];refine aeA (n:=n) (o1:=o1) (o2:=o2) (q:=q) (j:=j) (x:=s[j]+1) (y:=DB l) (s:=s) E hn Om Om (by rw[aP,aC a1];exact d1) a1 (by rw[cE]) (by unfold cyF;exact Lq) ?_;rw[PH.set_set];have auG:k+1<Z' u/\rY top (s.take j++axI (s[j]+1) (n-j)) (u.drop (k+1)):=by
  obtain⟨r,M,θ⟩:=W.next δ;rw[F]at M;injection M with _ M
  rw[M];refine⟨?_,θ⟩;obtain⟨r2,σ⟩:=θ.head;have:=congrArg List.length M;rw[σ,awZ,awK]at this;omega
 have υ:W3 J u top n o1 o2 q (k+1) (s.take j++axI (s[j]+1) (n-j)) H' (H2.set q (.rows 1 (aT (cA (s.take j++axI (s[j]+1) (n-j)))))):={
     lt:=auG.1
     walk:=auG.2
     len:=by simp;omega
     rng:=λx hx=>by
      have h2:=R (u[k+1]'auG.1) (avB _);have h3:u[k+1]'auG.1=s.take j++axI (s[j]+1) (n-j):=by obtain⟨r,M⟩:=auG.2.head;rw[axB auG.1]at M;injection M
      rw[h3]at h2;exact(h2.2.1 x hx).2
     j:=Y
     le:=λo x N=>by
      have:¬o=q:=λe=>by rw[e,kq]at N;cases N
      rw[aP,aC this];exact S o x N
     g1:=k1,g2:=k2,gq:=kq
     b1:=by rw[aP,aC a1];exact d1
     b2:=by rw[aP,aC a2];exact d2
     bq:=by rw[cE] }
 simp only[go_sem,cyF];exact aE (k+1,s.take j++axI (s[j]+1) (n-j),H',H2.set q (.rows 1 (aT (cA (s.take j++axI (s[j]+1) (n-j)))))) υ sO_ Lq b_
def amP(f:aD)(set:I_):Prop:=Z' set<=16777216/\∀x∈set,0<=x/\x<(Z' f.atH:Nat)

def anS(down:I_)(d:Int):Bool:=decide (0<=d)&&down.contains d
def anT(down:I_)(d:Int):Bool:=decide (0<=d)&&!down.contains d
def arG(down row:I_):Bool:=row.any (anS down)
def agU(down row:I_):Nat:=row.countP (anT down)
def alF(f:aD)(e:Int)(down:I_)(v:Nat)(row:I_):Bool:=arG down row&&decide (((agU down row:Nat):Int)<(cT f v).k+e)
def anU(f:aD)(i:L2_)(e:Int)(down:I_)(n:Nat):Bool:=(auX n).all λv=>!alF f e down v (i.getD v [])
def Bs(f:aD)(i:L2_)(e:Int)(down:I_):Bool:=anU f i e down i.length
def MT:=bP [13,42] Proofs.Tryz.f57
def HR:=bV MT
def r9:=bP [2,19,20,42] Proofs.Tryz.f56
def cn:=bV r9
def P7:=bP [] Proofs.Tryz.f58
def zy:=bV P7
def gG:=bP [2,3,109,113] Proofs.Tryz.f26
def WG:aI:=(dY (aA gG 22) 88 6 (aA gG 24) (.region (aA gG 23)))
def WH:aI:=(dY (aA gG 19) 79 4 (aA gG 27) (sq (aA gG 20) (.seq (dD (aA gG 21) 6 WG) (sq (aA gG 25) (.cond (Tm 106) (.region (aA gG 26)) .skip)))))
def WI:aI:=(dY (aA gG 16) 72 2 (aA gG 29) (sq (aA gG 17) (.seq (dD (aA gG 18) 4 WH) (.region (aA gG 28)))))
def rz:aI:=(sq (aA gG 0) (kB (aA gG 1) 38 (aA gG 2) (kB (aA gG 3) 42 (aA gG 4) (sq (aA gG 5) (sq (aA gG 6) (.seq (dD (aA gG 7) 0 (dY (aA gG 8) 50 0 (aA gG 10) (.region (aA gG 9)))) (kB (aA gG 11) 63 (aA gG 12) (sq (aA gG 13) (sq (aA gG 14) (.seq (dD (aA gG 15) 2 WI) (sq (aA gG 30) .ret)))))))))))
def Cg:=bP [] Proofs.Tryz.f60
def rj:=bV Cg
def rA:=bP [2,44] Proofs.Tryz.f45
def jz:=aA rA 8
def WR:=aA rA 9
def WS:=aA rA 10
def RL:aI:=(sq (aA rA 0) (kB (aA rA 1) 10 (aA rA 2) (sq (aA rA 3) (.seq (dD (aA rA 4) 0 (dY (aA rA 5) 15 0 WR (dq (eH rA 0) (iH (aA rA 6) 34 (.region (aA rA 7)) (.region jz))))) (sq WS .ret)))))
def sa:=bP [3] Proofs.Tryz.f161
def cp:=bV sa
def ZI:=bP [2,41] Proofs.Tryz.f106
def WL:=bV ZI
def oG:=bP [2] Proofs.Tryz.f108
def RJ:aI:=(dY (aA oG 7) 27 2 (aA oG 10) (sq (aA oG 8) (.cond (Tm 49) (.region (aA oG 9)) .skip)))
def cx:aI:=(sq (aA oG 0) (kB (aA oG 1) 10 (aA oG 2) (sq (aA oG 3) (.seq (dD (aA oG 4) 0 (dY (aA oG 5) 18 0 (aA oG 11) (dD (aA oG 6) 2 RJ))) (sq (aA oG 12) .ret)))))
def Qi:=bP [2] Proofs.Tryz.f162
def Ac:=bV Qi
def RD:=bP [3,4] Proofs.Tryz.f44
def TG:=bV RD
def uV:=bP [3] Proofs.Tryz.f163
def WK:=aA uV 6
def cu:aI:=(sq (aA uV 0) (sq (aA uV 1) (.seq (dD (aA uV 2) 0 (dY (aA uV 3) 12 0 (aA uV 5) (dq (eH uV 0) (.cond (Tm 35) (.region (aA uV 4)) .skip)))) (sq WK .ret))))
def iQ:=bP [3,27,36,52,81,118,150] Proofs.Tryz.f107
def j2:aI:=(dY (aA iQ 8) 40 0 (aA iQ 11) (sq (aA iQ 9) (.cond (Tm 47) (.region (aA iQ 10)) .skip)))
def j3:aI:=(dY (aA iQ 16) 64 4 (aA iQ 19) (sq (aA iQ 17) (.cond (Tm 72) (.region (aA iQ 18)) .skip)))
def j4:aI:=(dY (aA iQ 13) 58 2 (aA iQ 22) (sq (aA iQ 14) (.seq (dD (aA iQ 15) 4 j3) (sq (aA iQ 20) (.cond (Tm 76) (.region (aA iQ 21)) .skip)))))
def j5:aI:=(dY (aA iQ 24) 96 6 (aA iQ 26) (dq (eH iQ 1) (.cond (Tm 113) (.region (aA iQ 25)) .skip)))
def RM:=aA iQ 30
def j7:=aA iQ 31
def HX:=aA iQ 32
def j6:aI:=(dY (aA iQ 28) 124 8 HX (sq (aA iQ 29) (sq RM (.cond (Tm 145) (.region j7) .skip))))
def Ai:aI:=(sq (aA iQ 0) (kB (aA iQ 1) 22 (aA iQ 2) (.seq (sq (aA iQ 3) (sq (aA iQ 4) (.cond (Tm 32) (sq (aA iQ 5) .ret) .skip))) (sq (aA iQ 6) (.seq (dD (aA iQ 7) 0 j2) (.seq (dD (aA iQ 12) 2 j4) (dq (eH iQ 0) (.seq (dD (aA iQ 23) 6 j5) (.seq (dD (aA iQ 27) 8 j6) (sq (aA iQ 33) .ret))))))))))
def nP:=bP [3,24,64] Proofs.Tryz.f59
def WW:aI:=(dY (aA nP 10) 49 2 (aA nP 12) (dq (eH nP 2) (.cond (Tm 60) (.region (aA nP 11)) .skip)))
def sv:aI:=(sq (aA nP 0) (kB (aA nP 1) 14 (aA nP 2) (kB (aA nP 3) 20 (aA nP 4) (sq (aA nP 5) (.seq (dD (aA nP 6) 0 (dY (aA nP 7) 28 0 (aA nP 8) (.draw (eH nP 0)))) (dq (eH nP 1) (.seq (dD (aA nP 9) 2 WW) (sq (aA nP 13) .ret))))))))
def sg:=bP [3] Proofs.Tryz.f27
def cw:=bV sg
theorem Ab(f:aD)(l:VF f)(d:Nat)(h:d<Z' f.atH)(level:Int)(y:0<=level)(A:level<=4) :
  cp.wp C (aW sa.res (aL (.j (dE f d level:Nat)))) (g_ [.agg f.cells,.j d,.j level]) .nil:=by
 simp only[go_sem,cp,sa,mF h,l.MN h];refine wp_loop (α:=Nat) (λk=>(((n_.set 2 (.j level)).set 3 (.aX f.cells)).set 7 (.j (upN f k (eJ f d))))) (λ_=>.nil) (λk=>k<=4-level.toNat) (λk=>4-level.toNat-k) 0 (auY _) (by(repeat' (first|exact d_|refine c_ ?_ ?_))<;>first|(simp only[go_sem,upN]<;>rfl)|rfl) a_ ?_;intro k B;obtain⟨i,x⟩:=CW l h (k:=k) Om;simp only[go_sem,gR i,wU i];by_cases hlt:k<4-level.toNat;have u:lvl f (upN f k (eJ f d))>level:=by rw[x];omega
 have w:0<upN f k (eJ f d):=by
  rcases axJ (upN f k (eJ f d))with e|e
  rw[e,l.root.2.1]at x;omega;exact e
 simp only[go_sem,u,gR i,qt i,l.ZE w i];exact aE (k+1) hlt Om (by(repeat' (first|exact d_|refine c_ ?_ ?_))<;>first|(simp only[go_sem,upN]<;>rfl)|rfl) a_;have u:¬lvl f (upN f k (eJ f d))>level:=by rw[x];omega
 have:k=4-level.toNat:=Om;subst this;simp only[go_sem,u];refine dN (.inr rfl) Ev ?_;rfl
structure ln(C:Ctx):Prop where
 valid:∀f:aD,f.Ok->aH C 67 [.agg f.cells] .nil (aL (.bool (cM f)))
 rZ:∀(f:aD)(d:Nat)(level:Int),VF f->d<Z' f.atH->0<=level->level<=4->aH C 88 [.agg f.cells,.int .i64 d,.int .i64 level] .nil (aL (.int .i64 (dE f d level:Nat)))
structure TN(C:Ctx):Prop extends ln C where
 fh:∀(f:aD)(v:Nat),VF f->v<Z' f.atJ->aH C 82 [.agg f.cells,.int .i64 v] .nil (aL (.int .i64 (fT f v)))
def soS(f:aD):Spec:=λname vs=>match name,vs with
 |88,[_,.int _ d,.int _ l]=>some ([],λ_=>aL (.int .i64 (dE f d.toNat l:Nat)))
 |82,[_,.int _ v]=>some ([],λ_=>aL (.int .i64 (fT f v.toNat)))
 |_,_=>none
theorem Ag(f:aD)(d:Nat)(l:Int):soS f 88 [.agg f.cells,.j d,.j l]=some ([],λ_=>aL (.j (dE f d l:Nat))):=rfl
theorem Tw{f:aD}(hV:VF f){n:Nat}(i:n<Z' f.atK):0<=lvl f n/\lvl f n<=4:=by
 rcases axJ n with e|e
 rw[e,hV.root.2.1];decide;have:=hV.dom n e i;omega
theorem Qj(L:ln C)(f:aD)(K:f.Ok)(dom:Int) :
  WL.wp C (aW ZI.res (cC (ints (MC f dom)))) (g_ [.agg f.cells,.j dom]) .nil:=by
 simp only[go_sem,WL,ZI];refine aB (L.valid f K) Sq ?_;unfold MC;cases N:cM f with
 |false =>simp only[go_sem,avP];rw[aC aZ];exact uU Ev
 |true=>
  have hV:=VF.of N;by_cases y:dom<0;simp only[go_sem,avH,y];rw[aC Om];exact uU Ev;by_cases E:dom>=(Z' f.atK:Nat);simp only[go_sem,avH,y,auW,E];rw[aC Om];exact uU Ev;obtain⟨n,rfl⟩:∃n:Nat,dom=n:=⟨dom.toNat,by omega⟩;have B:n<Z' f.atK:=Om;have F:=hV.small.atH;have l:=Tw hV B;simp only[go_sem,avH,y,auW,E];rw[aF Om];generalize hp:(λd=>decide ((dE f d (lvl f n):Nat)=n))=p;refine wp_loop (α:=T3_) (λt=>((((n_.set 1 (.j n)).set 2 (.aX f.cells)).set 5 (t.2.1)).set 6 (.j t.1))) (λt=>t.2.2) (λt=>t.1<=Z' f.atH/\bF t.2.2 1 t.2.1 (aT (pick t.1 p))) (λt=>Z' f.atH-t.1) (0,.aJ,.nil) ⟨auY _,.nil⟩ Lq a_ ?_;rintro⟨k,v,J⟩ ⟨M,u⟩;simp only at M u ⊢;simp only[go_sem,auW];by_cases hlt:k<Z' f.atH;have i:(k:Int)<(Z' f.atH:Nat):=Om;simp only[go_sem,i];refine bK .nil (soS f) a_ ?_;simp only[go_sem,gR B,wU B];refine cB (Ag f k (lvl f n)) (L.rZ f k (lvl f n) hV hlt l.1 l.2) Sq a_ ?_;have x:p k=decide ((dE f k (lvl f n):Nat)=n):=by rw[<-hp]
  have e:=Us k p;have A:(1:Nat)*1<=16777216:=by decide
  by_cases c:dE f k (lvl f n)=n;rw[aF (by rw[x];simp[c])]at e;simp only[go_sem,bN (show((dE f k (lvl f n):Nat):Int)=(n:Int) by omega),A];refine eX (src:=[[.j k]]) u Sq (by unfold roomFor;have:=Z2 k p;rw[cJ];simp only[avG,maxLen];omega) λv' H' w _=>?_;rw[pi,<-e]at w;simp only[go_sem,wZz k];exact aE (k+1,v',H') ⟨hlt,w⟩ sO_ Lq b_;rw[aC (by rw[x];simp[c])]at e;simp only[go_sem,bA (show((dE f k (lvl f n):Nat):Int)≠(n:Int) by omega),wZz k];rw[<-e]at u;exact aE (k+1,v,J) ⟨hlt,u⟩ sO_ Lq b_;have i:¬(k:Int)<(Z' f.atH:Nat):=Om;have:k=Z' f.atH:=Om;subst this;simp only[go_sem,i];exact MW u Sq
def d6(f:aD)(row:I_):Int:=match gO (kW f) row 0 with
 |some i=>i
 |none=>-1
theorem ahL(f:aD)(row:I_)(A:Z' row<=16777216):Ac.wp C (aW Qi.res (aL (.j (d6 f row)))) (g_ [.agg f.cells,ints row]) .nil:=by
 unfold d6;simp only[go_sem,Ac,Qi];refine wp_loop (α:=Nat) (λk=>(((n_.set 1 (ints row)).set 2 (.aX f.cells)).set 5 (.j k))) (λ_=>.nil) (λk=>k<=Z' row/\gO (kW f) row 0=gO (kW f) (row.drop k) k) (λk=>Z' row-k) 0 ⟨auY _,rfl⟩ Lq a_ ?_;rintro k ⟨y,i⟩;simp only[go_sem,auW];by_cases hlt:k<Z' row;have e:(k:Int)<(Z' row:Nat):=Om;have l:(row.map λx=>[PV.int .i64 x])[k]?=some [.j row[k]]:=by simp[hlt]
 rw[axB hlt,gO]at i;generalize row[k]=x at *
 simp only[go_sem,e];refine bK .nil cS a_ ?_;by_cases u:x < -1;rw[show kW f x=true from by unfold kW;rw[bG u];rfl,aF rfl]at i;simp only[go_sem,l,u];refine dN (.inr rfl) Ev ?_;rw[bL,i];by_cases w:x>=(Z' f.atH:Nat);rw[show kW f x=true from by unfold kW;rw[bG w,Bool.or_true],aF rfl]at i;simp only[go_sem,l,u,auW,w];refine dN (.inr rfl) Ev ?_;rw[bL,i];rw[show kW f x=false from by unfold kW;rw[bS u,bS w];rfl,aC aU]at i;simp only[go_sem,l,u,auW,w,wZz k];exact aE (k+1) ⟨hlt,i⟩ Om Lq b_;have e:¬(k:Int)<(Z' row:Nat):=Om;have:k=Z' row:=Om;subst this;rw[List.drop_length,gO]at i;simp only[go_sem,e];refine dN (.inr rfl) Ev ?_;rw[bL,i]
theorem afX{r e:Int}(h:0<=e):max 0 (min r e)=min (max r 0) e:=Om
theorem P8(f:aD)(room:I_){k:Nat}(h:k<Z' f.atH):(iE f room).take (k+1)=(iE f room).take k++[pH f room k]:=by
 have e:k<(iE f room).length:=by rw[rW];exact h
 rw[awP e,ju]
theorem Vy(valid:∀f:aD,f.Ok->aH C 67 [.agg f.cells] .nil (aL (.bool (cM f))))(f:aD)(O:f.Ok)(room:I_) :
  RL.wp C (aW rA.res (cC (ints (sO f room)))) (g_ [.agg f.cells,ints room]) .nil:=by
 simp only[go_sem,RL,rA];refine aB (valid f O) Sq ?_;unfold sO;cases S:cM f with
 |false =>simp only[go_sem,avP];exact uU Ev
 |true=>
  have hV:=VF.of S;have J:=hV.small.atH;have A:=rW f room;simp only[go_sem,avH];refine wp_loop (α:=T3_) (λt=>((((n_.set 1 (ints room)).set 2 (.aX f.cells)).set 5 (t.2.1)).set 6 (.j t.1))) (λt=>t.2.2) (λt=>t.1<=Z' f.atH/\bF t.2.2 1 t.2.1 (aT ((iE f room).take t.1))) (λt=>Z' f.atH-t.1) (0,.aJ,.nil) ⟨auY _,.nil⟩ Lq a_ ?_;rintro⟨k,v,M⟩ ⟨R,w⟩;simp only at R w ⊢;simp only[go_sem,auW];by_cases hlt:k<Z' f.atH;have e:(k:Int)<(Z' f.atH:Nat):=Om;obtain⟨K,he⟩:=hV.Ef hlt;have B:=hV.model _ (avB K);rw[he]at B;have y:(1:Nat)*1<=16777216:=by decide
  have i:=P8 f room hlt;have rest:∀(x:Int)(F:PF),x=pH f room k->((((((n_.set 1 (ints room)).set 2 (.aX f.cells)).set 5 (v)).set 6 (.j k)).set 7 (.j x)):PF).le F ->
    aI.wp C (.region jz) (fA 1 (fZ C (aI.wp C (.region WR)) (fL (λt:T3_=>((((n_.set 1 (ints room)).set 2 (.aX f.cells)).set 5 (t.2.1)).set 6 (.j t.1))) (λt=>t.2.2) (λt=>t.1<=Z' f.atH/\bF t.2.2 1 t.2.1 (aT ((iE f room).take t.1))) (λt=>Z' f.atH-t.1) (Z' f.atH-k) (fA 0 (fZ C (aI.wp C (.seq (.region WS) .ret)) (aW [.tmp 4] (cC (ints (iE f room))))))))) F M:=by
   intro x F U N;refine sT _ (λ_ _ _ _ a b=>Up.up a b) N ?_;simp only[go_sem,jz,y];refine eX (src:=[[.j x]]) w Sq (by unfold roomFor;rw[cJ,avN];simp only[avG,maxLen];omega) λv' H' l _=>?_;rw[pi,U,<-i]at l;simp only[go_sem,WR,wZz k];exact aE (k+1,v',H') ⟨hlt,l⟩ sO_ Lq b_
  simp only[aI.wp,go_sem]at rest;simp only[go_sem,e];refine bK .nil cS a_ ?_;simp only[go_sem,mF hlt,hV.MO hlt,yq K,he];by_cases c:Z' room=Z' f.atH;have u:k<Z' room:=Om;have E:(room.map λn=>[PV.int .i64 n])[k]?=some [.j room[k]]:=by simp[u]
  simp only[go_sem,auW,bN (Om:(Z' room:Int)=(Z' f.atH:Nat)),E,max_eq,Li];refine rest _ _ ?_ Lq;rw[pH,aF c,afX Om,avI,avF u,axK];simp only[go_sem,auW,bA (Om:(Z' room:Int)≠(Z' f.atH:Nat))];refine rest _ _ ?_ Lq;rw[pH,aC c];have e:¬(k:Int)<(Z' f.atH:Nat):=Om;have:k=Z' f.atH:=Om;subst this;rw[<-A,avW]at w;simp only[go_sem,e,WS];exact MW w Sq
theorem Ic(L:TN C)(f:aD)(e:f.Ok)(room:I_) :
  RL.wp C (aW rA.res (cC (ints (sO f room)))) (g_ [.agg f.cells,ints room]) .nil:=Vy L.valid f e room
theorem cq(f:aD)(hV:VF f)(p:cO)(hp:Fits p.atI)(d:Nat)(w:d<Z' f.atH) :
  TG.wp C (aW RD.res (aL (.bool (p.atI.contains ((mdl f d:Nat):Int))))) (g_ [.agg p.cells,.agg f.cells,.j d]) .nil:=by
 have y:Z' p.atI<=9223372036854775807:=hp;simp only[go_sem,TG,RD];refine wp_loop (α:=Nat) (λk=>((((n_.set 2 (.j d)).set 3 (.aX p.cells)).set 4 (.aX f.cells)).set 7 (.j k))) (λ_=>.nil) (λk=>k<=Z' p.atI/\p.atI.contains ((mdl f d:Nat):Int)=(p.atI.drop k).contains ((mdl f d:Nat):Int)) (λk=>Z' p.atI-k) 0 ⟨auY _,rfl⟩ Lq a_ ?_;rintro k ⟨A,l⟩;simp only[go_sem,auW];by_cases hlt:k<Z' p.atI
 ·have i:(k:Int)<(Z' p.atI:Nat):=Om;have u:(p.atI.map λx=>[PV.int .i64 x])[k]?=some [.j p.atI[k]]:=by simp[hlt]
  rw[axB hlt,List.contains_cons]at l;have e:(p.atI[k]==((mdl f d:Nat):Int))=(((mdl f d:Nat):Int)==p.atI[k]):=BEq.comm;simp only[go_sem,i];refine bK .nil cS a_ ?_;cases c:((mdl f d:Nat):Int)==p.atI[k]with
  |true =>rw[c]at e;rw[c,Bool.true_or]at l;simp only[go_sem,u,mF w,hV.MO w,e];refine dN (.inr rfl) Ev ?_;rw[bL,l]
  |false =>rw[c]at e;rw[c,Bool.false_or]at l;simp only[go_sem,u,mF w,hV.MO w,e,wZz k];exact aE (k+1) ⟨hlt,l⟩ Om Lq b_
 have i:¬(k:Int)<(Z' p.atI:Nat):=Om;have:k=Z' p.atI:=Om;subst this;rw[List.drop_length]at l;simp only[go_sem,i];refine dN (.inr rfl) Ev ?_;rw[bL,l];rfl
theorem ai{p:Int->Bool}{xs:I_}{k:Nat}(h:k<Z' xs):(xs.take (k+1)).countP p=(xs.take k).countP p+if p xs[k]then 1 else 0:=by
 rw[awP h,List.countP_append];by_cases hp:p xs[k]<;>simp[List.countP_cons,hp]
theorem Vl(L:ln C)(f:aD)(hV:VF f)(row:I_)(M:BE f row)(n:Nat)(F:n<Z' f.atK) :
  cu.wp C (aW uV.res (aL (.j (row.countP (lP f n):Nat)))) (g_ [.agg f.cells,ints row,.j n]) .nil:=by
 have K:=M.len;have w:=Tw hV F;simp only[go_sem,cu,uV];refine wp_loop (α:=Nat) (λk=>(((((n_.set 1 (ints row)).set 2 (.j n)).set 3 (.aX f.cells)).set 7 (.j ((row.take k).countP (lP f n):Nat))).set 8 (.j k))) (λ_=>.nil) (λk=>k<=Z' row) (λk=>Z' row-k) 0 (auY _) Lq a_ ?_;intro k R;simp only[go_sem,auW];by_cases hlt:k<Z' row;have i:(k:Int)<(Z' row:Nat):=Om;have A:(row.map λx=>[PV.int .i64 x])[k]?=some [.j row[k]]:=by simp[hlt]
 have S:=M.at_ _ (avB hlt);have y:=ai (p:=lP f n) hlt;have O:(row.take k).countP (lP f n)<=16777216:=by have:=List.countP_le_length (p:=lP f n) (l:=row.take k);rw[avN]at this;omega
 have u:lP f n row[k]=(decide (0<=row[k])&&decide (dE f row[k].toNat (lvl f n)=n)):=rfl;have fin:∀(c:Nat)(B:PF),(row.take (k+1)).countP (lP f n)=c->((((((n_.set 1 (ints row)).set 2 (.j n)).set 3 (.aX f.cells)).set 7 (.j c)).set 8 (.j (k+1:Nat))):PF).le B->fL (λk:Nat=>(((((n_.set 1 (ints row)).set 2 (.j n)).set 3 (.aX f.cells)).set 7 (.j ((row.take k).countP (lP f n):Nat))).set 8 (.j k))) (λ_=>.nil) (λk=>k<=Z' row) (λk=>Z' row-k) (Z' row-k) (fA 0 (fZ C (aI.wp C (.seq (.region WK) .ret)) (aW [.tmp 6] (aL (.j (row.countP (lP f n):Nat)))))) .normal B .nil:=
  λc B e h=>aE (k+1) hlt Om (by rw[e];exact h) b_
 generalize(row.take k).countP (lP f n)=c at *
 generalize row[k]=x at *
 simp only[go_sem,i];refine bK .nil (soS f) a_ ?_;by_cases E:x>=0;obtain⟨d,rfl⟩:∃d:Nat,x=d:=⟨x.toNat,by omega⟩;have N:d<Z' f.atH:=Om;rw[bG (Om:(0:Int)<=d),avR,axA]at u;rw[u]at y;simp only[go_sem,A,E,gR F,wU F];refine cB (Ag f d (lvl f n)) (L.rZ f d (lvl f n) hV N w.1 w.2) Sq a_ ?_;by_cases J:dE f d (lvl f n)=n;rw[bG J,aF rfl]at y;simp only[go_sem,bN (show((dE f d (lvl f n):Nat):Int)=(n:Int) by omega),wZz c,wZz k];exact fin (c+1) _ y Lq;rw[bS J,aC aU,awQ]at y;simp only[go_sem,bA (show((dE f d (lvl f n):Nat):Int)≠(n:Int) by omega),wZz k];exact fin c _ y Lq;rw[bS (show ¬0<=x from E),avJ]at u;rw[u,aC aU,awQ]at y;simp only[go_sem,A,E,wZz k];exact fin c _ y Lq;have i:¬(k:Int)<(Z' row:Nat):=Om;have:k=Z' row:=Om;subst this;simp only[go_sem,i,WK,avW];refine dN (.inr rfl) Ev ?_;rfl
theorem Ym{xs:I_}{k:Nat}{d:Int}(h:k<Z' xs):(xs.take (k+1)).contains d=((xs.take k).contains d||decide (xs[k]=d)):=by
 rw[Bool.eq_iff_iff];rw[ayY,awP h,awH,awL,Bool.or_eq_true,ayY,dT_];exact⟨λh=>h.imp id Eq.symm,λh=>h.imp id Eq.symm⟩
theorem ahJ(l:I_)(A:Z' l<=1000000000000000)(x:Int):zy.wp C (aW P7.res (aL (.bool (l.contains x)))) (g_ [ints l,.j x]) .nil:=by
 simp only[go_sem,zy,P7];refine wp_loop (α:=Nat) (λk=>(((n_.set 0 (ints l)).set 1 (.j x)).set 5 (.j k))) (λ_=>.nil) (λk=>k<=Z' l/\(l.take k).contains x=false) (λk=>Z' l-k) 0 ⟨auY _,by simp⟩ Lq a_ ?_;rintro k ⟨y,u⟩;simp only[go_sem,auW];by_cases hlt:k<Z' l;have e:(k:Int)<(Z' l:Nat):=Om;have i:(l.map λn=>[PV.int .i64 n])[k]?=some [.j l[k]]:=by simp[hlt]
 have w:=Ym (d:=x) hlt;by_cases c:l[k]=x;simp only[go_sem,e,i,bN c];refine cL ?_;rw[bL];exact congrArg PV.bool (ayY.2 (c ▸ avB hlt)).symm;simp only[go_sem,e,i,bA c,wZz k];exact aE (k+1) ⟨hlt,by rw[w,u];simp[c]⟩ Om Lq b_;have e:¬(k:Int)<(Z' l:Nat):=Om;have:k=Z' l:=Om;subst this;rw[avW]at u;simp only[go_sem,e];refine cL ?_;rw[bL,u]

def uo:=bP [1] Proofs.Tryz.f93
def dw:=bV uo
def ZV:=bP [] Proofs.Tryz.f141
def XZ:=bV ZV
def jU:=bP [1] Proofs.Tryz.f90
def kx:=aA jU 17
def SN:aI:=(dY (aA jU 18) 111 6 (aA jU 20) (.region (aA jU 19)))
def ky:=aA jU 21
def kr:aI:=(dY (aA jU 15) 90 4 ky (sq (aA jU 16) (dD kx 6 SN)))
def ku:aI:=(dY (aA jU 13) 85 2 (aA jU 22) (dD (aA jU 14) 4 kr))
def kw:aI:=(dY (aA jU 24) 141 8 (aA jU 27) (sq (aA jU 25) (.cond (Tm 148) (sq (aA jU 26) .ret) .skip)))
def kz:=aA jU 28
def A3:aI:=(sq (aA jU 0) (sq (aA jU 1) (kB (aA jU 2) 41 (aA jU 3) (.seq (dD (aA jU 4) 0 (dY (aA jU 5) 44 0 (aA jU 8) (sq (aA jU 6) (.cond (Tm 66) (sq (aA jU 7) .ret) .skip)))) (.seq (sq (aA jU 9) (dq (eH jU 0) (.cond (Tm 80) (sq (aA jU 10) .ret) .skip))) (sq (aA jU 11) (.seq (dD (aA jU 12) 2 ku) (.seq (dD (aA jU 23) 8 kw) (sq kz .ret)))))))))
def Ro:=bP [] Proofs.Tryz.f147
def A4:=bV Ro
def NE:=bP [] Proofs.Tryz.f87
def IE:=bV NE
def um:=bP [] Proofs.Tryz.f88
def du:=bV um
def SO:=bP [7] Proofs.Tryz.f94
def TI:=bV SO
def Rm:=bP [6,7] Proofs.Tryz.f95
def A2:=bV Rm
def ul:=bP [] Proofs.Tryz.f140
def dt:=bV ul
def dO:=bP [1] Proofs.Tryz.f41
def SP:aI:=(dY (aA dO 6) 61 0 (aA dO 9) (sq (aA dO 7) (.region (aA dO 8))))
def SQ:aI:=(dY (aA dO 11) 91 2 (aA dO 15) (sq (aA dO 12) (sq (aA dO 13) (.region (aA dO 14)))))
def SS:=aA dO 18
def FC:aI:=(dY (aA dO 19) 169 4 (aA dO 22) (sq (aA dO 20) (sq (aA dO 21) (.draw (eH dO 0)))))
def SU:=aA dO 23
def FD:aI:=(dY (aA dO 24) 227 6 (aA dO 28) (sq (aA dO 25) (sq (aA dO 26) (.region (aA dO 27)))))
def SV:=aA dO 29
def SR:aI:=(dY (aA dO 37) 344 12 (aA dO 38) (.draw (eH dO 2)))
def FF:aI:=(dY (aA dO 35) 329 10 (aA dO 39) (dq (eH dO 1) (dD (aA dO 36) 12 SR)))
def SW:=aA dO 40
def FG:aI:=(dY (aA dO 30) 278 8 SW (sq (aA dO 31) (sq (aA dO 32) (sq (aA dO 33) (dD (aA dO 34) 10 FF)))))
def SX:=aA dO 41
def FH:aI:=(dY (aA dO 42) 368 14 (aA dO 44) (sq (aA dO 43) (.draw (eH dO 3))))
def SY:=aA dO 45
def dx:aI:=(sq (aA dO 0) (kB (aA dO 1) 53 (aA dO 2) (sq (aA dO 3) (sq (aA dO 4) (.seq (dD (aA dO 5) 0 SP) (.seq (dD (aA dO 10) 2 SQ) (sq (aA dO 16) (sq (aA dO 17) (.seq (dD SS 4 FC) (.seq (dD SU 6 FD) (.seq (dD SV 8 FG) (.seq (dD SX 14 FH) (sq SY .ret)))))))))))))
def uk:=bP [8] Proofs.Tryz.f89
def dp:=bV uk

theorem UV{t:Nat}{b i:Bool}{F:PF}{H:PH}(h:F t=some (.bool b))(e:b=i):aW [.tmp t] (aL (.bool i)) .ret F H:=by
 subst e;exact bC (.inr rfl) .nil (vs:=[.bool b]) (by rw[nZ,rP,h,tK]) a_ ⟨rfl,rfl⟩
theorem E7{f:aD}{atW:Int}(h:CL f atW=true):VF f/\0<=atW/\atW.toNat<Z' f.atL/\atW=(atW.toNat:Nat):=by
 unfold CL at h;simp only[avE,dT_]at h;exact⟨VF.of h.1,h.2.1,by omega,by omega⟩
theorem Tf{f:aD}{atW:Int}(h:CL f atW=true):mR f atW∈f.atL/\f.atL[atW.toNat]?=some (mR f atW):=by
 obtain⟨_,_,i,_⟩:=E7 h;have e:mR f atW=f.atL[atW.toNat]:=by simp[mR,avI,i]
 rw[e];exact⟨avB i,avF i⟩

theorem DN{m:Nat}(e:m<=1000):∀i,i<=1000->(eO m i).natAbs<=1000^i
 |0,_=>avD _
 |i+1,h=>by have l:=DN e i Om;have hb:((m:Int)-(i:Int)).natAbs<=1000:=Om;rw[eO,Int.natAbs_tdiv,Int.natAbs_mul,axE];exact avZ (ayL _ _) (ayA l hb)
theorem DO{m:Nat}(l:m<=1000){i:Nat}(hi:i<=3):-1000000000<=eO m i/\eO m i<=1000000000:=by
 have h:=DN l i Om;have:1000^i<=1000^3:=ayU Om hi;have e:(1000:Nat)^3=1000000000:=by decide
 omega
theorem Nk(m n:Nat)(w:m<=1000)(O:n<=3) :
  TZ.wp C (aW YG.res (aL (.j (max (eO m n) 0)))) (g_ [.j m,.j n]) .nil:=by
 simp only[go_sem,TZ,YG];refine wp_loop (α:=Nat) (λk=>((((n_.set 0 (.j m)).set 1 (.j n)).set 5 (.j (eO m k))).set 6 (.j k))) (λ_=>.nil) (λk=>k<=n) (λk=>n-k) 0 (auY _) (by(repeat' (first|exact d_|refine c_ ?_ ?_))<;>first|(simp only[go_sem,eO]<;>rfl)|rfl) a_ ?_;intro k N;simp only[go_sem];by_cases hlt:k<n;have l:(k:Int)<(n:Nat):=Om;obtain⟨b1,b2⟩:=DO w (i:=k) Om;have E:=DN w k Om;have hb:((m:Int)-(k:Int)).natAbs<=1000:=Om;have u:=ayA (avZ E (ayU Om (Om:k<=2))) hb;rw[<-Int.natAbs_mul]at u;have e:(1000:Nat)^2*1000=1000000000:=by decide
 have F:i_.wrap ((m:Int)-(k:Int))=(m:Int)-k:=wrap_i64 Om Om;have J:i_.wrap (eO m k*((m:Int)-(k:Int)))=eO m k*((m:Int)-k):=wrap_i64 Om Om;have K:i_.wrap ((k:Int)+1)=(k:Int)+1:=wrap_i64 Om Om;have y:¬((k:Int)+1)=0:=Om;obtain⟨A,B⟩:=DO w (i:=k+1) Om;have hq:eO m (k+1)=axQ (eO m k*((m:Int)-k)) ((k:Int)+1):=by rw[eO]
 rw[hq]at A B;have M:i_.wrap (axQ (eO m k*((m:Int)-k)) ((k:Int)+1))=axQ (eO m k*((m:Int)-k)) ((k:Int)+1):=wrap_i64 Om Om;simp only[go_sem,l,F,J,K,y,M]
 try simp only[go_sem,wZz k]
 exact aE (k+1) hlt Om (lE1 hq) a_;have l:¬(k:Int)<(n:Nat):=Om;have:k=n:=Om;subst this;simp only[go_sem,l];have x:(if eO m k<0 then 0 else eO m k)=max (eO m k) 0:=by split<;>omega
 rw[x];refine dN (.inr rfl) Ev ?_;rfl
def zG(k:Nat)(b:Bool):Nat:=if b then k+1 else k
theorem BF{α:Type}(q:α->Bool)(l:List α){i:Nat}(h:i<Z' l):(l.take (i+1)).countP q=zG ((l.take i).countP q) (q l[i]):=by
 rw[awP h,List.countP_append];unfold zG;cases hq:q l[i]<;>simp[hq]
def IP(sc:L2_)(set:I_)(m:Int)(n i:Nat):PF:=((((((n_.set 1 (ints set)).set 2 (.int .i64 m)).set 7 (.int .i64 n)).set 14 (lay sc)).set 15 (.int .i64 (Z' sc:Nat))).set 16 (.int .i64 i))
def qE(sc:L2_)(set:I_)(m:Int)(n i:Nat)(b:Nat)(s:I_)(j:Nat):PF:=((((((((((n_.set 1 (ints set)).set 2 (.int .i64 m)).set 7 (.int .i64 n)).set 14 (lay sc)).set 15 (.int .i64 (Z' sc:Nat))).set 16 (.int .i64 i)).set 10 (.int .i64 b)).set 20 (ints s)).set 21 (.int .i64 (Z' s:Nat))).set 22 (.int .i64 j))
theorem Nl{K:bZ}[Up K](sc:L2_)(set:I_)(B:Z' set<=1000000000000000)(m:Int)(n i b:Nat)(s:I_)(j:Nat)(d:Int)(k:Nat)(x:k<=fP set d){F:PF}{H:PH}
  (y:(((qE sc set m n i b s j).set 13 (.j d)).set 11 (.j k)).le F)
  (w:K (.exit 4) (((qE sc set m n i b s j).set 13 (.j d)).set 11 (.j (fP set d:Nat))) H) :
  aI.wp C (.loop CD) K F H:=by
 refine wp_loop (α:=Nat) (λk=>((qE sc set m n i b s j).set 13 (.j d)).set 11 (.j k)) (λ_=>H) (λk=>k<=fP set d) (λk=>fP set d-k) k x y b_ ?_;intro k x;have A:=xd set d;by_cases hlt:k<Z' set;have l:(k:Int)<(Z' set:Nat):=Om;have u:(set.map λn=>[PV.int .i64 n])[k]?=some [.j set[k]]:=by simp[hlt]
 by_cases c:k<fP set d;have hb:set[k]<d:=RE set d c;simp only[go_sem,CD,qE,auW,l,u,hb,wZz k];exact aE (k+1) c Om Lq b_;have e:k=fP set d:=Om;subst e;have hb:¬set[fP set d]<d:=Mf set d hlt;simp only[go_sem,CD,qE,auW,l,u,hb];refine Up.up ?_ w;unfold qE;exact Lq;have l:¬(k:Int)<(Z' set:Nat):=Om;have e:k=fP set d:=Om;subst e;simp only[go_sem,CD,qE,auW,l];refine Up.up ?_ w;unfold qE;exact Lq
theorem Sa{K:bZ}[Up K](sc:L2_)(set:I_)(W:Z' set<=1000000000000000)(Y:set.Pairwise (· < ·))(m:Int)(n i:Nat)(s:I_)(Z:Z' s<=1000000000000000)(J:s.Pairwise (· < ·)){F:PF}{H:PH}
  (N:((qE sc set m n i 0 s 0).set 11 (.j 0)).le F)
  (O:K (.exit 2) ((IP sc set m n i).set 10 (.j (kA set s:Nat))) H) :
  aI.wp C (.loop IH) K F H:=by
 refine wp_loop (α:=Nat × Nat) (λt=>(qE sc set m n i ((s.take t.1).countP λd=>set.contains d) s t.1).set 11 (.j t.2)) (λ_=>H) (λt=>t.1<=Z' s/\∀d∈s.drop t.1,t.2<=fP set d) (λt=>Z' s-t.1) (0,0) ⟨auY _,λd _=>auY _⟩ (by simpa using N) b_ ?_;rintro⟨j,k⟩ ⟨V,M⟩;simp only at V M;by_cases hlt:j<Z' s;have w:(j:Int)<(Z' s:Nat):=Om;have B:(s.map λn=>[PV.int .i64 n])[j]?=some [.j s[j]]:=by simp[hlt]
 have l:=BF (λd=>set.contains d) s hlt;have u:s.drop j=s[j]::s.drop (j+1):=axB hlt;have E:k<=fP set s[j]:=M _ (by rw[u];exact List.mem_cons_self ..);have auG:∀d∈s.drop (j+1),fP set s[j]<=fP set d:=by intro d S;have:=J.sublist (List.drop_sublist j s);rw[u,List.pairwise_cons]at this;exact Vm set (Int.le_of_lt (this.1 d S))
 have e:=aaV Y s[j];have R:(s.take j).countP (λd=>set.contains d)<=j:=avZ List.countP_le_length (by rw[avN];omega);generalize(s.take j).countP (λd=>set.contains d)=b at *
 generalize s[j]=d at *
 simp only[go_sem,IH,qE,w,B];have sk:=λ{K:bZ} [Up K] {F:PF}=>Nl (C:=C) (K:=K) sc set W m n i b s j d k E (F:=F) (H:=H);refine sk (by unfold qE;exact Lq) ?_;have X:=xd set d;by_cases c:fP set d<Z' set;have y:((fP set d:Nat):Int)<(Z' set:Nat):=Om;have x:(set.map λn=>[PV.int .i64 n])[fP set d]?=some [.j set[fP set d]]:=by simp[c]
 have U:set.getD (fP set d) 0=set[fP set d]:=by simp[avI,c]
 rw[bG c,avR,U]at e;by_cases A:set[fP set d]=d;rw[bG A]at e;rw[e]at l;simp only[go_sem,qE,auW,y,x,bN A,wZz b,wZz j];exact aE (j+1,fP set d) ⟨hlt,auG⟩ sO_ (by(repeat' (first|exact d_|refine c_ ?_ ?_))<;>first|(simp only[go_sem,l,zG]<;>rfl)|rfl) b_;rw[bS A]at e;rw[e]at l;simp only[go_sem,qE,auW,y,x,bA A,wZz j];exact aE (j+1,fP set d) ⟨hlt,auG⟩ sO_ (by(repeat' (first|exact d_|refine c_ ?_ ?_))<;>first|(simp only[go_sem,l,zG]<;>rfl)|rfl) b_;have y:¬((fP set d:Nat):Int)<(Z' set:Nat):=Om;rw[bS c,avJ]at e;rw[e]at l;simp only[go_sem,qE,auW,y,wZz j];exact aE (j+1,fP set d) ⟨hlt,auG⟩ sO_ (by(repeat' (first|exact d_|refine c_ ?_ ?_))<;>first|(simp only[go_sem,l,zG]<;>rfl)|rfl) b_;have w:¬(j:Int)<(Z' s:Nat):=Om;have:j=Z' s:=Om;subst this;simp only[go_sem,IH,qE,w,avW];refine Up.up ?_ O;unfold IP kA;exact Lq
theorem Xj(sc:L2_)(E:Z' sc<=1000000000000000)(x:∀s∈sc,Z' s<=1000000000000000/\s.Pairwise (· < ·))(set:I_)(B:Z' set<=1000000000000000)(y:set.Pairwise (· < ·))(m:Int) :
  mj.wp C (aW mV.res (aL (.j (pK sc set m:Nat)))) (g_ [lay sc,ints set,.j m]) .nil:=by
 simp only[go_sem,mj,mV,auW];refine wp_loop (α:=Nat) (λi=>IP sc set m ((sc.take i).countP λs=>decide (((kA s set:Nat):Int)>m)) i) (λ_=>.nil) (λi=>i<=Z' sc) (λi=>Z' sc-i) 0 (auY _) (by unfold IP;exact Lq) a_ ?_;intro i hi;by_cases hlt:i<Z' sc;have l:(i:Int)<(Z' sc:Nat):=Om;have w:(sc.map λr=>[ints r])[i]?=some [ints sc[i]]:=by simp[hlt]
 have e:=BF (λs=>decide (((kA s set:Nat):Int)>m)) sc hlt;obtain⟨k1,k2⟩:=x sc[i] (avB hlt);have A:(sc.take i).countP (λs=>decide (((kA s set:Nat):Int)>m))<=i:=avZ List.countP_le_length (by rw[avN];omega);generalize(sc.take i).countP (λs=>decide (((kA s set:Nat):Int)>m))=n at *
 generalize sc[i]=s at *
 have u:kA set s=kA s set:=xn (y.imp (λh=>by omega)) (k2.imp (λh=>by omega));simp only[go_sem,IP,l,w,auW];have one:=λ{K:bZ} [Up K] {F:PF} {H:PH}=>Sa (C:=C) (K:=K) sc set B y m n i s k1 k2 (F:=F) (H:=H);refine one (by unfold qE;exact Lq) ?_;rw[u];by_cases c:((kA s set:Nat):Int)>m;rw[bG c]at e;simp only[go_sem,IP,c,wZz n,wZz i];exact aE (i+1) hlt Om (by(repeat' (first|exact d_|refine c_ ?_ ?_))<;>first|(simp only[go_sem,e,zG]<;>rfl)|rfl) a_;rw[bS c]at e;simp only[go_sem,IP,c,wZz i];exact aE (i+1) hlt Om (by(repeat' (first|exact d_|refine c_ ?_ ?_))<;>first|(simp only[go_sem,e,zG]<;>rfl)|rfl) a_;have l:¬(i:Int)<(Z' sc:Nat):=Om;have:i=Z' sc:=Om;subst this;rw[avW];simp only[go_sem,IP,l];refine dN (.inr rfl) Ev ?_;rfl
def Kept(f:aD)(p:cO)(xs:I_):Prop:=∀i,i<Z' f.atK->eN f p i>0->kX f xs i<=eN f p i
theorem Kept.nil(f:aD)(p:cO):Kept f p []:=λi _ h=>by
 have:kX f [] i=0:=by unfold kX;split<;>simp
 omega
def GI(f:aD)(p:cO)(xs:I_)(d:Nat)(k:Nat):Prop:=∀i,i<Z' f.atK->4-(k:Int)<lvl f i->eN f p i>0->kX f (xs++[(d:Int)]) i<=eN f p i
theorem GI.zero{f:aD}(hV:VF f){p:cO}(xs:I_)(d:Nat):GI f p xs d 0:=λi hi h _=>by
 have:=hV.qF hi;omega
theorem GI.done{f:aD}(hV:VF f){p:cO}(u:eN f p 0<=0){xs:I_}{d:Nat}(h:GI f p xs d 4):Kept f p (xs++[(d:Int)]):=λi hi l=>by
 have:=hV.qF hi;by_cases e:i=0;subst e;omega;exact h i hi Om l
theorem GI.next{f:aD}(hV:VF f){p:cO}{xs:I_}{d k:Nat}(y:d<Z' f.atH)(A:k<4)(w:Kept f p xs)(h:GI f p xs d k)(x:eN f p (upN f k (eJ f d))>0->kX f (xs++[(d:Int)]) (upN f k (eJ f d))<=eN f p (upN f k (eJ f d))):GI f p xs d (k+1):=λi hi B u=>by
 by_cases e:4-(k:Int)<lvl f i;exact h i hi e u;have l:lvl f i=4-(k:Int):=Om;by_cases c:i=upN f k (eJ f d);subst c;exact x u;have:kX f (xs++[(d:Int)]) i=kX f xs i:=by
  unfold kX;split;rfl;rw[List.countP_append,List.countP_cons,List.countP_nil];have:lP f i (d:Int)=false:=by unfold lP dE;rw[l,show(4-(4-(k:Int)).toNat)=k by omega,axA];simp[show ¬upN f k (eJ f d)=i from λh=>c h.symm]
  rw[this];simp
 rw[this];exact w i hi u
theorem Sz{q:Nat->Bool}{n:Nat}:∀{i:Nat},i<n->q i=true->((auX n).filter q)[(auX i).countP q]?=some i:=by
 intro i hi hq;have e:auX n=auX i++(i::axI (i+1) (n-i-1)):=by rw[List.range_eq_range',List.range_eq_range',show i::axI (i+1) (n-i-1)=axI i (n-i-1+1)from rfl];have:=List.range'_append (s:=0) (m:=i) (n:=n-i-1+1) (step:=1);rw[Nat.one_mul,avK]at this;rw[this];congr 1;omega
 rw[e,List.filter_append,List.filter_cons_of_pos hq,List.countP_eq_length_filter,axR (avD _),axT];rfl
def InR(l:I_)(n:Nat):Prop:=∀x∈l,0<=x/\x<(n:Int)
def XT(f:aD)(e:L2_)(r:Int)(l:I_):Bool:=!l.isEmpty&&Bs f e r l
def Z6(f:aD)(u:L2_)(r:Int)(e:L2_)(d:Nat):L2_:=match e.findIdx? (λl=>Bs f u r (l++[(d:Int)]))with
 |some i=>e.set i (e.getD i []++[(d:Int)])
 |none=>e++[[(d:Int)]]
def ue(f:aD)(e:L2_)(r:Int):Nat->L2_
 |0=>[]
 |d+1=>Z6 f e r (ue f e r d) d
def R3(f:aD)(e:L2_)(r:Int):Bool:=(auX f.atH.length).all λd=>Bs f e r [(d:Int)]
theorem set_perm:∀(e:L2_) (i:Nat) (x:Int),i<Z' e->((e.set i (e.getD i []++[x])).flatten).Perm (e.flatten++[x])
 |[],i,x,h=>by cases h
 |l::e,0,x,_=>by simp only[azB,List.getD_cons_zero,azE,awB];exact axY.append_left _ List.perm_append_comm
 |l::e,i+1,x,h=>by have:=set_perm e i x (by simpa using h);simp only[List.set_cons_succ,List.getD_cons_succ,azE,awB];exact axY.append_left _ this
structure Dk(f:aD)(now:L2_)(r:Int)(n:Nat)(w:L2_):Prop where
 ok:∀l∈w,XT f now r l=true
 len:Z' w.flatten=n
 nd:w.flatten.Nodup
 rng:InR w.flatten n
theorem Dk.put{f:aD}{e:L2_}{r:Int}{n:Nat}{w:L2_}(h:Dk f e r n w)(B:Bs f e r [(n:Int)]=true):Dk f e r (n+1) (Z6 f e r w n):=by
 have A:∀u:L2_,u.flatten.Perm (w.flatten++[(n:Int)])->(∀l∈u,XT f e r l=true)->Dk f e r (n+1) u:=λu hp E=>by
  refine⟨E,by rw[hp.length_eq,auZ,h.len];rfl,hp.nodup_iff.2 ?_,λx F=>?_⟩;rw[ayC];refine⟨h.nd,by simp,λa B b hb=>?_⟩;rw[awL]at hb;subst hb;have:=h.rng a B;omega;have:=hp.mem_iff.1 F;rw[awH,awL]at this;rcases this with F|rfl
  have:=h.rng x F;omega;omega
 unfold Z6;split;rename_i i hi;obtain⟨hlt,hp,-⟩:=List.findIdx?_eq_some_iff_getElem.1 hi;refine A _ (set_perm w i n hlt) λl y=>?_;rcases azJ y with y|rfl
 exact h.ok l y;unfold XT;rw[avI,avF hlt,axK,hp];simp;refine A _ (by rw[List.flatten_append];simp) λl y=>?_;rw[awH,awL]at y;rcases y with y|rfl
 exact h.ok l y;unfold XT;rw[B];rfl
theorem Ax{f:aD}{e:L2_}{r:Int}(i:R3 f e r=true):∀d,d<=Z' f.atH->Dk f e r d (ue f e r d)
 |0,_=>⟨(λl h=>by cases h),rfl,.nil,λx h=>by cases h⟩
 |d+1,u=>(Ax i d Om).put (awA.1 i d (awG.2 Om))
end Go.PM
namespace Go.RO
open Go
def ins(x:Int):I_->I_
 |[]=>[x]
 |y::ys=>if y<x then y::ins x ys else if y=x then y::ys else x::y::ys
def srt(xs:I_):I_:=xs.mergeSort λx y=>decide (x<=y)
end Go.RO
namespace Go.PM
open Go Go.Na






def adD(c:UInt8)(n:Nat):List UInt8:=[c,UInt8.ofNat (97+n/26%26),UInt8.ofNat (97+n%26)]
def D7(ds:List cR)(level parent auE:Nat):List cR:=ds++[⟨adD 110 ds.length,(level:Nat),(parent:Nat),(auE:Nat),mL⟩]
theorem Ze(a b:Nat)(l:a<4294967296)(hb:b<4294967296):(mkT (a:Int) (b:Int)).Ok:=by
 rw[Lj];have e:=ayL a (avC a b);have i:=ayL b (avC a b);have k1:nl (a/avC a b)<=1:=(kU _ _).2 Om;have k2:nl (b/avC a b)<=1:=(kU _ _).2 Om;refine⟨bE _,bE _,?_,?_⟩;show(aM _).length<=_;rw[bJ];omega;show(aM _).length<=_;rw[bJ];omega
theorem E4{n:Nat}(h:n<=1000000):eI (n:Int):=by unfold eI;omega
def C3(ds:List cR):Prop:=∀x∈ds,x.atZ.Ok/\eI x.level/\eI x.parent
theorem C3.dom{ds:List cR}(h:C3 ds){level parent auE:Nat}(i:level<=1000)(l:parent<=1000):C3 (D7 ds level parent auE):=λx e=>by
 unfold D7 at e;rw[awH,awL]at e;rcases e with e|rfl
 exact h x e;exact⟨Ze 0 1 aU aU,E4 Om,E4 Om⟩
structure FM(f:aD):Prop where
 ok:f.Ok
 km:∀p∈f.atL,1<=p.k/\p.k<=2/\0<=p.m/\p.m<=2
 atH:Z' f.atH<=9
 pols:1<=Z' f.atL/\Z' f.atL<=2
 vols:∀x∈f.atJ,0<=x.atW/\x.atW<Z' f.atL
theorem FM.pol{f:aD}(h:FM f){v:Nat}(i:v<Z' f.atJ):DJ f v<Z' f.atL/\cT f v∈f.atL:=by
 have l:=h.vols _ (avB i);have u:DJ f v=(f.atJ[v]).atW.toNat:=by rw[DJ,getD_at i]
 have e:DJ f v<Z' f.atL:=Om;refine⟨e,?_⟩;unfold cT;rw[avI,avF e,axK];exact avB e
theorem FM.fh{f:aD}(h:FM f){v:Nat}(e:v<Z' f.atJ):1<=fT f v/\fT f v<=4:=by
 have:=h.km _ (h.pol e).2;unfold fT;omega
abbrev aoG(l:I_)(a:Nat):aV:=.rows 2 [[ints l,.int .i64 (a:Nat)]]
structure ME where
 o:Nat
 o4:Nat
 o5:Nat
 vols:Nat
abbrev ME.boxes(E:ME)(l:I_)(ext e i u w wp wv:PV)(a:Nat):List BX:=[(E.o5,flB ext e i u w wp wv),(E.o,aoG l a),(E.o4,flZ)]





def aqF(ds:List cR)(i:Nat)(d:cR):Prop:=∃e p u:Nat,d.name=adD 110 (i+1)/\d.level=e/\1<=e/\e<=4/\d.parent=p/\p<=i/\(lvs ds)[p]?=some ((e:Int)-1)/\d.auE=u/\1<=u/\u<=64/\d.atZ=mL
structure DV(ds:List cR):Prop where
 root:ds[0]?=some pM
 dom:∀i (hi:i+1<Z' ds),aqF ds i ds[i+1]
theorem DV.new{ds:List cR}(h:DV ds){level parent up:Nat}(y:1<=level)(A:level<=4)(hp:(lvs ds)[parent]?=some ((level:Int)-1))(E:1<=up)(F:up<=64) :
  DV (D7 ds level parent up)/\(lvs (D7 ds level parent up))[Z' ds]?=some (level:Int):=by
 have B:parent<Z' ds:=by
  have:=(awD.1 hp).1
  rwa[auW]at this
 unfold D7;refine⟨⟨by rw[axU Om];exact h.root,λi hi=>?_⟩,?_⟩;simp only[auZ,avG]at hi;by_cases hlt:i+1<Z' ds;rw[azM hlt];obtain⟨e,p,v,g1,g2,g3,g4,l,u,w,x⟩:=h.dom i hlt;exact⟨e,p,v,g1,g2,g3,g4,l,u,FW w,x⟩;have:i+1=Z' ds:=Om;rw[azK Om];simp only[List.getElem_singleton];exact⟨level,parent,up,by rw[this],rfl,y,A,rfl,by omega,FW hp,rfl,E,F,rfl⟩;unfold lvs;rw[avU,axR (by rw[auW];exact avD _),auW,axT];rfl




theorem aQ.store{H:PH}{B:List BX}{L:List LI}(h:aQ H B L)(i:Nat){q s n:Nat}{rows:P2_}(hi:L[i]?=some (.osl q s 0 n,s,rows))(k:Nat)(c:V_) :
  ∃rs,H q=some (.rows s rs)/\n<=Z' rs/\rs.take n=rows/\aQ (H.set q (.rows s (rs.set k c))) B (L.set i (.osl q s 0 n,s,rows.set k c)):=by
 obtain⟨rs,u,w,e,l⟩:=(h.own i hi).id rfl;injection w with _ _ _ x
 subst x;refine⟨rs,u,e,l,h.RX i hi (.inr ⟨q,rs.set k c,by rw[awS],by rw[cE],by rw[awS,awS];exact e,by rw[awS,List.take_set,l]⟩) (λp hp=>.inl hp) λp _ hp=>?_⟩;have:p≠q:=hp q rfl;rw[aP,aC this]

open Go Go.RowKit Go.Sort Go.Shelf Go.Proofs
section
variable {E:Env} {H:PH} {w:World}
theorem bY.Dv(hW:bY E H w){u:World}(y:w.heap.size<=u.heap.size)(hb:∀b,b<w.heap.size->u.heap[b]?=w.heap[b]?):bY E H u:=by
 refine⟨λb cs h=>?_,λo x h=>?_,λo n h=>?_⟩;obtain⟨e,ty,fr,i⟩:=hW.g b cs h;exact⟨e,ty,fr,(hb b (ayM.1 i).1).trans i⟩;obtain⟨e,i⟩:=hW.h o x h;exact⟨Nat.lt_of_lt_of_le e y,i.mono (.refl E) (hb o e)⟩;obtain⟨l,ty,fr,e,i⟩:=hW.s o n h;exact⟨l,ty,fr,(hb o (ayM.1 e).1).trans e,i⟩
theorem Ext.Dv{l:Env}{H':PH}{e i:World}(h:Ext E H w l H' e)(x:i.os=e.os)(A:i.tape=e.tape)(hp:i.output=e.output)(y:e.heap.size<=i.heap.size)
  (hb:∀b,b<e.heap.size->i.heap[b]?=e.heap[b]?):Ext E H w l H' i:=
 ⟨h.env,x.trans h.os,A.trans h.tape,hp.trans h.output,avZ h.size y,λb hlt u=>(hb b (Nat.lt_of_lt_of_le hlt h.size)).trans (h.block b hlt u),h.new,h.newG⟩
theorem Ol(hW:bY E H w){o off:Nat}{rs:P2_}{xs:I_}(K:H o=some (.rows 1 rs))(M:(rs.drop off).take xs.length=aT xs):Holds (Value.int .i64) w o off xs.toArray:=by
 obtain⟨-,y,ty,x,N,O,R,h5⟩:=hW.h o _ K;intro j J;have i:j<Z' xs:=by simpa using J
 have l:at2 rs (off+j) 0=some (.j xs[j]):=by
  have e:((rs.drop off).take xs.length)[j]?=(aT xs)[j]?:=by rw[M]
  rw[List.getElem?_take_of_lt i,ayR]at e;unfold at2;rw[e];simp[aT,i]
 obtain⟨u,A,e2,B⟩:=h5 _ 0 _ l;cases B;have F:xs.toArray[j]! = xs[j]:=by simp[i]
 refine⟨?_,?_⟩;simp only[World.cell?,x,Option.isSome_none,axH,if_false];rw[F];simpa using A;simp[World.frozen?,x]
theorem agY(hW:bY E H w){o:Nat}{xs ys:I_}(K:H o=some (.rows 1 (aT xs)))(V:Z' ys=Z' xs)(n:Nat)(os:Array Obj) :
  bY E (H.set o (.rows 1 (aT ys))) (grow (putRow (Value.int .i64) (Sort.ahead w n) o 0 ys.toArray) os)/\Ext E H w E (H.set o (.rows 1 (aT ys))) (grow (putRow (Value.int .i64) (Sort.ahead w n) o 0 ys.toArray) os):=by
 obtain⟨-,l,ty,B,S,U,N,h5⟩:=hW.h o _ K;have F:Z' xs<=l.size:=by simpa[aT]using N
 have O:nA E 1 (aT ys) (putCells (Value.int .i64) 0 ys.toArray l):=by
  refine⟨λr y=>?_,?_,λi j pv hp=>?_⟩;unfold aT at y;rw[avV]at y;obtain⟨n,-,rfl⟩:=y;rfl;simp[aT,putCells];omega
  ·unfold at2 aT at hp;rw[avO,azD]at hp;obtain⟨r,y,hp⟩:=hp;rw[avM]at y;obtain⟨m,J,rfl⟩:=y;have hi:=(awD.1 J).1;cases j with
   |succ j=>simp at hp
   |zero=>
    simp at hp;subst hp;refine⟨.int .i64 m,?_,rfl,.int _ _⟩;have R:i<l.size:=Om;simp only[ayG,awQ,putCells,Array.getElem?_mapIdx,ayW R,avS,auY,true_and,avK,Nat.sub_zero,List.size_toArray];rw[aF hi];have:ys.toArray[i]! = m:=by obtain⟨h,e⟩:=awD.1 J;simp[h,e]
    rw[this]
 obtain⟨k1,k2⟩:=hW.ZL K B (by simp[putCells]) O;have u:∀b,b<(w.setRow o (putCells (Value.int .i64) 0 ys.toArray l)).heap.size->(grow (putRow (Value.int .i64) (Sort.ahead w n) o 0 ys.toArray) os).heap[b]?=(w.setRow o (putCells (Value.int .i64) 0 ys.toArray l)).heap[b]?:=by
  intro b hb;have A:b<w.heap.size:=by simpa[World.setRow]using hb
  have M:(grow (putRow (Value.int .i64) (Sort.ahead w n) o 0 ys.toArray) os).heap[b]?=(putRow (Value.int .i64) (Sort.ahead w n) o 0 ys.toArray).heap[b]?:=by unfold grow;exact Array.getElem?_append_left (by simpa using A)
  rw[M];simp only[putRow,mapBlock,World.setRow,Array.getElem?_modify,heap_ahead];by_cases e:o=b;subst e;simp[B,onCells];simp[e]
 have x:(w.setRow o (putCells (Value.int .i64) 0 ys.toArray l)).heap.size<=(grow (putRow (Value.int .i64) (Sort.ahead w n) o 0 ys.toArray) os).heap.size:=by simp[World.setRow]
 exact⟨k1.Dv x u,k2.Dv rfl rfl rfl x u⟩
end
section
variable {C:Ctx} {ρ:Ren} {name:Nat}
def sorted(xs:I_):I_:=xs.mergeSort λx y=>decide (x<=y)
theorem J4(L:Lays.n191 C.P ρ)(S:C.num name=ρ.f 191)(O:∃fn,C.P.funcs[C.num name]?=some fn/\fn.body.isSome=true/\(fn.name=="runtime.NumGoroutine")=false)(o:Nat)(xs:I_)(U:xs≠[])(R:Z' xs<4611686018427387904) :
  aH C name [.osl o 1 0 xs.length] (h_.set o (.rows 1 (aT xs))) (λr H'=>r=.tup []/\H'=h_.set o (.rows 1 (aT (sorted xs)))):=by
 refine⟨O,λE w vs V hW A=>?_⟩;have x:(h_.set o (.rows 1 (aT xs))) o=some (.rows 1 (aT xs)):=by simp[cV]
 obtain⟨Y⟩:=vs;cases A with
 |cons J K=>
 cases K;cases J with
 |@osl _ _ _ _ cap n a hb u i B F W y=>
 have l:cap≠0:=by intro e;subst e;exact U (azL Om)
 have N:a=⟨o,0,none⟩:=by
  obtain⟨b,off,X⟩:=a;simp only at hb u i;subst hb;subst u;rcases i with h|h
  exact(l h).elim;simp at h;subst h;rfl
 subst N;rw[S];have M:=Ol hW (off:=0) (xs:=xs) x (by rw[awM];exact avT (by simp[aT]));refine(Any.sort_Ints L o 0 cap xs w M (hW.h o _ x).1 R).mono λe Z he=>?_;obtain⟨rfl,n,os,rfl⟩:=he;obtain⟨k1,k2⟩:=agY hW x (ys:=sorted xs) (by simp[sorted]) n os;rw[show(h_.set o (.rows 1 (aT xs))).set o (.rows 1 (aT (sorted xs)))=h_.set o (.rows 1 (aT (sorted xs)))from PH.ext λq=>by simp only[cV];split<;>rfl]at k1 k2;exact⟨_,.tup [],E,_,rfl,k1,.tup #[] rfl aZ,k2,rfl,rfl⟩
end
open Go Go.RowKit Go.Sort Go.Shelf Go.Proofs
abbrev lists(e:L2_):PV:=.sl 1 (e.map λw=>[ints w])
abbrev WPs:=List (PV × I_)
def dJ(ps:WPs):P2_:=ps.map λp=>[p.1]
def kY(ps:WPs):List LI:=ps.map λp=>(p.1,1,aT p.2)
def wls(ps:WPs):L2_:=ps.map (·.2)
def eW(e:PV)(ps:WPs):List LI:=(e,1,dJ ps)::kY ps
section
variable {H:PH} {B:List BX}
theorem mH(ps:WPs):(dJ ps).length=Z' ps:=auW _
theorem YQ{ps:WPs}{i:Nat}{v:PV}{w:I_}(hi:ps[i]?=some (v,w)):(kY ps)[i]?=some (v,1,aT w):=by
 unfold kY;rw[avO,hi];rfl
theorem QM{ps:WPs}{i:Nat}{v:PV}{w:I_}(hi:ps[i]?=some (v,w)):(dJ ps)[i]?=some [v]:=by
 unfold dJ;rw[avO,hi];rfl
theorem aQ.IR(h:aQ H B []):aQ H B (eW .aJ []):=h.nT 1
theorem aQ.inner{e:PV}{ps:WPs}(h:aQ H B (eW e ps)){i:Nat}{v:PV}{w:I_}(hi:ps[i]?=some (v,w)):bF H 1 v (aT w):=h.own (i+1) (YQ hi)
theorem aQ.outer{e:PV}{ps:WPs}(h:aQ H B (eW e ps)):bF H 1 e (dJ ps):=h.own 0 rfl
theorem zH(a b:I_):aT (a++b)=aT a++aT b:=avU
theorem aQ.aoE{A:PV}{ps:WPs}(h:aQ H B (eW A ps)){i b:Nat}{v y:PV}{w src:I_}{K:R_}(hi:ps[i]?=some (v,w))(M:dH H 1 y=some (aT src))(F:roomFor w.length src.length b)(u:src≠[])
  (E:∀q H',aQ H' B ((A,1,dJ ps)::(kY ps).set i (.osl q 1 0 (w++src).length,1,aT (w++src)))->K (.osl q 1 0 (w++src).length) H'):kJ H 1 b v y K:=by
 have l:aT src≠[]:=λe=>u (List.map_eq_nil_iff.1 e);refine h.append (i+1) (YQ hi) M (by rw[cJ,cJ];exact F) λv' H' x J=>?_;obtain⟨q,rfl⟩:=J l;rw[<-zH,cJ]at x ⊢;exact E q H' x
theorem aQ.alG{l n i:Nat}{ps:WPs}{v':PV}{u:I_}(h:aQ H B ((.osl l 1 0 n,1,dJ ps)::(kY ps).set i (v',1,aT u))) :
  ∃rs,H l=some (.rows 1 rs)/\n<=Z' rs/\rs.take n=dJ ps/\aQ (H.set l (.rows 1 (rs.set i [v']))) B (eW (.osl l 1 0 n) (ps.set i (v',u))):=by
 obtain⟨rs,w,x,y,A⟩:=h.store 0 rfl i [v'];refine⟨rs,w,x,y,?_⟩;have e:eW (.osl l 1 0 n) (ps.set i (v',u))=((.osl l 1 0 n,1,dJ ps)::(kY ps).set i (v',1,aT u)).set 0 (.osl l 1 0 n,1,(dJ ps).set i [v']):=by unfold eW dJ kY;rw[ayE,ayE];rfl
 rw[e];exact A
theorem aQ.agD{i:PV}{ps:WPs}{b:Nat}{y:PV}{K:R_}(h:aQ H B (eW i ps))(E:dH H 1 y=some [[.aJ]])(x:roomFor ps.length 1 b)
  (w:∀q H',aQ H' B (eW (.osl q 1 0 (Z' ps+1)) (ps++[(.aJ,[])]))->K (.osl q 1 0 (Z' ps+1)) H'):kJ H 1 b i y K:=by
 refine h.append 0 (src:=[[.aJ]]) rfl E (by rw[mH];exact x) λv' H' u A=>?_;obtain⟨q,rfl⟩:=A aZ;have l:=u.nT 1;rw[auZ,mH]at l ⊢;refine w q H' ?_;have e:eW (.osl q 1 0 (Z' ps+1)) (ps++[(.aJ,[])])=(((i,1,dJ ps)::kY ps).set 0 (.osl q 1 0 (Z' ps+1),1,dJ ps++[[.aJ]]))++[(.aJ,1,[])]:=by unfold eW dJ kY;rw[avU,avU];rfl
 rw[e];exact l
def rE(e:P2_)(l:L2_):Prop:=Z' e=Z' l/\∀(i:Nat) r w,e[i]?=some r->l[i]?=some w->r=[ints w]\/(r=[.aJ]/\w=[])
theorem rE.nil:rE [] []:=⟨rfl,λi r w h=>by cases h⟩
theorem rE.snoc{y:P2_}{A:L2_}{u:PV}{w:I_}(h:rE y A)(E:u=ints w\/(u=.aJ/\w=[])):rE (y++[[u]]) (A++[w]):=by
 refine⟨by simp[h.1],λi r x e l=>?_⟩;rcases Nat.lt_trichotomy i y.length with c|c|c
 rw[axU c]at e;rw[axU (by rw[<-h.1];exact c)]at l;exact h.2 i r x e l;subst c;rw[axR (avD _),axT]at e;rw[h.1,axR (avD _),axT]at l;cases e;cases l;rcases E with rfl|⟨rfl,rfl⟩
 exact .inl rfl;exact .inr ⟨rfl,rfl⟩;rw[axR Om,awN (by simp;omega)]at e;cases e
theorem rE.flat{l:P2_}{x:L2_}(h:rE l x):Flat l:=Flat.of λr w c e q s rs=>by
 obtain⟨i,hi⟩:=List.mem_iff_getElem?.1 w;have u:=(awD.1 hi).1;rcases h.2 i r _ hi (avF (by rw[<-h.1];exact u))with rfl|⟨rfl,-⟩
 rw[awL]at e;subst e;rfl;rw[awL]at e;subst e;rfl
theorem rE.co{y:P2_}{x:L2_}(h:rE y x):Co (.sl 1 y) (lists x):=by
 have u:∀(i:Nat) r t,y[i]?=some r->(x.map λw=>[ints w])[i]?=some t->∃w,t=[ints w]/\(r=[ints w]\/(r=[.aJ]/\w=[])):=λi r t l e=>by
  rw[avO]at e;cases E:x[i]? with
  |none=>rw[E]at e;cases e
  |some w =>rw[E]at e;cases e;exact⟨w,rfl,h.2 i r w l E⟩
 refine .sl (by rw[auW,h.1]) (λi r t l e=>?_) (λi j p q hp hq=>?_);obtain⟨w,rfl,A|⟨A,-⟩⟩:=u i r t l e<;>subst A<;>rfl
 ·unfold at2 at hp hq;cases l:y[i]? with
  |none=>rw[l]at hp;cases hp
  |some r=>
   cases e:(x.map λw=>[ints w])[i]? with
   |none=>rw[e]at hq;cases hq
   |some t=>
    rw[l]at hp;rw[e]at hq;obtain⟨w,rfl,A⟩:=u i r t l e;rcases A with rfl|⟨rfl,rfl⟩
    have:some p=some q:=hp.symm.trans hq;cases this;exact .refl _
    ·cases j with
     |zero=>cases hp;cases hq;exact .nil 1
     |succ j=>cases hp
end
def Fx(u:PV):Prop:=∀q s rs,PV.frz q s rs u=u
theorem Fx.int(k:IntKind)(n:Int):Fx (.int k n):=λ_ _ _=>rfl
theorem Fx.bool(b:Bool):Fx (.bool b):=λ_ _ _=>rfl
theorem Fx.sl(n:Nat)(r:P2_):Fx (.sl n r):=λ_ _ _=>rfl
theorem Fx.aJ:Fx .aJ:=λ_ _ _=>rfl
theorem Fx.ptr(q z i c:Nat):Fx (.ptr q z i c):=λ_ _ _=>rfl
theorem Fx.aX(c:V_):Fx (.aX c):=λ_ _ _=>rfl
theorem bF.dL{H:PH}{s:Nat}{v:PV}{rows:P2_}(h:bF H s v rows)(q z:Nat)(rs:P2_):PV.frz q z rs v=PV.dL q z rs v:=by
 rcases h with⟨-,rfl⟩|⟨p,rs',rfl,-⟩<;>rfl
def Iy(φ:PV->PV)(F:PF):PF:=λi=>(F i).map φ
theorem GG(φ:PV->PV)(F:PF)(i:Nat):Iy φ F i=(F i).map φ:=rfl
theorem HI:∀(ps:WPs){H:PH}{B:List BX}{A:PV}(y:P2_) (l:L2_),rE y l->aQ H B ((A,1,y++dJ ps)::kY ps)->(∀b∈B,∀q s rs,aV.frz q s rs b.2=b.2) ->
  ∃(φ:PV->PV)(E:PH),Co (φ A) (lists (l++wls ps))/\(∀u,Fx u->φ u=u)/\(∀e:Int,φ (.tup [A,.j e])=.tup [φ A,.j e])/\aQ E B []/\(∀F:PF,jH F H (Iy φ F) E)/\∀o,(H o=none\/A.oid=some o\/∃p∈ps,p.1.oid=some o)->E o=none
 |[],H,B,A,y,l,K,h,hB=>by
  have N:y++dJ []=y:=awJ y;have e1:l++wls []=l:=awJ l;rw[N]at h;rw[e1];rcases h.own 0 rfl with⟨S,rfl⟩|⟨q,rs,rfl,_⟩
  ·refine⟨id,H,?_,λ_ _=>rfl,λ_=>rfl,h.Ns 0,λF=>?_,λo ho=>?_⟩
   ·subst S;have:l=[]:=List.length_eq_zero_iff.1 K.1.symm;subst this;exact .nil 1
   ·have:Iy id F=F:=funext λi=>by rw[GG];simp
    rw[this];exact .refl _ _
   ·rcases ho with ho|ho|⟨p,hp,-⟩
    ·exact ho
    ·cases ho
    ·cases hp
  ·obtain⟨rs,Y,Z,z3,z4,M⟩:=h.frz 0 rfl;refine⟨PV.frz q 1 rs,H.frz q 1 rs,?_,λu O=>O _ _ _,λe=>?_,?_,λF=>.step q Y (.refl _ _),λo ho=>?_⟩
   ·rw[z3];exact K.co
   ·show PV.tup [PV.dL q 1 rs (.osl q 1 0 y.length),.j e]=_;rw[Z,z3]
   ·have R:(B.map λb=>(b.1,b.2.frz q 1 rs))=B:=by
     conv=>rhs;rw[<-List.map_id B]
     refine ayB λb hb=>?_;rw[hB b hb q 1 rs];rfl
    rw[R]at M;exact M
   ·rw[FS];rcases ho with ho|ho|⟨p,hp,-⟩
    ·rw[ho];split<;>rfl
    ·have:q=o:=by injection ho
     rw[aF this.symm]
    ·cases hp
 |(v,w)::ps,H,B,A,y,l,K,h,hB=>by
  have eo:∀u:PV,y++[[u]]++dJ ps=y++[u]::dJ ps:=λu=>by rw[awB];rfl
  have ew:l++[w]++wls ps=l++wls ((v,w)::ps):=by rw[awB];rfl
  have ho:bF H 1 v (aT w):=h.own 1 rfl;rcases ho with⟨S,rfl⟩|⟨q,rs,rfl,_⟩
  ·have hw:w=[]:=List.map_eq_nil_iff.1 S;have h2:=h.Ns 1;obtain⟨φ,E,k1,k2,U,V,W,X⟩:=HI ps (y++[[.aJ]]) (l++[w]) (K.snoc (.inr ⟨rfl,hw⟩)) (by rw[eo];exact h2) hB;rw[ew]at k1;refine⟨φ,E,k1,k2,U,V,W,λo ho=>X o ?_⟩;rcases ho with ho|ho|⟨p,hp,ho⟩
   ·exact .inl ho
   ·exact .inr (.inl ho)
   ·rcases avL.1 hp with rfl|hp
    ·cases ho
    ·exact .inr (.inr ⟨p,hp,ho⟩)
  ·obtain⟨rs,Y,Z,z3,z4,M⟩:=h.frz 1 rfl;have R:(B.map λb=>(b.1,b.2.frz q 1 rs))=B:=by
    conv=>rhs;rw[<-List.map_id B]
    refine ayB λb hb=>?_;rw[hB b hb q 1 rs];rfl
   have y0:PV.dL q 1 rs A=A:=z4 0 _ aU rfl;have J:PV.frz q 1 rs A=A:=((h.own 0 rfl).dL q 1 rs).trans y0;have yp:∀p∈ps,PV.dL q 1 rs p.1=p.1:=λp hp=>by obtain⟨j,hj⟩:=List.mem_iff_getElem?.1 hp;exact z4 (j+2) (p.1,1,aT p.2) Om (YQ hj)
   have er:(y++dJ ((.osl q 1 0 (aT w).length,w)::ps)).map (λr=>r.map (PV.dL q 1 rs))=y++[[ints w]]++dJ ps:=by
    rw[avU,K.flat,awB];congr 1;show[PV.dL q 1 rs (.osl q 1 0 (aT w).length)]::(dJ ps).map _=_;rw[Z];have:(dJ ps).map (λr=>r.map (PV.dL q 1 rs))=dJ ps:=by unfold dJ;rw[ayD];refine ayB λp hp=>?_;show[PV.dL q 1 rs p.1]=_;rw[yp p hp]
    rw[this];rfl
   have ei:(kY ps).map (λx=>(x.1,x.2.1,x.2.2.map λr=>r.map (PV.dL q 1 rs)))=kY ps:=by unfold kY;rw[ayD];refine ayB λp _=>?_;show(p.1,1,(aT p.2).map λr=>r.map (PV.dL q 1 rs))=_;rw[show(aT p.2).map (λr=>r.map (PV.dL q 1 rs))=aT p.2 from Flat.map p.2 (λx c hc q s rs=>by rw[awL]at hc;subst hc;rfl) q 1 rs]
   have z6:aQ (H.frz q 1 rs) B ((A,1,y++[[ints w]]++dJ ps)::kY ps):=by rw[R]at M;have z7:aQ (H.frz q 1 rs) B ((A,1,(y++dJ ((.osl q 1 0 (aT w).length,w)::ps)).map (λr=>r.map (PV.dL q 1 rs)))::(kY ps).map (λx=>(x.1,x.2.1,x.2.2.map λr=>r.map (PV.dL q 1 rs)))):=M;rw[er,ei]at z7;exact z7
   obtain⟨φ,E,k1,k2,U,V,W,X⟩:=HI ps (y++[[ints w]]) (l++[w]) (K.snoc (.inl rfl)) z6 hB;rw[ew]at k1;refine⟨λu=>φ (PV.frz q 1 rs u),E,?_,λu O=>?_,λe=>?_,V,λF=>.step q Y ?_,λo ho=>X o ?_⟩
   ·simp only;rw[J];exact k1
   ·simp only;rw[O,k2 u O]
   ·simp only;rw[J];have yt:PV.frz q 1 rs (.tup [A,.j e])=.tup [PV.frz q 1 rs A,.j e]:=by rcases h.own 0 rfl with⟨-,N⟩|⟨p,rs',N,-⟩<;>(subst N;rfl)
    rw[yt,J,U]
   ·have:Iy (λu=>φ (PV.frz q 1 rs u)) F=Iy φ (F.frz q 1 rs):=funext λi=>by rw[GG,GG,wQ,Option.map_map];rfl
    rw[this];exact W _
   ·rw[FS];rcases ho with ho|ho|⟨p,hp,ho⟩
    ·left;rw[ho];split<;>rfl
    ·exact .inr (.inl ho)
    ·rcases avL.1 hp with rfl|hp
     ·have:q=o:=by injection ho
      left;rw[aF this.symm]
     ·exact .inr (.inr ⟨p,hp,ho⟩)
theorem CS{res:List eE}{F:PF}{H:PH}{i:PV}{ps:WPs}{c:Int}{e:lG}(he:e=.normal\/e=.ret)(h:eE.evs F H res=some [i,.j c])(l:aQ H [] (eW i ps)):aW res (cC (.tup [lists (wls ps),.j c])) e F H:=by
 obtain⟨φ,x,k1,-,u,-,w,-⟩:=HI ps [] [] .nil l (λb hb=>by cases hb);refine rO he h ⟨_,_,.nil,w _,a_,φ (bL [i,.j c]),?_,?_⟩;rw[GG,mO,aF rfl];rfl
 ·show cC _ (φ (.tup [i,.j c])) .nil;rw[u];refine⟨.tup rfl λj p q hp hq=>?_,rfl⟩
  match j with
  |0=>cases hp;cases hq;exact k1
  |1=>cases hp;cases hq;exact .refl _
  |j+2=>cases hp
theorem bF.lenOf{H:PH}{v:PV}{rows:P2_}{s:Nat}(h:bF H s v rows):PV.tO v=some (.j (Z' rows:Nat)):=by
 rcases h with⟨rfl,rfl⟩|⟨q,rs,rfl,-⟩<;>rfl
theorem aQ.akI{H:PH}{B:List BX}{u:PV}{ps:WPs}(h:aQ H B (eW u ps)){i:Nat}(hi:i<Z' ps) :
  ∃l rs,u=.osl l 1 0 ps.length/\H l=some (.rows 1 rs)/\rs[i]?=some [ps[i].1]/\i<Z' rs:=by
 rcases h.outer with⟨e,-⟩|⟨q,rs,rfl,e,h2,h3⟩
 have:(dJ ps).length=0:=by rw[e];rfl
 rw[mH]at this;omega;rw[mH]at h2 h3;refine⟨q,rs,by rw[mH],e,?_,by omega⟩;have:=QM (ps:=ps) (i:=i) (v:=ps[i].1) (w:=ps[i].2) (by rw[avF hi]);rw[<-h3,List.getElem?_take_of_lt hi]at this;exact this
theorem aQ.agJ{H:PH}{B:List BX}{e:PV}{ps:WPs}(h:aQ H B (eW e ps)):PV.tO e=some (.j (Z' ps:Nat)):=by
 have:=h.outer.lenOf
 rwa[mH]at this
theorem BD(ps:WPs):(wls ps).length=Z' ps:=auW _
theorem QY{res:List eE}{F:PF}{H:PH}{i:PV}{ps:WPs}{e:lG}(he:e=.normal\/e=.ret)(h:eE.evs F H res=some [i])(l:aQ H [] (eW i ps)):aW res (cC (lists (wls ps))) e F H:=by
 obtain⟨φ,w,k1,-,-,-,u,-⟩:=HI ps [] [] .nil l (λb hb=>by cases hb);refine rO he h ⟨_,_,.nil,u _,a_,φ (bL [i]),?_,?_⟩;rw[GG,mO,aF rfl];rfl;exact⟨k1,rfl⟩
def OV(f:aD)(lv:Int)(i:Nat):Bool:=decide (lvl f i=lv)
def II(f:aD)(lv:Int):N_:=(auX f.atK.length).filter (OV f lv)
def fR(f:aD)(lv:Int)(i:Nat):Nat:=(auX i).countP (OV f lv)
def iC(f:aD)(lv:Int)(k:Nat):I_:=(auX f.atK.length).map λi=>if i<k/\lvl f i=lv then((fR f lv i:Nat):Int)else 0
def rK(f:aD)(lv:Int)(d i:Nat):N_:=(auX d).filter λe=>decide (dE f e lv=i)
def tA(f:aD)(lv:Int)(d:Nat):L2_:=(II f lv).map λi=>cA (rK f lv d i)
theorem kg(f:aD){lv:Int}(h:lv≠5):iU f lv=tA f lv f.atH.length:=by
 unfold iU;rw[aC h];rfl
theorem Aq(f:aD):iU f 5=(auX f.atH.length).map λ(d:Nat)=>[(d:Int)]:=by
 unfold iU;rw[aF rfl]
theorem Px(f:aD)(lv:Int)(k:Nat):(iC f lv k).length=Z' f.atK:=by unfold iC;simp
theorem Jy(f:aD)(lv:Int):iC f lv 0=avA f.atK.length 0:=by
 unfold iC;refine axZ aZ λi e l=>?_;simp
theorem zg{f:aD}{lv:Int}{k i:Nat}(hi:i<Z' f.atK):(iC f lv k)[i]?=some (if i<k/\lvl f i=lv then((fR f lv i:Nat):Int)else 0):=by
 unfold iC;rw[avO,axO hi];rfl
theorem Pw{f:aD}{lv:Int}{k:Nat}(h:lvl f k=lv):(iC f lv k).set k ((fR f lv k:Nat):Int)=iC f lv (k+1):=by
 refine axZ (by simp[iC]) λi l u=>?_;simp only[iC,List.getElem_set,awW,List.getElem_range];by_cases e:k=i;subst e;rw[aF rfl,aF ⟨by omega,h⟩];rw[aC e];have:i<k↔i<k+1:=Om;simp only[this]
theorem Jx{f:aD}{lv:Int}{k:Nat}(h:lvl f k≠lv):iC f lv k=iC f lv (k+1):=by
 refine axZ (by simp[iC]) λi l u=>?_;simp only[iC,awW,List.getElem_range];by_cases e:k=i;subst e;rw[aC Om,aC (λx=>h x.2)];have:i<k↔i<k+1:=Om;simp only[this]
theorem Q4{f:aD}{lv:Int}{k:Nat}(h:lvl f k=lv):fR f lv (k+1)=fR f lv k+1:=by
 unfold fR OV;rw[axV,List.countP_append];simp[h]
theorem J9{f:aD}{lv:Int}{k:Nat}(h:lvl f k≠lv):fR f lv (k+1)=fR f lv k:=by
 unfold fR OV;rw[axV,List.countP_append];simp[h]
theorem Wf(f:aD)(lv:Int)(k:Nat):fR f lv k<=k:=avZ List.countP_le_length aZ
theorem Ml{f:aD}{lv:Int}{a:Nat}(e:a<Z' f.atK)(h:lvl f a=lv):(II f lv)[fR f lv a]?=some a:=Sz (q:=OV f lv) e (by rw[OV,bG h])
theorem Jn(f:aD)(lv:Int)(d i:Nat):rK f lv (d+1) i=if dE f d lv=i then rK f lv d i++[d]else rK f lv d i:=by
 unfold rK;rw[axV,List.filter_append];by_cases h:dE f d lv=i<;>simp[h]
theorem pd(f:aD)(lv:Int)(d i:Nat):(rK f lv d i).length<=d:=avZ (azI ..) aZ
theorem Xz(f:aD)(lv:Int):(II f lv).Nodup:=List.nodup_range.filter _
theorem abU{f:aD}{lv:Int}{d:Nat}(E:dE f d lv<Z' f.atK)(h:lvl f (dE f d lv)=lv){ps:WPs}(hp:wls ps=tA f lv d){v:PV}{w:I_}(hi:ps[fR f lv (dE f d lv)]?=some (v,w))(v':PV) :
  w.length<=d/\wls (ps.set (fR f lv (dE f d lv)) (v',w++[(d:Int)]))=tA f lv (d+1):=by
 have u:=Ml E h;have y:w=cA (rK f lv d (dE f d lv)):=by
  have l:(wls ps)[fR f lv (dE f d lv)]?=some w:=by unfold wls;rw[avO,hi];rfl
  rw[hp,tA,avO,u]at l;injection l with l
  exact l.symm
 refine⟨by rw[y];unfold cA;rw[auW];exact pd ..,?_⟩;have x:wls (ps.set (fR f lv (dE f d lv)) (v',w++[(d:Int)]))=(tA f lv d).set (fR f lv (dE f d lv)) (w++[(d:Int)]):=by rw[<-hp];unfold wls;rw[ayE]
 rw[x,y];unfold tA;refine axZ aZ λi l x=>?_;have il:i<(II f lv).length:=by simpa using x
 rw[List.getElem_set];simp only[awW];rw[Jn];obtain⟨F,A⟩:=awD.1 u;by_cases e:fR f lv (dE f d lv)=i;subst e;rw[aF rfl,A,aF rfl];unfold cA;rw[avU];rfl;rw[aC e,aC];intro e2;have B:(II f lv)[fR f lv (dE f d lv)]=(II f lv)[i]:=A.trans e2;exact e ((List.getElem_inj (Xz f lv)).1 B)
def ES(n:Nat):P2_:=(auX n).map λ(d:Nat)=>[ints [(d:Int)]]
theorem zz(n:Nat):(ES n).length=n:=by unfold ES;simp
theorem rx(n:Nat):ES (n+1)=ES n++[[ints [(n:Int)]]]:=by unfold ES;rw[axV,avU];rfl
theorem Ap(f:aD):lay (iU f 5)=.sl 1 (ES f.atH.length):=by
 rw[Aq];unfold ES;show PV.sl 1 (List.map _ (List.map _ _))=_;rw[ayD];rfl
theorem J8(f:aD)(lv:Int):tA f lv 0=avA (fR f lv f.atK.length) []:=by
 unfold tA fR;rw[List.countP_eq_length_filter];refine axZ (by simp[II]) λi e l=>?_;simp[rK,cA]
theorem tj(f:aD)(lv:Int)(d:Nat):(tA f lv d).length=(II f lv).length:=by unfold tA;simp
def unB(f:aD)(lv:Int)(e:Nat)(i:PV)(k:Nat):PF:=(((((((n_.set 1 (.int .i64 lv)).set 2 (.aX f.cells)).set 5 (i)).set 7 (.osl e 1 0 f.atK.length)).set 33 (.sl 7 (f.atK.map cR.cells))).set 34 (.int .i64 (Z' f.atK:Nat))).set 35 (.int .i64 k))
def unC(f:aD)(lv:Int)(e:Nat)(i:PV)(d:Nat):PF:=(((((((n_.set 1 (.int .i64 lv)).set 2 (.aX f.cells)).set 5 (i)).set 7 (.osl e 1 0 f.atK.length)).set 54 (.sl 3 (f.atH.map eP.cells))).set 55 (.int .i64 (Z' f.atH:Nat))).set 56 (.int .i64 d))
def unE(f:aD)(lv:Int)(e:Nat)(i:PV)(d at_:Nat):PF:=(((((((((n_.set 1 (.int .i64 lv)).set 2 (.aX f.cells)).set 5 (i)).set 7 (.osl e 1 0 f.atK.length)).set 54 (.sl 3 (f.atH.map eP.cells))).set 55 (.int .i64 (Z' f.atH:Nat))).set 56 (.int .i64 d)).set 10 (.int .i64 d)).set 12 (.int .i64 at_))
variable{C:Ctx}
theorem Sh{K:bZ}[Up K](f:aD)(hV:VF f)(lv:Int)(O:1<=lv)(R:lv<=4)(A:Nat)(E:PV)(d:Nat)(N:d<Z' f.atH){F:PF}{H:PH}
  (M:(unE f lv A E d (eJ f d)).le F) (J:K (.exit 6) (unE f lv A E d (dE f d lv)) H):aI.wp C (.loop DQ) K F H:=by
 refine wp_loop (α:=Nat) (λj=>unE f lv A E d (upN f j (eJ f d))) (λ_=>H) (λj=>(j:Int)<=4-lv) (λj=>4-j) 0 Om (by rw[upN];exact M) b_ ?_;intro j S;obtain⟨l,B⟩:=CW hV N (k:=j) Om;have u:((upN f j (eJ f d):Nat):Int)<(Z' f.atK:Nat):=Om;by_cases c:(j:Int)<4-lv;have i:4-(j:Int)>lv:=Om;have x:0<upN f j (eJ f d):=by
  rcases axJ (upN f j (eJ f d))with e|e
  rw[e,hV.root.2.1]at B;omega;exact e
 have y:upN f (j+1) (eJ f d)=tP f (upN f j (eJ f d)):=rfl;have w:=hV.ZE x l;simp only[go_sem,DQ,unE,u,gR l,wU l,B,i,qt l,w];exact aE (j+1) Om Om (lE1 y) b_;have i:¬4-(j:Int)>lv:=Om;have e:dE f d lv=upN f j (eJ f d):=by rw[dE,show 4-lv.toNat=j by omega]
 rw[e]at J;simp only[go_sem,DQ,unE,u,gR l,wU l,B,i];refine Up.up ?_ J;unfold unE;exact Lq
theorem Sg(f:aD)(hV:VF f)(lv:Int)(h1:1<=lv)(h5:lv<=5) :
  aj.wp C (aW gL.res (cC (lay (iU f lv)))) (g_ [.agg f.cells,.j lv]) .nil:=by
 have β:=hV.small;have hd:=β.atH;have ν:=β.atK;simp only[go_sem,aj,gL];by_cases c5:lv=5;subst c5;rw[Ap];simp only[go_sem,bN (show(5:Int)=5 from rfl),auW];refine wp_loop (α:=T3_) (λs=>(((n_.set 5 (s.2.1)).set 17 (.j (Z' f.atH:Nat))).set 18 (.j s.1))) (λs=>s.2.2) (λs=>s.1<=Z' f.atH/\bF s.2.2 1 s.2.1 (ES s.1)) (λs=>Z' f.atH-s.1) (0,.aJ,.nil) ⟨auY _,.nil⟩ Lq b_ ?_;rintro⟨k,v,H⟩ ⟨hk,hO⟩;simp only at hk hO;simp only[go_sem];by_cases hlt:k<Z' f.atH;have e:(k:Int)<(Z' f.atH:Nat):=Om;simp only[go_sem,e];refine eX (src:=[[ints [(k:Int)]]]) hO (by simp only[go_sem];rfl) (by unfold roomFor;rw[zz];simp only[avG,maxLen];omega) λv' H' W _=>?_;rw[<-rx]at W;simp only[go_sem,wZz k];exact aE (k+1,v',H') ⟨hlt,W⟩ sO_ Lq b_;have e:¬(k:Int)<(Z' f.atH:Nat):=Om;have:k=Z' f.atH:=Om;subst this;simp only[go_sem,e];exact kE (.inr rfl) hO Sq;have h4:lv<=4:=Om;rw[kg f c5];have ε:(Z' f.atK:Int)*((8:Nat):Int)<=140737488355328:=Om;have ζ:(Z' f.atK:Int)<=9223372036854775807:=Om;have η:(0:Int)<=(Z' f.atK:Int):=Om;simp only[go_sem,bA c5,auW,ε,ζ,η,Int.le_refl,axA];refine aS λB hP=>?_;have ez:avA f.atK.length [PV.int .i64 0]=aT (iC f lv 0):=by rw[Jy,tG]
 rw[ez];have V:aQ (h_.set B (.rows 1 (aT (iC f lv 0)))) [(B,.rows 1 (aT (iC f lv 0)))] (eW .aJ []):=((aQ.nil (H:=h_)).new hP _).IR;simp only[go_sem,auW];refine wp_loop (α:=Nat × PV × WPs × PH) (λs=>unB f lv B s.2.1 s.1) (λs=>s.2.2.2) (λs=>s.1<=Z' f.atK/\wls s.2.2.1=avA (fR f lv s.1) []/\aQ s.2.2.2 [(B,.rows 1 (aT (iC f lv s.1)))] (eW s.2.1 s.2.2.1)) (λs=>Z' f.atK-s.1) (0,.aJ,[],_) ⟨auY _,rfl,V⟩ (by unfold unB;exact Lq) b_ ?_;clear V ez hP;rintro⟨i,vo,ps,H⟩ ⟨hi,l,y⟩;simp only at hi l y;simp only[go_sem,unB];by_cases hlt:i<Z' f.atK;have e:(i:Int)<(Z' f.atK:Nat):=Om;have κ:Z' ps=fR f lv i:=by have:=congrArg List.length l;rw[BD,List.length_replicate]at this;exact this
 have S:=Wf f lv i;simp only[go_sem,e,gR hlt];refine aS λq hq=>?_;have J:=y.at 0 rfl;have n1:¬B=q:=by rintro rfl;rw[J]at hq;cases hq
 have N:=λx=>y.new hq x;simp only[go_sem,wU hlt];by_cases c:lvl f i=lv;have Y:=y.agJ;have E:=zg (f:=f) (lv:=lv) (k:=i) hlt;have A:(aT (iC f lv i))[i]?=some [.j (if i<i/\lvl f i=lv then((fR f lv i:Nat):Int)else 0)]:=by unfold aT;rw[avO,E];rfl
 have ι:i<(aT (iC f lv i)).length:=by rw[cJ,Px];exact hlt
 have U:(aT (iC f lv i)).set i [.j (Z' ps:Nat)]=aT (iC f lv (i+1)):=by rw[mG,κ,Pw c]
 have h3:=λx=>(N x).set 0 rfl (.rows 1 (aT (iC f lv (i+1))));simp only[go_sem,bN c,Y,e,n1,J,A,ι,avK,U];refine(h3 _).agD Sq (by unfold roomFor;simp only[maxLen];omega) λq2 H2 h4=>?_;simp only[go_sem,wZz i];refine aE (i+1,PV.osl q2 1 0 (Z' ps+1),ps++[(PV.aJ,[])],H2) ⟨hlt,?_,h4.xA 1⟩ sO_ Lq b_;simp only;rw[Q4 c,List.replicate_succ'];unfold wls at l ⊢;rw[avU,l];rfl;have U:iC f lv i=iC f lv (i+1):=Jx c;simp only[go_sem,bA c,wZz i];refine aE (i+1,vo,ps,_) ⟨hlt,?_,?_⟩ sO_ Lq b_;simp only;rw[J9 c];exact l;simp only;rw[<-U];exact(N _).xA 1;have e:¬(i:Int)<(Z' f.atK:Nat):=Om;have:i=Z' f.atK:=Om;subst this;rw[<-J8]at l;simp only[go_sem,e,auW];refine wp_loop (α:=Nat × PV × WPs × PH) (λs=>unC f lv B s.2.1 s.1) (λs=>s.2.2.2) (λs=>s.1<=Z' f.atH/\wls s.2.2.1=tA f lv s.1/\aQ s.2.2.2 [(B,.rows 1 (aT (iC f lv f.atK.length)))] (eW s.2.1 s.2.2.1)) (λs=>Z' f.atH-s.1) (0,vo,ps,H) ⟨auY _,l,y⟩ (by unfold unC;exact Lq) b_ ?_;clear l y hi hlt e;rintro⟨d,vo,ps,H⟩ ⟨θ,l,y⟩;simp only at θ l y;simp only[go_sem,unC];by_cases hlt:d<Z' f.atH;have e:(d:Int)<(Z' f.atH:Nat):=Om;simp only[go_sem,e,mF hlt];refine aS λq hq=>?_;have J:=y.at 0 rfl;have n1:¬B=q:=by rintro rfl;rw[J]at hq;cases hq
 have N:=λx=>(y.new hq x).xA 1;simp only[go_sem,hV.MN hlt];generalize hx:aV.rows 3 _=x;have N:=N x;have O:=N.at 0 rfl;generalize H.set q x=H1 at *
 have up:=λ{K:bZ} [Up K] {F:PF} {H:PH}=>Sh (C:=C) (K:=K) f hV lv h1 h4 B vo d hlt (F:=F) (H:=H);refine up (by unfold unE;exact Lq) ?_;obtain⟨a1,a2⟩:=CW hV hlt (k:=4-lv.toNat) Om;have a3:lvl f (dE f d lv)=lv:=by rw[dE,a2];omega
 have a1:dE f d lv<Z' f.atK:=a1;have δ:((dE f d lv:Nat):Int)<(Z' f.atK:Nat):=Om;have E:=zg (f:=f) (lv:=lv) (k:=Z' f.atK) a1;rw[aF ⟨a1,a3⟩]at E;have A:(aT (iC f lv f.atK.length))[dE f d lv]?=some [.j (fR f lv (dE f d lv):Nat)]:=by unfold aT;rw[avO,E];rfl
 have M:fR f lv (dE f d lv)<Z' ps:=by have:=(awD.1 (Ml a1 a3)).1;rw[<-BD,l,tj];exact this
 have R:=λv'=>abU (ps:=ps) a1 a3 l (avF M) v';have S:ps[fR f lv (dE f d lv)]?=some (ps[fR f lv (dE f d lv)].1,ps[fR f lv (dE f d lv)].2):=by rw[avF M]
 have ξ:ps[fR f lv (dE f d lv)]=(ps[fR f lv (dE f d lv)].1,ps[fR f lv (dE f d lv)].2):=rfl;obtain⟨qo,rs,rfl,b1,b2,b3⟩:=N.akI M;generalize ps[fR f lv (dE f d lv)].2=w at *
 generalize ps[fR f lv (dE f d lv)].1=v at *
 generalize fR f lv (dE f d lv)=u at *
 have γ:(u:Int)<(Z' ps:Nat):=Om;have ο:=(R .aJ).1;simp only[go_sem,unE];refine bK (h_.set B (.rows 1 (aT (iC f lv f.atK.length)))) cS (e_ a_ O) ?_;simp only[go_sem,δ,O,A,avK,γ,b1,b2,b3];refine N.aoE (src:=[(d:Int)]) S (by simp only[go_sem];rfl) (by unfold roomFor;simp only[avG,maxLen];omega) aZ λq2 H2 h5=>?_;have Z:=h5.at 0 rfl;refine⟨e_ a_ Z,?_⟩;obtain⟨rs2,e1,e2,e3,h6⟩:=h5.alG;have μ:u<Z' rs2:=Om;have X:rs2[u]?=some [v]:=by have:=QM S;rw[<-e3,List.getElem?_take_of_lt M]at this;exact this
 refine bK .nil cS a_ ?_;simp only[go_sem,e1,μ,X,wZz d];refine⟨a_,?_⟩;refine aE (d+1,PV.osl qo 1 0 ps.length,ps.set u (PV.osl q2 1 0 (w++[(d:Int)]).length,w++[(d:Int)]),H2.set qo (.rows 1 (rs2.set u [.osl q2 1 0 (w++[(d:Int)]).length]))) ⟨hlt,(R _).2,h6⟩ sO_ Lq (by simp only;exact b_);have e:¬(d:Int)<(Z' f.atH:Nat):=Om;have:d=Z' f.atH:=Om;subst this;simp only[go_sem,e];rw[<-l];exact QY (.inr rfl) Sq (y.xA 0)
def rX.rs : rX->List Rg
 | .seq a b=>a.rs++b.rs | .range _ _ _ _ _ a b c=>a.rs++b.rs++c.rs
def rsT(ro:N_)(f:Func)(x:{l:List Rg//((Go.Proofs.YtjnaciiebeflnaaGreatDoor.T ro).Bt f).map (·.body.rs)=some l}:=by refine⟨?_,?_⟩;rotate_left;conv=>lhs;reduce;try simp only[GF,UInt8.reduceOfNat,Int.reduceOfNat,Int.reduceNegSucc]):List Rg:=x.1
def jF(q:List Rg)(k:Nat)(x:{l:Rg//q.getD k []=l}:=by refine⟨?_,?_⟩;rotate_left;conv=>lhs;reduce;try simp only[GF,UInt8.reduceOfNat,Int.reduceOfNat,Int.reduceNegSucc]):Rg:=x.1
@[go_sem ↓] theorem asW(q:List Rg)(k:Nat)(l:Rg)(h:q.getD k []=l):jF q k ⟨l,h⟩=l:=(rfl)
end Go.PM
namespace Go.PM
open Go
def uK:=rsT [2,3,23] Proofs.Tryz.f134
def xq:aI:=(.region (jF uK 3))
def xr:aI:=(.block 1 (.seq (.region (jF uK 4)) (.cond (.tmp 20) (.region (jF uK 5)) .skip)))
def mq:aI:=(.seq (.region (jF uK 6)) .ret)
def NQ(e i:Code):rX:=(.seq (.region (jF uK 0)) (.seq (.region (jF uK 1)) (.seq (.region (jF uK 2)) (.range (.tmp 15) 26 16 e i xq xr mq))))
def Xt:N_:=[2,3,23]
def Bq(e i:Code):GJ:=⟨2,26,NQ e i,[.tmp 4]⟩
def eR:=rsT [2,3,96,101] Proofs.Tryz.f22
def UD:aI:=(.seq (.region (jF eR 14)) (.seq (.cond (.tmp 78) .skip (.exit 4)) (.seq (.block 5 (.seq (.region (jF eR 15)) (.region (jF eR 16)))) (.region (jF eR 17)))))
def UE:aI:=(.seq (.region (jF eR 11)) (.seq (.cond (.tmp 69) .skip (.exit 2)) (.seq (.block 3 (.seq (.region (jF eR 12)) (.seq (.region (jF eR 13)) (.block 4 (.loop UD))))) (.region (jF eR 18)))))
def UF:aI:=(.seq (.region (jF eR 21)) (.seq (.cond (.tmp 89) .skip (.exit 6)) (.seq (.block 7 (.seq (.region (jF eR 22)) (.seq (.region (jF eR 23)) (.cond (.tmp 93) (.region (jF eR 24)) .skip)))) (.region (jF eR 25)))))
def UB:aI:=(.region (jF eR 8))
def UC:aI:=(.block 1 (.seq (.region (jF eR 9)) (.seq (.seq (.region (jF eR 10)) (.block 2 (.loop UE))) (.seq (.region (jF eR 19)) (.seq (.seq (.region (jF eR 20)) (.block 6 (.loop UF))) (.region (jF eR 26)))))))
def mp:aI:=(.seq (.region (jF eR 27)) .ret)
def NP(e i:Code):rX:=(.seq (.region (jF eR 0)) (.seq (.seq (.region (jF eR 1)) (.cond (.tmp 39) (.seq (.region (jF eR 2)) .ret) .skip)) (.seq (.region (jF eR 3)) (.seq (.seq (.region (jF eR 4)) (.cond (.tmp 55) (.seq (.region (jF eR 5)) .ret) .skip)) (.seq (.region (jF eR 6)) (.seq (.region (jF eR 7)) (.range (.tmp 60) 104 61 e i UB UC mp)))))))
def Xr:N_:=[2,3,96,101]
def Np(e i:Code):GJ:=⟨2,104,NP e i,[.tmp 4,.tmp 5]⟩
variable{C:Ctx}
theorem Tn{H:PH}{name:Nat}{pre:V_}{v u:PV}{l:I_}(A:Plain u)(hp:∀x∈pre,Fx x)(y:bF H 1 v (aT l))(i:l≠[])(h:aH C name (pre++[ints l]) .nil (aL u)) :
  ∃q,v=.osl q 1 0 l.length/\(∃x,H q=some x)/\aH C name (pre++[v]) (H.only [q]) (λr H'=>r=u/\H'=H.only [q]):=by
 rcases y with⟨w,-⟩|⟨q,rs,rfl,h1,h2,h3⟩
 ·exact absurd (List.map_eq_nil_iff.1 w) i
 ·rw[cJ]at h2 h3 ⊢;refine⟨q,rfl,⟨_,h1⟩,?_⟩;rw[i8 h1];refine aH.Y0 A ?_;have e:pre.map (PV.frz q 1 rs)=pre:=by
   conv=>rhs;rw[<-List.map_id pre]
   exact ayB λx B=>hp x B q 1 rs
  rw[avU,e,awE,axD,AM h2,h3];exact h
theorem FU{α:Type}(L:List α)(x:α)(n:Nat)(h:Z' L=n):(L++[x])[n]?=some x:=by
 subst h;simp
theorem IS(e:PV)(ps:WPs):(eW e ps).length=Z' ps+1:=by unfold eW kY;simp
structure ajL(f:aD)(now:L2_)(r:Int)(d:Nat)(ps:WPs):Prop where
 eq:wls ps=ue f now r d
 num:Z' ps<=d
 len:∀i (h:i<Z' ps),1<=(ps[i].2).length/\(ps[i].2).length<=d
theorem ajL.of{f:aD}{e:L2_}{r:Int}(A:R3 f e r=true){d:Nat}(B:d<=Z' f.atH){ps:WPs}(h:wls ps=ue f e r d):ajL f e r d ps:=by
 have k:=Ax A d B;rw[<-h]at k;have u:∀i (h:i<Z' ps),ps[i].2∈wls ps:=λi hi=>avV.2 ⟨ps[i],avB hi,rfl⟩;have ne:∀l∈wls ps,1<=Z' l:=λl E=>by
  have:=k.ok l E;unfold XT at this;cases l with
  |nil=>cases this
  |cons x xs=>rw[awK];omega
 refine⟨h,?_,λi hi=>⟨ne _ (u i hi),?_⟩⟩;have y:(wls ps).length<=(wls ps).flatten.length:=by
  generalize wls ps=w at ne
  induction w with
  |nil=>exact avD _
  |cons l w J =>have:=J λx F=>ne x (ayT _ F);have:=ne l aZ;rw[azE,auZ,awK];omega
 rw[BD,k.len]at y;exact y;have:=(List.sublist_flatten_of_mem (u i hi)).length_le;rw[k.len]at this;exact this
def ajK(n top:Int)(r:PV)(H':PH):Prop:=∃o1 o2,o1≠o2/\r=.fn 211 [.ptr o1 1 0 0,.ptr o2 1 0 0]/\H'=(h_.set o1 (.rows 1 [[.int .i64 n]])).set o2 (.rows 1 [[.int .i64 top]])
theorem Xu(n top:Int):mr.wp C (aW Br.res (ajK n top)) (g_ [.j n,.j top]) .nil:=by
 simp only[go_sem,mr,Br];refine aS λo1 l=>?_;simp only[go_sem];refine aS λo2 e=>?_;have i:o1≠o2:=by rintro rfl;simp only[cE]at e;cases e
 simp only[go_sem];exact bC (.inr rfl) _ (vs:=[.fn 211 [.ptr o1 1 0 0,.ptr o2 1 0 0]]) Sq b_ ⟨o1,o2,i,rfl,rfl⟩
structure TJ(C:Ctx):Prop where
 subs:∀n top:Int,aH C 210 [.int .i64 n,.int .i64 top] .nil (ajK n top)
 iter:∀(l o1 o2 n top:Nat)(J:Nat->PH->Prop)(ss:List N_),ss=dK top n 0->1<=n->n<=1000->top<=1000 ->
  (∀k (hk:k<Z' ss) G c,J k G->G c=none->LS C l [.osl c 1 0 n] (G.set c (.rows 1 (aT (cA ss[k])))) (λr H'=>r=.bool true/\J (k+1) H')) ->
  ∀G0 H:PH,J 0 G0->G0.le H->H o1=some (.rows 1 [[.int .i64 n]])->H o2=some (.rows 1 [[.int .i64 top]])->G0 o1=none->G0 o2=none->aH C 211 [DB l,.ptr o1 1 0 0,.ptr o2 1 0 0] H (λ_ H'=>∃G,J ss.length G/\G.le H')
theorem pj(Lb:TJ C){F:PF}{H:PH}{n m t o1 o2 top:Nat}{i u:Code}{U V:aI}{K:List N_}(β:K=dK top n 0)(h1:1<=n)(hn:n<=1000)(ht:top<=1000)(γ:o1≠o2)
  (I:Nat->PH->Prop) (A:PH) (hI:I 0 A) (S:A.le H) (b1:H o1=some (.rows 1 [[.j n]])) (b2:H o2=some (.rows 1 [[.j top]])) (g1:A o1=none) (g2:A o2=none)
  (hY:∀(l:Nat)(x:PV)(J:PH)(J':PH->Prop),J l=none->U.wp C (fZ C (V.wp C) (IK J')) (F.set t x) J->LS C l [x] (J.set l (.loop F m t i u)) (λr H'=>r=.bool true/\∃H2,J' H2/\H2 l=none/\H'=H2.set l (.loop F m t i u)))
  (hb:∀k (hk:k<Z' K) G c,I k G->G c=none->U.wp C (fZ C (V.wp C) (IK (I (k+1)))) (F.set t (.osl c 1 0 n)) (G.set c (.rows 1 (aT (cA K[k]))))) :
  C6 C 211 [.ptr o1 1 0 0,.ptr o2 1 0 0] F H m t i u (I K.length):=by
 intro l W;have N:A l=none:=by
  cases h:A l with
  |none=>rfl
  |some x=>rw[S l x h]at W;cases W
 have n1:¬o1=l:=λe=>by rw[e,W]at b1;cases b1
 have n2:¬o2=l:=λe=>by rw[e,W]at b2;cases b2
 refine(Lb.iter l o1 o2 n top (λk G=>∃w,I k w/\w l=none/\G=w.set l (.loop F m t i u)) K β h1 hn ht ?_ (A.set l (.loop F m t i u)) (H.set l (.loop F m t i u)) ⟨A,hI,N,rfl⟩ ?_ ?_ ?_ ?_ ?_).post ?_;rintro k hk G c ⟨w,M,y,rfl⟩ Y;have O:¬c=l:=λe=>by rw[e,cE]at Y;cases Y
 have R:¬l=c:=λe=>O e.symm;have Z:w c=none:=by rwa[aP,aC O]at Y
 have:=hY l (.osl c 1 0 n) (w.set c (.rows 1 (aT (cA K[k])))) (I (k+1)) (by rw[aP,aC R];exact y) (hb k hk w c M Z);have e:(w.set c (.rows 1 (aT (cA K[k])))).set l (.loop F m t i u)=(w.set l (.loop F m t i u)).set c (.rows 1 (aT (cA K[k]))):=by refine PH.ext λo=>?_;simp only[aP];by_cases X:o=l;subst X;rw[aF rfl,aC R,aF rfl];rw[aC X,aC X]
 rw[e]at this;exact this;intro o x E;rw[aP]at E ⊢;split at E;rename_i e;rw[aF e];exact E;rename_i e;rw[aC e];exact S o x E;rw[aP,aC n1];exact b1;rw[aP,aC n2];exact b2;rw[aP,aC n1];exact g1;rw[aP,aC n2];exact g2;rintro r H' ⟨G,⟨w,M,y,rfl⟩,B⟩;have α:H' l=some (.loop F m t i u):=B l _ (by rw[cE]);exact⟨r,.refl _,w,M,(λo x E=>B o x (by
  have:¬o=l:=λe=>by rw[e,y]at E;cases E
  rw[aP,aC this];exact E)),y,α⟩
def acT(i:Nat)(l:L2_)(G:PH):Prop:=∃e ps,aQ G [(i,.rows 1 [[e]])] (eW e ps)/\wls ps=l
theorem Xs(Lb:TJ C)(K M:Code)(f:aD)(hd:Z' f.atH<=12)(p:cO)(γ:∀set,amP f set->set∈(dK f.atH.length (wC p).toNat 0).map cA->aH C 201 [.agg f.cells,.agg p.cells,ints set] .nil (aL (.bool (DC f p set))))(hk:1<=p.k)(ο:p.k<=6)(hm:0<=p.m)(ρ:p.m<=4) :
  (NQ K M).wp C (aW (Bq K M).res (cC (lay (JC f p)))) (g_ [.agg f.cells,.agg p.cells]) .nil:=by
 obtain⟨n,hn⟩:∃n:Nat,(n:Int)=wC p:=⟨(p.k+p.m).toNat,by unfold wC;omega⟩;have ε:1<=n/\n<=10:=by unfold wC at hn;omega
 have hw:i_.wrap (p.k+p.m)=(n:Int):=by rw[hn];exact wrap_i64 Om Om
 simp only[go_sem,NQ,rX.wp,Bq];refine aS λE ζ=>?_;simp only[go_sem,hw,auW];refine iS (Lb.subs n f.atH.length) Sq a_ ?_;rintro r H' ⟨o1,o2,w,rfl,rfl⟩ U;have Z:¬E=o1:=λe=>by have:=U o1 _ (by rw[aP,aC w,cE]) rfl;rw[<-e,cE]at this;cases this
 have α:¬E=o2:=λe=>by have:=U o2 _ (by rw[cE]) rfl;rw[<-e,cE]at this;cases this
 have ν:¬o2=o1:=λe=>w e.symm;simp only[go_sem];generalize O:PF.set _ 15 _=F;have f2:F 2=some (.aX f.cells):=by rw[<-O];simp only[go_sem]
 have f3:F 3=some (.aX p.cells):=by rw[<-O];simp only[go_sem]
 have f5:F 5=some (.ptr E 1 0 0):=by rw[<-O];simp only[go_sem]
 have ξ:F 15=some (.fn 211 [.ptr o1 1 0 0,.ptr o2 1 0 0]):=by rw[<-O];simp only[go_sem]
 clear O;have X:dK f.atH.length n 0=dK f.atH.length (wC p).toNat 0:=by rw[<-hn];rfl
 have S:=xX f.atH.length n 0;have hE:JC f p=((dK f.atH.length n 0).map cA).filter (DC f p):=by rw[X];rfl
 refine⟨211,[.ptr o1 1 0 0,.ptr o2 1 0 0],acT E (((((dK f.atH.length n 0).take (dK f.atH.length n 0).length)).map cA).filter (DC f p)),rfl,λhY=>?_,λH2 R=>?_⟩
 ·refine pj (m:=26) (t:=16) Lb rfl ε.1 Om Om w (λk=>acT E ((((dK f.atH.length n 0).take k).map cA).filter (DC f p))) (h_.set E (.rows 1 [[.aJ]])) ⟨.aJ,[],((aQ.nil (H:=h_)).new ζ _).IR,rfl⟩ ?_ ?_ ?_ ?_ ?_ hY ?_;intro o x ho;rw[aP]at ho;split at ho;rename_i e;rw[jV];simp only[aP,e,aC Z,aC α,YP,if_true];exact ho;cases ho;rw[jV];simp only[aP,aC w,if_true];rw[jV];simp only[aP,if_true];rw[aP,aC (λe=>Z e.symm)];rfl;rw[aP,aC (λe=>α e.symm)];rfl;rintro k hk G c ⟨vo,ps,J,A⟩ hc;have η:=S _ (avB hk);have θ:(dK f.atH.length n 0).take (k+1)=(dK f.atH.length n 0).take k++[(dK f.atH.length n 0)[k]]:=awP hk;have V:cA (dK f.atH.length n 0)[k]∈(dK f.atH.length (wC p).toNat 0).map cA:=by rw[<-X];exact List.mem_map_of_mem (avB hk)
  generalize(dK f.atH.length n 0)[k]=s at *
  obtain⟨sl,β,-⟩:=η;have l:((((dK f.atH.length n 0).take (k+1)).map cA).filter (DC f p))=wls ps++if DC f p (cA s)then[cA s]else[]:=by rw[θ,avU,List.filter_append,A];congr 1;by_cases c:DC f p (cA s)<;>simp[c]
  have W:(aT (cA s)).length=n:=by rw[cJ,gZ,sl]
  have N:=J.Ph (s:=1) (rows:=aT (cA s)) hc;have hO:bF (G.set c (.rows 1 (aT (cA s)))) 1 (.osl c 1 0 n) (aT (cA s)):=by
   have:=N.own ((eW vo ps).length) (FU _ _ _ rfl)
   rwa[W]at this
  have σ:Z' ps<=4096:=by
   rw[<-BD,A];refine avZ (azI ..) ?_;rw[auW,avN];have h1:=AY f.atH.length n 0;have N:2^(Z' f.atH-0)<=2^12:=ayU Om Om;have e:(2:Nat)^12=4096:=by decide
   omega
  have i:=γ (cA s) ⟨by rw[gZ];omega,λx Y=>by obtain⟨y,hy,rfl⟩:=avV.1 Y;have:=β y hy;omega⟩ V;obtain⟨q,e1,Y,i⟩:=Tn (C:=C) (name:=201) (pre:=[.agg f.cells,.agg p.cells]) (u:=.bool (DC f p (cA s))) (.bool _) (λx Y=>by
   simp only[avL,avY,or_false]at Y;rcases Y with rfl|rfl
   exact λ_ _ _=>rfl;exact λ_ _ _=>rfl) hO (λe=>by have:=congrArg List.length e;rw[gZ,sl]at this;simp at this;omega) i
  have eq:c=q:=by injection e1
  subst eq;have μ:=N.at 0 rfl;have κ:¬E=c:=λe=>by have:=J.at 0 rfl;rw[e,hc]at this;cases this
  simp only[go_sem,xq,xr,f2,f3];refine AE (cs:=[]) (vs:=[.agg f.cells,.agg p.cells,.osl c 1 0 n]) (by rw[awJ];exact i) Sq (ZC _ _) ?_;cases B:DC f p (cA s)with
  |true=>
   rw[B,aF rfl]at l;simp only[go_sem,f5,κ,J.at 0 rfl];refine N.append 0 (rows:=dJ ps) (src:=[[.osl c 1 0 n]]) rfl Sq (by unfold roomFor;rw[mH];simp only[avG,maxLen];omega) λv' H' h3 ι=>?_;obtain⟨q2,rfl⟩:=ι aZ;have δ:=h3.at 0 rfl;have h4:=h3.set 0 rfl (aV.rows 1 [[PV.osl q2 1 0 (dJ ps++[[PV.osl c 1 0 n]]).length]]);simp only[go_sem,δ,f5,avL,avY,or_false,forall_eq];refine⟨PV.osl q2 1 0 (dJ ps++[[PV.osl c 1 0 n]]).length,ps++[(.osl c 1 0 n,cA s)],?_,?_⟩;have e:eW (.osl q2 1 0 (dJ ps++[[PV.osl c 1 0 n]]).length) (ps++[(PV.osl c 1 0 n,cA s)])=((eW vo ps)++[(PV.osl c 1 0 (aT (cA s)).length,1,aT (cA s))]).set 0 (.osl q2 1 0 (dJ ps++[[PV.osl c 1 0 n]]).length,1,dJ ps++[[PV.osl c 1 0 n]]):=by rw[W];unfold eW dJ kY;rw[avU,avU];rfl
   rw[e];exact h4;rw[l];unfold wls;rw[avU];rfl
  |false =>rw[B,aC aU,awJ]at l;simp only[go_sem];exact⟨vo,ps,N.sub (axN.refl _) (List.sublist_append_left ..),l.symm⟩
 rw[avW,<-hE]at R;obtain⟨vo,ps,J,A⟩:=R;have hb:=J.at 0 rfl;simp only[go_sem,mq,f5,hb];rw[<-A];exact QY (.inr rfl) Sq (J.xA 0)
def M4(f:aD)(atW:Int):Int:=if CL f atW then(if f.atH.length>12 then 2 else 0)else 1
def ajN(f:aD)(atW:Int):L2_:=if M4 f atW=0 then JC f (mR f atW)else[]
def cyS(r:PV):Spec:=λ_ _=>some ([],λ_=>aL r)
structure UOk(n:Nat)(U:L2_):Prop where
 len:Z' U<=1000
 at_:∀u∈U,Z' u<=1000/\∀d∈u,0<=d/\d<n
def rV(U:L2_)(s:N_):I_:=s.flatMap λi=>U.getD i []
theorem Ir(U:L2_)(s:N_){i:Nat}(h:i<Z' s):rV U (s.take (i+1))=rV U (s.take i)++U.getD s[i] []:=by
 unfold rV;rw[awP h,List.flatMap_append];simp
theorem Ka(U:L2_)(s:N_)(d:Nat):(rV U s).contains (d:Int)=lK U s d:=by
 unfold rV lK
 induction s with
 |nil=>rfl
 |cons i s e=>rw[List.flatMap_cons,List.contains_append,e,List.any_cons]
theorem Sf{K:bZ}[Up K](Z Y x c nd n i:Nat)(M:PV)(u:I_)(β:Z' u<=1000)(hu:∀d∈u,0<=d/\d<nd)(l:I_){F:PF}{H:PH}{B:List BX}{L:List LI}
  (y:aQ H B L) (b:Nat) (hb:B[b]?=some (x,.rows 1 (dW (marks nd l))))
  (hF:(((((((((((n_.set 2 (M)).set 6 (.ptr Z 1 0 0)).set 7 (.ptr Y 1 0 0)).set 9 (.osl x 1 0 nd)).set 66 (.osl c 1 0 n)).set 67 (.j n)).set 68 (.j i)).set 75 (ints u)).set 76 (.j (Z' u:Nat))).set 77 (.j 0))).le F)
  (hK:∀H',aQ H' (B.set b (x,.rows 1 (dW (marks nd (l++u))))) L->K (.exit 4) ((((((((n_.set 2 (M)).set 6 (.ptr Z 1 0 0)).set 7 (.ptr Y 1 0 0)).set 9 (.osl x 1 0 nd)).set 66 (.osl c 1 0 n)).set 67 (.j n)).set 68 (.j i))) H') :
  aI.wp C (.loop UD) K F H:=by
 refine wp_loop (α:=Nat × PH) (λs=>((((((((((n_.set 2 (M)).set 6 (.ptr Z 1 0 0)).set 7 (.ptr Y 1 0 0)).set 9 (.osl x 1 0 nd)).set 66 (.osl c 1 0 n)).set 67 (.j n)).set 68 (.j i)).set 75 (ints u)).set 76 (.j (Z' u:Nat))).set 77 (.j s.1))) (λs=>s.2) (λs=>s.1<=Z' u/\aQ s.2 (B.set b (x,.rows 1 (dW (marks nd (l++u.take s.1))))) L) (λs=>Z' u-s.1) (0,H) ⟨auY _,?_⟩ hF b_ ?_;rw[List.take_zero,awJ];have e:B.set b (x,.rows 1 (dW (marks nd l)))=B:=by obtain⟨h1,J⟩:=awD.1 hb;rw[<-J,List.set_getElem_self]
 rw[e];exact y;rintro⟨j,H0⟩ ⟨hj,y⟩;simp only at hj y;have N:b<Z' B:=(awD.1 hb).1;have A:(B.set b (x,aV.rows 1 (dW (marks nd (l++u.take j)))))[b]?=some (x,.rows 1 (dW (marks nd (l++u.take j)))):=List.getElem?_set_self N;simp only[go_sem,UD];by_cases hlt:j<Z' u;have w:(j:Int)<(Z' u:Nat):=Om;have U:(u.map λn=>[PV.int .i64 n])[j]?=some [.j u[j]]:=by simp[hlt]
 obtain⟨W,X⟩:=hu _ (avB hlt);have V:u.take (j+1)=u.take j++[u[j]]:=awP hlt;have R:(u[j]).toNat<(dW (marks nd (l++u.take j))).length:=by rw[CB,VD];omega
 have O:(dW (marks nd (l++u.take j)))[(u[j]).toNat]?=some [.bool ((l++u.take j).contains u[j])]:=by unfold dW;rw[avO,HH W X];rfl
 have S:=y.at b A;have J:=y.set b A (.rows 1 (dW (marks nd (l++u.take (j+1)))));rw[List.set_set]at J;have E:=VE (l:=l++u.take j) W X;rw[awB,<-V]at E;simp only[go_sem,w,U,W,X,avK,S,O,R,kK,E,wZz j];exact aE (j+1,H0.set x (.rows 1 (dW (marks nd (l++u.take (j+1)))))) ⟨hlt,J⟩ sO_ Lq b_;have w:¬(j:Int)<(Z' u:Nat):=Om;have:j=Z' u:=Om;subst this;rw[avW]at y;simp only[go_sem,w];exact Up.up Lq (hK H0 y)
def scB(e u c i:Nat)(w:PV)(U:L2_)(s:N_)(nd:Nat)(l:I_):List BX:=[(e,.rows 1 [[w]]),(u,.rows 1 [[lay U]]),(c,.rows 1 (aT (cA s))),(i,.rows 1 (dW (marks nd l)))]
theorem Jd{K:bZ}[Up K](B y A c nd n:Nat)(J Y:PV)(U:L2_)(hU:UOk nd U)(s:N_)(hs:Z' s=n)(V:∀x∈s,x<Z' U)(hn:n<=1000){F:PF}{H:PH}{L:List LI}
  (w:aQ H (scB y B c A Y U s nd []) L)
  (hF:((((((((n_.set 2 (J)).set 6 (.ptr B 1 0 0)).set 7 (.ptr y 1 0 0)).set 9 (.osl A 1 0 nd)).set 66 (.osl c 1 0 n)).set 67 (.j n)).set 68 (.j 0))).le F)
  (hK:∀H',aQ H' (scB y B c A Y U s nd (rV U s)) L->K (.exit 2) (((((n_.set 2 (J)).set 6 (.ptr B 1 0 0)).set 7 (.ptr y 1 0 0)).set 9 (.osl A 1 0 nd))) H') :
  aI.wp C (.loop UE) K F H:=by
 refine wp_loop (α:=Nat × PH) (λt=>(((((((n_.set 2 (J)).set 6 (.ptr B 1 0 0)).set 7 (.ptr y 1 0 0)).set 9 (.osl A 1 0 nd)).set 66 (.osl c 1 0 n)).set 67 (.j n)).set 68 (.j t.1))) (λt=>t.2) (λt=>t.1<=Z' s/\aQ t.2 (scB y B c A Y U s nd (rV U (s.take t.1))) L) (λt=>Z' s-t.1) (0,H) ⟨auY _,w⟩ hF b_ ?_;rintro⟨i,H0⟩ ⟨hi,w⟩;simp only at hi w;simp only[go_sem,UE];by_cases hlt:i<Z' s;have e:(i:Int)<(n:Nat):=Om;have hc:=w.at 2 rfl;have S:=w.at 1 rfl;have O:=AR hlt;have R:i<(aT (cA s)).length:=by rw[cJ,gZ];exact hlt
 have W:=V s[i] (avB hlt);have X:((s[i]:Nat):Int)<(Z' U:Nat):=Om;have l:=Ir U s hlt;have E:=hU.at_ U[s[i]] (avB W);have N:U.getD s[i] []=U[s[i]]:=by simp[avI,W]
 have M:(U.map λr=>[ints r])[s[i]]?=some [ints U[s[i]]]:=by simp[W]
 rw[N]at l;generalize U[s[i]]=u at *
 generalize s[i]=x at *
 simp only[go_sem,e,hc,O,R,avK,S,X,auW,M];have one:=λ{K:bZ} [Up K] {F:PF}=>Sf (C:=C) (K:=K) B y A c nd n i J u E.1 E.2 (rV U (s.take i)) (F:=F) w 3 rfl;refine one lM λH' Z=>?_;rw[<-l]at Z;simp only[go_sem,wZz i];exact aE (i+1,H') ⟨hlt,Z⟩ sO_ Lq b_;have e:¬(i:Int)<(n:Nat):=Om;have:i=Z' s:=Om;subst this;rw[avW]at w;simp only[go_sem,e];exact Up.up Lq (hK H0 w)
def scD(l:I_)(k:Nat):I_:=cA ((auX k).filter λd=>l.contains (d:Int))
theorem aaR(l:I_)(k:Nat):scD l (k+1)=if l.contains (k:Int)then scD l k++[(k:Int)]else scD l k:=by
 unfold scD;rw[axV,List.filter_append,Gg];by_cases h:l.contains (k:Int);rw[aF h];simp[cA]at h ⊢;simp[h];rw[aC h];simp[cA]at h ⊢;simp[h]
theorem ahM(l:I_)(k:Nat):(scD l k).length<=k:=by
 unfold scD;rw[gZ];exact avZ (azI ..) aZ
theorem D0{K:bZ}[Up K](y x J c nd:Nat)(Z:nd<=1000)(M N:PV)(U:L2_)(s:N_)(l:I_){F:PF}{H:PH}{L:List LI}
  (u:aQ H (scB x y c J N U s nd l) L)
  (W:((((((((n_.set 2 (M)).set 6 (.ptr y 1 0 0)).set 7 (.ptr x 1 0 0)).set 14 (.aJ)).set 86 (.osl J 1 0 nd)).set 87 (.j nd)).set 88 (.j 0))).le F)
  (X:∀v H',aQ H' (scB x y c J N U s nd l) (L++[(v,1,aT (scD l nd))])->K (.exit 6) (((((n_.set 2 (M)).set 6 (.ptr y 1 0 0)).set 7 (.ptr x 1 0 0)).set 14 (v))) H') :
  aI.wp C (.loop UF) K F H:=by
 refine wp_loop (α:=T3_) (λt=>(((((((n_.set 2 (M)).set 6 (.ptr y 1 0 0)).set 7 (.ptr x 1 0 0)).set 14 (t.2.1)).set 86 (.osl J 1 0 nd)).set 87 (.j nd)).set 88 (.j t.1))) (λt=>t.2.2) (λt=>t.1<=nd/\aQ t.2.2 (scB x y c J N U s nd l) (L++[(t.2.1,1,aT (scD l t.1))])) (λt=>nd-t.1) (0,.aJ,H) ⟨auY _,u.nT 1⟩ W b_ ?_;clear u;rintro⟨k,v,O⟩ ⟨Y,u⟩;simp only at Y u;simp only[go_sem,UF];by_cases hlt:k<nd
 ·have i:(k:Int)<(nd:Nat):=Om;have B:=u.at 3 rfl;have e:=aaR l k;have V:=ahM l k;have A:k<(dW (marks nd l)).length:=by rw[CB,VD];exact hlt
  have w:(dW (marks nd l))[k]?=some [.bool (l.contains (k:Int))]:=by have:=HH (n:=nd) (l:=l) (m:=(k:Int)) Om i;rw[axA]at this;unfold dW;rw[avO,this];rfl
  cases S:l.contains (k:Int)with
  |true=>
   rw[S]at w e;rw[aF rfl]at e;simp only[go_sem,i,B,w,A,avK];refine u.append L.length (rows:=aT (scD l k)) (src:=[[.j k]]) (FU _ _ _ rfl) Sq (by unfold roomFor;rw[cJ];simp only[avG,maxLen];omega) λv' H' R _=>?_;have E:aT (scD l k)++[[.j k]]=aT (scD l (k+1)):=by rw[e,zH];rfl
   rw[E,ayF _ _ (avD _),axT]at R;simp only[go_sem,wZz k];exact aE (k+1,v',H') ⟨hlt,R⟩ sO_ Lq b_
  |false =>rw[S]at w e;rw[aC aU]at e;rw[<-e]at u;simp only[go_sem,i,B,w,A,avK,wZz k];exact aE (k+1,v,O) ⟨hlt,u⟩ sO_ Lq b_
 have i:¬(k:Int)<(nd:Nat):=Om;have:k=nd:=Om;subst this;simp only[go_sem,i];exact Up.up Lq (X v O u)
def gD(f:aD)(lv e:Int):Int:=if cM f&&(decide (1<=lv)&&decide (lv<=5)&&decide (1<=e)&&decide (e<=3))then(if 12<Z' f.atH\/512<eO ((iU f lv).length:Nat) e.toNat then 2 else 0)else 1
def mZ(f:aD)(lv e:Int):L2_:=if gD f lv e=0 then vZ f (iU f lv) e.toNat else[]
structure Rs(C:Ctx):Prop extends TJ C where
 val:∀f:aD,f.Ok->aH C 96 [.agg f.cells] .nil (aL (.int .i64 (BA f)))
 units:∀(f:aD)(lv:Int),VF f->1<=lv->lv<=5->aH C 206 [.agg f.cells,.int .i64 lv] .nil (aL (lay (iU f lv)))
 choose:∀m n:Nat,m<=1000->n<=3->aH C 207 [.int .i64 m,.int .i64 n] .nil (aL (.int .i64 (max (eO m n) 0)))
theorem kh{f:aD}(hV:VF f)(lv:Int):UOk f.atH.length (iU f lv)/\(iU f lv).length<=40:=by
 have F:=hV.small.atH;have A:=hV.small.atK;by_cases c:lv=5;subst c;rw[Aq];refine⟨⟨by simp;omega,λu l=>?_⟩,by simp;omega⟩;obtain⟨d,e,rfl⟩:=avV.1 l;rw[awG]at e;refine⟨by simp,λx w=>?_⟩;rw[awL]at w;omega;rw[kg f c];have B:(tA f lv f.atH.length).length<=40:=by rw[tj];exact avZ (azI ..) (by simp;omega)
 refine⟨⟨by omega,λu l=>?_⟩,B⟩;obtain⟨i,-,rfl⟩:=avV.1 l;refine⟨by rw[gZ];have:=pd f lv f.atH.length i;omega,λx w=>?_⟩;obtain⟨y,E,rfl⟩:=avV.1 w;have:=awG.1 (List.mem_filter.1 E).1;omega
theorem alC(U:L2_)(s:N_)(nd:Nat):scD (rV U s) nd=cA ((auX nd).filter (lK U s)):=by
 unfold scD;congr 2;funext d;exact Ka U s d
instance upDone{R:PH->Prop}:Up (IK R):=⟨λ{e F i H} _ h=>by cases e<;>exact h⟩
def Df(i l:Nat)(U:L2_)(u:L2_)(G:PH):Prop:=∃e ps,aQ G [(i,.rows 1 [[e]]),(l,.rows 1 [[lay U]])] (eW e ps)/\wls ps=u
theorem Je(f:aD)(hV:VF f)(U:L2_)(hU:UOk f.atH.length U)(Z:Z' U<=40)(n:Nat)(α:1<=n)(hn:n<=3)(E u:Nat)(F:PF)(f2:F 2=some (.aX f.cells))(f6:F 6=some (.ptr E 1 0 0))(f7:F 7=some (.ptr u 1 0 0))(k:Nat)(hk:k<(dK U.length n 0).length)(G:PH)(c:Nat)
  (hI:Df u E U (((dK U.length n 0).take k).map λs=>cA ((auX f.atH.length).filter (lK U s))) G) (hc:G c=none) :
  UB.wp C (fZ C (UC.wp C) (IK (Df u E U (((dK U.length n 0).take (k+1)).map λs=>cA ((auX f.atH.length).filter (lK U s)))))) (F.set 61 (.osl c 1 0 n)) (G.set c (.rows 1 (aT (cA (dK U.length n 0)[k])))):=by
 obtain⟨w,ps,hH,hw⟩:=hI;have A:=hV.small;have N:(Z' f.atH:Int)*((1:Nat):Int)<=140737488355328:=by have:=A.atH;omega
 have O:(Z' f.atH:Int)<=9223372036854775807:=by have:=A.atH;omega
 have i:(0:Int)<=(Z' f.atH:Int):=Om;have S:=xX U.length n 0 _ (avB hk);have V:(dK U.length n 0).take (k+1)=(dK U.length n 0).take k++[(dK U.length n 0)[k]]:=awP hk;have β:Z' ps<=1099511627776:=by
  rw[<-BD,hw,auW,avN];have h1:=AY U.length n 0;have X:2^(Z' U-0)<=2^40:=ayU Om Om;have e:(2:Nat)^40=1099511627776:=by decide
  omega
 generalize(dK U.length n 0)[k]=s at *
 obtain⟨sl,M,-⟩:=S;rw[V,avU,<-hw];have X:=hH.new hc (.rows 1 (aT (cA s)));simp only[go_sem,UB,UC,f2,auW,N,O,i,Int.le_refl,axA];refine aS λW R=>?_;rw[TW];have h3:=X.new R (.rows 1 (dW (marks f.atH.length [])));simp only[go_sem];have mk:=λ{K:bZ} [Up K] {F:PF} {H:PH}=>Jd (C:=C) (K:=K) E u W c f.atH.length n (.aX f.cells) w U hU s sl (λx hx=>(M x hx).2) Om (F:=F) (H:=H) (L:=eW w ps);refine mk h3 (lE3 f2 f6 f7) λH1 h4=>?_;simp only[go_sem];have dr:=λ{K:bZ} [Up K] {F:PF} {H:PH}=>D0 (C:=C) (K:=K) E u W c f.atH.length (by have:=A.atH;omega) (.aX f.cells) w U s (rV U s) (F:=F) (H:=H) (L:=eW w ps);refine dr h4 Lq λv H2 h5=>?_;have Y:=h5.own (eW w ps).length (FU _ _ _ rfl);have J:=h5.at 0 rfl;rw[alC]at h5 Y;generalize hD:cA ((auX f.atH.length).filter (lK U s))=D at *
 have fin:∀(l:Nat)(H':PH),aQ H' (scB u E c W w U s f.atH.length (rV U s)) ((eW w ps++[(v,1,aT D)]).set 0 (PV.osl l 1 0 (dJ ps++[[v]]).length,1,dJ ps++[[v]]))->Df u E U (wls ps++[D]) (H'.set u (.rows 1 [[PV.osl l 1 0 (dJ ps++[[v]]).length]])):=by
  intro l H' y;have h7:=y.set 0 rfl (aV.rows 1 [[PV.osl l 1 0 (dJ ps++[[v]]).length]]);refine⟨PV.osl l 1 0 (dJ ps++[[v]]).length,ps++[(v,D)],?_,?_⟩;have e:eW (PV.osl l 1 0 (dJ ps++[[v]]).length) (ps++[(v,D)])=(eW w ps++[(v,1,aT D)]).set 0 (PV.osl l 1 0 (dJ ps++[[v]]).length,1,dJ ps++[[v]]):=by unfold eW dJ kY;rw[avU,avU];rfl
  rw[e];exact(h7.xA 3).xA 2;unfold wls;rw[avU];rfl
 have room:roomFor (dJ ps).length 1 24:=by unfold roomFor;rw[mH];simp only[maxLen];omega
 rcases Y with⟨-,rfl⟩|⟨q,rs,rfl,-,-,-⟩
 simp only[go_sem,J,avL,avY,or_false,forall_eq];refine h5.append 0 (rows:=dJ ps) (src:=[[PV.aJ]]) rfl Sq room λv' H' y B=>?_;obtain⟨l,rfl⟩:=B aZ;have i:=y.at 0 rfl;simp only[go_sem,i,avL,avY,or_false,forall_eq];exact fin l H' y;simp only[go_sem,J,avL,avY,or_false,forall_eq];refine h5.append 0 (rows:=dJ ps) (src:=[[PV.osl q 1 0 (aT D).length]]) rfl Sq room λv' H' y B=>?_;obtain⟨l,rfl⟩:=B aZ;have i:=y.at 0 rfl;simp only[go_sem,i,avL,avY,or_false,forall_eq];exact fin l H' y
abbrev tU(lv e:Int):PV:=.agg [.int .i64 lv,.int .i64 e]
theorem Xq(M:Rs C)(N O:Code)(f:aD)(hf:f.Ok)(lv i:Int) :
  (NP N O).wp C (aW (Np N O).res (cC (.tup [lay (mZ f lv i),.j (gD f lv i)]))) (g_ [.agg f.cells,tU lv i]) .nil:=by
 have hB:mZ f lv i=if gD f lv i=0 then vZ f (iU f lv) i.toNat else[]:=rfl
 have S:gD f lv i=if cM f&&(decide (1<=lv)&&decide (lv<=5)&&decide (1<=i)&&decide (i<=3))then(if 12<Z' f.atH\/512<eO ((iU f lv).length:Nat) i.toNat then 2 else 0)else 1:=rfl
 have hv:=M.val f hf;unfold BA at hv;have bad:∀(e:Int)(F:PF)(H:PH),e≠0->gD f lv i=e->F 4=some .aJ->F 5=some (.j e)->aW [.tmp 4,.tmp 5] (cC (.tup [lay (mZ f lv i),.j (gD f lv i)])) .ret F H:=by intro e F H he l h2 h3;rw[l,aC he]at hB;rw[hB,l];exact CS (H:=H) (.inr rfl) (by simp only[go_sem,h2,h3]) (show aQ H [] (eW .aJ [])from aQ.IR aQ.nil)
 have no:(cM f&&(decide (1<=lv)&&decide (lv<=5)&&decide (1<=i)&&decide (i<=3)))=false->gD f lv i=1:=λh=>by rw[S,h];rfl
 simp only[go_sem,NP,rX.wp,Np];refine aB hv Ev ?_;cases hp:cM f with
 |false =>have l:=no (by rw[hp];rfl);simp only[go_sem,cY (show(1:Int)≠0 by decide)];exact bad 1 _ _ aU l Sq Sq
 |true=>
  have hV:=VF.of hp;by_cases R:lv<1;have l:=no (by rw[bS (Om:¬1<=lv)];simp);simp only[go_sem,cF (show(0:Int)=0 from rfl),R];exact bad 1 _ _ aU l Sq Sq;by_cases c2:lv>5;have l:=no (by rw[bS (Om:¬lv<=5)];simp);simp only[go_sem,cF (show(0:Int)=0 from rfl),R,c2];exact bad 1 _ _ aU l Sq Sq;by_cases c3:i<1;have l:=no (by rw[bS (Om:¬1<=i)];simp);simp only[go_sem,cF (show(0:Int)=0 from rfl),R,c2,c3];exact bad 1 _ _ aU l Sq Sq;by_cases c4:i>3;have l:=no (by rw[bS (Om:¬i<=3)];simp);simp only[go_sem,cF (show(0:Int)=0 from rfl),R,c2,c3,c4];exact bad 1 _ _ aU l Sq Sq;obtain⟨n,rfl⟩:∃n:Nat,i=n:=⟨i.toNat,by omega⟩;rw[hp,bG (Om:1<=lv),bG (Om:lv<=5),bG (Om:(1:Int)<=(n:Int)),bG (Om:(n:Int)<=3),ayJ,ayJ,ayJ,ayJ,aF rfl,axA]at S;rw[axA]at hB;obtain⟨hU,W⟩:=kh hV lv;have A:=M.units f lv hV Om Om;generalize iU f lv=U at *
  simp only[go_sem,cF (show(0:Int)=0 from rfl),R,c2,c3,c4];refine aB A Ev ?_;simp only[go_sem];refine aS λw ζ=>?_;simp only[go_sem,auW];by_cases c5:12<Z' f.atH;have l:gD f lv n=2:=by rw[S,aF (.inl c5)]
  simp only[go_sem,show(Z' f.atH:Int)>12 by omega];exact bad 2 _ _ aU l Sq Sq;simp only[go_sem,show ¬(Z' f.atH:Int)>12 by omega];refine aB (M.choose U.length n Om Om) Ev ?_;by_cases c6:512<eO (Z' U:Nat) n;have l:gD f lv n=2:=by rw[S,aF (.inr c6)]
  simp only[go_sem,show max (eO (Z' U:Nat) n) 0>512 by omega];exact bad 2 _ _ aU l Sq Sq;have l:gD f lv n=0:=by rw[S,aC (λh=>h.elim c5 c6)]
  rw[l,aF rfl]at hB;rw[hB,l];simp only[go_sem,show ¬max (eO (Z' U:Nat) n) 0>512 by omega];refine aS λu K=>?_;have θ:¬u=w:=by rintro rfl;rw[cE]at K;cases K
  have B:¬w=u:=λe=>θ e.symm;simp only[go_sem,B,auW];refine iS (M.subs n U.length) Sq a_ ?_;rintro r H' ⟨o1,o2,J,rfl,rfl⟩ ε;have γ:∀o x,(((h_.set o1 (.rows 1 [[.j n]])).set o2 (.rows 1 [[.j (Z' U:Nat)]])):PH) o=some x->¬u=o/\¬w=o:=λo x h=>by have:=ε o x h rfl;refine⟨λe=>?_,λe=>?_⟩;rw[<-e,cE]at this;cases this;rw[<-e,aP,aC B,cE]at this;cases this
  obtain⟨Y,α⟩:=γ o1 _ (by rw[aP,aC J,cE]);obtain⟨Z,β⟩:=γ o2 _ (by rw[cE]);simp only[go_sem];generalize V:PF.set _ 60 _=F;have f2:F 2=some (.aX f.cells):=by rw[<-V];simp only[go_sem]
  have f6:F 6=some (.ptr w 1 0 0):=by rw[<-V];simp only[go_sem]
  have f7:F 7=some (.ptr u 1 0 0):=by rw[<-V];simp only[go_sem]
  have ι:F 60=some (.fn 211 [.ptr o1 1 0 0,.ptr o2 1 0 0]):=by rw[<-V];simp only[go_sem]
  clear V;have E:vZ f U n=((dK U.length n 0).take (dK U.length n 0).length).map λs=>cA ((auX f.atH.length).filter (lK U s)):=by rw[avW];rfl
  have y:aQ ((h_.set w (.rows 1 [[lay U]])).set u (.rows 1 [[.aJ]])) [(u,.rows 1 [[.aJ]]),(w,.rows 1 [[lay U]])] (eW .aJ []):=((((aQ.nil (H:=h_)).new ζ _).new K _).perm (axY.swap _ _ _) (axY.refl _)).IR;refine⟨211,[.ptr o1 1 0 0,.ptr o2 1 0 0],Df u w U (vZ f U n),rfl,λhY=>?_,λH2 δ=>?_⟩;rw[E];refine pj (m:=104) (t:=61) M.toTJ rfl Om Om Om J (λk=>Df u w U (((dK U.length n 0).take k).map λs=>cA ((auX f.atH.length).filter (lK U s)))) ((h_.set w (.rows 1 [[lay U]])).set u (.rows 1 [[.aJ]])) ⟨.aJ,[],y,rfl⟩ ?_ ?_ ?_ ?_ ?_ hY λk hk G c hI hc=>Je f hV U hU W n Om Om w u F f2 f6 f7 k hk G c hI hc;intro o x X;rw[jV];have e1:¬o=o1:=λe=>by rw[e,aP,aC (λh=>Y h.symm),aP,aC (λh=>α h.symm)]at X;cases X
  have e2:¬o=o2:=λe=>by rw[e,aP,aC (λh=>Z h.symm),aP,aC (λh=>β h.symm)]at X;cases X
  have:((h_.set o1 (.rows 1 [[.j n]])).set o2 (.rows 1 [[.j (Z' U:Nat)]]):PH) o=none:=by rw[aP,aC e2,aP,aC e1];rfl
  rw[this];exact X;rw[jV];simp only[aP,aC J,if_true];rw[jV];simp only[aP,if_true];rw[aP,aC (λe=>Y e.symm),aP,aC (λe=>α e.symm)];rfl;rw[aP,aC (λe=>Z e.symm),aP,aC (λe=>β e.symm)];rfl;obtain⟨vo,ps,hH,η⟩:=δ;have hb:=hH.at 0 rfl;simp only[go_sem,mp,f7,hb];rw[<-η];exact CS (.inr rfl) Sq ((hH.xA 0).xA 0)
theorem Js{l:N_}(h:l.Pairwise (· < ·)):(cA l).Pairwise (· < ·):=by
 unfold cA;rw[List.pairwise_map];exact h.imp λh=>by omega
theorem aaS{f:aD}(hV:VF f)(U:L2_)(w:Z' U<=40)(n:Nat):(vZ f U n).length<=1099511627776/\∀s∈vZ f U n,Z' s<=24/\s.Pairwise (· < ·):=by
 have x:=hV.small.atH;unfold vZ;constructor;rw[auW];have l:=AY U.length n 0;have u:2^(Z' U-0)<=2^40:=ayU Om Om;have e:(2:Nat)^40=1099511627776:=by decide
 omega;intro s i;obtain⟨t,-,rfl⟩:=avV.1 i;refine⟨?_,Js (List.pairwise_lt_range.filter _)⟩;rw[gZ];exact avZ (azI ..) (by simp;omega)
def PG(f:aD)(atW:Int)(set:I_)(lv e:Int):Int:=if gD f lv e≠0 then gD f lv e else if W5 f atW set then 0 else 1
def Oz(f:aD)(atW:Int)(set:I_)(lv e:Int):Nat:=if PG f atW set lv e=0 then pK (mZ f lv e) set (mR f atW).m else 0

noncomputable def Qr:aD:=(jJ [] 1 0 0).1

theorem J7(n k a:Nat)(h:a<n):dK n (k+1) a=(dK n k (a+1)).map (a::·)++dK n (k+1) (a+1):=by
 rw[dK];by_cases c:n-k-a=0;have e:n-k-(a+1)=0:=Om;rw[dK,c,e];have:dK n k (a+1)=[]:=by
  cases k with
  |zero=>omega
  |succ k=>rw[dK,show n-k-(a+1)=0 by omega];rfl
 rw[this];rfl;obtain⟨m,i⟩:∃m,n-k-a=m+1:=⟨n-k-a-1,by omega⟩;rw[dK,i,List.range'_succ,List.flatMap_cons,show n-k-(a+1)=m by omega]
def Grow(P:N_->Bool):Prop:=∀s t:N_,(∀x∈s,x∈t)->P s=true->P t=true
theorem Grow.cons{P:N_->Bool}(h:Grow P)(a:Nat):Grow λs=>P (a::s):=λs t i u=>
 h (a::s) (a::t) (λx l=>(avL.1 l).elim (λe=>e ▸ List.mem_cons_self) λl=>ayT _ (i x l)) u
def kL(n k a:Nat)(P:N_->Bool):Nat:=(dK n k a).countP P
theorem GU(n k a:Nat)(h:a<n)(P:N_->Bool):kL n (k+1) a P=kL n k (a+1) (λs=>P (a::s))+kL n (k+1) (a+1) P:=by
 unfold kL;rw[J7 n k a h,List.countP_append,List.countP_map];rfl
theorem Sb(n k a:Nat){P Q:N_->Bool}(h:∀s,P s=true->Q s=true):kL n k a P<=kL n k a Q:=List.countP_mono_left λs _ e=>h s e
theorem JT(n a:Nat)(P:N_->Bool):kL n 0 a P=if P []then 1 else 0:=by
 unfold kL;rw[dK,List.countP_cons,List.countP_nil,avK]
theorem NM(n:Nat):∀(m k a:Nat)(P:N_->Bool),Grow P->a+m=n->(m-k)*kL n k a P<=(k+1)*kL n (k+1) a P
 |0,k,a,P,_,_=>by rw[Nat.zero_sub,Nat.zero_mul];exact auY _
 |m+1,0,a,P,e,h=>by
  rw[GU n 0 a Om,JT,JT];have l:=NM n m 0 (a+1) P e Om;rw[JT]at l;cases hp:P []with
  |false=>rw[aC aZ];omega
  |true =>have u:P [a]=true:=e [] [a] (λx i=>by cases i) hp;rw[aF hp]at l;rw[aF rfl,aF u];omega
 |m+1,k+1,a,P,e,h=>by
  have E:=NM n m (k+1) (a+1) P e Om;have F:=NM n m k (a+1) (λs=>P (a::s)) (e.cons a) Om;have A:=Sb n (k+1) (a+1) (P:=P) (Q:=λs=>P (a::s)) λs B=>e s (a::s) (λx i=>ayT _ i) B;rw[GU n k a Om,GU n (k+1) a Om];generalize kL n (k+1) (a+1) P=x at *
  generalize kL n (k+1+1) (a+1) P=y at *
  generalize kL n k (a+1) (λs=>P (a::s))=z at *
  generalize kL n (k+1) (a+1) (λs=>P (a::s))=w at *
  rw[show m+1-(k+1)=m-k by omega,avQ,avQ];have J:(m-k)*x<=(m-(k+1))*x+x:=by
   rcases avX k m with c|c
   rw[show m-k=(m-(k+1))+1 by omega,axM];exact avD _;rw[show m-k=0 by omega,Nat.zero_mul];exact auY _
  have e2:(k+1+1)*w=(k+1)*w+w:=axM _ _;omega
theorem Xm{n k:Nat}{P:N_->Bool}(l:Grow P)(h:2*k+1<=n):kL n k 0 P<=kL n (k+1) 0 P:=by
 have e:=NM n n k 0 P l Om;have i:(k+1)*kL n k 0 P<=(n-k)*kL n k 0 P:=awI _ Om;exact Nat.le_of_mul_le_mul_left (avZ i e) Om
theorem Fk(f:aD)(u:L2_)(k:Nat)(set:I_)(m:Int):pK (vZ f u k) set m=kL u.length k 0 λs=>decide (((kA (cA ((auX f.atH.length).filter (lK u s))) set:Nat):Int)>m):=by
 unfold pK vZ kL;rw[List.countP_map];rfl
theorem Tu{f:aD}{u:L2_}{k:Nat}{set:I_}{m:Int}(h:2*k+1<=Z' u):pK (vZ f u k) set m<=pK (vZ f u (k+1)) set m:=by
 rw[Fk,Fk];refine Xm (λs t w A=>?_) h;have B:=of_decide_eq_true A;refine bG ?_;have:kA (cA ((auX f.atH.length).filter (lK u s))) set<=kA (cA ((auX f.atH.length).filter (lK u t))) set:=by unfold kA;refine List.countP_mono_left λd _ l=>?_;rw[ayY]at l ⊢;unfold cA at l ⊢;rw[avV]at l ⊢;obtain⟨x,e,rfl⟩:=l;refine⟨x,?_,rfl⟩;rw[List.mem_filter]at e ⊢;refine⟨e.1,?_⟩;unfold lK at e ⊢;rw[List.any_eq_true]at e ⊢;obtain⟨-,i,hi,y⟩:=e;exact⟨i,w i hi,y⟩
 omega
def lvC(L:Int)(ds:List cR):Nat:=ds.countP λx=>decide (x.level=L)
theorem Y5(f:aD)(L:Int):((auX f.atK.length).filter λi=>decide (lvl f i=L)).length=lvC L f.atK:=by
 rw[<-List.countP_eq_length_filter];unfold lvC lvl;have e:∀(ds:List cR),(auX ds.length).countP (λi=>decide ((ds.map cR.level).getD i 0=L))=ds.countP λx=>decide (x.level=L):=by
  intro ds
  induction ds with
  |nil=>rfl
  |cons d ds l =>rw[awK,List.range_succ_eq_map,List.countP_cons,List.countP_map,List.countP_cons,<-l];rfl
 exact e f.atK
theorem Dz:∀m:Fin 10,∀c:Fin 4,eO (m.val:Int) c.val<=512:=by decide
theorem Wg(f:aD)(lv:Int):(iU f lv).length=if lv=5 then f.atH.length else lvC lv f.atK:=by
 unfold iU;split;simp;rw[auW];exact Y5 f lv
structure IG(f:aD):Prop where
 ok:f.Ok
 valid:cM f=true
 atH:Z' f.atH<=9
 lv:∀L:Int,1<=L->L<=4->lvC L f.atK<=8
theorem IG.num{f:aD}(h:IG f){lv:Int}(e:1<=lv)(h5:lv<=5):(iU f lv).length<=9:=by
 rw[Wg];split;exact h.atH;have:=h.lv lv e Om;omega
theorem IG.Hv{f:aD}(h:IG f){lv:Int}(e:1<=lv)(h5:lv<=5){c:Nat}(l:1<=c)(u:c<=3):gD f lv c=0:=by
 have w:=h.num e h5;have i:=Dz ⟨(iU f lv).length,by omega⟩ ⟨c,by omega⟩;simp only at i;unfold gD;rw[h.valid,bG e,bG h5,bG (Om:(1:Int)<=(c:Int)),bG (Om:(c:Int)<=3),ayJ,ayJ,ayJ,ayJ,aF rfl,axA,aC];have:=h.atH;omega
theorem IG.all{f:aD}(h:IG f){p:Int}(i:CL f p=true):M4 f p=0/\ajN f p=JC f (mR f p):=by
 have e:M4 f p=0:=by unfold M4;rw[i,aF rfl,aC];have:=h.atH;omega
 exact⟨e,by unfold ajN;rw[aF e]⟩
theorem W9{s:N_}{n top:Nat}(u:Z' s=n)(w:∀x∈s,x<top)(y:s.Pairwise (· < ·)):W8 (cA s) n top=true:=by
 unfold W8;rw[gZ,u,bG rfl,avR];simp only[awA,awG];intro i hi;have e:i<Z' s:=Om;have g:(cA s).getD i 0=(s[i]:Nat):=by unfold cA;simp[avI,e]
 unfold acY;rw[g];have A:=w _ (avB e);simp only[avE,Bool.or_eq_true,dT_];refine⟨by omega,?_⟩;by_cases c:i=0;exact .inl c;right;have l:i-1<Z' s:=Om;have g2:(cA s).getD (i-1) 0=(s[i-1]:Nat):=by unfold cA;simp[avI,l]
 rw[g2];have:=List.pairwise_iff_getElem.1 y (i-1) i l e Om;omega
theorem aaY{f:aD}{p:Int}(i:CL f p=true){set:I_}(h:set∈JC f (mR f p)):W5 f p set=true/\Z' set<=8:=by
 obtain⟨hV,-⟩:=E7 i;have l:=hV.atW _ (Tf i).1;unfold JC at h;rw[List.mem_filter]at h;obtain⟨u,w⟩:=h;obtain⟨s,y,rfl⟩:=avV.1 u;obtain⟨k1,k2,B⟩:=xX _ _ _ _ y;have e:((wC (mR f p)).toNat:Int)=wC (mR f p):=by unfold wC;omega
 have:=W9 k1 (λx A=>(k2 x A).2) B;rw[e]at this;refine⟨by unfold W5;rw[i,this,w];rfl,?_⟩;rw[gZ,k1];unfold wC;omega
theorem IG.more{f:aD}(h:IG f){p:Int}(w:CL f p=true){lv:Int}(i:1<=lv)(h5:lv<=5){c:Nat}(u:1<=c)(A:c<=2)(x:2*c+1<=(iU f lv).length){set:I_}(y:set∈JC f (mR f p)) :
  PG f p set lv c=0/\PG f p set lv ((c+1:Nat):Int)=0/\Oz f p set lv c<=Oz f p set lv ((c+1:Nat):Int):=by
 have s1:=h.Hv i h5 u (Om:c<=3);have s2:=h.Hv i h5 (Om:1<=c+1) (Om:c+1<=3);obtain⟨l,-⟩:=aaY w y;have e:PG f p set lv c=0:=by unfold PG;rw[s1,l];rfl
 have e2:PG f p set lv ((c+1:Nat):Int)=0:=by unfold PG;rw[s2,l];rfl
 refine⟨e,e2,?_⟩;unfold Oz mZ;rw[aF e,aF e2,aF s1,aF s2,axA,axA];exact Tu x

def nL(f:aD)(sc L:L2_):Nat->Nat
 |0=>0
 |k+1=>nL f sc L k+pK sc (L.getD k []) (cT f k).m
def DP(f:aD)(lv e:Int)(L:L2_):Int:=if gD f lv e≠0 then gD f lv e else if lO f L []then 0 else 1
def YK(f:aD)(lv e:Int)(L:L2_):Nat:=if DP f lv e L=0 then nL f (mZ f lv e) L L.length else 0
theorem Tv{s t:I_}(h:s.Perm t)(sc:L2_)(m:Int):pK sc s m=pK sc t m:=by
 unfold pK;refine List.countP_congr λx _=>?_;unfold kA;rw[h.countP_eq]
theorem gg(sc:L2_)(set:I_)(m:Int):pK sc set m<=Z' sc:=List.countP_le_length
theorem ef(f:aD)(sc L:L2_):∀k,nL f sc L k<=k*Z' sc
 |0=>auY _
 |k+1=>by have:=ef f sc L k;have:=gg sc (L.getD k []) (cT f k).m;rw[nL,axM];omega
theorem wR{f:aD}{L:L2_}{room:I_}(h:lO f L room=true):cM f=true:=by
 unfold lO at h;rw[avE]at h;exact h.1
theorem vi{f:aD}{L:L2_}{room:I_}(h:lO f L room=true):yT f L:=by
 have i:=wR h;unfold lO sQ at h;rw[i,avR,aF rfl,dT_]at h;by_cases c:Z' L=Z' f.atJ;rw[aF c]at h;have h:=List.append_eq_nil_iff.1 (azL h);have E:∀v (i:v<Z' L),sZ f L v=none:=λv i=>by have l:=List.flatMap_eq_nil_iff.1 h.1 v (awG.2 i);unfold uO at l;split at l;cases l;assumption
 have u:∀v (i:v<Z' L),((L[v].length:Nat):Int)=fT f v/\∀x∈L[v],-1<=x/\x<Z' f.atH:=λv i=>by
  have l:=E v i;have e:L.getD v []=L[v]:=by simp[avI,i]
  unfold sZ at l;rw[e]at l;split at l;rename_i y;refine⟨y,λx w=>?_⟩;have A:=xB (Option.map_eq_none_iff.1 l) x w;simp only[kW,Bool.or_eq_false_iff,decide_eq_false_iff_not]at A;omega;cases l
 refine⟨c,λv i=>(u v i).1,λr B x w=>?_⟩;obtain⟨v,i,rfl⟩:=awR B;exact(u v i).2 x w;rw[aC c]at h;cases h
theorem Te{f:aD}{L:L2_}{room:I_}(h:lO f L room=true){v:Nat}(B:v<Z' L):L[v].Nodup/\(∀x∈L[v],0<=x/\x<Z' f.atH)/\L[v]≠[]/\L[v].length<=10:=by
 have E:=wR h;have y:=vi h;have M:=((acF E y room).1 h).1 v B;obtain⟨F,J,-,-⟩:=aiI.1 M;have A:∀x∈L[v],0<=x/\x<Z' f.atH:=λx l=>by
  obtain⟨i,hi,rfl⟩:=awR l;have:=F i hi;have e:L[v].getD i 0=L[v][i]:=by simp[avI,hi]
  rw[e]at this;exact⟨this,(y.home _ (avB B) _ l).2⟩
 have hV:=VF.of E;obtain⟨hp,he⟩:=mS hV (show v<f.atJ.length by have:=y.len;omega);have w:=hV.atW _ (avB hp);rw[he]at w;have u:=y.row v B;have K:fT f v=(cT f v).k+(cT f v).m:=rfl;refine⟨List.nodup_iff_count.2 λx=>?_,A,λe=>?_,by omega⟩;by_cases l:x∈L[v];have:=J x.toNat (by have:=A x l;omega)
 rwa[Int.toNat_of_nonneg (A x l).1]at this
 rw[List.count_eq_zero_of_not_mem l];omega;rw[e,axC]at u;omega
theorem sorted_perm(xs:I_):(sorted xs).Perm xs:=List.mergeSort_perm ..
theorem RK(xs:I_):(sorted xs).length=Z' xs:=(sorted_perm xs).length_eq
theorem Qn{xs:I_}(h:xs.Nodup):(sorted xs).Pairwise (· < ·):=by
 have e:(sorted xs).Pairwise λa b=>decide (a<=b)=true:=List.pairwise_mergeSort (λa b c e i=>by simp at *;omega) (λa b=>by simp;omega) xs;have i:(sorted xs).Nodup:=(sorted_perm xs).nodup_iff.2 h;refine(List.Pairwise.and e i).imp λh=>?_;have:=of_decide_eq_true h.1;omega
def jA:=bP [] Proofs.Tryz.f3
def OZ:=aA jA 13
def PA:=aA jA 14
def PB:=aA jA 15
def PC:=aA jA 16
def PD:=aA jA 17
def PE:=aA jA 18
def bs:aI:=(sq (aA jA 0) (sq (aA jA 1) (kB (aA jA 2) 35 (aA jA 3) (.seq (dD (aA jA 4) 0 (dY (aA jA 5) 40 0 (aA jA 8) (sq (aA jA 6) (.cond (Tm 48) (sq (aA jA 7) .ret) .skip)))) (sq (aA jA 9) (.seq (sq (aA jA 10) (sq (aA jA 11) (.cond (Tm 65) (.region (aA jA 12)) .skip))) (sq OZ (sq PA (sq PB (sq PC (sq PD (sq PE .ret))))))))))))
def ri:=bP [3,4] Proofs.Tryz.f10
def ck:=bV ri
def Ch:=bP [3] Proofs.Tryz.f28
def rk:=bV Ch
def YU:=bP [] Proofs.Tryz.f25
def VC:=bV YU
def B6:=bP [3,4] Proofs.Tryz.f9
def pq:=bV B6
structure ma(C:Ctx):Prop where
 sort:∀(o:Nat)(xs:I_),xs≠[]->Z' xs<4611686018427387904->aH C 373 [.osl o 1 0 xs.length] (h_.set o (.rows 1 (aT xs))) (λr H'=>r=.tup []/\H'=h_.set o (.rows 1 (aT (sorted xs))))
theorem O0(u:ma C)(row:I_)(l:row≠[])(w:Z' row<=1000) :
  VC.wp C (aW YU.res (aL (ints (sorted row)))) (g_ [ints row]) .nil:=by
 have i:aT row≠[]:=λe=>l (List.map_eq_nil_iff.1 e);simp only[go_sem,VC,YU];refine uY (src:=aT row) (by simp only[go_sem];rfl) (by unfold roomFor;rw[cJ];simp only[maxLen];omega) (λh=>absurd h i) λ_ o x=>?_;rw[cJ]
 try simp only[go_sem]
 refine iS (u.sort o row l Om) Ev b_ ?_;rintro r H' ⟨rfl,rfl⟩ -;rw[PH.uS,PH.set_set];simp only[go_sem];refine QW (o:=o) (s:=1) (k:=Z' row) (rs:=aT (sorted row)) (.inr rfl) Sq Sq (by rw[cJ,RK];omega) ?_;rw[show(aT (sorted row)).take row.length=aT (sorted row)from avT (by rw[cJ,RK];omega)];exact⟨rfl,rfl⟩
end Go.PM
