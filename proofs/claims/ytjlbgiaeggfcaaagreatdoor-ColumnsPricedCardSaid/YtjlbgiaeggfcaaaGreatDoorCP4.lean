/-Lemmas for the law. No condition.-/
import Derived.Test.YtjlbgiaeggfcaaaGreatDoorCP3
import Derived.RangeFuncRecord
set_option linter.unusedSimpArgs false
set_option linter.unusedVariables false
open Nat renaming reduceEqDiff->γ,reduceAdd->δ,reduceSub->ε,reduceMul->ζ,reduceLT->η,reduceLeDiff->θ,reduceBEq->τ
open Int renaming reduceLT->ι,reduceLE->κ,reduceEq->μ,reduceToNat->ν,reduceAdd->ξ,reduceNeg->ο,reduceBEq->ρ,reduceBNe->σ
open List renaming reduceReplicate->υ
open List renaming length_map->bkG,getElem_mem->bkK,replicate->bkM,length_append->bkQ,mem_cons->bkX,length_take->bkY,take_of_length_le->bkZ,append_assoc->blW,drop_zero->blY,getElem?_eq_none->bmA,length_cons->bmB,drop_eq_getElem_cons->bmP,length_nil->bnB,set_append_right->bnJ,nil_append->boD
open Bool renaming false_eq_true->bmT
open Nat renaming le_refl->bkN,mul_add->blA,zero_add->blG,le_trans->blH,lt_or_ge->blI,mul_assoc->blL,mul_comm->blP,add_mul->blT,mul_le_mul_right->blU,mod_eq_of_lt->bmC,mod_lt->bmG,add_zero->bmS,eq_zero_or_pos->bmZ,min_eq_left->bnA,mul_le_mul_left->bnD,pos_of_ne_zero->bnE,pow_pos->bnK,div_lt_iff_lt_mul->bnU,div_add_mod->boG,div_eq_of_lt->boH
open Option renaming map_eq_some_iff->bkU
open Int renaming tdiv->bmX
open Array renaming replicate->bmN,getElem?_eq_some_iff->bnZ,getElem?_eq_getElem->boB,getD_eq_getD_getElem?->boJ
open List renaming length->Z'
set_option maxRecDepth 100000
set_option maxHeartbeats 800000
open Go.IntKind renaming i64->i_,u64->u_
open Go.PM.PF renaming args->g_
noncomputable section
namespace Go.PM
open Go Go.Na
def a0W(a:List Nat)(d q k r:Nat):PF:=(((((PF.nil.set 0 (aN a)).set 1 (aN [d])).set 6 (.osl q 1 0 a.length)).set 7 (.int .u64 r)).set 8 (.int .i64 ((k:Int)-1)))
variable{C:Ctx}
theorem aNK(L:b9 C)(a:List Nat)(d:Nat)(ha:Lim a)(l:0<d)(hd:d<4294967296)(h1:Z' a<=1000)(F:PF)(f0:F 0=some (aN a))(f1:F 1=some (aN [d])) :
  aC.wp C (.seq (.region YQ) (.seq (.region YR) (.seq (.seq (.region YS) (.block 0 (.loop QD))) (.seq (.region QE) .ret)))) (aX [.tmp 4,.tmp 5] (cI (xE (val a) d))) F .nil:=by
 have X:(Z' a:Int)*((4:Nat):Int)<=140737488355328:=Om;have Y:(Z' a:Int)<=9223372036854775807:=Om;have hz:bkM a.length [PV.int .u32 0]=aO (bkM a.length 0++[]):=by simp[aO]
 simp only[go_sem,YQ,f0,bkG,X,Y,hz];refine aP λo ho=>?_;simp only[go_sem,YR,YS,f0,bkG];refine wp_loop (α:=Nat × List Nat × Nat) (λt=>a0W a d o t.1 t.2.2) (λt=>PH.nil.set o (.rows 1 (aO (bkM t.1 0++t.2.1))))
  (λt=>t.1+t.2.1.length=Z' a/\Lim t.2.1/\t.2.2<d/\val t.2.1*d+t.2.2=val (a.drop t.1)) (λt=>t.1) (Z' a,[],0) ⟨by simp,by simp[Lim],l,by simp[val]⟩ ?_ ?_ ?_
 ·unfold a0W
  (repeat' (first|exact c_|refine d_ ?_ ?_))<;>first|(simp only[go_sem,f0,f1,wrap_i64 (Om:-9223372036854775808<=(Z' a:Int)-1) (Om:(Z' a:Int)-1<=9223372036854775807)]<;>rfl)|rfl
 ·exact e_ a_ Sq
 rintro⟨k,S,r⟩ ⟨hk,i,N,e⟩;simp only at hk i N e;simp only[go_sem,QD,Jv,a0W];by_cases h0:0<k
 ·obtain⟨m,rfl⟩:∃m,k=m+1:=⟨k-1,by omega⟩;have w:((m+1:Nat):Int)-1=(m:Int):=Om;have V:(m:Int)>=0:=Om;have u:m<Z' a:=Om;have hlt:(m:Int)<(Z' a:Nat):=Om;have β:=ha _ (bkK u);have p:val (a.drop m)=a[m]+4294967296*val (a.drop (m+1)):=by rw[bmP u];rfl
  have R:=cK a u;generalize hx:a[m]=x at *
  have ex:u_.wrap ((x:Nat):Int)=((x:Nat):Int):=bV Om;have ed:u_.wrap ((d:Nat):Int)=((d:Nat):Int):=bV Om;have H:shift .shl .u64 (r:Int) 32=some (.int .u64 ((2^32*r:Nat):Int)):=YG (s:=32) Om Om;have O:(2:Nat)^32=4294967296:=by decide
  have A:=orI (a:=2^32*r) (b:=x) (n:=2^32*r+x) Om Om (Nat.two_pow_add_eq_or_of_lt Om r).symm Om;rw[O]at H A;have M:(4294967296*r+x)/d<4294967296:=by rw[bnU l];have:4294967296*(r+1)<=4294967296*d:=bnD _ N;omega
  have U:¬((d:Nat):Int)=0:=Om;have B:u_.wrap (bmX ((4294967296*r+x:Nat):Int) ((d:Nat):Int))=(((4294967296*r+x)/d:Nat):Int):=by rw[show bmX ((4294967296*r+x:Nat):Int) ((d:Nat):Int)=(((4294967296*r+x)/d:Nat):Int)from rfl];exact bV Om
  have E:Int.tmod ((4294967296*r+x:Nat):Int) ((d:Nat):Int)=(((4294967296*r+x)%d:Nat):Int):=rfl;have ec:IntKind.u32.wrap (((4294967296*r+x)/d:Nat):Int)=(((4294967296*r+x)/d:Nat):Int):=by rw[dN,bmC M]
  have J:bkM (m+1) 0++S=bkM m 0++(0::S):=by rw[List.replicate_succ',blW];rfl
  have W:(aO (bkM m 0++(0::S)))[m]?=some [.int .u32 ((0:Nat):Int)]:=by rw[cK _ bH];simp
  have K:(aO (bkM m 0++(0::S))).set m [.int .u32 (((4294967296*r+x)/d:Nat):Int)]=aO (bkM m 0++(((4294967296*r+x)/d)::S)):=by rw[jW,bnJ _ _ bH];simp
  simp only[go_sem,w,V,Jw,H,R,ex,A,Jx,ed,U,B,ec,hlt,J,W,K,tz,E,t6];refine aG (m,((4294967296*r+x)/d)::S,(4294967296*r+x)%d) ⟨by simp only[bmB];omega,λy hy=>?_,bmG _ l,?_⟩ (by simp only;omega) ?_ (e_ a_ Sq)
  ·rw[bkX]at hy;rcases hy with rfl|hy
   ·exact M
   ·exact i y hy
  ·simp only[val];rw[p,<-e,blT,blA,blL];have:=boG (4294967296*r+x) d;rw[blP d]at this;omega
  ·(repeat' (first|exact c_|refine d_ ?_ ?_))<;>first|(simp only[go_sem,wrap_i64 (Om:-9223372036854775808<=(m:Int)-1) (Om:(m:Int)-1<=9223372036854775807)]<;>rfl)|rfl
 ·have:k=0:=Om;subst this;have w:¬((0:Nat):Int)-1>=0:=by decide
  rw[blY]at e;have hS:Z' S=Z' a:=Om;have M:val S=val a/d:=by rw[<-e,blP,Nat.mul_add_div l,boH N,bmS]
  have Z:r=val a%d:=by rw[<-e,blP,Nat.mul_add_mod,bmC N]
  have γ:bkM 0 0++S=S:=by simp
  have hl:=L.trim S i Om;have Q:(aO S).take a.length=aO S:=bkZ (by rw[cX];omega);simp only[go_sem,w,QE,boD];refine xV (o:=o) (s:=1) (rs:=aO S) hl Sq (by simp only[go_sem,Q,show a.length<=S.length by omega]) ?_;simp only[go_sem];refine aB (L.make r Om) Sq ?_;simp only[go_sem];refine bG (vs:=[aN (aM (val S)),aN (aM r)]) (.inr rfl) .nil Ev a_ ⟨?_,rfl⟩;rw[M,Z];exact .refl _
theorem a3H{B m:Nat}(h:nl B=m+1):32*m<dC B/\dC B<=32*(m+1):=by
 refine⟨?_,(kJ B (m+1)).2 Om⟩;rcases blI (32*m) (dC B)with h1|h1
 ·exact h1
 ·have:=(kJ B m).1 h1;omega
theorem a3I{B:Nat}(h:B≠0):2^(dC B-1)<=B:=by
 rcases blI B (2^(dC B-1))with h1|h1
 ·have d:=(rC B _).2 h1;have i:dC B≠0:=λe=>h (oN.1 e);omega
 ·exact h1
theorem aNL(L:b9 C)(A B:Nat)(hB:B≠0)(hA:nl A<=512)(Φ:nl B<=512) :
  LF.wp C (aX Ox.res (cI (xE A B))) (g_ [aN (aM A),aN (aM B)]) .nil:=by
 have R:=aY A;have LB:=aY B;have vA:=aW A;have vB:=aW B;have lA:(aM A).length=nl A:=rfl;have lB:(aM B).length=nl B:=rfl;simp only[go_sem,LF,Jr,Js,Ox];refine aB (L.cmp _ _ R LB Om Om) rfl ?_;rw[vA,vB];by_cases c1:A<B
 ·have hc:eR A B<0:=by simp[eR,c1]
  simp only[go_sem,hc,Jt];refine aB (L.trim _ R Om) rfl ?_;rw[vA];simp only[go_sem];refine bG (vs:=[.aK,aN (aM A)]) (.inr rfl) .nil rfl a_ ⟨?_,rfl⟩;rw[xE,boH c1,bmC c1,fJ];exact CoL.tup (CoL.cons (.nil 1) (CoL.cons (.refl _) .nil))
 have hc:¬eR A B<0:=by unfold eR;rw[aD c1];split<;>decide
 have σ:0<B:=bnE hB;have d':nl B≠0:=λh=>hB (kV.1 h);simp only[go_sem,hc,Ju,bkG,lB];by_cases c2:nl B=1
 ·have S:B<4294967296:=by have:=(mQ B 1).1 Om;simpa using this
  have ψ:aM B=[B]:=uI hB S;have sh:=aNK (C:=C) L (aM A) B R σ S Om;rw[vA]at sh;simp only[aC.wp,go_sem]at sh;simp only[go_sem,bW (Om:((nl B:Nat):Int)=1)];exact sh _ rfl (by simp only[go_sem,ψ])
 obtain⟨m,hm⟩:∃m,nl B=m+1:=⟨nl B-1,by omega⟩;have c':1<=m:=Om;obtain⟨a',β⟩:=a3H hm;obtain⟨n,hn⟩:∃n,n+dC B=32*(m+1):=⟨32*(m+1)-dC B,by omega⟩;have δ:n<32:=Om;have K:0<2^n:=bnK aU;have V:B<2^dC B:=(rC B _).1 (bkN _);have U:=a3I hB;have Y:B*2^n<4294967296^(m+1):=by have:B*2^n<2^dC B*2^n:=Nat.mul_lt_mul_of_pos_right V K;rw[<-Nat.pow_add,show dC B+n=32*(m+1) by omega,Nat.pow_mul]at this;exact this
 have Λ:4294967296^m*2147483648<=B*2^n:=by have:2^(dC B-1)*2^n<=B*2^n:=blU _ U;rw[<-Nat.pow_add,show dC B-1+n=32*m+31 by omega,Nat.pow_add,Nat.pow_mul]at this;exact this
 have nV:nl (B*2^n)=m+1:=by
  have E:=(mQ (B*2^n) (m+1)).2 Y;rcases blI (nl (B*2^n)) (m+1)with h|h
  ·have:=(mQ (B*2^n) m).1 Om;have Γ:0<4294967296^m:=bnK aU;omega
  ·omega
 have Ω:B*2^n≠0:=Nat.mul_ne_zero hB Om;have f':nl (A*2^n)<=nl A+1:=kZ (bkN _) (lE (by rw[Nat.pow_one];exact Nat.pow_lt_pow_right (a:=2) (m:=n) (n:=32) aU δ));have φ:B*2^n<=A*2^n:=blU _ Om;have g':m+1<=nl (A*2^n):=by rw[<-nV];exact jO φ
 have Ψ:A*2^n≠0:=Om;have κ:i_.wrap (32*((nl B:Nat):Int))=((32*(m+1):Nat):Int):=by rw[wrap_i64 Om Om];omega
 have en:i_.wrap (((32*(m+1):Nat):Int)-((dC B:Nat):Int))=(n:Int):=by rw[wrap_i64 Om Om];omega
 have bt:=L.bits (aM B) LB Om;rw[vB]at bt;have ua:=L.upM (aM A) n R Om Om (λh=>by have:=iW R;rw[h]at this;omega);have ub:=(L.upM (aM B) n LB Om Om (λh=>by have:=iW LB;rw[h]at this;omega)).freeze;rw[vA]at ua;rw[vB]at ub;have tail:∀(o:Nat)(F:PF)(H:PH),F 0=some (aN (aM A))->F 1=some (aN (aM B))->F 10=some (.int .i64 n)->F 11=some (.osl o 1 0 (nl (A*2^n)+2))->F 12=some (aN (aM (B*2^n)))->H o=some (.rows 1 (aO (aM (A*2^n))++[[.int .u32 0],[.int .u32 0]])) ->
   aC.wp C (.seq (.region QF) (.seq (.region QG) (.seq (.region QH) (.seq (.seq (.region QI) (.block 2 (.loop EC))) (.seq (.region QO) .ret))))) (aX [.tmp 4,.tmp 5] (cI (xE A B))) F H:=by
  intro o F H f0 f1 μ f11 ν hH;have LU:=aY (A*2^n);have LV:=aY (B*2^n);have vU:=aW (A*2^n);have vV:=aW (B*2^n);have lU:(aM (A*2^n)).length=nl (A*2^n):=rfl;have lV:(aM (B*2^n)).length=m+1:=nV;have eu:i_.wrap (((nl (A*2^n):Nat):Int)+1)=((nl (A*2^n)+1:Nat):Int):=eM Om;have b1:((nl (A*2^n)+1:Nat):Int)<=((nl (A*2^n)+2:Nat):Int):=Om;simp only[go_sem,QF,f11,f0,μ];refine aB ua.freeze rfl ?_;obtain⟨d,b'⟩:∃d,nl (A*2^n)+1-(m+1)=d:=⟨_,rfl⟩;have ω:nl (A*2^n)+1=d+(m+1):=Om;have em:i_.wrap (((m+1:Nat):Int)-1)=((m:Nat):Int):=by rw[wrap_i64 Om Om];omega
  have p:m<(aM (B*2^n)).length:=Om;have rm:=cK (aM (B*2^n)) p;have tl:=LV _ (bkK p);have htop:0<(aM (B*2^n))[m]:=by
   have E:=dE (aM (B*2^n)) p;rw[bkZ Om,vV]at E;have h2:=iW (LV.take m);rw[bkY,bnA Om]at h2;have Γ:0<4294967296^m:=bnK aU;rcases bmZ (aM (B*2^n))[m]with h|h
   ·rw[h]at E;omega
   ·exact h
  have ι:2147483648<=(aM (B*2^n))[m]:=by
   have E:=dE (aM (B*2^n)) p;rw[bkZ Om,vV]at E;have h2:=iW (LV.take m);rw[bkY,bnA Om]at h2;rcases blI (aM (B*2^n))[m] 2147483648 with h|h
   ·exfalso;have h3:4294967296^m*((aM (B*2^n))[m]+1)<=4294967296^m*2147483648:=bnD _ h;rw[blA,Nat.mul_one]at h3;omega
   ·exact h
  have w:=aTR (C:=C) L (A*2^n) n o (nl (A*2^n)+1) d;have hI:uY (A*2^n) (val (aM (B*2^n))) (m+1) (nl (A*2^n)+1) d d (aM (A*2^n)++[0]) (bkM d 0):=by
   refine⟨by rw[bkQ,lU];rfl,List.length_replicate,LU.app λx O=>by simp at O;omega,ET _,?_,?_,λi x _ O=>asQ O⟩
   ·rw[kI,vU,zT];simp[val]
   ·have Ξ:(aM (A*2^n)++[0]).length=nl (A*2^n)+1:=by rw[bkQ,lU];rfl
    have Θ:val (aM (A*2^n)++[0])=A*2^n:=by rw[kI,vU];simp[val]
    rw[DJ (LU.app λx O=>by simp at O;omega) Om,Θ,vV,bnU (bnK aU)];have E:A*2^n<4294967296^nl (A*2^n):=(mQ _ _).1 (bkN _);have O:nl (A*2^n)=m+d:=Om;rw[O,Nat.pow_add]at E;have h2:4294967296^m*4294967296^d<=(B*2^n)*4294967296^d:=blU _ Om;omega
  have M:aO (aM (A*2^n))++[[PV.int .u32 0],[PV.int .u32 0]]=fQ (aM (A*2^n)++[0]) (aO [0]):=by simp[fQ,aO]
  rw[M]at hH;generalize θ:(aM (B*2^n))[m]=top at *
  have et:u_.wrap ((top:Nat):Int)=((top:Nat):Int):=bV Om;have k2:i_.wrap (((nl (A*2^n)+1:Nat):Int)-((m+1:Nat):Int))=((d:Nat):Int):=by rw[wrap_i64 Om Om];omega
  have k3:((d:Nat):Int)*((4:Nat):Int)<=140737488355328:=Om;have k4:((d:Nat):Int)<=9223372036854775807:=Om;have hz:bkM d [PV.int .u32 0]=aO (bkM d 0):=by simp[aO]
  have jq:i_.wrap ((d:Int)-1)=(d:Int)-1:=wrap_i64 Om Om;simp only[go_sem,bkG,lU,eu,b1,QG,ν,lV,em,rm,et,QH,k2,k3,k4,hz];refine aP λy η=>?_;have ε:y≠o:=by rintro rfl;rw[hH]at η;cases η
  have l:¬o=y:=λh=>ε h.symm;have u:=w y m (aM (B*2^n)) [0] ε LV lV (by rw[θ];exact htop) ω Om _ hI;rw[θ]at u;simp only[go_sem]at u;simp only[go_sem,QI,jq];refine u _ _ _ ?_ ?_ ?_
  ·unfold duF;exact Lq
  ·refine e_ (e_ a_ ?_) ?_
   ·simp only[go_sem,l,hH]
   ·simp only[go_sem]
  clear u w;intro X Q F1 H1 e J W;have ξ:F1 10=some (.int .i64 n):=J 10 _ (by unfold duF;simp only[go_sem]);have ο:F1 11=some (.osl o 1 0 (nl (A*2^n)+1)):=J 11 _ (by unfold duF;simp only[go_sem]);have ρ:F1 14=some (.osl y 1 0 d):=J 14 _ (by unfold duF;simp only[go_sem]);have ζ:H1 o=some (.rows 1 (fQ X (aO [0]))):=W o _ (by simp only[go_sem,l]);have Δ:H1 y=some (.rows 1 (aO Q)):=W y _ Sq;have hu:val X<val (aM (B*2^n)):=by have:=e.r;rwa[blY]at this
  have N:=e.v;rw[vV]at hu N;have υ:val Q=A/B:=by
   have:A*2^n/(B*2^n)=val Q:=by rw[<-N,Nat.add_mul_div_right _ _ Om,boH hu,blG]
   rw[<-this,Nat.mul_div_mul_right _ _ K]
  have χ:val X/2^n=A%B:=by
   have:A*2^n%(B*2^n)=val X:=by rw[<-N,Nat.add_mul_mod_self_right,bmC hu]
   rw[<-this,Nat.mul_mod_mul_right,Nat.mul_div_cancel _ K]
  have lX:=e.lu';have lQ:=e.lq';have τ:(aO Q).take d=aO Q:=bkZ (by rw[cX];omega);have α:(fQ X (aO [0])).take (nl (A*2^n)+1)=aO X:=by rw[fQ,List.take_append_of_le_length (by rw[cX];omega),bkZ (by rw[cX];omega)]
  have Z:nl (A*2^n)+1<=(fQ X (aO [0])).length:=by rw[fQ,bkQ,cX];omega
  have γ:(fQ X (aO [0])).map (λr=>r.map (PV.eF y 1 (aO Q)))=fQ X (aO [0]):=by
   have:fQ X (aO [0])=aO (X++[0]):=by simp[fQ,aO]
   rw[this];exact zD _ _ _ _
  have nX:=jF e.limU;have t1:=L.trim Q e.limQ Om;have t2:=L.trim X e.limU Om;have dn:=L.down (aM (val X)) n (aY _) (by rw[bE];omega) Om;rw[aW,χ]at dn;rw[υ]at t1;generalize aO [0]=Z0 at ζ α Z γ;simp only[go_sem,QO,ρ];refine xV (o:=y) (s:=1) (rs:=aO Q) t1 Δ (by simp only[go_sem,τ,show d<=Q.length by omega]) ?_;simp only[go_sem,ο,l];refine xV (o:=o) (s:=1) (rs:=fQ X Z0) t2 (by simp only[go_sem,l,ζ,bA.frz,γ]) (by simp only[go_sem,α,Z]) ?_;simp only[go_sem,ξ];refine aB dn rfl ?_;simp only[go_sem];exact bG (vs:=[aN (aM (A/B)),aN (aM (A%B))]) (.inr rfl) .nil rfl a_ ⟨.refl _,rfl⟩
 simp only[aC.wp,go_sem]at tail;simp only[go_sem,bL (Om:¬((nl B:Nat):Int)=1),t7,bkG,lB];refine aB bt rfl ?_;simp only[go_sem,κ,en,t8];refine nE ua rfl a_ λr H1 hr _=>?_;have β:(2:Nat)*1<=16777216:=by decide
 rcases hr with⟨h0,_⟩|⟨o,rs,rfl,rfl,hrl,hrt⟩
 ·exfalso;have:=congrArg List.length h0;rw[cX,bE]at this;simp at this;omega
 rw[PH.qN];rw[cX,bE]at hrl hrt;simp only[go_sem,β,cX,bE];refine asM (src:=[[.int .u32 0],[.int .u32 0]]) (rs:=rs) rfl ?_ Sq hrl ?_ λo' e'=>?_
 ·unfold roomFor;simp only[maxLen,bmB,bnB];omega
 ·rw[hrt];simp only[go_sem];refine aB ub rfl ?_;simp only[go_sem];exact tail o _ _ rfl rfl rfl rfl rfl Sq
 ·rw[hrt];simp only[go_sem];refine aB ub rfl ?_;simp only[go_sem];exact tail o' _ _ rfl rfl rfl rfl rfl Sq
def bQ(C:Ctx)(k:Nat)(pf:bB):Prop:=∀(args:List PV)(H:PH)(R:PV->PH->Prop),Z' args<=pf.ntmps->pf.body.wp C (aX pf.res R) (g_ args) H->aH C k args H R
theorem bQ.go{k:Nat}{pf:bB}(r:bQ C k pf){args:List PV}{H:PH}{R:PV->PH->Prop}(h:pf.body.wp C (aX pf.res R) (g_ args) H)(d:Nat.ble args.length pf.ntmps=true):aH C k args H R:=r args H R (Nat.le_of_ble_eq_true d) h
abbrev JB(C:Ctx):Prop:=∀n:Nat,n<100->aH C 195 [.int .i64 n] .nil (aF (.str (cU n)))
section
variable {C:Ctx} {F F':PF} {H:PH}
theorem dU(d:F.le F'){x:aS}{v:PV}(h:x.ev F=some v):x.ev F'=some v:=by
 cases x
 ·exact d _ _ h
 all_goals exact h
theorem RU(d:F.le F'):∀{xs:List aS}{vs:List PV},aS.evs F xs=some vs->aS.evs F' xs=some vs
 |[],_,h=>h
 |x::xs,vs,h=>by
  rw[JU]at h ⊢;cases i:x.ev F with
  |none=>simp[i]at h
  |some v=>
   cases e:aS.evs F xs with
   |none=>simp[e]at h
   |some l =>rw[i,e]at h;rw[dU d i,RU d e];exact h
theorem adE(d:F.le F'):∀{ps:List (Nat × Nat × aS)}{cs ds:List PV},rN cs F ps=some ds->rN cs F' ps=some ds
 |[],_,_,h=>h
 |(l,size,x)::ps,cs,ds,h=>by
  simp only[rN]at h ⊢;cases e:x.ev F with
  |none=>simp[e]at h
  |some v=>
   rw[e]at h;rw[dU d e];simp only at h ⊢;split at h
   ·rename_i i;rw[aI i];exact adE d h
   ·cases h
theorem OI(d:F.le F'){size:Nat}:∀{ps:List (Nat × aS)}{cs ds:List (List PV)},jC size cs F ps=some ds->jC size cs F' ps=some ds
 |[],_,_,h=>h
 |(i,x)::ps,cs,ds,h=>by
  simp only[jC]at h ⊢;cases e:x.ev F with
  |none=>simp[e]at h
  |some v=>
   rw[e]at h;rw[dU d e];simp only at h ⊢;split at h
   ·rename_i l;rw[aI l];exact OI d h
   ·cases h
theorem cf(e:F.le F'){d n:Int}{x:Option aS}(h:bnd F d x=some n):bnd F' d x=some n:=by
 cases x with
 |none=>exact h
 |some x=>
  simp only[bnd]at h ⊢;cases i:x.ev F with
  |none=>simp[i]at h
  |some v=>rw[dU e i,<-i];exact h
theorem amC{op:POp}{v:PV}(A:F.le F')(h:aQ op F H=some v):aQ op F' H=some v:=by
 cases op
 case mv x=>exact dU A h
 case pick c a b=>
  simp only[aQ]at h ⊢;cases K:c.ev F with
  |none=>simp[K]at h
  |some t=>
   rw[K]at h;rw[dU A K];cases t<;>simp only at h ⊢<;>try cases h
   rename_i t;cases t
   ·simp only[bmT,if_false]at h ⊢;exact dU A h
   ·simp only[if_true]at h ⊢;exact dU A h
 case same x=>
  simp only[aQ]at h ⊢;cases e:x.ev F with
  |none=>simp[e]at h
  |some a=>rw[dU A e,<-e];exact h
 case un o x=>
  simp only[aQ]at h ⊢;cases e:x.ev F with
  |none=>simp[e]at h
  |some a=>rw[dU A e,<-e];exact h
 case conv k x=>
  simp only[aQ]at h ⊢;cases e:x.ev F with
  |none=>simp[e]at h
  |some a=>rw[dU A e,<-e];exact h
 case bjI x=>
  simp only[aQ]at h ⊢;cases e:x.ev F with
  |none=>simp[e]at h
  |some a=>rw[dU A e,<-e];exact h
 case bjY o x=>
  simp only[aQ]at h ⊢;cases e:x.ev F with
  |none=>simp[e]at h
  |some a=>rw[dU A e,<-e];exact h
 case field o n x=>
  simp only[aQ]at h ⊢;cases e:x.ev F with
  |none=>simp[e]at h
  |some a=>rw[dU A e,<-e];exact h
 case bjV x=>
  simp only[aQ]at h ⊢;cases e:x.ev F with
  |none=>simp[e]at h
  |some a=>rw[dU A e,<-e];exact h
 case isNil n x=>
  simp only[aQ]at h ⊢;cases e:x.ev F with
  |none=>simp[e]at h
  |some a=>rw[dU A e,<-e];exact h
 case lenM x=>
  simp only[aQ]at h ⊢;cases e:x.ev F with
  |none=>simp[e]at h
  |some a=>rw[dU A e,<-e];exact h
 case bkF x=>
  simp only[aQ]at h ⊢;cases e:x.ev F with
  |none=>simp[e]at h
  |some a=>rw[dU A e,<-e];exact h
 case extract x i=>
  simp only[aQ]at h ⊢;cases e:x.ev F with
  |none=>simp[e]at h
  |some a=>rw[dU A e,<-e];exact h
 case bjJ x=>
  simp only[aQ]at h ⊢;cases e:x.ev F with
  |none=>simp[e]at h
  |some a=>rw[dU A e,<-e];exact h
 case len x=>
  simp only[aQ]at h ⊢;cases e:x.ev F with
  |none=>simp[e]at h
  |some a=>rw[dU A e,<-e];exact h
 case box r x=>
  cases r
  ·cases h
  simp only[aQ]at h ⊢;cases e:x.ev F with
  |none=>simp[e]at h
  |some a=>rw[dU A e,<-e];exact h
 case load n p=>
  cases n
  all_goals
   simp only[aQ]at h ⊢;cases e:p.ev F with
   |none=>simp[e]at h
   |some a=>rw[dU A e,<-e];exact h
 case bin o x y=>
  simp only[aQ]at h ⊢;cases e:x.ev F with
  |none=>simp[e]at h
  |some a=>
   cases B:y.ev F with
   |none=>simp[e,B]at h
   |some b=>rw[dU A e,dU A B,<-e,<-B];exact h
 case eqb n x y=>
  simp only[aQ]at h ⊢;cases e:x.ev F with
  |none=>simp[e]at h
  |some a=>
   cases B:y.ev F with
   |none=>simp[e,B]at h
   |some b=>rw[dU A e,dU A B,<-e,<-B];exact h
 case eqs n k x y=>
  simp only[aQ]at h ⊢;cases e:x.ev F with
  |none=>simp[e]at h
  |some a=>
   cases B:y.ev F with
   |none=>simp[e,B]at h
   |some b=>rw[dU A e,dU A B,<-e,<-B];exact h
 case bjM s x i=>
  simp only[aQ]at h ⊢;cases e:x.ev F with
  |none=>simp[e]at h
  |some a=>
   cases B:i.ev F with
   |none=>simp[e,B]at h
   |some b=>rw[dU A e,dU A B,<-e,<-B];exact h
 case idxA n s x i=>
  simp only[aQ]at h ⊢;cases e:x.ev F with
  |none=>simp[e]at h
  |some a=>
   cases B:i.ev F with
   |none=>simp[e,B]at h
   |some b=>rw[dU A e,dU A B,<-e,<-B];exact h
 case idxV n s g x i=>
  simp only[aQ]at h ⊢;cases e:x.ev F with
  |none=>simp[e]at h
  |some a=>
   cases B:i.ev F with
   |none=>simp[e,B]at h
   |some b=>rw[dU A e,dU A B,<-e,<-B];exact h
 case bjW x i=>
  simp only[aQ]at h ⊢;cases e:x.ev F with
  |none=>simp[e]at h
  |some a=>
   cases B:i.ev F with
   |none=>simp[e,B]at h
   |some b=>rw[dU A e,dU A B,<-e,<-B];exact h
 case bjQ m x y=>
  simp only[aQ]at h ⊢;cases e:x.ev F with
  |none=>simp[e]at h
  |some a=>
   cases B:y.ev F with
   |none=>simp[e,B]at h
   |some b=>rw[dU A e,dU A B,<-e,<-B];exact h
 case lookup sh z x k ok=>
  simp only[aQ]at h ⊢;cases e:x.ev F with
  |none=>simp[e]at h
  |some a=>
   cases B:k.ev F with
   |none=>simp[e,B]at h
   |some b=>rw[dU A e,dU A B,<-e,<-B];exact h
 case build z ps =>simp only[aQ,bkU]at h ⊢;obtain⟨cs,E,J⟩:=h;exact⟨cs,adE A E,J⟩
 case bjB r s l z ps=>
  cases r
  ·cases h
  simp only[aQ]at h ⊢;split at h
  ·rename_i K;rw[aI K];rw[bkU]at h ⊢;obtain⟨cs,E,J⟩:=h;exact⟨cs,OI A E,J⟩
  ·cases h
 case mkfn n cs =>simp only[aQ,bkU]at h ⊢;obtain⟨vs,E,J⟩:=h;exact⟨vs,RU A E,J⟩
 case sliceA n s x lo hi mx=>
  cases lo<;>cases hi<;>cases mx<;>simp only[aQ]at h ⊢<;>try cases h
  cases e:x.ev F with
  |none=>simp[e]at h
  |some a=>rw[dU A e,<-e];exact h
 case bjS x lo hi=>
  simp only[aQ]at h ⊢;cases e:x.ev F with
  |none=>simp[e]at h
  |some a=>
   rw[e]at h;rw[dU A e];cases a<;>simp only at h ⊢<;>try cases h
   cases E:bnd F 0 lo with
   |none=>simp[E]at h
   |some l=>
    rename_i s;cases J:bnd F s.length hi with
    |none=>simp[E,J]at h
    |some u=>rw[cf A E,cf A J,<-E,<-J];exact h
 case slice s x lo hi mx=>
  simp only[aQ]at h ⊢;cases e:x.ev F with
  |none=>simp[e]at h
  |some a=>
   rw[e]at h;rw[dU A e];have N:∀(d:Int)(w:PV),(match bnd F 0 lo,bnd F d hi with
     |some a1,some a2=>match(generalizing:=false) mx with
      |none=>PV.slice s w a1 a2 none
      |some m=>(bnd F 0 (some m)).bind λm=>PV.slice s w a1 a2 (some m)
     |_,_=>none)=some v->(match bnd F' 0 lo,bnd F' d hi with
     |some a1,some a2=>match(generalizing:=false) mx with
      |none=>PV.slice s w a1 a2 none
      |some m=>(bnd F' 0 (some m)).bind λm=>PV.slice s w a1 a2 (some m)
     |_,_=>none)=some v:=by
    intro d w h;cases E:bnd F 0 lo with
    |none=>simp[E]at h
    |some l=>
     cases J:bnd F d hi with
     |none=>simp[E,J]at h
     |some u=>
      rw[E,J]at h;rw[cf A E,cf A J];cases mx with
      |none=>exact h
      |some m=>
       simp only at h ⊢;cases M:bnd F 0 (some m)with
       |none=>simp[M]at h
       |some q=>rw[cf A M,<-M];exact h
   cases a<;>simp only at h ⊢<;>first|exact N _ _ h|cases h
 all_goals exact h
theorem aaF{op:POp}{r:(Nat->PV) × bA}(d:F.le F')(h:cZ op F=some r):cZ op F'=some r:=by
 cases op
 case box b x=>
  cases b
  ·simp only[cZ]at h ⊢;cases e:x.ev F with
   |none=>simp[e]at h
   |some a=>rw[dU d e,<-e];exact h
  ·cases h
 case bjB b s l z ps=>
  cases b
  ·simp only[cZ]at h ⊢;split at h
   ·rename_i w;rw[aI w];rw[bkU]at h ⊢;obtain⟨cs,p,u⟩:=h;exact⟨cs,OI d p,u⟩
   ·cases h
  ·cases h
 case bjD s b z l c=>
  simp only[cZ]at h ⊢;cases e:l.ev F with
  |none=>simp[e]at h
  |some a=>
   cases i:c.ev F with
   |none=>simp[e,i]at h
   |some b=>rw[dU d e,dU d i,<-e,<-i];exact h
 all_goals exact h
theorem asO{op:POp}{K:PV->PH->Prop}(d:F.le F')(h:cL op F H K):cL op F' H K:=by
 cases op
 case store n x y=>
  simp only[cL]at h ⊢;cases e:x.ev F with
  |none=>simp[e]at h
  |some a=>
   cases i:y.ev F with
   |none=>simp[e,i]at h
   |some b=>rw[dU d e,dU d i];rw[e,i]at h;exact h
 case append s b x y=>
  simp only[cL]at h ⊢;cases e:x.ev F with
  |none=>simp[e]at h
  |some a=>
   cases i:y.ev F with
   |none=>simp[e,i]at h
   |some b=>rw[dU d e,dU d i];rw[e,i]at h;exact h
 case bjN sh x y z=>
  simp only[cL]at h ⊢;cases e:x.ev F with
  |none=>simp[e]at h
  |some a=>
   cases i:y.ev F with
   |none=>simp[e,i]at h
   |some b=>
    cases l:z.ev F with
    |none=>simp[e,i,l]at h
    |some c=>rw[dU d e,dU d i,dU d l];rw[e,i,l]at h;exact h
 case insert sh x y z=>
  simp only[cL]at h ⊢;cases e:x.ev F with
  |none=>simp[e]at h
  |some a=>
   cases i:y.ev F with
   |none=>simp[e,i]at h
   |some b=>
    cases l:z.ev F with
    |none=>simp[e,i,l]at h
    |some c=>rw[dU d e,dU d i,dU d l];rw[e,i,l]at h;exact h
 all_goals exact h
theorem PF.baH(d:F.le F')(i:Nat)(v:PV):(F.set i v).le (F'.set i v):=by
 intro j u h;rw[oZ]at h ⊢;split at h
 ·rename_i e;rw[aI e];exact h
 ·rename_i e;rw[aD e];exact d j u h
theorem PF.BD(e:F.le F')(d:Option Nat)(v:PV):(F.put d v).le (F'.put d v):=by
 cases d with
 |none=>exact e
 |some d=>exact PF.baH e d v
theorem PF.a9A(d:F.le F')(o s:Nat)(rs:List (List PV)):(F.frz o s rs).le (F'.frz o s rs):=by
 intro j u h;rw[xM,bkU]at h ⊢;obtain⟨x,e,i⟩:=h;exact⟨x,d j x e,i⟩
theorem PF.le_trans{A B D:PF}(h:A.le B)(k:B.le D):A.le D:=λi v hi=>k i v (h i v hi)
theorem kM.up{i:PF}{l:PH}(h:kM F H i l):∀{F':PF},F.le F'->∃d,kM F' H d l/\i.le d:=by
 induction h with
 |refl F H=>exact λ{F'} e=>⟨F',.refl _ _,e⟩
 |step o w _ x =>intro F' e;obtain⟨d,p,u⟩:=x (PF.a9A e o _ _);exact⟨d,.step o w p,u⟩
theorem A5{name:Nat}{args:Option (List PV)}{d:Option Nat}{K1 K2:PF->PH->Prop}(y:∀F F' H,F.le F'->K1 F H->K2 F' H)(i:F.le F'){e:Option (List PV)}(A:∀vs,args=some vs->e=some vs)(h:wC C name args d K1 F H):wC C name e d K2 F' H:=by
 obtain⟨vs,l,R,p,u,w,x⟩:=h;exact⟨vs,l,R,A _ p,u,w,λr H' a b=>y _ _ _ (PF.BD i d r) (x r H' a b)⟩
theorem ahW{cs:List PV}{args:List aS}(d:F.le F')(vs:List PV)(h:(aS.evs F args).map (·++cs)=some vs):(aS.evs F' args).map (·++cs)=some vs:=by
 rw[bkU]at h ⊢;obtain⟨x,e,i⟩:=h;exact⟨x,RU d e,i⟩
theorem awB{name:Nat}{args:List aS}{cs:List PV}{d:Option Nat}{K1 K2:PF->PH->Prop}(l:∀F F' H,F.le F'->K1 F H->K2 F' H)(e:F.le F')(h:lC C name args cs d K1 F H):lC C name args cs d K2 F' H:=by
 rcases h with h|⟨F1,H1,h1,h2⟩
 ·exact .inl (A5 l e (ahW e) h)
 ·obtain⟨i,k1,k2⟩:=h1.up e;exact .inr ⟨i,H1,k1,A5 l k2 (ahW k2) h2⟩
theorem gg{op:POp}{d:Option Nat}{K1 K2:PF->PH->Prop}(p:∀F F' H,F.le F'->K1 F H->K2 F' H)(e:F.le F')(h:pS (cZ op F) d K1 F H):pS (cZ op F') d K2 F' H:=by
 obtain⟨w,x,i,l⟩:=h;exact⟨w,x,aaF e i,λo u=>p _ _ _ (PF.BD e d _) (l o u)⟩
theorem Mg{op:POp}{d:Option Nat}{K1 K2:PF->PH->Prop}(p:∀F F' H,F.le F'->K1 F H->K2 F' H)(e:F.le F')(h:cP (aQ op F H) d K1 F H):cP (aQ op F' H) d K2 F' H:=by
 obtain⟨v,i,l⟩:=h;exact⟨v,amC e i,p _ _ _ (PF.BD e d v) l⟩
theorem Zq{op:POp}{d:Option Nat}{K1 K2:PF->PH->Prop}(i:∀F F' H,F.le F'->K1 F H->K2 F' H)(e:F.le F')(h:cL op F H λr H'=>K1 (F.put d r) H'):cL op F' H λr H'=>K2 (F'.put d r) H':=
 asO e (LO (λv H' l=>i _ _ _ (PF.BD e d v) l) h)
theorem a2S{op:POp}{d:Option Nat}{K1 K2:PF->PH->Prop}(i:∀F F' H,F.le F'->K1 F H->K2 F' H)(e:F.le F')(h:wpOp C op d K1 F H):wpOp C op d K2 F' H:=by
 cases op
 case call n a=>exact awB i e h
 case bjX x a=>
  have w:xB C (x.ev F) a d K1 F H:=h;show xB C (x.ev F') a d K2 F' H;cases M:x.ev F with
  |none=>rw[M]at w;exact w.elim
  |some u=>
   rw[dU e M];rw[M]at w;cases u<;>first|exact awB i e w|exact w.elim|skip
   obtain⟨l,O,A⟩:=w;refine⟨l,O,?_⟩;rcases A with⟨vs,E,R,A,J,K,h5⟩|⟨F1,H1,k1,vs,E,R,A,J,K,h5⟩
   ·exact .inl ⟨vs,E,R,RU e A,J,K,λr H' p q=>i _ _ _ (PF.BD e d r) (h5 r H' p q)⟩
   ·obtain⟨B,k2,N⟩:=k1.up e;exact .inr ⟨B,H1,k2,vs,E,R,RU N A,J,K,λr H' p q=>i _ _ _ (PF.BD N d r) (h5 r H' p q)⟩
 case box r x=>cases r<;>first|exact gg (op:=.box false x) i e h|exact Mg (op:=.box true x) i e h
 case bjB r s l z ps=>cases r<;>first|exact gg (op:=.bjB false s l z ps) i e h|exact Mg (op:=.bjB true s l z ps) i e h
 case alloc cs=>exact gg (op:=.alloc cs) i e h
 case bjD s b z l c=>exact gg (op:=.bjD s b z l c) i e h
 case bkB sh=>exact gg (op:=.bkB sh) i e h
 case store n x y=>exact Zq (op:=.store n x y) i e h
 case append s b x y=>exact Zq (op:=.append s b x y) i e h
 case bjN sh x y z=>exact Zq (op:=.bjN sh x y z) i e h
 case insert sh x y z=>exact Zq (op:=.insert sh x y z) i e h
 all_goals exact Mg i e h
theorem ij{K1 K2:PF->PH->Prop}(l:∀F F' H,F.le F'->K1 F H->K2 F' H):∀{ops:List aZ}{F F':PF}{H:PH},F.le F'->wpOps C ops K1 F H->wpOps C ops K2 F' H
 |[],_,_,_,i,h=>l _ _ _ i h
 |⟨d,op,none⟩::rest,_,_,_,i,h=>a2S (λ_ _ _ a b=>ij l a b) i h
 |⟨d,op,some (t,p)⟩::rest,F,F',H,i,h=>by
  rw[avI]at h ⊢;unfold ES at h;split at h
  ·rename_i b hb;rw[i t _ hb];unfold ES;simp only;split at h
   ·rename_i e;rw[aI e];exact a2S (λ_ _ _ a b=>ij l a b) i h
   ·rename_i e;rw[aD e];exact ij l (PF.BD i d _) h
  ·rename_i hb;rw[i t _ hb];exact ij l (PF.BD i d _) h
  ·exact h.elim
theorem alQ{Hs:PH}{S:Spec}{st:Bool}{op:POp}{K:PV->PH->Prop}(d:F.le F')(h:(op.kind F).run C Hs S st K H):(op.kind F').run C Hs S st K H:=by
 have new:∀op:POp,(Kind.new (cZ op F)).run C Hs S st K H->(Kind.new (cZ op F')).run C Hs S st K H:=λop h=>by obtain⟨M,x,e,i⟩:=h;exact⟨M,x,aaF d e,i⟩
 have calm:∀op:POp,(Kind.calm (aQ op F)).run C Hs S st K H->(Kind.calm (aQ op F')).run C Hs S st K H:=λop h=>by obtain⟨v,e,i⟩:=h;exact⟨v,amC d e,i⟩
 have J:∀op:POp,(Kind.write λH K=>cL op F H K).run C Hs S st K H->(Kind.write λH K=>cL op F' H K).run C Hs S st K H:=λop h=>asO (op:=op) d (show cL op F H (λr H'=>Hs.le H'/\K r H')from h);cases op
 case call n a =>obtain⟨vs,D,R,e,i⟩:=h;exact⟨vs,D,R,RU d e,i⟩
 case bjX x a=>
  unfold POp.kind at h ⊢;simp only at h ⊢;cases p:x.ev F with
  |none=>rw[p]at h;exact h.elim
  |some u=>
   rw[p]at h;rw[dU d p];cases u<;>simp only at h ⊢<;>first|exact h|skip
   obtain⟨vs,D,R,e,i⟩:=h;exact⟨vs,D,R,ahW d _ e,i⟩
 case insert sh x k v=>
  obtain⟨o,E,B,u,g,e,i⟩:=h;refine⟨o,E,B,u,g,?_,i⟩;cases p:x.ev F with
  |none=>simp[p]at e
  |some a=>
   cases w:k.ev F with
   |none=>simp[p,w]at e
   |some b=>
    cases A:v.ev F with
    |none=>simp[p,w,A]at e
    |some c=>rw[dU d p,dU d w,dU d A];rw[p,w,A]at e;exact e
 case box r x=>cases r<;>first|exact new (.box false x) h|exact calm (.box true x) h
 case bjB r s l z ps=>cases r<;>first|exact new (.bjB false s l z ps) h|exact calm (.bjB true s l z ps) h
 case alloc cs=>exact new (.alloc cs) h
 case bjD s b z l c=>exact new (.bjD s b z l c) h
 case bkB sh=>exact new (.bkB sh) h
 case store n x y=>exact J (.store n x y) h
 case append s b x y=>exact J (.append s b x y) h
 case bjN sh x y z=>exact J (.bjN sh x y z) h
 all_goals exact calm _ h
theorem aYC{Hs:PH}{S:Spec}{st:Bool}{i:aZ}{K:PV->PH->Prop}(d:F.le F')(h:(i.kind F).run C Hs S st K H):(i.kind F').run C Hs S st K H:=by
 unfold aZ.kind at h ⊢;split
 ·rename_i l;rw[l]at h;exact alQ d h
 ·rename_i t p l;rw[l]at h;simp only at h;split at h
  ·rename_i b hb;rw[d t _ hb];simp only;split at h
   ·rename_i e;rw[aI e];exact alQ d h
   ·rename_i e;rw[aD e];exact h
  ·rename_i hb;rw[d t _ hb];exact h
  ·exact h.elim
theorem aUO{Hs:PH}{S:Spec}{K1 K2:PF->PH->Prop}(l:∀F F' H,F.le F'->K1 F H->K2 F' H):∀{ops:List (aZ × Bool)}{F F':PF}{H:PH},Hs.le H->F.le F'->wpD C Hs S ops K1 F H->wpD C Hs S ops K2 F' H
 |[],_,_,_,_,d,h=>l _ _ _ d h
 |i::rest,F,F',H,w,d,h=>by have p:(i.1.kind F).run C Hs S i.2 (λv H'=>wpD C Hs S rest K1 (F.put i.1.dst v) H') H:=h;exact aYC d (Kind.yS (yN _ _) (λv H' e u=>aUO l e (PF.BD d _ v) u) w p)
class Up(K:cH):Prop where
 up:∀{e:nY}{F F':PF}{H:PH},F.le F'->K e F H->K e F' H
theorem yD:∀(c:aC){K1 K2:cH}(_:∀e F F' H,F.le F'->K1 e F H->K2 e F' H){F F':PF}{H:PH},F.le F'->c.wp C K1 F H->c.wp C K2 F' H
 | .skip,_,_,i,_,_,_,d,h=>i _ _ _ _ d h
 | .region ops,_,_,i,_,_,_,d,h=>ij (i .normal) d h
 | .draw ops,_,_,i,_,_,_,d,⟨Hs,S,u,B⟩=>⟨Hs,S,u,aUO (i .normal) u d B⟩
 | .seq a b,K1,K2,i,_,_,_,d,h=>yD a (K1:=kD C (b.wp C) K1) (K2:=kD C (b.wp C) K2) (λe F F' H p l=>by
   cases e with
   |normal=>exact yD b i p l
   |exit id=>exact i (.exit id) _ _ _ p l
   |ret=>exact i .ret _ _ _ p l) d h
 | .cond c a b,K1,K2,i,F,F',H,d,h=>by
  rw[a1W]at h ⊢;unfold l7 at h;split at h
  ·rename_i t O;rw[dU d O];unfold l7;simp only;split at h
   ·rename_i e;rw[aI e];exact yD a i d h
   ·rename_i e;rw[aD e];exact yD b i d h
  ·exact h.elim
 | .block id c,K1,K2,i,_,_,_,d,h=>yD c (K1:=gE id K1) (K2:=gE id K2) (λe F F' H p l=>by
   cases e with
   |normal=>exact i .normal _ _ _ p l
   |exit j=>
    rw[NY]at l ⊢;split at l
    ·rename_i e;rw[aI e];exact i .normal _ _ _ p l
    ·rename_i e;rw[aD e];exact i (.exit j) _ _ _ p l
   |ret=>exact i .ret _ _ _ p l) d h
 | .loop c,K1,K2,i,F,F',H,d,⟨α,y,Hs,A,m,J,Z,E,u,B,K,M,h5⟩=>by
  obtain⟨w,k1,k2⟩:=u.up d;refine⟨α,y,Hs,A,m,J,w,E,k1,B,PF.le_trans K k2,M,λa N=>?_⟩;refine yD c (K1:=jM y Hs A m (m a) K1) (K2:=jM y Hs A m (m a) K2) (λe F F' H p l=>?_) PF.le_refl (h5 a N);cases e with
  |normal =>obtain⟨b,F2,H2,U,V,W,X,Y⟩:=l;obtain⟨x,Q,R⟩:=U.up p;exact⟨b,x,H2,Q,V,W,PF.le_trans X R,Y⟩
  |exit id=>exact i (.exit id) _ _ _ p l
  |ret=>exact i .ret _ _ _ p l
 | .exit id,_,_,i,_,_,_,d,h=>i (.exit id) _ _ _ d h
 | .ret,_,_,i,_,_,_,d,h=>i .ret _ _ _ d h
instance Up.seq{K:cH}[Up K](b:aC):Up (kD C (b.wp C) K) where
 up {e} {F} {F'} {H} hl hh:=by
  cases e with
  |normal=>exact yD b (λe F F' H a h=>Up.up a h) hl hh
  |exit id=>exact Up.up (K:=K) (e:=.exit id) hl hh
  |ret=>exact Up.up (K:=K) (e:=.ret) hl hh
instance Up.block{K:cH}[Up K](id:Nat):Up (gE id K) where
 up {e} {F} {F'} {H} hl hh:=by
  cases e with
  |normal=>exact Up.up (K:=K) (e:=.normal) hl hh
  |exit j=>
   rw[NY]at hh ⊢;split at hh
   ·rename_i e;rw[aI e];exact Up.up (K:=K) (e:=.normal) hl hh
   ·rename_i e;rw[aD e];exact Up.up (K:=K) (e:=.exit j) hl hh
  |ret=>exact Up.up (K:=K) (e:=.ret) hl hh
instance Up.loop{K:cH}[Up K]{α:Type}(i:α->PF)(Hs:α->PH)(l:α->Prop)(m:α->Nat)(n:Nat):Up (jM i Hs l m n K) where
 up {e} {F} {F'} {H} hl hh:=by
  cases e with
  |normal =>obtain⟨b,E,H2,w,x,y,A,B⟩:=hh;obtain⟨d,p,u⟩:=w.up hl;exact⟨b,d,H2,p,x,y,PF.le_trans A u,B⟩
  |exit id=>exact Up.up (K:=K) (e:=.exit id) hl hh
  |ret=>exact Up.up (K:=K) (e:=.ret) hl hh
theorem baB{H:PH}(d:F.le F'){x:eC}{v:PV}(h:x.ev F H=some v):x.ev F' H=some v:=by
 cases x with
 |tmp t=>exact d t v h
 |cell t n=>
  cases n<;>simp only[eC.ev]at h ⊢<;>(cases e:F t with
   |none=>simp[e]at h
   |some a=>rw[d t a e,<-e];exact h)
theorem Oe{H:PH}(d:F.le F'):∀{xs:List eC}{vs:List PV},eC.evs F H xs=some vs->eC.evs F' H xs=some vs
 |[],_,h=>h
 |x::xs,vs,h=>by
  rw[pG]at h ⊢;cases i:x.ev F H with
  |none=>simp[i]at h
  |some v=>
   cases e:eC.evs F H xs with
   |none=>simp[e]at h
   |some l =>rw[i,e]at h;rw[baB d i,Oe d e];exact h
instance Up.ret(res:List eC)(R:PV->PH->Prop):Up (aX res R) where
 up {e} {F} {F'} {H} hl hh:=by
  cases e with
  |exit id=>exact hh
  |normal=>obtain⟨vs,d,i⟩:=hh;exact⟨vs,Oe hl d,i⟩
  |ret=>obtain⟨vs,d,i⟩:=hh;exact⟨vs,Oe hl d,i⟩
end
open Go Go.RowKit
def MJ(R:PH->Prop):cH
 | .normal,_,H=>R H
 |_,_,_=>False
theorem cC.putObj{E:Env}{H:PH}{w:World}{l:Nat}{o o':Obj}(hW:cC E H w)(u:w.heap[l]?=some o)(y:∀c t b,o≠.cells c t b)(A:H l=none):cC E H (w.putObj l o'):=by
 refine⟨λb cs h=>?_,λq x h=>?_,λq n h=>?_⟩
 ·obtain⟨d,ty,fr,i⟩:=hW.g b cs h;have:b≠l:=λe=>by rw[e,u]at i;exact y _ _ _ (by injection i)
  exact⟨d,ty,fr,(World.putObj_heap_other this).trans i⟩
 ·obtain⟨d,i⟩:=hW.h q x h;have:q≠l:=λe=>by rw[e,A]at h;cases h
  exact⟨by rw[World.putObj_size];exact d,i.mono (.refl E) (World.putObj_heap_other this)⟩
 ·obtain⟨p,ty,fr,d,i⟩:=hW.s q n h;have:q≠l:=λe=>by rw[e,u]at d;exact y _ _ _ (by injection d)
  exact⟨p,ty,fr,(World.putObj_heap_other this).trans d,i⟩
theorem cC.setObj{E:Env}{H:PH}{w:World}{l:Nat}{o:Obj}{x:bA}(hW:cC E H w)(i:w.heap[l]?=some o)(u:∀c t b,o≠.cells c t b)(A:b8 E w l x):cC E (H.set l x) w:=by
 refine⟨λb cs h=>?_,λq y h=>?_,hW.s⟩
 ·obtain⟨p,ty,fr,d⟩:=hW.g b cs h;have:¬b=l:=λe=>by rw[e,i]at d;exact u _ _ _ (by injection d)
  refine⟨λy B=>p y ?_,ty,fr,d⟩
  rwa[bD,aD this]at B
 ·rw[bD]at h;split at h
  ·rename_i e;cases h;subst e;exact⟨(bnZ.1 i).1,A⟩
  ·exact hW.h q y h
theorem aUP{c:Code}{l m:Nat}{P:Program}{Q:Exit->Act->World->Prop}{d tm':Array Value}{ds:List Deferred}{w:World}(e:d=tm')(h:c.wpIn (Fz (some l)) m P Q { tmps:=tm',defers:=ds } w):c.wpIn (Fence.wide.inRound l) m P Q { tmps:=d,defers:=ds } w:=by
 subst e;exact h
section
variable {C:Ctx} {T:Tbl}
theorem avL(V:C.P=T.P)(N:C.num=T.num){n t l:Nat}{J K:Code}{ζ Q:aC}(h1:T.code n J=some ζ)(h2:T.code n K=some Q)(ht:t<n){F:PF}{x:PV}{H:PH}{R:PH->Prop}(hl:H l=none)
  (Ξ:ζ.wp C (kD C (Q.wp C) (MJ R)) (F.set t x) H) :
  RL C l [x] (H.set l (.loop F n t J K)) (λr H'=>r=.bool true/\∃H2,R H2/\H2 l=none/\H'=H2.set l (.loop F n t J K)):=by
 intro E w vs hN hW Λ;obtain⟨vl⟩:=vs;cases Λ with
 |cons e1 e2=>
 cases e2;rename_i v;obtain⟨hlt,rec,U,O,ε,δ,has,ι,ρ,hF⟩:=hW.h l (.loop F n t J K) (by rw[cW]);have Γ:cC E H w:=hW.weaken λo y ho=>by
  have:¬o=l:=λe=>by rw[e,hl]at ho;cases ho
  rw[bD,aD this];exact ho
 refine⟨rec.fn,_,rec.assign,rec.body,run_yield U (by rw[δ];rfl),?_⟩;rw[has,ι,δ];refine roundIn_of_wpIn (F:=Fence.wide) trivial ?_;have hA:eY [] n E (F.set t x) { tmps:=rec.tmps.setIfInBounds t v,defers:=[] }:=by
  refine⟨by simp[ρ],rfl,λi pv hi=>?_⟩;rw[oZ]at hi;split at hi
  ·rename_i e;cases hi;subst e;simp only[boJ];rw[Array.getElem?_setIfInBounds_self_of_lt Om];exact e1
  ·rename_i e;simp only[boJ];rw[Array.getElem?_setIfInBounds_ne (λh=>e h.symm),<-boJ];exact hF i pv hi
 rw[V];refine aUP (tm':=rec.tmps.setIfInBounds t v) bH ?_;refine wI (ro:=some l) (fu:=0) V N J ζ (kD C (Q.wp C) (MJ R)) _ E (F.set t x) H _ w h1 Ξ hA Γ (hN.trans N) λe E1 F1 H1 a1 B υ φ p X=>?_;cases e with
 |exit id=>exact X.elim
 |ret=>exact X.elim
 |normal=>
  have α:B.heap[l]?=some (.loop rec):=(p.block l hlt hl).trans U;have W:H1 l=none:=by
   cases hh:H1 l with
   |none=>rfl
   |some y=>
    rcases p.new l y hh with⟨z,A⟩|hge
    ·rw[hl]at A;cases A
    ·omega
  refine⟨_,run_beginRound α O,?_⟩;have χ:=φ.putObj (o':=.loop { rec with state:=.busy }) α (λ_ _ _ h=>by cases h) W;have S:l<B.heap.size:=(bnZ.1 α).1;have Θ:(B.putObj l (.loop { rec with state:=.busy })).heap[l]?=some (.loop { rec with state:=.busy }):=World.putObj_heap_same S;have σ:(B.putObj l (.loop { rec with state:=.busy })).heap.size=B.heap.size:=World.putObj_size;have γ:∀b,b≠l->(B.putObj l (.loop { rec with state:=.busy })).heap[b]?=B.heap[b]?:=λb hb=>World.putObj_heap_other hb;have ο:(B.putObj l (.loop { rec with state:=.busy })).os=B.os:=rfl;have τ:(B.putObj l (.loop { rec with state:=.busy })).tape=B.tape:=rfl;have ξ:(B.putObj l (.loop { rec with state:=.busy })).output=B.output:=rfl;generalize B.putObj l (.loop { rec with state:=.busy })=w2 at *
  refine wI (ro:=some l) (fu:=0) V N K Q (MJ R) _ E1 F1 H1 a1 w2 h2 X υ χ (p.env.num.trans (hN.trans N)) λe2 E2 F2 H2 a2 w3 Φ ψ u Y=>?_;cases e2 with
  |exit id=>exact Y.elim
  |ret=>exact Y.elim
  |normal=>
   have β:w3.heap[l]?=some (.loop { rec with state:=.busy }):=(u.block l (by rw[σ];exact S) W).trans Θ;have ν:l<w3.heap.size:=(bnZ.1 β).1;have θ:H2 l=none:=by
    cases hh:H2 l with
    |none=>rfl
    |some y=>
     rcases u.new l y hh with⟨z,A⟩|hge
     ·rw[W]at A;cases A
     ·omega
   have η:({ { rec with state:=.busy }with state:=if(none:Option Code).isNone then .ready else .done,pending:=none }:Loop)=rec:=by obtain⟨a,b,c,d,e,f,g,h⟩:=rec;simp only at O ε;subst O ε;rfl
   refine⟨_,_,run_endRound none β,?_⟩;rw[η];have ω:=(ψ.putObj (o':=.loop rec) β (λ_ _ _ h=>by cases h) θ);have μ:(w3.putObj l (.loop rec)).heap[l]?=some (.loop rec):=World.putObj_heap_same ν;have κ:E.le E2:=p.env.trans u.env;refine⟨.bool true,.bool true,E2,H2.set l (.loop F n t J K),rfl,ω.setObj μ (λ_ _ _ h=>by cases h) ⟨rec,μ,O,ε,δ,has,ι,ρ,λi pv hi=>(hF i pv hi).mono κ⟩,.bool true,?_,rfl,H2,Y,θ,rfl⟩;refine⟨κ,?_,?_,?_,?_,λb hb hn=>?_,λo y ho=>?_,λb cs hb=>?_⟩
   ·exact u.os.trans (ο.trans p.os)
   ·exact u.tape.trans (τ.trans p.tape)
   ·exact u.output.trans (ξ.trans p.output)
   ·have:=p.size;have:=u.size;rw[World.putObj_size];omega
   ·have Z:b≠l:=λe=>by rw[e,cW]at hn;cases hn
    rw[bD,aD Z]at hn;have Δ:H1 b=none:=by
     cases hh:H1 b with
     |none=>rfl
     |some y=>
      rcases p.new b y hh with⟨z,A⟩|hge
      ·rw[hn]at A;cases A
      ·omega
    rw[World.putObj_heap_other Z,u.block b (by have:=p.size;omega) Δ,γ b Z,p.block b hb hn]
   ·rw[bD]at ho;split at ho
    ·rename_i e;exact .inl ⟨_,by rw[e,cW]⟩
    ·rename_i e;rcases u.new o y ho with⟨z,A⟩|hge
     ·rcases p.new o z A with⟨z2,M⟩|hge
      ·exact .inl ⟨z2,by rw[bD,aD e];exact M⟩
      ·exact .inr hge
     ·have:=p.size;exact .inr Om
   ·rcases u.newG b cs hb with hg|⟨z,A⟩|hge
    ·rcases p.newG b cs hg with hg|⟨z,A⟩|hge
     ·exact .inl hg
     ·have e:¬b=l:=λe=>by rw[e,hl]at A;cases A
      exact .inr (.inl ⟨z,by rw[bD,aD e];exact A⟩)
     ·exact .inr (.inr hge)
    ·rcases p.new b z A with⟨z2,M⟩|hge
     ·have e:¬b=l:=λe=>by rw[e,hl]at M;cases M
      exact .inr (.inl ⟨z2,by rw[bD,aD e];exact M⟩)
     ·exact .inr (.inr hge)
    ·have:=p.size;exact .inr (.inr Om)
end
open Go Go.RowKit
abbrev DU(D:Nat):Deferred:={ target:=.collected D,args:=#[] }
theorem cC.alloc{E:Env}{H:PH}{w:World}(hW:cC E H w)(o:Obj):cC E H (w.alloc o):=by
 have e:(w.alloc o).heap.size=w.heap.size+1:=World.size_alloc w o;have hb:∀b,b<w.heap.size->(w.alloc o).heap[b]?=w.heap[b]?:=λb hlt=>Below.heap_alloc w o b hlt;exact hW.same Om (λb hlt _=>hb b hlt) (λq x d=>hb q (hW.h q x d).1)
section
variable {C:Ctx} {T:Tbl} {ds:List Deferred} {fu:Nat}
theorem a8Z{f:FuncId}{args:Array Value}{w:World}{P:Program}{fn:Func}(i:P.funcs[f]?=some fn)(hb:fn.body.isSome=true)(e:(fn.name=="runtime.NumGoroutine")=false):(callFunc f args).run P w=.ok (.enter f args) w:=by
 have d:fn.body.isNone=false:=by cases h:fn.body<;>simp_all
 simp only[callFunc,Sem.run_bind,Sem.run_pure,Result.andThen_ok,run_program,i,e,d,bmT,if_false]
def Zy(C:Ctx)(name:Nat)(cs:List PV)(F:PF)(H:PH)(n t:Nat)(d e:Code)(i:PH->Prop):Prop:=
 ∀l,H l=none->aH C name (FG l::cs) (H.set l (.loop F n t d e)) (λ_ H'=>∃H2,i H2/\H2.le H'/\H2 l=none/\H' l=some (.loop F n t d e))
theorem auQ(β:C.P=T.P)(α:C.num=T.num){n t name:Nat}{g:Operand}{pg:aS}{B J:Code}{cs:List PV}{E:Env}{F:PF}{H:PH}{a:Act}{w:World}{KH:PH->Prop}{Q:Exit->Act->World->Prop}(hg:T.opd g=some pg)(Γ:pg.ev F=some (.fn name cs))
  (Δ:Zy C name cs F H n t B J KH) (Z:eY ds n E F a) (hW:cC E H w) (hN:E.num=T.num)
  (hT:∀D X H2 w',eY (DU D::ds) n X F { a with defers:=DU D::a.defers }->cC X H2 w'->Ext E H w X H2 w'->w'.heap[D]?=some (.deferred (some []))->H2 D=none->w.heap.size<=D->KH H2->Q .normal { a with defers:=DU D::a.defers } w') :
  (Code.rangeFunc g #[t] B J).wpIn (Fz none) fu T.P Q a w:=by
 have r:=bT hg Γ Z hN;generalize Ψ:a.eval g=vg at r;cases r with
 |fn vc ψ ω=>
 have M:∀o x,H o=some x->o<w.heap.size:=λo x ho=>(hW.h o x ho).1;have nD:H w.heap.size=none:=by
  cases h:H w.heap.size with
  |none=>rfl
  |some x=>have:=M _ x h;omega
 have nl:H (w.heap.size+1)=none:=by
  cases h:H (w.heap.size+1)with
  |none=>rfl
  |some x=>have:=M _ x h;omega
 obtain⟨⟨fn,hf,hb,Θ⟩,U⟩:=Δ (w.heap.size+1) nl;rw[β]at hf;refine wpIn_rangeFunc λξ _=>?_;obtain⟨rec,O⟩:∃rec:Loop,rec={ state:=.ready,pending:=none,fn:=ξ,tmps:=a.tmps,params:=#[t],assign:=B,body:=J,defers:=w.heap.size }:=⟨_,rfl⟩;obtain⟨l,d⟩:∃l,(w.alloc (.deferred (some []))).alloc (.loop rec)=l:=⟨_,rfl⟩;have κ:(w.alloc (.deferred (some []))).heap.size=w.heap.size+1:=World.size_alloc _ _;have a':l.heap.size=w.heap.size+2:=by rw[<-d,World.size_alloc,κ]
 have θ:∀b,b<w.heap.size->l.heap[b]?=w.heap[b]?:=λb hb=>by rw[<-d];exact(Below.heap_alloc _ _ b Om).trans (Below.heap_alloc _ _ b hb)
 have ρ:l.heap[w.heap.size]?=some (.deferred (some [])):=by rw[<-d];exact(Below.heap_alloc _ _ _ Om).trans (World.alloc_heap_new w _)
 have ζ:l.heap[w.heap.size+1]?=some (.loop rec):=by
  rw[<-d];have:=World.alloc_heap_new (w.alloc (.deferred (some []))) (.loop rec)
  rwa[κ]at this
 have φ:cC E H l:=by rw[<-d];exact(hW.alloc _).alloc _
 have χ:cC E (H.set (w.heap.size+1) (.loop F n t B J)) l:=φ.setObj ζ (λ_ _ _ h=>by cases h) (by subst O;exact⟨_,ζ,rfl,rfl,rfl,rfl,rfl,Z.size,Z.t⟩);have Ξ:l.os=w.os:=by rw[<-d];rfl
 have Φ:l.tape=w.tape:=by rw[<-d];rfl
 have Λ:l.output=w.output:=by rw[<-d];rfl
 have N:C.num name=E.num name:=by rw[α,hN]
 refine⟨w.heap.size+1,[DU w.heap.size],l,{ target:=.fn (.func (E.num name)) vc,args:=#[.func (.yield (w.heap.size+1)) #[] #[]] },l,E.num name,#[Value.func (.yield (w.heap.size+1)) #[] #[]]++vc,l,?_,?_,?_,?_,?_,?_⟩
 ·rw[<-d,O];exact run_enterLoop_outer _ _ _ _ _
 ·simp only[resolve,Ψ];simp[go_sem]
 ·exact λ_ _=>trivial
 ·simp only[invoke];exact a8Z (by rw[<-N];exact hf) hb Θ
 ·intro h;cases h
 ·have S:fY E (FG (w.heap.size+1)::cs) (#[Value.func (.yield (w.heap.size+1)) #[] #[]]++vc).toList:=by rw[Array.toList_append];exact .cons (.lit _) (fY.a2R (by simpa using ψ) λj p u hp hu=>ω j p u hp (by simpa using hu))
  have hc:=U E l _ (hN.trans α.symm) χ S;rw[β,N]at hc;refine Fz.calls (hc.mono λe w3 he=>?_);obtain⟨v,pv,X,H',rfl,ε,hr,A,H2,υ,V,K,τ⟩:=he;obtain⟨Ω,ν,η,μ,ι,-⟩:=ε.h _ _ τ;have W:w.heap.size≠w.heap.size+1:=Om;have σ:w3.heap[w.heap.size]?=some (.deferred (some [])):=(A.block _ Om (by rw[bD,aD W];exact nD)).trans ρ;have δ:H' w.heap.size=none:=by
   cases hh:H' w.heap.size with
   |none=>rfl
   |some y=>
    rcases A.new _ y hh with⟨z,R⟩|hge
    ·rw[bD,aD W,nD]at R;cases R
    ·omega
  have γ:H2 w.heap.size=none:=by
   cases hh:H2 w.heap.size with
   |none=>rfl
   |some y=>rw[V _ y hh]at δ;cases δ
  refine⟨ν.pending,_,run_endLoop η (by rw[μ];exact λh=>by cases h),?_⟩;rw[ι];simp only;have ο:eY (DU w.heap.size::ds) n X F { a with defers:=DU w.heap.size::a.defers }:=⟨Z.size,by simp only;rw[Z.defers],λi pv hi=>(Z.t i pv hi).mono A.env⟩;refine hT w.heap.size X H2 _ ο ((ε.weaken V).putObj η (λ_ _ _ h=>by cases h) K) ?_ ((World.putObj_heap_other W).trans σ) γ (bkN _) υ;refine⟨A.env,A.os.trans Ξ,A.tape.trans Φ,A.output.trans Λ,?_,λb hb hn=>?_,λo y ho=>?_,λb cs hb=>?_⟩
  ·have:=A.size;rw[World.putObj_size];omega
  ·have Y:b≠w.heap.size+1:=Om;rw[World.putObj_heap_other Y,A.block b Om (by rw[bD,aD Y];exact hn),θ b hb]
  ·have Y:o≠w.heap.size+1:=λe=>by rw[e,K]at ho;cases ho
   rcases A.new o y (V o y ho)with⟨z,R⟩|hge
   ·rw[bD,aD Y]at R;exact .inl ⟨z,R⟩
   ·exact .inr Om
  ·rcases A.newG b cs hb with h|⟨z,R⟩|hge
   ·exact .inl h
   ·by_cases Y:b=w.heap.size+1
    ·exact .inr (.inr Om)
    ·rw[bD,aD Y]at R;exact .inr (.inl ⟨z,R⟩)
   ·exact .inr (.inr Om)
end
open Go Go.RowKit
inductive wE where
 |seq (a:aC) (t:wE)
 |range (g:aS) (n t:Nat) (asg bdy:Code) (pas pbd rest:aC)
def wE.wp (C : Ctx) : wE -> cH -> PF -> PH -> Prop
  | .seq a t, K, F, H => a.wp C (kD C (t.wp C) K) F H
  | .range g n t asg bdy pas pbd rest, K, F, H => ∃ name cs KH, g.ev F = some (.fn name cs) /\
      ((∀ (l : Nat) (x : PV) (J : PH) (J' : PH -> Prop), J l = none -> pas.wp C (kD C (pbd.wp C) (MJ J')) (F.set t x) J ->
        RL C l [x] (J.set l (.loop F n t asg bdy)) (fun r H' => r = .bool true /\ ∃ H2, J' H2 /\ H2 l = none /\ H' = H2.set l (.loop F n t asg bdy))) -> Zy C name cs F H n t asg bdy KH) /\
      ∀ H2, KH H2 -> rest.wp C K F H2
namespace Tbl
variable (T:Tbl)
def tail(n:Nat):Code->Option wE
 | .seq (.rangeFunc g ps d e) rest=>match T.opd g,T.code n d,T.code n e,T.code n rest with
  |some u,some i,some l,some w=>match ps.toList with
   |[t]=>if t<n then some (.range u n t d e i l w)else none
   |_=>none
  |_,_,_,_=>none
 | .seq (.seq a (.block _ (.rangeFunc g ps d e))) rest=>match T.code n a,T.opd g,T.code n d,T.code n e,T.code n rest with
  |some p,some u,some i,some l,some w=>match ps.toList with
   |[t]=>if t<n then some (.seq p (.range u n t d e i l w))else none
   |_=>none
  |_,_,_,_,_=>none
 | .seq a b=>match T.code n a,tail n b with
  |some p,some x=>some (.seq p x)
  |_,_=>none
 |_=>none
end Tbl
section
variable {C:Ctx} {T:Tbl} {fu:Nat}
def JE(n:Nat)(E:Env)(H:PH)(w:World)(K:cH)(Q:Exit->Act->World->Prop):Prop:=
 ∀ds,(ds=[]\/∃D,ds=[DU D])->∀e i l H' p d,eY ds n i l p->cC i H' d->Ext E H w i H' d->(∀D,ds=[DU D]->d.heap[D]?=some (.deferred (some []))/\H' D=none/\w.heap.size<=D)->K e l H'->Q e.out p d
theorem JE.after{n:Nat}{E l:Env}{H H':PH}{w u:World}{K:cH}{Q:Exit->Act->World->Prop}(h:JE n E H w K Q)(p:Ext E H w l H' u):JE n l H' u K Q:=
 λds d e x y H2 a2 J A hW F i B=>h ds d e x y H2 a2 J A hW (p.trans F) (λD hD=>⟨(i D hD).1,(i D hD).2.1,blH p.size (i D hD).2.2⟩) B
theorem JE.plain{n:Nat}{E:Env}{H:PH}{w:World}{K:cH}{Q:Exit->Act->World->Prop}(h:JE n E H w K Q):ca [] n E H w K Q:=
 λe d i H' l y p hW x u=>h [] (.inl rfl) e d i H' l y p hW x (λD hD=>by cases hD) u
theorem G4(A:C.P=T.P)(u:C.num=T.num){n t:Nat}{g:Operand}{pg:aS}{ps:Array Tmp}{i p rest:Code}{O R pr:aC}{K:cH}{Q Q0:Exit->Act->World->Prop}{E:Env}{F:PF}{H:PH}{a:Act}{w:World}(hQ:∀a w,rest.wpIn (Fz none) fu T.P Q a w->Q0 .normal a w)
  (h1:T.opd g=some pg) (h2:T.code n i=some O) (h3:T.code n p=some R) (h4:T.code n rest=some pr) (h5:ps.toList=[t]) (ht:t<n)
  (β:(wE.range pg n t i p O R pr).wp C K F H) (hA:eY [] n E F a) (hW:cC E H w) (hN:E.num=T.num) (hT:JE n E H w K Q) :
  (Code.rangeFunc g ps i p).wpIn (Fz none) fu T.P Q0 a w:=by
 obtain⟨name,cs,KH,k1,k2,k3⟩:=β;have α:ps=#[t]:=by obtain⟨l⟩:=ps;simp only at h5;subst h5;rfl
 subst α;refine auQ (ds:=[]) A u h1 k1 (k2 λl x J J' hJ hw=>avL A u h2 h3 ht hJ hw) hA hW hN λD E' H2 w' S Y M hD N V X=>?_;refine hQ _ w' ?_;refine wI (ro:=none) (fu:=fu) (ds:=[DU D]) A u rest pr K Q E' F H2 _ w' h4 (k3 H2 X) S Y (M.env.num.trans hN) λe E3 F3 H3 a3 w3 U Z B W=>?_;refine hT [DU D] (.inr ⟨D,rfl⟩) e E3 F3 H3 a3 w3 U Z (M.trans B) (λD' d=>?_) W;injection d with d _
 injection d with d _
 injection d with d
 subst d;have hlt:D<w'.heap.size:=(bnZ.1 hD).1;refine⟨(B.block D hlt N).trans hD,?_,V⟩;cases hh:H3 D with
 |none=>rfl
 |some y=>
  rcases B.new D y hh with⟨z,hz⟩|hge
  ·rw[N]at hz;cases hz
  ·omega
theorem aNE(p:C.P=T.P)(l:C.num=T.num){n:Nat}:∀(c:Code)(t:wE)(K:cH)(Q:Exit->Act->World->Prop)(E:Env)(F:PF)(H:PH)(a:Act)(w:World),
  T.tail n c=some t->t.wp C K F H->eY [] n E F a->cC E H w->E.num=T.num->JE n E H w K Q->c.wpIn (Fz none) fu T.P Q a w:=by
 intro c
 induction c with
 |seq x y γ α=>
  intro t K Q E F H a w d J hA hW W B;unfold Tbl.tail at d;split at d
  ·rename_i g ps u A rest e;cases e;split at d
   ·rename_i pg M N pr V e2 Y Z;split at d
    ·rename_i t0 e5;split at d
     ·rename_i e6;cases d;exact wpIn_seq (G4 p l (λ_ _ h=>h) V e2 Y Z e5 e6 J hA hW W B)
     ·cases d
    ·cases d
   ·cases d
  ·rename_i a0 β g ps u A rest e;cases e;split at d
   ·rename_i X pg M N pr e0 V e2 Y Z;split at d
    ·rename_i t0 e5;split at d
     ·rename_i e6;cases d;have i:X.wp C (kD C ((wE.range pg n t0 u A M N pr).wp C) K) F H:=J;refine wpIn_seq (wpIn_seq (wI (ro:=none) (fu:=fu) (ds:=[]) p l a0 X (kD C ((wE.range pg n t0 u A M N pr).wp C) K) _ E F H a w e0 i hA hW W λe O R H' S U g1 g2 g3 g4=>?_));cases e with
      |normal=>exact wpIn_block (G4 p l (λ_ _ h=>h) V e2 Y Z e5 e6 g4 g1 g2 (g3.env.num.trans W) (B.after g3))
      |exit id=>exact B.plain (.exit id) O R H' S U g1 g2 g3 g4
      |ret=>exact B.plain .ret O R H' S U g1 g2 g3 g4
     ·cases d
    ·cases d
   ·cases d
  ·rename_i a0 b0 _ _ e;cases e;split at d
   ·rename_i X tb V e2;cases d;have i:X.wp C (kD C (tb.wp C) K) F H:=J;refine wpIn_seq (wI (ro:=none) (fu:=fu) (ds:=[]) p l x X (kD C (tb.wp C) K) _ E F H a w V i hA hW W λe O R H' S U g1 g2 g3 g4=>?_);cases e with
    |normal=>exact α tb K Q O R H' S U e2 g4 g1 g2 (g3.env.num.trans W) (B.after g3)
    |exit id=>exact B.plain (.exit id) O R H' S U g1 g2 g3 g4
    |ret=>exact B.plain .ret O R H' S U g1 g2 g3 g4
   ·cases d
  ·cases d
 |_=>intro t K Q E F H a w d;simp[Tbl.tail]at d
end
structure JD where
 nparams:Nat
 ntmps:Nat
 body:wE
 res:List eC
namespace Tbl
variable (T:Tbl)
def aJP(fn:Func):Option JD:=
 match fn.body with
 |some c=>match T.tail fn.ntmps c,T.Od fn.results.toList with
  |some b,some rs=>some ⟨fn.params.size,fn.ntmps,b,rs⟩
  |_,_=>none
 |none=>none
end Tbl
theorem aJC{T:Tbl}{H:PH}(J:C.P=T.P)(F:C.num=T.num){name:Nat}{args:List PV}{R:PV->PH->Prop}{fn:Func}{pf:JD}(hf:C.P.funcs[C.num name]?=some fn)(γ:(fn.name=="runtime.NumGoroutine")=false)
  (d:T.aJP fn=some pf) (O:Z' args<=pf.ntmps) (h:pf.body.wp C (aX pf.res R) (g_ args) H):aH C name args H R:=by
 unfold Tbl.aJP at d;split at d
 ·rename_i c hb;split at d
  ·rename_i b rs x A;cases d;refine⟨⟨fn,hf,by simp[hb],γ⟩,λE w vs hN hW U=>?_⟩;have ζ:vs.size=Z' args:=by simpa using U.len
   refine(callsIn_wide (n:=0)).1 (callsIn_of_wp_marks hf hb trivial ?_ rfl);rw[J];have hA:eY [] fn.ntmps E (g_ args) { tmps:=vs++bmN (fn.ntmps-vs.size) undef,defers:=[] }:=by
    refine⟨by simp only at O;simp;omega,rfl,λi pv hi=>?_⟩;have y:i<vs.size:=by
     rw[ζ];rcases blI i args.length with h'|h'
     ·exact h'
     ·simp[g_,bmA h']at hi
    simp only[boJ];rw[Array.getElem?_append_left y,boB y];exact U.at_ i pv _ hi (by simp[y])
   refine aNE (fu:=0) J F c b (aX rs R) _ E (g_ args) H _ w x h hA hW (hN.trans F) λds α e l F' H' W u B K p hm Z=>?_;have fin:∀X,cC l H' X->Ext E H w l H' X->aX rs R .ret F' H'->LeavesIn Fence.wide 0 T.P fn W.tmps (λe u=>∃v pv l H',e=.returned v/\cC l H' u/\bM l pv v/\Ext E H w l H' u/\R pv H') [] .returning X:=by
    rintro X M Y ⟨η,Q,F1,H1,H2,β,N,v0,ε,hR⟩;obtain⟨us,g1,g2⟩:=XM B M fn.results.toList rs η A Q;have δ:=Gx g2;obtain⟨E2,k1,k2,k3⟩:=β.sound M;have S:=k3 (λ_=>if h:us.toArray.size=1 then us.toArray[0]else .tuple us.toArray) (λi pv hi=>by
     simp only[PF.set,upd]at hi;split at hi
     ·cases hi;exact δ
     ·cases hi) 0 v0 ε
    refine⟨_,?_,_,v0,E2,H2,rfl,k1.weaken N,S,(Y.trans k2).drop N,hR⟩;rw[Hv,Array.mapM_eq_mapM_toList];simp[g1]
   have V:aX rs R .ret F' H'->bodyPostM Fence.wide 0 T.P fn (λe u=>∃v pv l H',e=.returned v/\cC l H' u/\bM l pv v/\Ext E H w l H' u/\R pv H') .ret W u:=by
    intro hr;show LeavesInM Fence.wide 0 T.P fn W.tmps _ W.defers .returning u;rw[B.defers];rcases α with rfl|⟨D,rfl⟩
    ·exact fin u K p hr
    ·obtain⟨m1,m2,m3⟩:=hm D rfl;refine⟨(λh=>by cases h),.inl ⟨D,_,rfl,run_takeDeferred m1,?_⟩⟩;refine fin _ (K.putObj m1 (λ_ _ _ h=>by cases h) m2) ⟨p.env,p.os,p.tape,p.output,?_,λb hb hn=>?_,p.new,p.newG⟩ hr
     ·rw[World.putObj_size];exact p.size
     ·rw[World.putObj_heap_other Om];exact p.block b hb hn
   cases e with
   |normal=>exact V Z
   |exit id=>exact Z.elim
   |ret=>exact V Z
  ·cases d
 ·cases d
end Go.PM
namespace Go.PM
open Go
def A0(C:Ctx)(k:Nat)(pf:JD):Prop:=∀(args:List PV)(H:PH)(R:PV->PH->Prop),Z' args<=pf.ntmps->pf.body.wp C (aX pf.res R) (g_ args) H->aH C k args H R
variable{C:Ctx}
theorem A0.go{k:Nat}{pf:JD}(r:A0 C k pf){args:List PV}{H:PH}{R:PV->PH->Prop}(h:pf.body.wp C (aX pf.res R) (g_ args) H)(d:Nat.ble args.length pf.ntmps=true):aH C k args H R:=r args H R (Nat.le_of_ble_eq_true d) h
end Go.PM
