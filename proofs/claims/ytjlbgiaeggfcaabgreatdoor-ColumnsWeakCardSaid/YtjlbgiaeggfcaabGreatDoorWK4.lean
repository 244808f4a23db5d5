/-Lemmas for the law. No condition.-/
import Derived.Test.YtjlbgiaeggfcaabGreatDoorWK3
import Derived.RangeFuncRecord
set_option linter.unusedSimpArgs false
set_option linter.unusedVariables false
open Nat renaming reduceEqDiff->γ,reduceAdd->δ,reduceSub->ε,reduceMul->ζ,reduceLT->η,reduceLeDiff->θ,reduceBEq->τ
open Int renaming reduceLT->ι,reduceLE->κ,reduceEq->μ,reduceToNat->ν,reduceAdd->ξ,reduceNeg->ο,reduceBEq->ρ,reduceBNe->σ
open List renaming reduceReplicate->υ
open List renaming length_map->bhO,getElem_mem->bhS,replicate->bhU,length_append->bhW,mem_cons->biG,length_take->biI,take_of_length_le->biK,append_assoc->biY,drop_zero->bjG,getElem?_eq_none->bjJ,length_cons->bjL,drop_eq_getElem_cons->bjS,length_drop->bjZ,length_nil->bkK,set_append_right->blC,nil_append->blM
open Bool renaming false_eq_true->bjW
open Nat renaming le_refl->bhV,mul_add->biH,zero_add->biN,le_trans->biQ,lt_or_ge->biR,mul_assoc->biT,mul_comm->biW,mul_le_mul_right->biX,add_mul->bjC,mod_eq_of_lt->bjM,mod_lt->bjR,pow_succ->bjU,add_zero->bkA,min_eq_left->bkG,mul_le_mul_left->bkH,eq_zero_or_pos->bkM,pos_of_ne_zero->bkN,pow_pos->bkW,div_le_self->bkZ,mul_one->blB,div_lt_iff_lt_mul->blD,div_add_mod->blQ,div_eq_of_lt->blR
open Option renaming map_eq_some_iff->biE
open Array renaming replicate->bjX,getElem?_eq_some_iff->blH,getElem?_eq_getElem->blN,getD_eq_getD_getElem?->blU
open List renaming length->Z'
set_option maxRecDepth 100000
set_option maxHeartbeats 800000
open Go.IntKind renaming i64->i_,u64->u_
open Go.PM.PF renaming args->g_
noncomputable section
namespace Go.PM
open Go Go.Na
theorem aUM{y W:List Nat}{m:Nat}(A:Lim y)(hW:Lim W)(w:Z' y=m+1)(u:Z' W=m+2)(x:0<y[m]):val W/val y<=(4294967296*W[m+1]+W[m])/y[m]:=by
 have p:=dA y (Om:m<Z' y);rw[biK Om]at p;have i:=dA W (Om:m+1<Z' W);rw[biK Om,dA W (Om:m<Z' W)]at i;have l:=iU (hW.take m);rw[biI,bkG Om]at l;have hp:0<4294967296^m:=bkW aS;have hb:4294967296^m*y[m]<=val y:=Om;have d:0<4294967296^m*y[m]:=Nat.mul_pos hp x;have e:val W=val (W.take m)+4294967296^m*(4294967296*W[m+1]+W[m]):=by rw[i,bjU,biH,biT];omega
 refine biQ (Nat.div_le_div_left hb d) ?_;rw[<-Nat.div_div_eq_div_mul,e,Nat.add_mul_div_left _ _ hp,blR l,biN];exact bhV _
variable{C:Ctx}
theorem aQP(L:ca C)(U0 n o i d e m:Nat)(y z:List Nat)(N:e≠o)(hy:Lim y)(E:Z' y=m+1)(ht:0<y[m])(d':i=d+(m+1))(R:i<=5000)(X:List Nat)(B:vC U0 (val y) (m+1) i d d X (bhU d 0))(K:cF)(F:PF)(H:PH)
  (hF:(duF n o i y (y[m]) e d ((d:Int)-1)).le F) (hH:((PH.nil.set o (.rows 1 (fK X (aO z)))).set e (.rows 1 (aO (bhU d 0)))).le H)
  (hK:∀X' Q' F' H',vC U0 (val y) (m+1) i d 0 X' Q'->(duF n o i y (y[m]) e d (-1)).le F'->((PH.nil.set o (.rows 1 (fK X' (aO z)))).set e (.rows 1 (aO Q'))).le H'->K .normal F' H') :
  aC.wp C (.block 2 (.loop EE)) K F H:=by
 have l:¬o=e:=λh=>N h.symm;have m':¬e=o:=N;have hV:val y<4294967296^(m+1):=by have:=iU hy;rw[E]at this;exact this
 have κ:0<val y:=by have h1:=dA y (Om:m<Z' y);rw[biK Om]at h1;have:0<4294967296^m*y[m]:=Nat.mul_pos (bkW aS) ht;omega
 have s':=hy _ (bhS (Om:m<Z' y));generalize htop:y[m]=top at *
 simp only[go_sem];refine wp_loop (α:=Nat × List Nat × List Nat) (λt=>duF n o i y top e d ((t.1:Int)-1)) (λt=>(PH.nil.set o (.rows 1 (fK t.2.1 (aO z)))).set e (.rows 1 (aO t.2.2)))
  (λt=>t.1<=d/\vC U0 (val y) (m+1) i d t.1 t.2.1 t.2.2) (λt=>t.1) (d,X,bhU d 0) ⟨bhV _,B⟩ hF hH ?_
 rintro⟨k,X,Q⟩ ⟨hk,B⟩;simp only at hk B;simp only[go_sem,EE,s9,duF];by_cases h0:0<k
 ·obtain⟨j,rfl⟩:∃j,k=j+1:=⟨k-1,by omega⟩;have hz:((j+1:Nat):Int)-1=(j:Int):=Om;have Ω:(j:Int)>=0:=Om;have dst:=Z1 B hV Om d';rw[show m+1+1=m+2 from rfl]at dst;obtain⟨hlt,Γ⟩:=dst;have μ:=B.lu';have n':=B.lq';have M:((X.drop j).take (m+2)).length=m+2:=by rw[biI,bjZ];omega
  have Y:Lim ((X.drop j).take (m+2)):=(B.limU.drop _).take _;have q':m+1<((X.drop j).take (m+2)).length:=Om;have p':m<((X.drop j).take (m+2)).length:=Om;have a1:j+(m+1)<Z' X:=Om;have a0:j+m<Z' X:=Om;have w1:((X.drop j).take (m+2))[m+1]=X[j+(m+1)]:=by simp
  have w0:((X.drop j).take (m+2))[m]=X[j+m]:=by simp
  have ξ:=aUM hy Y E M (by rw[htop];exact ht);rw[w1,w0,htop]at ξ;have r1:=ZN (Z:=aO z) a1;have r0:=ZN (Z:=aO z) a0;have l1:=B.limU _ (bhS a1);have l0:=B.limU _ (bhS a0);generalize u':X[j+(m+1)]=w at *
  generalize t':X[j+m]=A at *
  have e1:i_.wrap ((j:Int)+(Z' y:Int))=((j+(m+1):Nat):Int):=by rw[E];exact kS Om
  have e0:i_.wrap (((j+(m+1):Nat):Int)-1)=((j+m:Nat):Int):=by rw[wrap_i64 Om Om];omega
  have b1:((j+(m+1):Nat):Int)<(i:Nat):=Om;have b0:((j+m:Nat):Int)<(i:Nat):=Om;have ψ:u_.wrap ((w:Nat):Int)=((w:Nat):Int):=bS Om;have χ:u_.wrap ((A:Nat):Int)=((A:Nat):Int):=bS Om;have ε:shift .shl .u64 (w:Int) 32=some (.int .u64 ((2^32*w:Nat):Int)):=YC (s:=32) Om Om;have φ:(2:Nat)^32=4294967296:=by decide
  have γ:=orI (a:=2^32*w) (b:=A) (n:=2^32*w+A) Om Om (Nat.two_pow_add_eq_or_of_lt Om w).symm Om;rw[φ]at ε γ;have Λ:¬((top:Nat):Int)=0:=Om;have σ:(4294967296*w+A)/top<18446744073709551616:=Nat.lt_of_le_of_lt (bkZ _ _) Om;have δ:u_.wrap (Int.tdiv ((4294967296*w+A:Nat):Int) ((top:Nat):Int))=(((4294967296*w+A)/top:Nat):Int):=by rw[show Int.tdiv ((4294967296*w+A:Nat):Int) ((top:Nat):Int)=(((4294967296*w+A)/top:Nat):Int)from rfl];exact bS σ
  have τ:val ((X.drop j).take (m+2))/val y<4294967296:=(blD κ).2 (by rw[biW];exact hlt);have ν:=Vj (X:=X) (Z:=aO z) (j:=j) (m:=m+2) Om;have ο:j+(m+2)<=(fK X (aO z)).length:=by rw[fK,bhW,cR];omega
  have β:val ((X.drop j).take (m+2))-val y*(val ((X.drop j).take (m+2))/val y)=val ((X.drop j).take (m+2))%val y:=by have:=blQ (val ((X.drop j).take (m+2))) (val y);omega
  have x:val y*(val ((X.drop j).take (m+2))/val y)<=val ((X.drop j).take (m+2)):=Nat.mul_div_le _ _;clear w1 w0;have gu:=λg0=>a7Z (C:=C) L n o i y top e d j X (aO z) N hy B.limU μ R Om κ (.rows 1 (aO Q)) g0;rw[E,show m+1+1=m+2 from rfl]at gu;generalize hW:(X.drop j).take (m+2)=W at *
  generalize r':val W/val y=J at *
  have Δ:aO W≠[]:=λh=>by have:=congrArg List.length h;rw[cR,M]at this;simp at this
  have tail:∀(g0:Nat)(F:PF)(H:PH),J<=g0->g0<4294967296->((duF n o i y top e d j).set 17 (.int .u64 g0)).le F->((PH.nil.set o (.rows 1 (fK X (aO z)))).set e (.rows 1 (aO Q))).le H ->
    aC.wp C (.seq (.block 4 (.loop EC)) (.seq (.region QM) (.seq (.seq (.region QN) (.block 6 (.loop ED))) (.region QP)))) (fS 3 (kB C (aC.wp C (.region QQ)) (gG (λ(t:Nat × List Nat × List Nat)=>duF n o i y top e d ((t.1:Int)-1)) (λt=>(PH.nil.set o (.rows 1 (fK t.2.1 (aO z)))).set e (.rows 1 (aO t.2.2))) (λt=>t.1<=d/\vC U0 (val y) (m+1) i d t.1 t.2.1 t.2.2) (λt=>t.1) (j+1) (fS 2 K)))) F H:=by
   intro g0 F H hg Ψ hF hH;have gu:=gu g0 hg Ψ;simp only[go_sem]at gu;simp only[go_sem];refine gu _ F H hF hH ?_;intro S H1 p θ;have f11:S 11=some (.osl o 1 0 i):=p 11 _ (by unfold duF;simp only[go_sem]);have V:S 12=some (aN y):=p 12 _ (by unfold duF;simp only[go_sem]);have ζ:S 15=some (.int .i64 j):=p 15 _ (by unfold duF;simp only[go_sem]);have η:S 17=some (.int .u64 (J:Nat)):=p 17 _ (by unfold duF;simp only[go_sem]);have ω:S 10=some (.int .i64 n):=p 10 _ (by unfold duF;simp only[go_sem]);have f13:S 13=some (.int .u64 top):=p 13 _ (by unfold duF;simp only[go_sem]);have f14:S 14=some (.osl e 1 0 d):=p 14 _ (by unfold duF;simp only[go_sem]);have ho:H1 o=some (.rows 1 (fK X (aO z))):=θ o _ (by simp only[go_sem,l]);have ρ:H1 e=some (.rows 1 (aO Q)):=θ e _ Sq;have b3:(j:Int)<=((j+(m+1)+1:Nat):Int):=Om;have b4:((j+(m+1)+1:Nat):Int)<=(i:Nat):=Om;have b5:j+(m+1)+1-j=m+2:=Om;have e2:i_.wrap (((j+(m+1):Nat):Int)+1)=((j+(m+1)+1:Nat):Int):=dZ Om;simp only[go_sem,QM,f11,ζ,V,bhO,e1,e2,b3,b4,b5];refine CI (src:=aO W) ?_ ?_ (λh=>absurd h Δ) λ_ o' O=>?_
   ·simp only[go_sem,ho,ο,ν]
   ·unfold roomFor;rw[cR,M];simp only[maxLen];omega
   rw[cR,M];have n1:¬e=o':=λh=>by subst h;rw[ρ]at O;cases O
   have n2:¬o=o':=λh=>by subst h;rw[ho]at O;cases O
   have nq:nl J<=1:=jM (by rw[Nat.pow_one];exact τ);have tm:=L.times y (aL J) hy (aX _) Om (by rw[bF];omega);rw[aV]at tm;have nW:=jR Y;have mn:=L.minus W (aL (val y*J)) Y (aX _) (by rw[aV];exact x) (by rw[bF];exact biQ (jL x) nW) Om;rw[aV,β]at mn;have Θ:(aO W).take (m+2)=aO W:=biK (by rw[cR];omega);simp only[go_sem,η];refine aB (L.make J Om) Sq ?_;simp only[go_sem,V];refine aB tm Sq ?_;simp only[go_sem];refine yI (o:=o') (s:=1) (rs:=aO W) mn Sq (by simp only[go_sem,show m+2<=W.length by omega,Θ]) ?_;simp only[go_sem,QN];have Φ:(fK X (aO z)).map (λr=>r.map (PV.dV o' 1 (aO W)))=fK X (aO z):=by
    have:fK X (aO z)=aO (X++z):=by simp[fK,aO]
    rw[this];exact zP _ _ _ _
   have Ξ:(aO Q).map (λr=>r.map (PV.dV o' 1 (aO W)))=aO Q:=zP _ _ _ _;have ur:=baR (C:=C) n o i y top e d j X (aO z) N μ R Om (.rows 1 (aO Q)) J (val W%val y);rw[E,show m+1+1=m+2 from rfl]at ur;simp only[go_sem]at ur;refine ur _ _ _ ?_ ?_ ?_
   ·unfold duF
    (repeat' (first|exact c_|refine d_ ?_ ?_))<;>first|(simp only[go_sem,ω,f11,V,f13,f14,ζ,η,n1,n2]<;>rfl)|rfl
   ·refine e_ (e_ a_ ?_) ?_
    ·simp only[go_sem,l,n2,ho,aY.frz,Φ]
    ·simp only[go_sem,n1,ρ,aY.frz,Ξ]
   intro U H3 u ι;have g':U 10=some (.int .i64 n):=u 10 _ (by unfold duF;simp only[go_sem]);have h':U 11=some (.osl o 1 0 i):=u 11 _ (by unfold duF;simp only[go_sem]);have i':U 12=some (aN y):=u 12 _ (by unfold duF;simp only[go_sem]);have j':U 13=some (.int .u64 top):=u 13 _ (by unfold duF;simp only[go_sem]);have υ:U 14=some (.osl e 1 0 d):=u 14 _ (by unfold duF;simp only[go_sem]);have k':U 15=some (.int .i64 j):=u 15 _ (by unfold duF;simp only[go_sem]);have l':U 17=some (.int .u64 J):=u 17 _ (by unfold duF;simp only[go_sem]);have e':H3 o=some (.rows 1 (fK (X.take j++fH (m+2) (val W%val y)++X.drop (j+(m+2))) (aO z))):=ι o _ (by simp only[go_sem,l]);have f':H3 e=some (.rows 1 (aO Q)):=ι e _ Sq;have b':j<Z' Q:=Om;have rq:=cI Q b';have a':(j:Int)<(d:Nat):=Om;have sq:=jS Q j J;have ec:IntKind.u32.wrap ((J:Nat):Int)=((J:Nat):Int):=by rw[dH,bjM τ]
   have ej:i_.wrap ((j:Int)-1)=(j:Int)-1:=wrap_i64 Om Om;simp only[go_sem,QP,υ,k',l',a',f',rq,ec,sq,QQ,ej];refine aJ (α:=Nat × List Nat × List Nat) (j,_,_) ⟨by simp only;omega,Γ⟩ (by simp only;omega) ?_ ?_
   ·unfold duF
    (repeat' (first|exact c_|refine d_ ?_ ?_))<;>first|(simp only[go_sem,g',h',i',j',υ]<;>rfl)|rfl
   ·refine e_ (e_ a_ ?_) ?_
    ·simp only[go_sem,l,e']
    ·simp only[go_sem]
  simp only[aC.wp,go_sem]at tail;simp only[go_sem,hz,Ω];refine bV .nil eW a_ ?_;simp only[go_sem,ta,e1,e0,b1,b0,l,r1,r0,ψ,χ,ε,γ,tc,Λ,δ,td];by_cases c:(4294967296*w+A)/top>4294967295
  ·have c':(((4294967296*w+A)/top:Nat):Int)>4294967295:=Om;simp only[go_sem,c',te];exact tail 4294967295 _ _ Om aS (by unfold duF;exact Lq) b_
  ·have c':¬(((4294967296*w+A)/top:Nat):Int)>4294967295:=Om;simp only[go_sem,c'];exact tail _ _ _ ξ Om (by unfold duF;exact Lq) b_
 ·have:k=0:=Om;subst this;have hz:¬((0:Nat):Int)-1>=0:=by decide
  simp only[go_sem,hz];refine hK X Q _ _ B ?_ b_;unfold duF
  (repeat' (first|exact c_|refine d_ ?_ ?_))<;>first|(simp only[go_sem,show((0:Nat):Int)-1=-1 from rfl]<;>rfl)|rfl
def aYA(a:List Nat)(d q k r:Nat):PF:=(((((PF.nil.set 0 (aN a)).set 1 (aN [d])).set 6 (.osl q 1 0 a.length)).set 7 (.int .u64 r)).set 8 (.int .i64 ((k:Int)-1)))
theorem aJW(L:ca C)(a:List Nat)(d:Nat)(ha:Lim a)(l:0<d)(hd:d<4294967296)(h1:Z' a<=1000)(F:PF)(f0:F 0=some (aN a))(f1:F 1=some (aN [d])) :
  aC.wp C (.seq (.region YP) (.seq (.region YQ) (.seq (.seq (.region YR) (.block 0 (.loop QG))) (.seq (.region QH) .ret)))) (aZ [.tmp 4,.tmp 5] (cM (xM (val a) d))) F .nil:=by
 have X:(Z' a:Int)*((4:Nat):Int)<=140737488355328:=Om;have Y:(Z' a:Int)<=9223372036854775807:=Om;have hz:bhU a.length [PV.int .u32 0]=aO (bhU a.length 0++[]):=by simp[aO]
 simp only[go_sem,YP,f0,bhO,X,Y,hz];refine aQ λo ho=>?_;simp only[go_sem,YQ,YR,f0,bhO];refine wp_loop (α:=Nat × List Nat × Nat) (λt=>aYA a d o t.1 t.2.2) (λt=>PH.nil.set o (.rows 1 (aO (bhU t.1 0++t.2.1))))
  (λt=>t.1+t.2.1.length=Z' a/\Lim t.2.1/\t.2.2<d/\val t.2.1*d+t.2.2=val (a.drop t.1)) (λt=>t.1) (Z' a,[],0) ⟨by simp,by simp[Lim],l,by simp[val]⟩ ?_ ?_ ?_
 ·unfold aYA
  (repeat' (first|exact c_|refine d_ ?_ ?_))<;>first|(simp only[go_sem,f0,f1,wrap_i64 (Om:-9223372036854775808<=(Z' a:Int)-1) (Om:(Z' a:Int)-1<=9223372036854775807)]<;>rfl)|rfl
 ·exact e_ a_ Sq
 rintro⟨k,S,r⟩ ⟨hk,i,N,e⟩;simp only at hk i N e;simp only[go_sem,QG,Hj,aYA];by_cases h0:0<k
 ·obtain⟨m,rfl⟩:∃m,k=m+1:=⟨k-1,by omega⟩;have w:((m+1:Nat):Int)-1=(m:Int):=Om;have V:(m:Int)>=0:=Om;have u:m<Z' a:=Om;have hlt:(m:Int)<(Z' a:Nat):=Om;have β:=ha _ (bhS u);have p:val (a.drop m)=a[m]+4294967296*val (a.drop (m+1)):=by rw[bjS u];rfl
  have R:=cI a u;generalize hx:a[m]=x at *
  have ex:u_.wrap ((x:Nat):Int)=((x:Nat):Int):=bS Om;have ed:u_.wrap ((d:Nat):Int)=((d:Nat):Int):=bS Om;have H:shift .shl .u64 (r:Int) 32=some (.int .u64 ((2^32*r:Nat):Int)):=YC (s:=32) Om Om;have O:(2:Nat)^32=4294967296:=by decide
  have A:=orI (a:=2^32*r) (b:=x) (n:=2^32*r+x) Om Om (Nat.two_pow_add_eq_or_of_lt Om r).symm Om;rw[O]at H A;have M:(4294967296*r+x)/d<4294967296:=by rw[blD l];have:4294967296*(r+1)<=4294967296*d:=bkH _ N;omega
  have U:¬((d:Nat):Int)=0:=Om;have B:u_.wrap (Int.tdiv ((4294967296*r+x:Nat):Int) ((d:Nat):Int))=(((4294967296*r+x)/d:Nat):Int):=by rw[show Int.tdiv ((4294967296*r+x:Nat):Int) ((d:Nat):Int)=(((4294967296*r+x)/d:Nat):Int)from rfl];exact bS Om
  have E:Int.tmod ((4294967296*r+x:Nat):Int) ((d:Nat):Int)=(((4294967296*r+x)%d:Nat):Int):=rfl;have ec:IntKind.u32.wrap (((4294967296*r+x)/d:Nat):Int)=(((4294967296*r+x)/d:Nat):Int):=by rw[dH,bjM M]
  have J:bhU (m+1) 0++S=bhU m 0++(0::S):=by rw[List.replicate_succ',biY];rfl
  have W:(aO (bhU m 0++(0::S)))[m]?=some [.int .u32 ((0:Nat):Int)]:=by rw[cI _ bH];simp
  have K:(aO (bhU m 0++(0::S))).set m [.int .u32 (((4294967296*r+x)/d:Nat):Int)]=aO (bhU m 0++(((4294967296*r+x)/d)::S)):=by rw[jS,blC _ _ bH];simp
  simp only[go_sem,w,V,Hl,H,R,ex,A,Hm,ed,U,B,ec,hlt,J,W,K,sw,E,sx];refine aJ (m,((4294967296*r+x)/d)::S,(4294967296*r+x)%d) ⟨by simp only[bjL];omega,λy hy=>?_,bjR _ l,?_⟩ (by simp only;omega) ?_ (e_ a_ Sq)
  ·rw[biG]at hy;rcases hy with rfl|hy
   ·exact M
   ·exact i y hy
  ·simp only[val];rw[p,<-e,bjC,biH,biT];have:=blQ (4294967296*r+x) d;rw[biW d]at this;omega
  ·(repeat' (first|exact c_|refine d_ ?_ ?_))<;>first|(simp only[go_sem,wrap_i64 (Om:-9223372036854775808<=(m:Int)-1) (Om:(m:Int)-1<=9223372036854775807)]<;>rfl)|rfl
 ·have:k=0:=Om;subst this;have w:¬((0:Nat):Int)-1>=0:=by decide
  rw[bjG]at e;have hS:Z' S=Z' a:=Om;have M:val S=val a/d:=by rw[<-e,biW,Nat.mul_add_div l,blR N,bkA]
  have Z:r=val a%d:=by rw[<-e,biW,Nat.mul_add_mod,bjM N]
  have γ:bhU 0 0++S=S:=by simp
  have hl:=L.trim S i Om;have Q:(aO S).take a.length=aO S:=biK (by rw[cR];omega);simp only[go_sem,w,QH,blM];refine yI (o:=o) (s:=1) (rs:=aO S) hl Sq (by simp only[go_sem,Q,show a.length<=S.length by omega]) ?_;simp only[go_sem];refine aB (L.make r Om) Sq ?_;simp only[go_sem];refine bE (vs:=[aN (aL (val S)),aN (aL r)]) (.inr rfl) .nil Ev a_ ⟨?_,rfl⟩;rw[M,Z];exact .refl _
theorem a0N{B m:Nat}(h:nl B=m+1):32*m<cX B/\cX B<=32*(m+1):=by
 refine⟨?_,(jT B (m+1)).2 Om⟩;rcases biR (32*m) (cX B)with h1|h1
 ·exact h1
 ·have:=(jT B m).1 h1;omega
theorem a0O{B:Nat}(h:B≠0):2^(cX B-1)<=B:=by
 rcases biR B (2^(cX B-1))with h1|h1
 ·have d:=(rF B _).2 h1;have i:cX B≠0:=λe=>h (oP.1 e);omega
 ·exact h1
theorem aJX(L:ca C)(A B:Nat)(hB:B≠0)(hA:nl A<=512)(Φ:nl B<=512) :
  KY.wp C (aZ Mx.res (cM (xM A B))) (g_ [aN (aL A),aN (aL B)]) .nil:=by
 have R:=aX A;have LB:=aX B;have vA:=aV A;have vB:=aV B;have lA:(aL A).length=nl A:=rfl;have lB:(aL B).length=nl B:=rfl;simp only[go_sem,KY,Hf,Hg,Mx];refine aB (L.cmp _ _ R LB Om Om) rfl ?_;rw[vA,vB];by_cases c1:A<B
 ·have hc:eI A B<0:=by simp[eI,c1]
  simp only[go_sem,hc,Hh];refine aB (L.trim _ R Om) rfl ?_;rw[vA];simp only[go_sem];refine bE (vs:=[.aK,aN (aL A)]) (.inr rfl) .nil rfl a_ ⟨?_,rfl⟩;rw[xM,blR c1,bjM c1,fG];exact CoL.tup (CoL.cons (.nil 1) (CoL.cons (.refl _) .nil))
 have hc:¬eI A B<0:=by unfold eI;rw[aE c1];split<;>decide
 have σ:0<B:=bkN hB;have d':nl B≠0:=λh=>hB (lZ.1 h);simp only[go_sem,hc,Hi,bhO,lB];by_cases c2:nl B=1
 ·have S:B<4294967296:=by have:=(mO B 1).1 Om;simpa using this
  have ψ:aL B=[B]:=uI hB S;have sh:=aJW (C:=C) L (aL A) B R σ S Om;rw[vA]at sh;simp only[aC.wp,go_sem]at sh;simp only[go_sem,bY (Om:((nl B:Nat):Int)=1)];exact sh _ rfl (by simp only[go_sem,ψ])
 obtain⟨m,hm⟩:∃m,nl B=m+1:=⟨nl B-1,by omega⟩;have c':1<=m:=Om;obtain⟨a',β⟩:=a0N hm;obtain⟨n,hn⟩:∃n,n+cX B=32*(m+1):=⟨32*(m+1)-cX B,by omega⟩;have δ:n<32:=Om;have K:0<2^n:=bkW aS;have V:B<2^cX B:=(rF B _).1 (bhV _);have U:=a0O hB;have Y:B*2^n<4294967296^(m+1):=by have:B*2^n<2^cX B*2^n:=Nat.mul_lt_mul_of_pos_right V K;rw[<-Nat.pow_add,show cX B+n=32*(m+1) by omega,Nat.pow_mul]at this;exact this
 have Λ:4294967296^m*2147483648<=B*2^n:=by have:2^(cX B-1)*2^n<=B*2^n:=biX _ U;rw[<-Nat.pow_add,show cX B-1+n=32*m+31 by omega,Nat.pow_add,Nat.pow_mul]at this;exact this
 have nV:nl (B*2^n)=m+1:=by
  have E:=(mO (B*2^n) (m+1)).2 Y;rcases biR (nl (B*2^n)) (m+1)with h|h
  ·have:=(mO (B*2^n) m).1 Om;have Γ:0<4294967296^m:=bkW aS;omega
  ·omega
 have Ω:B*2^n≠0:=Nat.mul_ne_zero hB Om;have f':nl (A*2^n)<=nl A+1:=mJ (bhV _) (jM (by rw[Nat.pow_one];exact Nat.pow_lt_pow_right (a:=2) (m:=n) (n:=32) aS δ));have φ:B*2^n<=A*2^n:=biX _ Om;have g':m+1<=nl (A*2^n):=by rw[<-nV];exact jL φ
 have Ψ:A*2^n≠0:=Om;have κ:i_.wrap (32*((nl B:Nat):Int))=((32*(m+1):Nat):Int):=by rw[wrap_i64 Om Om];omega
 have en:i_.wrap (((32*(m+1):Nat):Int)-((cX B:Nat):Int))=(n:Int):=by rw[wrap_i64 Om Om];omega
 have bt:=L.bits (aL B) LB Om;rw[vB]at bt;have ua:=L.upM (aL A) n R Om Om (λh=>by have:=iU R;rw[h]at this;omega);have ub:=(L.upM (aL B) n LB Om Om (λh=>by have:=iU LB;rw[h]at this;omega)).freeze;rw[vA]at ua;rw[vB]at ub;have tail:∀(o:Nat)(F:PF)(H:PH),F 0=some (aN (aL A))->F 1=some (aN (aL B))->F 10=some (.int .i64 n)->F 11=some (.osl o 1 0 (nl (A*2^n)+2))->F 12=some (aN (aL (B*2^n)))->H o=some (.rows 1 (aO (aL (A*2^n))++[[.int .u32 0],[.int .u32 0]])) ->
   aC.wp C (.seq (.region QI) (.seq (.region QJ) (.seq (.region QK) (.seq (.seq (.region QL) (.block 2 (.loop EE))) (.seq (.region QR) .ret))))) (aZ [.tmp 4,.tmp 5] (cM (xM A B))) F H:=by
  intro o F H f0 f1 μ f11 ν hH;have LU:=aX (A*2^n);have LV:=aX (B*2^n);have vU:=aV (A*2^n);have vV:=aV (B*2^n);have lU:(aL (A*2^n)).length=nl (A*2^n):=rfl;have lV:(aL (B*2^n)).length=m+1:=nV;have eu:i_.wrap (((nl (A*2^n):Nat):Int)+1)=((nl (A*2^n)+1:Nat):Int):=dZ Om;have b1:((nl (A*2^n)+1:Nat):Int)<=((nl (A*2^n)+2:Nat):Int):=Om;simp only[go_sem,QI,f11,f0,μ];refine aB ua.freeze rfl ?_;obtain⟨d,b'⟩:∃d,nl (A*2^n)+1-(m+1)=d:=⟨_,rfl⟩;have ω:nl (A*2^n)+1=d+(m+1):=Om;have em:i_.wrap (((m+1:Nat):Int)-1)=((m:Nat):Int):=by rw[wrap_i64 Om Om];omega
  have p:m<(aL (B*2^n)).length:=Om;have rm:=cI (aL (B*2^n)) p;have tl:=LV _ (bhS p);have htop:0<(aL (B*2^n))[m]:=by
   have E:=dA (aL (B*2^n)) p;rw[biK Om,vV]at E;have h2:=iU (LV.take m);rw[biI,bkG Om]at h2;have Γ:0<4294967296^m:=bkW aS;rcases bkM (aL (B*2^n))[m]with h|h
   ·rw[h]at E;omega
   ·exact h
  have ι:2147483648<=(aL (B*2^n))[m]:=by
   have E:=dA (aL (B*2^n)) p;rw[biK Om,vV]at E;have h2:=iU (LV.take m);rw[biI,bkG Om]at h2;rcases biR (aL (B*2^n))[m] 2147483648 with h|h
   ·exfalso;have h3:4294967296^m*((aL (B*2^n))[m]+1)<=4294967296^m*2147483648:=bkH _ h;rw[biH,blB]at h3;omega
   ·exact h
  have w:=aQP (C:=C) L (A*2^n) n o (nl (A*2^n)+1) d;have hI:vC (A*2^n) (val (aL (B*2^n))) (m+1) (nl (A*2^n)+1) d d (aL (A*2^n)++[0]) (bhU d 0):=by
   refine⟨by rw[bhW,lU];rfl,List.length_replicate,LU.app λx O=>by simp at O;omega,EV _,?_,?_,λi x _ O=>aqG O⟩
   ·rw[kL,vU,AG];simp[val]
   ·have Ξ:(aL (A*2^n)++[0]).length=nl (A*2^n)+1:=by rw[bhW,lU];rfl
    have Θ:val (aL (A*2^n)++[0])=A*2^n:=by rw[kL,vU];simp[val]
    rw[DO (LU.app λx O=>by simp at O;omega) Om,Θ,vV,blD (bkW aS)];have E:A*2^n<4294967296^nl (A*2^n):=(mO _ _).1 (bhV _);have O:nl (A*2^n)=m+d:=Om;rw[O,Nat.pow_add]at E;have h2:4294967296^m*4294967296^d<=(B*2^n)*4294967296^d:=biX _ Om;omega
  have M:aO (aL (A*2^n))++[[PV.int .u32 0],[PV.int .u32 0]]=fK (aL (A*2^n)++[0]) (aO [0]):=by simp[fK,aO]
  rw[M]at hH;generalize θ:(aL (B*2^n))[m]=top at *
  have et:u_.wrap ((top:Nat):Int)=((top:Nat):Int):=bS Om;have k2:i_.wrap (((nl (A*2^n)+1:Nat):Int)-((m+1:Nat):Int))=((d:Nat):Int):=by rw[wrap_i64 Om Om];omega
  have k3:((d:Nat):Int)*((4:Nat):Int)<=140737488355328:=Om;have k4:((d:Nat):Int)<=9223372036854775807:=Om;have hz:bhU d [PV.int .u32 0]=aO (bhU d 0):=by simp[aO]
  have jq:i_.wrap ((d:Int)-1)=(d:Int)-1:=wrap_i64 Om Om;simp only[go_sem,bhO,lU,eu,b1,QJ,ν,lV,em,rm,et,QK,k2,k3,k4,hz];refine aQ λy η=>?_;have ε:y≠o:=by rintro rfl;rw[hH]at η;cases η
  have l:¬o=y:=λh=>ε h.symm;have u:=w y m (aL (B*2^n)) [0] ε LV lV (by rw[θ];exact htop) ω Om _ hI;rw[θ]at u;simp only[go_sem]at u;simp only[go_sem,QL,jq];refine u _ _ _ ?_ ?_ ?_
  ·unfold duF;exact Lq
  ·refine e_ (e_ a_ ?_) ?_
   ·simp only[go_sem,l,hH]
   ·simp only[go_sem]
  clear u w;intro X Q F1 H1 e J W;have ξ:F1 10=some (.int .i64 n):=J 10 _ (by unfold duF;simp only[go_sem]);have ο:F1 11=some (.osl o 1 0 (nl (A*2^n)+1)):=J 11 _ (by unfold duF;simp only[go_sem]);have ρ:F1 14=some (.osl y 1 0 d):=J 14 _ (by unfold duF;simp only[go_sem]);have ζ:H1 o=some (.rows 1 (fK X (aO [0]))):=W o _ (by simp only[go_sem,l]);have Δ:H1 y=some (.rows 1 (aO Q)):=W y _ Sq;have hu:val X<val (aL (B*2^n)):=by have:=e.r;rwa[bjG]at this
  have N:=e.v;rw[vV]at hu N;have υ:val Q=A/B:=by
   have:A*2^n/(B*2^n)=val Q:=by rw[<-N,Nat.add_mul_div_right _ _ Om,blR hu,biN]
   rw[<-this,Nat.mul_div_mul_right _ _ K]
  have χ:val X/2^n=A%B:=by
   have:A*2^n%(B*2^n)=val X:=by rw[<-N,Nat.add_mul_mod_self_right,bjM hu]
   rw[<-this,Nat.mul_mod_mul_right,Nat.mul_div_cancel _ K]
  have lX:=e.lu';have lQ:=e.lq';have τ:(aO Q).take d=aO Q:=biK (by rw[cR];omega);have α:(fK X (aO [0])).take (nl (A*2^n)+1)=aO X:=by rw[fK,List.take_append_of_le_length (by rw[cR];omega),biK (by rw[cR];omega)]
  have Z:nl (A*2^n)+1<=(fK X (aO [0])).length:=by rw[fK,bhW,cR];omega
  have γ:(fK X (aO [0])).map (λr=>r.map (PV.dV y 1 (aO Q)))=fK X (aO [0]):=by
   have:fK X (aO [0])=aO (X++[0]):=by simp[fK,aO]
   rw[this];exact zP _ _ _ _
  have nX:=jR e.limU;have t1:=L.trim Q e.limQ Om;have t2:=L.trim X e.limU Om;have dn:=L.down (aL (val X)) n (aX _) (by rw[bF];omega) Om;rw[aV,χ]at dn;rw[υ]at t1;generalize aO [0]=Z0 at ζ α Z γ;simp only[go_sem,QR,ρ];refine yI (o:=y) (s:=1) (rs:=aO Q) t1 Δ (by simp only[go_sem,τ,show d<=Q.length by omega]) ?_;simp only[go_sem,ο,l];refine yI (o:=o) (s:=1) (rs:=fK X Z0) t2 (by simp only[go_sem,l,ζ,aY.frz,γ]) (by simp only[go_sem,α,Z]) ?_;simp only[go_sem,ξ];refine aB dn rfl ?_;simp only[go_sem];exact bE (vs:=[aN (aL (A/B)),aN (aL (A%B))]) (.inr rfl) .nil rfl a_ ⟨.refl _,rfl⟩
 simp only[aC.wp,go_sem]at tail;simp only[go_sem,bL (Om:¬((nl B:Nat):Int)=1),s7,bhO,lB];refine aB bt rfl ?_;simp only[go_sem,κ,en,s8];refine nE ua rfl a_ λr H1 hr _=>?_;have β:(2:Nat)*1<=16777216:=by decide
 rcases hr with⟨h0,_⟩|⟨o,rs,rfl,rfl,hrl,hrt⟩
 ·exfalso;have:=congrArg List.length h0;rw[cR,bF]at this;simp at this;omega
 rw[PH.qV];rw[cR,bF]at hrl hrt;simp only[go_sem,β,cR,bF];refine aqD (src:=[[.int .u32 0],[.int .u32 0]]) (rs:=rs) rfl ?_ Sq hrl ?_ λo' e'=>?_
 ·unfold roomFor;simp only[maxLen,bjL,bkK];omega
 ·rw[hrt];simp only[go_sem];refine aB ub rfl ?_;simp only[go_sem];exact tail o _ _ rfl rfl rfl rfl rfl Sq
 ·rw[hrt];simp only[go_sem];refine aB ub rfl ?_;simp only[go_sem];exact tail o' _ _ rfl rfl rfl rfl rfl Sq
def bR(C:Ctx)(k:Nat)(pf:bD):Prop:=∀(args:List PV)(H:PH)(R:PV->PH->Prop),Z' args<=pf.ntmps->pf.body.wp C (aZ pf.res R) (g_ args) H->aH C k args H R
theorem bR.go{k:Nat}{pf:bD}(r:bR C k pf){args:List PV}{H:PH}{R:PV->PH->Prop}(h:pf.body.wp C (aZ pf.res R) (g_ args) H)(d:Nat.ble args.length pf.ntmps=true):aH C k args H R:=r args H R (Nat.le_of_ble_eq_true d) h
abbrev IT(C:Ctx):Prop:=∀n:Nat,n<100->aH C 195 [.int .i64 n] .nil (aI (.str (cP n)))
section
variable {C:Ctx} {F F':PF} {H:PH}
theorem dQ(d:F.le F'){x:aP}{v:PV}(h:x.ev F=some v):x.ev F'=some v:=by
 cases x
 ·exact d _ _ h
 all_goals exact h
theorem RY(d:F.le F'):∀{xs:List aP}{vs:List PV},aP.evs F xs=some vs->aP.evs F' xs=some vs
 |[],_,h=>h
 |x::xs,vs,h=>by
  rw[JO]at h ⊢;cases i:x.ev F with
  |none=>simp[i]at h
  |some v=>
   cases e:aP.evs F xs with
   |none=>simp[e]at h
   |some l =>rw[i,e]at h;rw[dQ d i,RY d e];exact h
theorem aaF(d:F.le F'):∀{ps:List (Nat × Nat × aP)}{cs ds:List PV},rO cs F ps=some ds->rO cs F' ps=some ds
 |[],_,_,h=>h
 |(l,size,x)::ps,cs,ds,h=>by
  simp only[rO]at h ⊢;cases e:x.ev F with
  |none=>simp[e]at h
  |some v=>
   rw[e]at h;rw[dQ d e];simp only at h ⊢;split at h
   ·rename_i i;rw[aG i];exact aaF d h
   ·cases h
theorem OF(d:F.le F'){size:Nat}:∀{ps:List (Nat × aP)}{cs ds:P2_},iY size cs F ps=some ds->iY size cs F' ps=some ds
 |[],_,_,h=>h
 |(i,x)::ps,cs,ds,h=>by
  simp only[iY]at h ⊢;cases e:x.ev F with
  |none=>simp[e]at h
  |some v=>
   rw[e]at h;rw[dQ d e];simp only at h ⊢;split at h
   ·rename_i l;rw[aG l];exact OF d h
   ·cases h
theorem cg(e:F.le F'){d n:Int}{x:Option aP}(h:bnd F d x=some n):bnd F' d x=some n:=by
 cases x with
 |none=>exact h
 |some x=>
  simp only[bnd]at h ⊢;cases i:x.ev F with
  |none=>simp[i]at h
  |some v=>rw[dQ e i,<-i];exact h
theorem ajM{op:POp}{v:PV}(A:F.le F')(h:aU op F H=some v):aU op F' H=some v:=by
 cases op
 case mv x=>exact dQ A h
 case pick c a b=>
  simp only[aU]at h ⊢;cases K:c.ev F with
  |none=>simp[K]at h
  |some t=>
   rw[K]at h;rw[dQ A K];cases t<;>simp only at h ⊢<;>try cases h
   rename_i t;cases t
   ·simp only[bjW,if_false]at h ⊢;exact dQ A h
   ·simp only[if_true]at h ⊢;exact dQ A h
 case same x=>
  simp only[aU]at h ⊢;cases e:x.ev F with
  |none=>simp[e]at h
  |some a=>rw[dQ A e,<-e];exact h
 case un o x=>
  simp only[aU]at h ⊢;cases e:x.ev F with
  |none=>simp[e]at h
  |some a=>rw[dQ A e,<-e];exact h
 case conv k x=>
  simp only[aU]at h ⊢;cases e:x.ev F with
  |none=>simp[e]at h
  |some a=>rw[dQ A e,<-e];exact h
 case bgQ x=>
  simp only[aU]at h ⊢;cases e:x.ev F with
  |none=>simp[e]at h
  |some a=>rw[dQ A e,<-e];exact h
 case bhG o x=>
  simp only[aU]at h ⊢;cases e:x.ev F with
  |none=>simp[e]at h
  |some a=>rw[dQ A e,<-e];exact h
 case field o n x=>
  simp only[aU]at h ⊢;cases e:x.ev F with
  |none=>simp[e]at h
  |some a=>rw[dQ A e,<-e];exact h
 case bhD x=>
  simp only[aU]at h ⊢;cases e:x.ev F with
  |none=>simp[e]at h
  |some a=>rw[dQ A e,<-e];exact h
 case isNil n x=>
  simp only[aU]at h ⊢;cases e:x.ev F with
  |none=>simp[e]at h
  |some a=>rw[dQ A e,<-e];exact h
 case lenM x=>
  simp only[aU]at h ⊢;cases e:x.ev F with
  |none=>simp[e]at h
  |some a=>rw[dQ A e,<-e];exact h
 case bhN x=>
  simp only[aU]at h ⊢;cases e:x.ev F with
  |none=>simp[e]at h
  |some a=>rw[dQ A e,<-e];exact h
 case extract x i=>
  simp only[aU]at h ⊢;cases e:x.ev F with
  |none=>simp[e]at h
  |some a=>rw[dQ A e,<-e];exact h
 case bgR x=>
  simp only[aU]at h ⊢;cases e:x.ev F with
  |none=>simp[e]at h
  |some a=>rw[dQ A e,<-e];exact h
 case len x=>
  simp only[aU]at h ⊢;cases e:x.ev F with
  |none=>simp[e]at h
  |some a=>rw[dQ A e,<-e];exact h
 case box r x=>
  cases r
  ·cases h
  simp only[aU]at h ⊢;cases e:x.ev F with
  |none=>simp[e]at h
  |some a=>rw[dQ A e,<-e];exact h
 case load n p=>
  cases n
  all_goals
   simp only[aU]at h ⊢;cases e:p.ev F with
   |none=>simp[e]at h
   |some a=>rw[dQ A e,<-e];exact h
 case bin o x y=>
  simp only[aU]at h ⊢;cases e:x.ev F with
  |none=>simp[e]at h
  |some a=>
   cases B:y.ev F with
   |none=>simp[e,B]at h
   |some b=>rw[dQ A e,dQ A B,<-e,<-B];exact h
 case eqb n x y=>
  simp only[aU]at h ⊢;cases e:x.ev F with
  |none=>simp[e]at h
  |some a=>
   cases B:y.ev F with
   |none=>simp[e,B]at h
   |some b=>rw[dQ A e,dQ A B,<-e,<-B];exact h
 case eqs n k x y=>
  simp only[aU]at h ⊢;cases e:x.ev F with
  |none=>simp[e]at h
  |some a=>
   cases B:y.ev F with
   |none=>simp[e,B]at h
   |some b=>rw[dQ A e,dQ A B,<-e,<-B];exact h
 case bgU s x i=>
  simp only[aU]at h ⊢;cases e:x.ev F with
  |none=>simp[e]at h
  |some a=>
   cases B:i.ev F with
   |none=>simp[e,B]at h
   |some b=>rw[dQ A e,dQ A B,<-e,<-B];exact h
 case idxA n s x i=>
  simp only[aU]at h ⊢;cases e:x.ev F with
  |none=>simp[e]at h
  |some a=>
   cases B:i.ev F with
   |none=>simp[e,B]at h
   |some b=>rw[dQ A e,dQ A B,<-e,<-B];exact h
 case idxV n s g x i=>
  simp only[aU]at h ⊢;cases e:x.ev F with
  |none=>simp[e]at h
  |some a=>
   cases B:i.ev F with
   |none=>simp[e,B]at h
   |some b=>rw[dQ A e,dQ A B,<-e,<-B];exact h
 case bhE x i=>
  simp only[aU]at h ⊢;cases e:x.ev F with
  |none=>simp[e]at h
  |some a=>
   cases B:i.ev F with
   |none=>simp[e,B]at h
   |some b=>rw[dQ A e,dQ A B,<-e,<-B];exact h
 case bgY m x y=>
  simp only[aU]at h ⊢;cases e:x.ev F with
  |none=>simp[e]at h
  |some a=>
   cases B:y.ev F with
   |none=>simp[e,B]at h
   |some b=>rw[dQ A e,dQ A B,<-e,<-B];exact h
 case lookup sh z x k ok=>
  simp only[aU]at h ⊢;cases e:x.ev F with
  |none=>simp[e]at h
  |some a=>
   cases B:k.ev F with
   |none=>simp[e,B]at h
   |some b=>rw[dQ A e,dQ A B,<-e,<-B];exact h
 case build z ps =>simp only[aU,biE]at h ⊢;obtain⟨cs,E,J⟩:=h;exact⟨cs,aaF A E,J⟩
 case bgJ r s l z ps=>
  cases r
  ·cases h
  simp only[aU]at h ⊢;split at h
  ·rename_i K;rw[aG K];rw[biE]at h ⊢;obtain⟨cs,E,J⟩:=h;exact⟨cs,OF A E,J⟩
  ·cases h
 case mkfn n cs =>simp only[aU,biE]at h ⊢;obtain⟨vs,E,J⟩:=h;exact⟨vs,RY A E,J⟩
 case sliceA n s x lo hi mx=>
  cases lo<;>cases hi<;>cases mx<;>simp only[aU]at h ⊢<;>try cases h
  cases e:x.ev F with
  |none=>simp[e]at h
  |some a=>rw[dQ A e,<-e];exact h
 case bhA x lo hi=>
  simp only[aU]at h ⊢;cases e:x.ev F with
  |none=>simp[e]at h
  |some a=>
   rw[e]at h;rw[dQ A e];cases a<;>simp only at h ⊢<;>try cases h
   cases E:bnd F 0 lo with
   |none=>simp[E]at h
   |some l=>
    rename_i s;cases J:bnd F s.length hi with
    |none=>simp[E,J]at h
    |some u=>rw[cg A E,cg A J,<-E,<-J];exact h
 case slice s x lo hi mx=>
  simp only[aU]at h ⊢;cases e:x.ev F with
  |none=>simp[e]at h
  |some a=>
   rw[e]at h;rw[dQ A e];have N:∀(d:Int)(w:PV),(match bnd F 0 lo,bnd F d hi with
     |some a1,some a2=>match(generalizing:=false) mx with
      |none=>PV.slice s w a1 a2 none
      |some m=>(bnd F 0 (some m)).bind λm=>PV.slice s w a1 a2 (some m)
     |_,_=>none)=some v->(match bnd F' 0 lo,bnd F' d hi with
     |some a1,some a2=>match(generalizing:=false) mx with
      |none=>PV.slice s w a1 a2 none
      |some m=>(bnd F' 0 (some m)).bind λm=>PV.slice s w a1 a2 (some m)
     |_,_=>none)=some v:=by
    intro d w h;cases E:bnd F 0 lo with
    |none=>simp[E]at h
    |some l=>
     cases J:bnd F d hi with
     |none=>simp[E,J]at h
     |some u=>
      rw[E,J]at h;rw[cg A E,cg A J];cases mx with
      |none=>exact h
      |some m=>
       simp only at h ⊢;cases M:bnd F 0 (some m)with
       |none=>simp[M]at h
       |some q=>rw[cg A M,<-M];exact h
   cases a<;>simp only at h ⊢<;>first|exact N _ _ h|cases h
 all_goals exact h
theorem X6{op:POp}{r:(Nat->PV) × aY}(d:F.le F')(h:cU op F=some r):cU op F'=some r:=by
 cases op
 case box b x=>
  cases b
  ·simp only[cU]at h ⊢;cases e:x.ev F with
   |none=>simp[e]at h
   |some a=>rw[dQ d e,<-e];exact h
  ·cases h
 case bgJ b s l z ps=>
  cases b
  ·simp only[cU]at h ⊢;split at h
   ·rename_i w;rw[aG w];rw[biE]at h ⊢;obtain⟨cs,p,u⟩:=h;exact⟨cs,OF d p,u⟩
   ·cases h
  ·cases h
 case bgL s b z l c=>
  simp only[cU]at h ⊢;cases e:l.ev F with
  |none=>simp[e]at h
  |some a=>
   cases i:c.ev F with
   |none=>simp[e,i]at h
   |some b=>rw[dQ d e,dQ d i,<-e,<-i];exact h
 all_goals exact h
theorem aqF{op:POp}{K:PV->PH->Prop}(d:F.le F')(h:cJ op F H K):cJ op F' H K:=by
 cases op
 case store n x y=>
  simp only[cJ]at h ⊢;cases e:x.ev F with
  |none=>simp[e]at h
  |some a=>
   cases i:y.ev F with
   |none=>simp[e,i]at h
   |some b=>rw[dQ d e,dQ d i];rw[e,i]at h;exact h
 case append s b x y=>
  simp only[cJ]at h ⊢;cases e:x.ev F with
  |none=>simp[e]at h
  |some a=>
   cases i:y.ev F with
   |none=>simp[e,i]at h
   |some b=>rw[dQ d e,dQ d i];rw[e,i]at h;exact h
 case bgV sh x y z=>
  simp only[cJ]at h ⊢;cases e:x.ev F with
  |none=>simp[e]at h
  |some a=>
   cases i:y.ev F with
   |none=>simp[e,i]at h
   |some b=>
    cases l:z.ev F with
    |none=>simp[e,i,l]at h
    |some c=>rw[dQ d e,dQ d i,dQ d l];rw[e,i,l]at h;exact h
 case insert sh x y z=>
  simp only[cJ]at h ⊢;cases e:x.ev F with
  |none=>simp[e]at h
  |some a=>
   cases i:y.ev F with
   |none=>simp[e,i]at h
   |some b=>
    cases l:z.ev F with
    |none=>simp[e,i,l]at h
    |some c=>rw[dQ d e,dQ d i,dQ d l];rw[e,i,l]at h;exact h
 all_goals exact h
theorem PF.a7Q(d:F.le F')(i:Nat)(v:PV):(F.set i v).le (F'.set i v):=by
 intro j u h;rw[pR]at h ⊢;split at h
 ·rename_i e;rw[aG e];exact h
 ·rename_i e;rw[aE e];exact d j u h
theorem PF.BR(e:F.le F')(d:Option Nat)(v:PV):(F.put d v).le (F'.put d v):=by
 cases d with
 |none=>exact e
 |some d=>exact PF.a7Q e d v
theorem PF.a6F(d:F.le F')(o s:Nat)(rs:P2_):(F.frz o s rs).le (F'.frz o s rs):=by
 intro j u h;rw[xX,biE]at h ⊢;obtain⟨x,e,i⟩:=h;exact⟨x,d j x e,i⟩
theorem PF.le_trans{A B D:PF}(h:A.le B)(k:B.le D):A.le D:=λi v hi=>k i v (h i v hi)
theorem kN.up{i:PF}{l:PH}(h:kN F H i l):∀{F':PF},F.le F'->∃d,kN F' H d l/\i.le d:=by
 induction h with
 |refl F H=>exact λ{F'} e=>⟨F',.refl _ _,e⟩
 |step o w _ x =>intro F' e;obtain⟨d,p,u⟩:=x (PF.a6F e o _ _);exact⟨d,.step o w p,u⟩
theorem Am{name:Nat}{args:Option (List PV)}{d:Option Nat}{K1 K2:PF->PH->Prop}(y:∀F F' H,F.le F'->K1 F H->K2 F' H)(i:F.le F'){e:Option (List PV)}(A:∀vs,args=some vs->e=some vs)(h:wG C name args d K1 F H):wG C name e d K2 F' H:=by
 obtain⟨vs,l,R,p,u,w,x⟩:=h;exact⟨vs,l,R,A _ p,u,w,λr H' a b=>y _ _ _ (PF.BR i d r) (x r H' a b)⟩
theorem afI{cs:List PV}{args:List aP}(d:F.le F')(vs:List PV)(h:(aP.evs F args).map (·++cs)=some vs):(aP.evs F' args).map (·++cs)=some vs:=by
 rw[biE]at h ⊢;obtain⟨x,e,i⟩:=h;exact⟨x,RY d e,i⟩
theorem atL{name:Nat}{args:List aP}{cs:List PV}{d:Option Nat}{K1 K2:PF->PH->Prop}(l:∀F F' H,F.le F'->K1 F H->K2 F' H)(e:F.le F')(h:lD C name args cs d K1 F H):lD C name args cs d K2 F' H:=by
 rcases h with h|⟨F1,H1,h1,h2⟩
 ·exact .inl (Am l e (afI e) h)
 ·obtain⟨i,k1,k2⟩:=h1.up e;exact .inr ⟨i,H1,k1,Am l k2 (afI k2) h2⟩
theorem gl{op:POp}{d:Option Nat}{K1 K2:PF->PH->Prop}(p:∀F F' H,F.le F'->K1 F H->K2 F' H)(e:F.le F')(h:qA (cU op F) d K1 F H):qA (cU op F') d K2 F' H:=by
 obtain⟨w,x,i,l⟩:=h;exact⟨w,x,X6 e i,λo u=>p _ _ _ (PF.BR e d _) (l o u)⟩
theorem Kb{op:POp}{d:Option Nat}{K1 K2:PF->PH->Prop}(p:∀F F' H,F.le F'->K1 F H->K2 F' H)(e:F.le F')(h:yJ (aU op F H) d K1 F H):yJ (aU op F' H) d K2 F' H:=by
 obtain⟨v,i,l⟩:=h;exact⟨v,ajM e i,p _ _ _ (PF.BR e d v) l⟩
theorem Xh{op:POp}{d:Option Nat}{K1 K2:PF->PH->Prop}(i:∀F F' H,F.le F'->K1 F H->K2 F' H)(e:F.le F')(h:cJ op F H λr H'=>K1 (F.put d r) H'):cJ op F' H λr H'=>K2 (F'.put d r) H':=
 aqF e (LL (λv H' l=>i _ _ _ (PF.BR e d v) l) h)
theorem aZW{op:POp}{d:Option Nat}{K1 K2:PF->PH->Prop}(i:∀F F' H,F.le F'->K1 F H->K2 F' H)(e:F.le F')(h:wpOp C op d K1 F H):wpOp C op d K2 F' H:=by
 cases op
 case call n a=>exact atL i e h
 case bhF x a=>
  have w:xJ C (x.ev F) a d K1 F H:=h;show xJ C (x.ev F') a d K2 F' H;cases M:x.ev F with
  |none=>rw[M]at w;exact w.elim
  |some u=>
   rw[dQ e M];rw[M]at w;cases u<;>first|exact atL i e w|exact w.elim|skip
   obtain⟨l,O,A⟩:=w;refine⟨l,O,?_⟩;rcases A with⟨vs,E,R,A,J,K,h5⟩|⟨F1,H1,k1,vs,E,R,A,J,K,h5⟩
   ·exact .inl ⟨vs,E,R,RY e A,J,K,λr H' p q=>i _ _ _ (PF.BR e d r) (h5 r H' p q)⟩
   ·obtain⟨B,k2,N⟩:=k1.up e;exact .inr ⟨B,H1,k2,vs,E,R,RY N A,J,K,λr H' p q=>i _ _ _ (PF.BR N d r) (h5 r H' p q)⟩
 case box r x=>cases r<;>first|exact gl (op:=.box false x) i e h|exact Kb (op:=.box true x) i e h
 case bgJ r s l z ps=>cases r<;>first|exact gl (op:=.bgJ false s l z ps) i e h|exact Kb (op:=.bgJ true s l z ps) i e h
 case alloc cs=>exact gl (op:=.alloc cs) i e h
 case bgL s b z l c=>exact gl (op:=.bgL s b z l c) i e h
 case bhJ sh=>exact gl (op:=.bhJ sh) i e h
 case store n x y=>exact Xh (op:=.store n x y) i e h
 case append s b x y=>exact Xh (op:=.append s b x y) i e h
 case bgV sh x y z=>exact Xh (op:=.bgV sh x y z) i e h
 case insert sh x y z=>exact Xh (op:=.insert sh x y z) i e h
 all_goals exact Kb i e h
theorem io{K1 K2:PF->PH->Prop}(l:∀F F' H,F.le F'->K1 F H->K2 F' H):∀{ops:List aW}{F F':PF}{H:PH},F.le F'->wpOps C ops K1 F H->wpOps C ops K2 F' H
 |[],_,_,_,i,h=>l _ _ _ i h
 |⟨d,op,none⟩::rest,_,_,_,i,h=>aZW (λ_ _ _ a b=>io l a b) i h
 |⟨d,op,some (t,p)⟩::rest,F,F',H,i,h=>by
  rw[asP]at h ⊢;unfold ES at h;split at h
  ·rename_i b hb;rw[i t _ hb];unfold ES;simp only;split at h
   ·rename_i e;rw[aG e];exact aZW (λ_ _ _ a b=>io l a b) i h
   ·rename_i e;rw[aE e];exact io l (PF.BR i d _) h
  ·rename_i hb;rw[i t _ hb];exact io l (PF.BR i d _) h
  ·exact h.elim
theorem ajA{Hs:PH}{S:Spec}{st:Bool}{op:POp}{K:PV->PH->Prop}(d:F.le F')(h:(op.kind F).run C Hs S st K H):(op.kind F').run C Hs S st K H:=by
 have new:∀op:POp,(Kind.new (cU op F)).run C Hs S st K H->(Kind.new (cU op F')).run C Hs S st K H:=λop h=>by obtain⟨M,x,e,i⟩:=h;exact⟨M,x,X6 d e,i⟩
 have calm:∀op:POp,(Kind.calm (aU op F)).run C Hs S st K H->(Kind.calm (aU op F')).run C Hs S st K H:=λop h=>by obtain⟨v,e,i⟩:=h;exact⟨v,ajM d e,i⟩
 have J:∀op:POp,(Kind.write λH K=>cJ op F H K).run C Hs S st K H->(Kind.write λH K=>cJ op F' H K).run C Hs S st K H:=λop h=>aqF (op:=op) d (show cJ op F H (λr H'=>Hs.le H'/\K r H')from h);cases op
 case call n a =>obtain⟨vs,D,R,e,i⟩:=h;exact⟨vs,D,R,RY d e,i⟩
 case bhF x a=>
  unfold POp.kind at h ⊢;simp only at h ⊢;cases p:x.ev F with
  |none=>rw[p]at h;exact h.elim
  |some u=>
   rw[p]at h;rw[dQ d p];cases u<;>simp only at h ⊢<;>first|exact h|skip
   obtain⟨vs,D,R,e,i⟩:=h;exact⟨vs,D,R,afI d _ e,i⟩
 case insert sh x k v=>
  obtain⟨o,E,B,u,g,e,i⟩:=h;refine⟨o,E,B,u,g,?_,i⟩;cases p:x.ev F with
  |none=>simp[p]at e
  |some a=>
   cases w:k.ev F with
   |none=>simp[p,w]at e
   |some b=>
    cases A:v.ev F with
    |none=>simp[p,w,A]at e
    |some c=>rw[dQ d p,dQ d w,dQ d A];rw[p,w,A]at e;exact e
 case box r x=>cases r<;>first|exact new (.box false x) h|exact calm (.box true x) h
 case bgJ r s l z ps=>cases r<;>first|exact new (.bgJ false s l z ps) h|exact calm (.bgJ true s l z ps) h
 case alloc cs=>exact new (.alloc cs) h
 case bgL s b z l c=>exact new (.bgL s b z l c) h
 case bhJ sh=>exact new (.bhJ sh) h
 case store n x y=>exact J (.store n x y) h
 case append s b x y=>exact J (.append s b x y) h
 case bgV sh x y z=>exact J (.bgV sh x y z) h
 all_goals exact calm _ h
theorem aUV{Hs:PH}{S:Spec}{st:Bool}{i:aW}{K:PV->PH->Prop}(d:F.le F')(h:(i.kind F).run C Hs S st K H):(i.kind F').run C Hs S st K H:=by
 unfold aW.kind at h ⊢;split
 ·rename_i l;rw[l]at h;exact ajA d h
 ·rename_i t p l;rw[l]at h;simp only at h;split at h
  ·rename_i b hb;rw[d t _ hb];simp only;split at h
   ·rename_i e;rw[aG e];exact ajA d h
   ·rename_i e;rw[aE e];exact h
  ·rename_i hb;rw[d t _ hb];exact h
  ·exact h.elim
theorem aRN{Hs:PH}{S:Spec}{K1 K2:PF->PH->Prop}(l:∀F F' H,F.le F'->K1 F H->K2 F' H):∀{ops:List (aW × Bool)}{F F':PF}{H:PH},Hs.le H->F.le F'->wpD C Hs S ops K1 F H->wpD C Hs S ops K2 F' H
 |[],_,_,_,_,d,h=>l _ _ _ d h
 |i::rest,F,F',H,w,d,h=>by have p:(i.1.kind F).run C Hs S i.2 (λv H'=>wpD C Hs S rest K1 (F.put i.1.dst v) H') H:=h;exact aUV d (Kind.zF (yY _ _) (λv H' e u=>aRN l e (PF.BR d _ v) u) w p)
class Up(K:cF):Prop where
 up:∀{e:oH}{F F':PF}{H:PH},F.le F'->K e F H->K e F' H
theorem uY:∀(c:aC){K1 K2:cF}(_:∀e F F' H,F.le F'->K1 e F H->K2 e F' H){F F':PF}{H:PH},F.le F'->c.wp C K1 F H->c.wp C K2 F' H
 | .skip,_,_,i,_,_,_,d,h=>i _ _ _ _ d h
 | .region ops,_,_,i,_,_,_,d,h=>io (i .normal) d h
 | .draw ops,_,_,i,_,_,_,d,⟨Hs,S,u,B⟩=>⟨Hs,S,u,aRN (i .normal) u d B⟩
 | .seq a b,K1,K2,i,_,_,_,d,h=>uY a (K1:=kB C (b.wp C) K1) (K2:=kB C (b.wp C) K2) (λe F F' H p l=>by
   cases e with
   |normal=>exact uY b i p l
   |exit id=>exact i (.exit id) _ _ _ p l
   |ret=>exact i .ret _ _ _ p l) d h
 | .cond c a b,K1,K2,i,F,F',H,d,h=>by
  rw[aYZ]at h ⊢;unfold lm at h;split at h
  ·rename_i t O;rw[dQ d O];unfold lm;simp only;split at h
   ·rename_i e;rw[aG e];exact uY a i d h
   ·rename_i e;rw[aE e];exact uY b i d h
  ·exact h.elim
 | .block id c,K1,K2,i,_,_,_,d,h=>uY c (K1:=fS id K1) (K2:=fS id K2) (λe F F' H p l=>by
   cases e with
   |normal=>exact i .normal _ _ _ p l
   |exit j=>
    rw[NU]at l ⊢;split at l
    ·rename_i e;rw[aG e];exact i .normal _ _ _ p l
    ·rename_i e;rw[aE e];exact i (.exit j) _ _ _ p l
   |ret=>exact i .ret _ _ _ p l) d h
 | .loop c,K1,K2,i,F,F',H,d,⟨α,y,Hs,A,m,J,Z,E,u,B,K,M,h5⟩=>by
  obtain⟨w,k1,k2⟩:=u.up d;refine⟨α,y,Hs,A,m,J,w,E,k1,B,PF.le_trans K k2,M,λa N=>?_⟩;refine uY c (K1:=gG y Hs A m (m a) K1) (K2:=gG y Hs A m (m a) K2) (λe F F' H p l=>?_) PF.le_refl (h5 a N);cases e with
  |normal =>obtain⟨b,F2,H2,U,V,W,X,Y⟩:=l;obtain⟨x,Q,R⟩:=U.up p;exact⟨b,x,H2,Q,V,W,PF.le_trans X R,Y⟩
  |exit id=>exact i (.exit id) _ _ _ p l
  |ret=>exact i .ret _ _ _ p l
 | .exit id,_,_,i,_,_,_,d,h=>i (.exit id) _ _ _ d h
 | .ret,_,_,i,_,_,_,d,h=>i .ret _ _ _ d h
instance Up.seq{K:cF}[Up K](b:aC):Up (kB C (b.wp C) K) where
 up {e} {F} {F'} {H} hl hh:=by
  cases e with
  |normal=>exact uY b (λe F F' H a h=>Up.up a h) hl hh
  |exit id=>exact Up.up (K:=K) (e:=.exit id) hl hh
  |ret=>exact Up.up (K:=K) (e:=.ret) hl hh
instance Up.block{K:cF}[Up K](id:Nat):Up (fS id K) where
 up {e} {F} {F'} {H} hl hh:=by
  cases e with
  |normal=>exact Up.up (K:=K) (e:=.normal) hl hh
  |exit j=>
   rw[NU]at hh ⊢;split at hh
   ·rename_i e;rw[aG e];exact Up.up (K:=K) (e:=.normal) hl hh
   ·rename_i e;rw[aE e];exact Up.up (K:=K) (e:=.exit j) hl hh
  |ret=>exact Up.up (K:=K) (e:=.ret) hl hh
instance Up.loop{K:cF}[Up K]{α:Type}(i:α->PF)(Hs:α->PH)(l:α->Prop)(m:α->Nat)(n:Nat):Up (gG i Hs l m n K) where
 up {e} {F} {F'} {H} hl hh:=by
  cases e with
  |normal =>obtain⟨b,E,H2,w,x,y,A,B⟩:=hh;obtain⟨d,p,u⟩:=w.up hl;exact⟨b,d,H2,p,x,y,PF.le_trans A u,B⟩
  |exit id=>exact Up.up (K:=K) (e:=.exit id) hl hh
  |ret=>exact Up.up (K:=K) (e:=.ret) hl hh
theorem a7J{H:PH}(d:F.le F'){x:eE}{v:PV}(h:x.ev F H=some v):x.ev F' H=some v:=by
 cases x with
 |tmp t=>exact d t v h
 |cell t n=>
  cases n<;>simp only[eE.ev]at h ⊢<;>(cases e:F t with
   |none=>simp[e]at h
   |some a=>rw[d t a e,<-e];exact h)
theorem Mk{H:PH}(d:F.le F'):∀{xs:List eE}{vs:List PV},eE.evs F H xs=some vs->eE.evs F' H xs=some vs
 |[],_,h=>h
 |x::xs,vs,h=>by
  rw[pJ]at h ⊢;cases i:x.ev F H with
  |none=>simp[i]at h
  |some v=>
   cases e:eE.evs F H xs with
   |none=>simp[e]at h
   |some l =>rw[i,e]at h;rw[a7J d i,Mk d e];exact h
instance Up.ret(res:List eE)(R:PV->PH->Prop):Up (aZ res R) where
 up {e} {F} {F'} {H} hl hh:=by
  cases e with
  |exit id=>exact hh
  |normal=>obtain⟨vs,d,i⟩:=hh;exact⟨vs,Mk hl d,i⟩
  |ret=>obtain⟨vs,d,i⟩:=hh;exact⟨vs,Mk hl d,i⟩
end
open Go Go.RowKit
def MF(R:PH->Prop):cF
 | .normal,_,H=>R H
 |_,_,_=>False
theorem cB.putObj{E:Env}{H:PH}{w:World}{l:Nat}{o o':Obj}(hW:cB E H w)(u:w.heap[l]?=some o)(y:∀c t b,o≠.cells c t b)(A:H l=none):cB E H (w.putObj l o'):=by
 refine⟨λb cs h=>?_,λq x h=>?_,λq n h=>?_⟩
 ·obtain⟨d,ty,fr,i⟩:=hW.g b cs h;have:b≠l:=λe=>by rw[e,u]at i;exact y _ _ _ (by injection i)
  exact⟨d,ty,fr,(World.putObj_heap_other this).trans i⟩
 ·obtain⟨d,i⟩:=hW.h q x h;have:q≠l:=λe=>by rw[e,A]at h;cases h
  exact⟨by rw[World.putObj_size];exact d,i.mono (.refl E) (World.putObj_heap_other this)⟩
 ·obtain⟨p,ty,fr,d,i⟩:=hW.s q n h;have:q≠l:=λe=>by rw[e,u]at d;exact y _ _ _ (by injection d)
  exact⟨p,ty,fr,(World.putObj_heap_other this).trans d,i⟩
theorem cB.setObj{E:Env}{H:PH}{w:World}{l:Nat}{o:Obj}{x:aY}(hW:cB E H w)(i:w.heap[l]?=some o)(u:∀c t b,o≠.cells c t b)(A:b8 E w l x):cB E (H.set l x) w:=by
 refine⟨λb cs h=>?_,λq y h=>?_,hW.s⟩
 ·obtain⟨p,ty,fr,d⟩:=hW.g b cs h;have:¬b=l:=λe=>by rw[e,i]at d;exact u _ _ _ (by injection d)
  refine⟨λy B=>p y ?_,ty,fr,d⟩
  rwa[bC,aE this]at B
 ·rw[bC]at h;split at h
  ·rename_i e;cases h;subst e;exact⟨(blH.1 i).1,A⟩
  ·exact hW.h q y h
theorem aRO{c:Code}{l m:Nat}{P:Program}{Q:Exit->Act->World->Prop}{d tm':Array Value}{ds:List Deferred}{w:World}(e:d=tm')(h:c.wpIn (Fz (some l)) m P Q { tmps:=tm',defers:=ds } w):c.wpIn (Fence.wide.inRound l) m P Q { tmps:=d,defers:=ds } w:=by
 subst e;exact h
section
variable {C:Ctx} {T:Tbl}
theorem asS(V:C.P=T.P)(N:C.num=T.num){n t l:Nat}{J K:Code}{ζ Q:aC}(h1:T.code n J=some ζ)(h2:T.code n K=some Q)(ht:t<n){F:PF}{x:PV}{H:PH}{R:PH->Prop}(hl:H l=none)
  (Ξ:ζ.wp C (kB C (Q.wp C) (MF R)) (F.set t x) H) :
  RP C l [x] (H.set l (.loop F n t J K)) (λr H'=>r=.bool true/\∃H2,R H2/\H2 l=none/\H'=H2.set l (.loop F n t J K)):=by
 intro E w vs hN hW Λ;obtain⟨vl⟩:=vs;cases Λ with
 |cons e1 e2=>
 cases e2;rename_i v;obtain⟨hlt,rec,U,O,ε,δ,has,ι,ρ,hF⟩:=hW.h l (.loop F n t J K) (by rw[cZ]);have Γ:cB E H w:=hW.weaken λo y ho=>by
  have:¬o=l:=λe=>by rw[e,hl]at ho;cases ho
  rw[bC,aE this];exact ho
 refine⟨rec.fn,_,rec.assign,rec.body,run_yield U (by rw[δ];rfl),?_⟩;rw[has,ι,δ];refine roundIn_of_wpIn (F:=Fence.wide) trivial ?_;have hA:eQ [] n E (F.set t x) { tmps:=rec.tmps.setIfInBounds t v,defers:=[] }:=by
  refine⟨by simp[ρ],rfl,λi pv hi=>?_⟩;rw[pR]at hi;split at hi
  ·rename_i e;cases hi;subst e;simp only[blU];rw[Array.getElem?_setIfInBounds_self_of_lt Om];exact e1
  ·rename_i e;simp only[blU];rw[Array.getElem?_setIfInBounds_ne (λh=>e h.symm),<-blU];exact hF i pv hi
 rw[V];refine aRO (tm':=rec.tmps.setIfInBounds t v) bH ?_;refine wO (ro:=some l) (fu:=0) V N J ζ (kB C (Q.wp C) (MF R)) _ E (F.set t x) H _ w h1 Ξ hA Γ (hN.trans N) λe E1 F1 H1 a1 B υ φ p X=>?_;cases e with
 |exit id=>exact X.elim
 |ret=>exact X.elim
 |normal=>
  have α:B.heap[l]?=some (.loop rec):=(p.block l hlt hl).trans U;have W:H1 l=none:=by
   cases hh:H1 l with
   |none=>rfl
   |some y=>
    rcases p.new l y hh with⟨z,A⟩|hge
    ·rw[hl]at A;cases A
    ·omega
  refine⟨_,run_beginRound α O,?_⟩;have χ:=φ.putObj (o':=.loop { rec with state:=.busy }) α (λ_ _ _ h=>by cases h) W;have S:l<B.heap.size:=(blH.1 α).1;have Θ:(B.putObj l (.loop { rec with state:=.busy })).heap[l]?=some (.loop { rec with state:=.busy }):=World.putObj_heap_same S;have σ:(B.putObj l (.loop { rec with state:=.busy })).heap.size=B.heap.size:=World.putObj_size;have γ:∀b,b≠l->(B.putObj l (.loop { rec with state:=.busy })).heap[b]?=B.heap[b]?:=λb hb=>World.putObj_heap_other hb;have ο:(B.putObj l (.loop { rec with state:=.busy })).os=B.os:=rfl;have τ:(B.putObj l (.loop { rec with state:=.busy })).tape=B.tape:=rfl;have ξ:(B.putObj l (.loop { rec with state:=.busy })).output=B.output:=rfl;generalize B.putObj l (.loop { rec with state:=.busy })=w2 at *
  refine wO (ro:=some l) (fu:=0) V N K Q (MF R) _ E1 F1 H1 a1 w2 h2 X υ χ (p.env.num.trans (hN.trans N)) λe2 E2 F2 H2 a2 w3 Φ ψ u Y=>?_;cases e2 with
  |exit id=>exact Y.elim
  |ret=>exact Y.elim
  |normal=>
   have β:w3.heap[l]?=some (.loop { rec with state:=.busy }):=(u.block l (by rw[σ];exact S) W).trans Θ;have ν:l<w3.heap.size:=(blH.1 β).1;have θ:H2 l=none:=by
    cases hh:H2 l with
    |none=>rfl
    |some y=>
     rcases u.new l y hh with⟨z,A⟩|hge
     ·rw[W]at A;cases A
     ·omega
   have η:({ { rec with state:=.busy }with state:=if(none:Option Code).isNone then .ready else .done,pending:=none }:Loop)=rec:=by obtain⟨a,b,c,d,e,f,g,h⟩:=rec;simp only at O ε;subst O ε;rfl
   refine⟨_,_,run_endRound none β,?_⟩;rw[η];have ω:=(ψ.putObj (o':=.loop rec) β (λ_ _ _ h=>by cases h) θ);have μ:(w3.putObj l (.loop rec)).heap[l]?=some (.loop rec):=World.putObj_heap_same ν;have κ:E.le E2:=p.env.trans u.env;refine⟨.bool true,.bool true,E2,H2.set l (.loop F n t J K),rfl,ω.setObj μ (λ_ _ _ h=>by cases h) ⟨rec,μ,O,ε,δ,has,ι,ρ,λi pv hi=>(hF i pv hi).mono κ⟩,.bool true,?_,rfl,H2,Y,θ,rfl⟩;refine⟨κ,?_,?_,?_,?_,λb hb hn=>?_,λo y ho=>?_,λb cs hb=>?_⟩
   ·exact u.os.trans (ο.trans p.os)
   ·exact u.tape.trans (τ.trans p.tape)
   ·exact u.output.trans (ξ.trans p.output)
   ·have:=p.size;have:=u.size;rw[World.putObj_size];omega
   ·have Z:b≠l:=λe=>by rw[e,cZ]at hn;cases hn
    rw[bC,aE Z]at hn;have Δ:H1 b=none:=by
     cases hh:H1 b with
     |none=>rfl
     |some y=>
      rcases p.new b y hh with⟨z,A⟩|hge
      ·rw[hn]at A;cases A
      ·omega
    rw[World.putObj_heap_other Z,u.block b (by have:=p.size;omega) Δ,γ b Z,p.block b hb hn]
   ·rw[bC]at ho;split at ho
    ·rename_i e;exact .inl ⟨_,by rw[e,cZ]⟩
    ·rename_i e;rcases u.new o y ho with⟨z,A⟩|hge
     ·rcases p.new o z A with⟨z2,M⟩|hge
      ·exact .inl ⟨z2,by rw[bC,aE e];exact M⟩
      ·exact .inr hge
     ·have:=p.size;exact .inr Om
   ·rcases u.newG b cs hb with hg|⟨z,A⟩|hge
    ·rcases p.newG b cs hg with hg|⟨z,A⟩|hge
     ·exact .inl hg
     ·have e:¬b=l:=λe=>by rw[e,hl]at A;cases A
      exact .inr (.inl ⟨z,by rw[bC,aE e];exact A⟩)
     ·exact .inr (.inr hge)
    ·rcases p.new b z A with⟨z2,M⟩|hge
     ·have e:¬b=l:=λe=>by rw[e,hl]at M;cases M
      exact .inr (.inl ⟨z2,by rw[bC,aE e];exact M⟩)
     ·exact .inr (.inr hge)
    ·have:=p.size;exact .inr (.inr Om)
end
open Go Go.RowKit
abbrev DU(D:Nat):Deferred:={ target:=.collected D,args:=#[] }
theorem cB.alloc{E:Env}{H:PH}{w:World}(hW:cB E H w)(o:Obj):cB E H (w.alloc o):=by
 have e:(w.alloc o).heap.size=w.heap.size+1:=World.size_alloc w o;have hb:∀b,b<w.heap.size->(w.alloc o).heap[b]?=w.heap[b]?:=λb hlt=>Below.heap_alloc w o b hlt;exact hW.same Om (λb hlt _=>hb b hlt) (λq x d=>hb q (hW.h q x d).1)
section
variable {C:Ctx} {T:Tbl} {ds:List Deferred} {fu:Nat}
theorem a6E{f:FuncId}{args:Array Value}{w:World}{P:Program}{fn:Func}(i:P.funcs[f]?=some fn)(hb:fn.body.isSome=true)(e:(fn.name=="runtime.NumGoroutine")=false):(callFunc f args).run P w=.ok (.enter f args) w:=by
 have d:fn.body.isNone=false:=by cases h:fn.body<;>simp_all
 simp only[callFunc,Sem.run_bind,Sem.run_pure,Result.andThen_ok,run_program,i,e,d,bjW,if_false]
def Xp(C:Ctx)(name:Nat)(cs:List PV)(F:PF)(H:PH)(n t:Nat)(d e:Code)(i:PH->Prop):Prop:=
 ∀l,H l=none->aH C name (FH l::cs) (H.set l (.loop F n t d e)) (λ_ H'=>∃H2,i H2/\H2.le H'/\H2 l=none/\H' l=some (.loop F n t d e))
theorem arZ(β:C.P=T.P)(α:C.num=T.num){n t name:Nat}{g:Operand}{pg:aP}{B J:Code}{cs:List PV}{E:Env}{F:PF}{H:PH}{a:Act}{w:World}{KH:PH->Prop}{Q:Exit->Act->World->Prop}(hg:T.opd g=some pg)(Γ:pg.ev F=some (.fn name cs))
  (Δ:Xp C name cs F H n t B J KH) (Z:eQ ds n E F a) (hW:cB E H w) (hN:E.num=T.num)
  (hT:∀D X H2 w',eQ (DU D::ds) n X F { a with defers:=DU D::a.defers }->cB X H2 w'->Ext E H w X H2 w'->w'.heap[D]?=some (.deferred (some []))->H2 D=none->w.heap.size<=D->KH H2->Q .normal { a with defers:=DU D::a.defers } w') :
  (Code.rangeFunc g #[t] B J).wpIn (Fz none) fu T.P Q a w:=by
 have r:=bO hg Γ Z hN;generalize Ψ:a.eval g=vg at r;cases r with
 |fn vc ψ ω=>
 have M:∀o x,H o=some x->o<w.heap.size:=λo x ho=>(hW.h o x ho).1;have nD:H w.heap.size=none:=by
  cases h:H w.heap.size with
  |none=>rfl
  |some x=>have:=M _ x h;omega
 have nl:H (w.heap.size+1)=none:=by
  cases h:H (w.heap.size+1)with
  |none=>rfl
  |some x=>have:=M _ x h;omega
 obtain⟨⟨fn,hf,hb,Θ⟩,U⟩:=Δ (w.heap.size+1) nl;rw[β]at hf;refine wpIn_rangeFunc λξ _=>?_;obtain⟨rec,O⟩:∃rec:Loop,rec={ state:=.ready,pending:=none,fn:=ξ,tmps:=a.tmps,params:=#[t],assign:=B,body:=J,defers:=w.heap.size }:=⟨_,rfl⟩;obtain⟨l,d⟩:∃l,(w.alloc (.deferred (some []))).alloc (.loop rec)=l:=⟨_,rfl⟩;have κ:(w.alloc (.deferred (some []))).heap.size=w.heap.size+1:=World.size_alloc _ _;have a':l.heap.size=w.heap.size+2:=by rw[<-d,World.size_alloc,κ]
 have θ:∀b,b<w.heap.size->l.heap[b]?=w.heap[b]?:=λb hb=>by rw[<-d];exact(Below.heap_alloc _ _ b Om).trans (Below.heap_alloc _ _ b hb)
 have ρ:l.heap[w.heap.size]?=some (.deferred (some [])):=by rw[<-d];exact(Below.heap_alloc _ _ _ Om).trans (World.alloc_heap_new w _)
 have ζ:l.heap[w.heap.size+1]?=some (.loop rec):=by
  rw[<-d];have:=World.alloc_heap_new (w.alloc (.deferred (some []))) (.loop rec)
  rwa[κ]at this
 have φ:cB E H l:=by rw[<-d];exact(hW.alloc _).alloc _
 have χ:cB E (H.set (w.heap.size+1) (.loop F n t B J)) l:=φ.setObj ζ (λ_ _ _ h=>by cases h) (by subst O;exact⟨_,ζ,rfl,rfl,rfl,rfl,rfl,Z.size,Z.t⟩);have Ξ:l.os=w.os:=by rw[<-d];rfl
 have Φ:l.tape=w.tape:=by rw[<-d];rfl
 have Λ:l.output=w.output:=by rw[<-d];rfl
 have N:C.num name=E.num name:=by rw[α,hN]
 refine⟨w.heap.size+1,[DU w.heap.size],l,{ target:=.fn (.func (E.num name)) vc,args:=#[.func (.yield (w.heap.size+1)) #[] #[]] },l,E.num name,#[Value.func (.yield (w.heap.size+1)) #[] #[]]++vc,l,?_,?_,?_,?_,?_,?_⟩
 ·rw[<-d,O];exact run_enterLoop_outer _ _ _ _ _
 ·simp only[resolve,Ψ];simp[go_sem]
 ·exact λ_ _=>trivial
 ·simp only[invoke];exact a6E (by rw[<-N];exact hf) hb Θ
 ·intro h;cases h
 ·have S:fU E (FH (w.heap.size+1)::cs) (#[Value.func (.yield (w.heap.size+1)) #[] #[]]++vc).toList:=by rw[Array.toList_append];exact .cons (.lit _) (fU.aZV (by simpa using ψ) λj p u hp hu=>ω j p u hp (by simpa using hu))
  have hc:=U E l _ (hN.trans α.symm) χ S;rw[β,N]at hc;refine Fz.calls (hc.mono λe w3 he=>?_);obtain⟨v,pv,X,H',rfl,ε,hr,A,H2,υ,V,K,τ⟩:=he;obtain⟨Ω,ν,η,μ,ι,-⟩:=ε.h _ _ τ;have W:w.heap.size≠w.heap.size+1:=Om;have σ:w3.heap[w.heap.size]?=some (.deferred (some [])):=(A.block _ Om (by rw[bC,aE W];exact nD)).trans ρ;have δ:H' w.heap.size=none:=by
   cases hh:H' w.heap.size with
   |none=>rfl
   |some y=>
    rcases A.new _ y hh with⟨z,R⟩|hge
    ·rw[bC,aE W,nD]at R;cases R
    ·omega
  have γ:H2 w.heap.size=none:=by
   cases hh:H2 w.heap.size with
   |none=>rfl
   |some y=>rw[V _ y hh]at δ;cases δ
  refine⟨ν.pending,_,run_endLoop η (by rw[μ];exact λh=>by cases h),?_⟩;rw[ι];simp only;have ο:eQ (DU w.heap.size::ds) n X F { a with defers:=DU w.heap.size::a.defers }:=⟨Z.size,by simp only;rw[Z.defers],λi pv hi=>(Z.t i pv hi).mono A.env⟩;refine hT w.heap.size X H2 _ ο ((ε.weaken V).putObj η (λ_ _ _ h=>by cases h) K) ?_ ((World.putObj_heap_other W).trans σ) γ (bhV _) υ;refine⟨A.env,A.os.trans Ξ,A.tape.trans Φ,A.output.trans Λ,?_,λb hb hn=>?_,λo y ho=>?_,λb cs hb=>?_⟩
  ·have:=A.size;rw[World.putObj_size];omega
  ·have Y:b≠w.heap.size+1:=Om;rw[World.putObj_heap_other Y,A.block b Om (by rw[bC,aE Y];exact hn),θ b hb]
  ·have Y:o≠w.heap.size+1:=λe=>by rw[e,K]at ho;cases ho
   rcases A.new o y (V o y ho)with⟨z,R⟩|hge
   ·rw[bC,aE Y]at R;exact .inl ⟨z,R⟩
   ·exact .inr Om
  ·rcases A.newG b cs hb with h|⟨z,R⟩|hge
   ·exact .inl h
   ·by_cases Y:b=w.heap.size+1
    ·exact .inr (.inr Om)
    ·rw[bC,aE Y]at R;exact .inr (.inl ⟨z,R⟩)
   ·exact .inr (.inr Om)
end
open Go Go.RowKit
inductive wI where
 |seq (a:aC) (t:wI)
 |range (g:aP) (n t:Nat) (asg bdy:Code) (pas pbd rest:aC)
def wI.wp (C : Ctx) : wI -> cF -> PF -> PH -> Prop
  | .seq a t, K, F, H => a.wp C (kB C (t.wp C) K) F H
  | .range g n t asg bdy pas pbd rest, K, F, H => ∃ name cs KH, g.ev F = some (.fn name cs) /\
      ((∀ (l : Nat) (x : PV) (J : PH) (J' : PH -> Prop), J l = none -> pas.wp C (kB C (pbd.wp C) (MF J')) (F.set t x) J ->
        RP C l [x] (J.set l (.loop F n t asg bdy)) (fun r H' => r = .bool true /\ ∃ H2, J' H2 /\ H2 l = none /\ H' = H2.set l (.loop F n t asg bdy))) -> Xp C name cs F H n t asg bdy KH) /\
      ∀ H2, KH H2 -> rest.wp C K F H2
namespace Tbl
variable (T:Tbl)
def tail(n:Nat):Code->Option wI
 | .seq (.rangeFunc g ps d e) rest=>match T.opd g,T.code n d,T.code n e,T.code n rest with
  |some u,some i,some l,some w=>match ps.toList with
   |[t]=>if t<n then some (.range u n t d e i l w)else none
   |_=>none
  |_,_,_,_=>none
 | .seq (.seq a (.block _ (.rangeFunc g ps d e))) rest=>match T.code n a,T.opd g,T.code n d,T.code n e,T.code n rest with
  |some p,some u,some i,some l,some w=>match ps.toList with
   |[t]=>if t<n then some (.seq p (.range u n t d e i l w))else none
   |_=>none
  |_,_,_,_,_=>none
 | .seq a b=>match T.code n a,tail n b with
  |some p,some x=>some (.seq p x)
  |_,_=>none
 |_=>none
end Tbl
section
variable {C:Ctx} {T:Tbl} {fu:Nat}
def IX(n:Nat)(E:Env)(H:PH)(w:World)(K:cF)(Q:Exit->Act->World->Prop):Prop:=
 ∀ds,(ds=[]\/∃D,ds=[DU D])->∀e i l H' p d,eQ ds n i l p->cB i H' d->Ext E H w i H' d->(∀D,ds=[DU D]->d.heap[D]?=some (.deferred (some []))/\H' D=none/\w.heap.size<=D)->K e l H'->Q e.out p d
theorem IX.after{n:Nat}{E l:Env}{H H':PH}{w u:World}{K:cF}{Q:Exit->Act->World->Prop}(h:IX n E H w K Q)(p:Ext E H w l H' u):IX n l H' u K Q:=
 λds d e x y H2 a2 J A hW F i B=>h ds d e x y H2 a2 J A hW (p.trans F) (λD hD=>⟨(i D hD).1,(i D hD).2.1,biQ p.size (i D hD).2.2⟩) B
theorem IX.plain{n:Nat}{E:Env}{H:PH}{w:World}{K:cF}{Q:Exit->Act->World->Prop}(h:IX n E H w K Q):cb [] n E H w K Q:=
 λe d i H' l y p hW x u=>h [] (.inl rfl) e d i H' l y p hW x (λD hD=>by cases hD) u
theorem Gs(A:C.P=T.P)(u:C.num=T.num){n t:Nat}{g:Operand}{pg:aP}{ps:Array Tmp}{i p rest:Code}{O R pr:aC}{K:cF}{Q Q0:Exit->Act->World->Prop}{E:Env}{F:PF}{H:PH}{a:Act}{w:World}(hQ:∀a w,rest.wpIn (Fz none) fu T.P Q a w->Q0 .normal a w)
  (h1:T.opd g=some pg) (h2:T.code n i=some O) (h3:T.code n p=some R) (h4:T.code n rest=some pr) (h5:ps.toList=[t]) (ht:t<n)
  (β:(wI.range pg n t i p O R pr).wp C K F H) (hA:eQ [] n E F a) (hW:cB E H w) (hN:E.num=T.num) (hT:IX n E H w K Q) :
  (Code.rangeFunc g ps i p).wpIn (Fz none) fu T.P Q0 a w:=by
 obtain⟨name,cs,KH,k1,k2,k3⟩:=β;have α:ps=#[t]:=by obtain⟨l⟩:=ps;simp only at h5;subst h5;rfl
 subst α;refine arZ (ds:=[]) A u h1 k1 (k2 λl x J J' hJ hw=>asS A u h2 h3 ht hJ hw) hA hW hN λD E' H2 w' S Y M hD N V X=>?_;refine hQ _ w' ?_;refine wO (ro:=none) (fu:=fu) (ds:=[DU D]) A u rest pr K Q E' F H2 _ w' h4 (k3 H2 X) S Y (M.env.num.trans hN) λe E3 F3 H3 a3 w3 U Z B W=>?_;refine hT [DU D] (.inr ⟨D,rfl⟩) e E3 F3 H3 a3 w3 U Z (M.trans B) (λD' d=>?_) W;injection d with d _
 injection d with d _
 injection d with d
 subst d;have hlt:D<w'.heap.size:=(blH.1 hD).1;refine⟨(B.block D hlt N).trans hD,?_,V⟩;cases hh:H3 D with
 |none=>rfl
 |some y=>
  rcases B.new D y hh with⟨z,hz⟩|hge
  ·rw[N]at hz;cases hz
  ·omega
theorem aJQ(p:C.P=T.P)(l:C.num=T.num){n:Nat}:∀(c:Code)(t:wI)(K:cF)(Q:Exit->Act->World->Prop)(E:Env)(F:PF)(H:PH)(a:Act)(w:World),
  T.tail n c=some t->t.wp C K F H->eQ [] n E F a->cB E H w->E.num=T.num->IX n E H w K Q->c.wpIn (Fz none) fu T.P Q a w:=by
 intro c
 induction c with
 |seq x y γ α=>
  intro t K Q E F H a w d J hA hW W B;unfold Tbl.tail at d;split at d
  ·rename_i g ps u A rest e;cases e;split at d
   ·rename_i pg M N pr V e2 Y Z;split at d
    ·rename_i t0 e5;split at d
     ·rename_i e6;cases d;exact wpIn_seq (Gs p l (λ_ _ h=>h) V e2 Y Z e5 e6 J hA hW W B)
     ·cases d
    ·cases d
   ·cases d
  ·rename_i a0 β g ps u A rest e;cases e;split at d
   ·rename_i X pg M N pr e0 V e2 Y Z;split at d
    ·rename_i t0 e5;split at d
     ·rename_i e6;cases d;have i:X.wp C (kB C ((wI.range pg n t0 u A M N pr).wp C) K) F H:=J;refine wpIn_seq (wpIn_seq (wO (ro:=none) (fu:=fu) (ds:=[]) p l a0 X (kB C ((wI.range pg n t0 u A M N pr).wp C) K) _ E F H a w e0 i hA hW W λe O R H' S U g1 g2 g3 g4=>?_));cases e with
      |normal=>exact wpIn_block (Gs p l (λ_ _ h=>h) V e2 Y Z e5 e6 g4 g1 g2 (g3.env.num.trans W) (B.after g3))
      |exit id=>exact B.plain (.exit id) O R H' S U g1 g2 g3 g4
      |ret=>exact B.plain .ret O R H' S U g1 g2 g3 g4
     ·cases d
    ·cases d
   ·cases d
  ·rename_i a0 b0 _ _ e;cases e;split at d
   ·rename_i X tb V e2;cases d;have i:X.wp C (kB C (tb.wp C) K) F H:=J;refine wpIn_seq (wO (ro:=none) (fu:=fu) (ds:=[]) p l x X (kB C (tb.wp C) K) _ E F H a w V i hA hW W λe O R H' S U g1 g2 g3 g4=>?_);cases e with
    |normal=>exact α tb K Q O R H' S U e2 g4 g1 g2 (g3.env.num.trans W) (B.after g3)
    |exit id=>exact B.plain (.exit id) O R H' S U g1 g2 g3 g4
    |ret=>exact B.plain .ret O R H' S U g1 g2 g3 g4
   ·cases d
  ·cases d
 |_=>intro t K Q E F H a w d;simp[Tbl.tail]at d
end
structure IV where
 nparams:Nat
 ntmps:Nat
 body:wI
 res:List eE
namespace Tbl
variable (T:Tbl)
def aGG(fn:Func):Option IV:=
 match fn.body with
 |some c=>match T.tail fn.ntmps c,T.Mi fn.results.toList with
  |some b,some rs=>some ⟨fn.params.size,fn.ntmps,b,rs⟩
  |_,_=>none
 |none=>none
end Tbl
theorem aFV{T:Tbl}{H:PH}(J:C.P=T.P)(F:C.num=T.num){name:Nat}{args:List PV}{R:PV->PH->Prop}{fn:Func}{pf:IV}(hf:C.P.funcs[C.num name]?=some fn)(γ:(fn.name=="runtime.NumGoroutine")=false)
  (d:T.aGG fn=some pf) (O:Z' args<=pf.ntmps) (h:pf.body.wp C (aZ pf.res R) (g_ args) H):aH C name args H R:=by
 unfold Tbl.aGG at d;split at d
 ·rename_i c hb;split at d
  ·rename_i b rs x A;cases d;refine⟨⟨fn,hf,by simp[hb],γ⟩,λE w vs hN hW U=>?_⟩;have ζ:vs.size=Z' args:=by simpa using U.len
   refine(callsIn_wide (n:=0)).1 (callsIn_of_wp_marks hf hb trivial ?_ rfl);rw[J];have hA:eQ [] fn.ntmps E (g_ args) { tmps:=vs++bjX (fn.ntmps-vs.size) undef,defers:=[] }:=by
    refine⟨by simp only at O;simp;omega,rfl,λi pv hi=>?_⟩;have y:i<vs.size:=by
     rw[ζ];rcases biR i args.length with h'|h'
     ·exact h'
     ·simp[g_,bjJ h']at hi
    simp only[blU];rw[Array.getElem?_append_left y,blN y];exact U.at_ i pv _ hi (by simp[y])
   refine aJQ (fu:=0) J F c b (aZ rs R) _ E (g_ args) H _ w x h hA hW (hN.trans F) λds α e l F' H' W u B K p hm Z=>?_;have fin:∀X,cB l H' X->Ext E H w l H' X->aZ rs R .ret F' H'->LeavesIn Fence.wide 0 T.P fn W.tmps (λe u=>∃v pv l H',e=.returned v/\cB l H' u/\bM l pv v/\Ext E H w l H' u/\R pv H') [] .returning X:=by
    rintro X M Y ⟨η,Q,F1,H1,H2,β,N,v0,ε,hR⟩;obtain⟨us,g1,g2⟩:=XS B M fn.results.toList rs η A Q;have δ:=Gm g2;obtain⟨E2,k1,k2,k3⟩:=β.sound M;have S:=k3 (λ_=>if h:us.toArray.size=1 then us.toArray[0]else .tuple us.toArray) (λi pv hi=>by
     simp only[PF.set,upd]at hi;split at hi
     ·cases hi;exact δ
     ·cases hi) 0 v0 ε
    refine⟨_,?_,_,v0,E2,H2,rfl,k1.weaken N,S,(Y.trans k2).drop N,hR⟩;rw[Gu,Array.mapM_eq_mapM_toList];simp[g1]
   have V:aZ rs R .ret F' H'->bodyPostM Fence.wide 0 T.P fn (λe u=>∃v pv l H',e=.returned v/\cB l H' u/\bM l pv v/\Ext E H w l H' u/\R pv H') .ret W u:=by
    intro hr;show LeavesInM Fence.wide 0 T.P fn W.tmps _ W.defers .returning u;rw[B.defers];rcases α with rfl|⟨D,rfl⟩
    ·exact fin u K p hr
    ·obtain⟨m1,m2,m3⟩:=hm D rfl;refine⟨(λh=>by cases h),.inl ⟨D,_,rfl,run_takeDeferred m1,?_⟩⟩;refine fin _ (K.putObj m1 (λ_ _ _ h=>by cases h) m2) ⟨p.env,p.os,p.tape,p.output,?_,λb hb hn=>?_,p.new,p.newG⟩ hr
     ·rw[World.putObj_size];exact p.size
     ·rw[World.putObj_heap_other Om];exact p.block b hb hn
   cases e with
   |normal=>exact V Z
   |exit id=>exact Z.elim
   |ret=>exact V Z
  ·cases d
 ·cases d
end Go.PM
namespace Go.PM
open Go
def Ag(C:Ctx)(k:Nat)(pf:IV):Prop:=∀(args:List PV)(H:PH)(R:PV->PH->Prop),Z' args<=pf.ntmps->pf.body.wp C (aZ pf.res R) (g_ args) H->aH C k args H R
variable{C:Ctx}
theorem Ag.go{k:Nat}{pf:IV}(r:Ag C k pf){args:List PV}{H:PH}{R:PV->PH->Prop}(h:pf.body.wp C (aZ pf.res R) (g_ args) H)(d:Nat.ble args.length pf.ntmps=true):aH C k args H R:=r args H R (Nat.le_of_ble_eq_true d) h
end Go.PM
