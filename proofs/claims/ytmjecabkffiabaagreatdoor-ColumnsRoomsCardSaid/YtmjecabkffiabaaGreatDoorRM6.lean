/-Lemmas for the law. No condition.-/
import Derived.Test.YtmjecabkffiabaaGreatDoorRM5
import Derived.Lib.SlicesCompact
set_option linter.unusedSimpArgs false
set_option linter.unusedVariables false
open Nat renaming reduceEqDiff->γ,reduceAdd->δ,reduceSub->ε,reduceMul->ζ,reduceLT->η,reduceLeDiff->θ,reduceBEq->τ
open Int renaming reduceLT->ι,reduceLE->κ,reduceEq->μ,reduceToNat->ν,reduceAdd->ξ,reduceNeg->ο,reduceBEq->ρ,reduceBNe->σ
open List renaming reduceReplicate->υ
open List renaming length_map->auD,range->auE,getElem_mem->auH,length_append->auJ,replicate->auL,getD_eq_getElem?_getD->auM,getElem?_eq_getElem->auP,mem_cons->auQ,length_singleton->auS,mem_map->auT,length_take->auU,all_eq_true->auX,take_of_length_le->auZ,getElem?_map->avC,map_append->avD,not_mem_nil->avE,length_cons->avG,map_cons->avH,take_length->avI,mem_range->avM,mem_singleton->avN,getElem?_eq_some_iff->avP,set_cons_zero->avQ,drop_zero->avR,length_nil->avS,length_set->avT,Sublist->avU,append_assoc->avW,mem_append->avX,map_nil->avY,getElem?_eq_none->avZ,getElem_map->awA,append_nil->awD,take_succ_eq_append_getElem->awE,getElem?_append_right->awH,length_drop->awM,getElem?_append_left->awR,drop_eq_getElem_cons->awS,range'->awT,mem_of_getElem?->awW,Perm->axF,nil_append->axI,ext_getElem->axK,map_congr_left->axL,map_map->axM,all_cons->axP,map_take->axQ,nodup_append->axR,set_append_right->axS,cons_append->axX,take_append_drop->axY,getElem?_take->axZ,range_succ->ayA,sublist_append_left->ayD,getElem?_set->ayG,map_drop->ayH,set_cons_succ->ayI,mem_filter->ayM,countP_append->ayR,mem_or_eq_of_mem_set->ayU,mem_cons_of_mem->ayV,mem_of_mem_take->ayW
open Nat renaming gcd->auF,le_refl->auG,zero_le->auK,mul_add->auW,zero_add->avA,lt_or_ge->avF,le_trans->avJ,mul_le_mul_right->avL,mul_comm->avO,beq->awK,pow_succ->awL,sub_self->awU,add_zero->awX,mul_le_mul->awY,mul_le_mul_left->awZ,not_lt_zero->axA,succ_mul->axB,eq_zero_or_pos->axN,div_le_self->axT,pow_le_pow_right->ayJ
open Bool renaming and_eq_true->auI,false_and->auN,not_true->auO,true_and->auV,not_false->auY,and_false->awB,and_true->awP,false_eq_true->awQ
open Option renaming map_some->avB,some->awN,getD_some->axC,bind_some->ayE
open Int renaming toNat->awC,toNat_natCast->awG,zero_mul->awV,mul_assoc->axD,mul_zero->axE,natAbs_mul->axO,mul_comm->axW,natCast_mul->ayL,mul_le_mul_of_nonneg_left->ayX
open List renaming length->l''
set_option maxRecDepth 100000
set_option maxHeartbeats 800000
open Go.IntKind renaming i64->i_,u64->u_
open Go.PM.PF renaming nil->n_,args->g_
open Go.PM.PH renaming nil->h_
noncomputable section
namespace Go.PM
open Go Go.Na
theorem rB.done{n:Nat}{s:N_}{l:List N_}(h:rB n s l)(u:qD n s=none):l=[s]:=by
 cases h with
 |last=>rfl
 |step i=>rw[u]at i;cases i
theorem rB.next{n:Nat}{s t:N_}{l:List N_}(h:rB n s l)(u:qD n s=some t):∃r,l=s::r/\rB n t r:=by
 cases h with
 |last i=>rw[u]at i;cases i
 |step i w=>rw[u]at i;cases i;exact⟨_,rfl,w⟩
structure Xo(J:Nat->PH->Prop)(ss:List N_)(top n o1 o2 q k:Nat)(s:N_)(G H:PH):Prop where
 lt:k<l'' ss
 walk:rB top s (ss.drop k)
 len:l'' s=n
 rng:∀x∈s,x<top
 j:J k G
 le:G.le H
 g1:G o1=none
 g2:G o2=none
 gq:G q=none
 b1:H o1=some (.rows 1 [[.int .i64 n]])
 b2:H o2=some (.rows 1 [[.int .i64 top]])
 bq:H q=some (.rows 1 (aR (cR s)))
variable{C:Ctx}
theorem X4{l o1 o2 n top:Nat}(J:Nat->PH->Prop)(u:List N_)(W:u=eC top n 0)(h1:1<=n)(hn:n<=1000)(ht:top<=1000)
  (hY:∀k (hk:k<l'' u) G c,J k G->G c=none->KJ C l [.osl c 1 0 n] (G.set c (.rows 1 (aR (cR u[k])))) (λr H'=>r=.bool true/\J (k+1) H'))
  {Q H:PH} (hJ:J 0 Q) (w:Q.le H) (b1:H o1=some (.rows 1 [[.j n]])) (b2:H o2=some (.rows 1 [[.j top]])) (g1:Q o1=none) (g2:Q o2=none) :
  ZC.wp C (aX kP.res (λ_ H'=>∃G,J u.length G/\G.le H')) (g_ [CC l,.ptr o1 1 0 0,.ptr o2 1 0 0]) H:=by
 simp only[go_sem,ZC,kP,b1,b2];by_cases c:n>top;have:u=[]:=by rw[W];exact Wf c
 subst this;simp only[go_sem,show(n:Int)>(top:Nat) by omega];exact aY (vs:=[]) (.inr rfl) Q rfl w ⟨Q,hJ,b_⟩;simp only[go_sem,show ¬(n:Int)>(top:Nat) by omega,b1,show(0:Int)<=n by omega,Int.le_refl,show(n:Int)*((8:Nat):Int)<=140737488355328 by omega,show(n:Int)<=9223372036854775807 by omega,awG];refine aS λq V=>?_;obtain⟨a1,ψ⟩:¬o1=q/\¬q=o1:=⟨(λe=>by rw[e,V]at b1;cases b1),λe=>by rw[<-e,V]at b1;cases b1⟩;obtain⟨a2,ω⟩:¬o2=q/\¬q=o2:=⟨(λe=>by rw[e,V]at b2;cases b2),λe=>by rw[<-e,V]at b2;cases b2⟩;have ez:auL n [PV.int .i64 0]=aR (cR (sO n 0)):=by rw[O5];unfold aR cR;rw[List.map_replicate,List.map_replicate];rfl
 rw[ez];simp only[go_sem];refine aeC (n:=n) (o1:=o1) (o2:=o2) (q:=q) (y:=CC l) hn (by rw[cA]) Lq ?_;rw[PH.set_set];have δ:Q q=none:=by
  cases h:Q q with
  |none=>rfl
  |some x=>rw[w q x h]at V;cases V
 have hw:=WG top n 0 Om;rw[<-W]at hw;obtain⟨r0,θ⟩:=hw.head;have S:=wO top n 0;rw[<-W]at S;simp only[go_sem];refine wp_loop (α:=Nat × N_ × PH × PH) (λ_=>cyF (CC l) o1 o2 q n) (λx=>x.2.2.2) (λx=>Xo J u top n o1 o2 q x.1 x.2.1 x.2.2.1 x.2.2.2) (λx=>l'' u-x.1) (0,awT 0 n,Q,H.set q (.rows 1 (aR (cR (awT 0 n))))) ?_ (by unfold cyF;exact Lq) b_ ?_;exact⟨(by simp only;rw[θ];simp),hw,List.length_range',(λx hx=>by rw[List.mem_range'_1]at hx;omega),hJ,PH.le_trans w (PH.TW _ V),g1,g2,δ,(by simp only;rw[aT,aB a1];exact b1),(by simp only;rw[aT,aB a2];exact b2),(by simp only;rw[cA])⟩;clear b1 b2 g1 g2 δ V w hJ hw θ ez;rintro⟨k,s,G,H⟩ A;have A:Xo J u top n o1 o2 q k s G H:=A;obtain⟨hlt,Z,F,ι,hJ,w,g1,g2,gq,b1,b2,bq⟩:=A;have K:u.drop k=u[k]::u.drop (k+1):=awS hlt;have φ:u[k]=s:=by obtain⟨r,N⟩:=Z.head;rw[K]at N;injection N
 have Y:dP H 1 (.osl q 1 0 n)=some (aR (cR s)):=by
  have:=(show cF H 1 (.osl q 1 0 (aR (cR s)).length) (aR (cR s))from .inr ⟨q,_,rfl,bq,auG _,avI⟩).view
  rwa[bG,iR,F]at this
 rw[show ln=(.seq (.seq (.region TE) (.cond (.tmp 26) .skip (.exit 2))) (.block 3 (.seq (.region TF) (.seq (.block 4 (.loop CM)) (.seq (.seq (.region CO) (.cond (.tmp 46) .ret .skip)) (.seq (.region NB) (.seq (.region NC) (.block 6 (.loop CN)))))))))from rfl];simp only[go_sem,TE,cyF];refine tP Y (by unfold roomFor;rw[bG,iR];simp only[maxLen];omega) (λh=>?_) λ_ c hc=>?_;have:=congrArg List.length h;rw[bG,iR,F]at this;simp at this;omega;rw[bG,iR,F];have μ:G c=none:=by
  cases h:G c with
  |none=>rfl
  |some x=>rw[w c x h]at hc;cases hc
 have hy:=hY k hlt G c hJ μ;rw[φ]at hy;have ne:∀{b:Nat}{x:aW},H b=some x->¬b=c:=λhb e=>by rw[e,hc]at hb;cases hb
 refine⟨l,rfl,.inl ⟨_,G.set c (.rows 1 (aR (cR s))),_,Ev,?_,hy,?_⟩⟩;intro o x O;rw[aT]at O ⊢;split at O;rename_i e;rw[aD e];exact O;rename_i e;rw[aB e];exact w o x O;rintro _ H' ⟨rfl,β⟩ ν;have keep:∀{b:Nat}{x:aW},H b=some x->G b=none->H' b=none/\((H.set c (.rows 1 (aR (cR s)))).over (G.set c (.rows 1 (aR (cR s)))) H') b=some x:=λ{b}{x} hb hg=>by
  have e:=ne hb;have h':H' b=none:=by
   cases h:H' b with
   |none=>rfl
   |some y =>have:=ν b y h (by rw[aT,aB e];exact hg);rw[aT,aB e,hb]at this;cases this
  refine⟨h',?_⟩;rw[iL,h'];simp only[aT,aB e,hg,hb]
 obtain⟨k1,d1⟩:=keep b1 g1;obtain⟨k2,d2⟩:=keep b2 g2;obtain⟨kq,dq⟩:=keep bq gq;have U:H'.le ((H.set c (.rows 1 (aR (cR s)))).over (G.set c (.rows 1 (aR (cR s)))) H'):=λo x O=>by rw[iL,O]
 generalize(H.set c (.rows 1 (aR (cR s)))).over (G.set c (.rows 1 (aR (cR s)))) H'=H2 at *
 have w1:i_.wrap ((n:Int)-1)=(n:Int)-1:=wrap_i64 Om Om;simp only[go_sem,TF,d1,w1];refine Te (n:=n) (top:=top) (o1:=o1) (o2:=o2) (q:=q) (y:=CC l) (s:=s) F hn ht Om d1 d2 dq (by unfold cyF;exact Lq) λm hm M ε=>?_;by_cases m0:m=0;subst m0;have τ:qD top s=none:=OY λi hi=>by have:=M i hi (auK _);omega
 have γ:k+1=l'' u:=by have:=congrArg List.length (Z.done τ);rw[awM,auS]at this;omega
 simp only[go_sem,cyF,CO,show((0:Nat):Int)-1<0 by omega];exact aY (vs:=[]) (.inr rfl) H' rfl U ⟨H',by rw[<-γ];exact β,b_⟩;obtain⟨j,rfl⟩:∃j,m=j+1:=⟨m-1,by omega⟩;have E:j<l'' s:=Om;have σ:(j:Int)<(n:Nat):=Om;have e0:(((j+1:Nat):Int)-1)=(j:Int):=Om;have ζ:=Ho (n:=top) (s:=s) j E (λi hi ρ=>by have:=M i hi ρ;omega) (by have:=ε (Nat.succ_pos _) E;simp only[Nat.add_sub_cancel]at this;omega);rw[F]at ζ;have Γ:=ι s[j] (auH E);have ξ:=EV E;have ο:j<(aR (cR s)).length:=by rw[bG,iR];exact E
 have w2:i_.wrap (((s[j]:Nat):Int)+1)=((s[j]+1:Nat):Int):=dU Om;have η:=agT (s:=s) (j:=j) (y:=s[j]+1) E;simp only[go_sem,cyF,CO,e0,show ¬(j:Int)<0 by omega,NB,dq,ξ,ο,σ,avA,w2,gd,η,NC,wZz j];refine aeD (n:=n) (o1:=o1) (o2:=o2) (q:=q) (j:=j) (x:=s[j]+1) (y:=CC l) (s:=s) F hn Om Om (by rw[aT,aB a1];exact d1) a1 (by rw[cA]) (by unfold cyF;exact Lq) ?_;rw[PH.set_set];have atL:k+1<l'' u/\rB top (s.take j++awT (s[j]+1) (n-j)) (u.drop (k+1)):=by
  obtain⟨r,N,κ⟩:=Z.next ζ;rw[K]at N;injection N with _ N
  rw[N];refine⟨?_,κ⟩;obtain⟨r2,υ⟩:=κ.head;have:=congrArg List.length N;rw[υ,awM,avG]at this;omega
 have χ:Xo J u top n o1 o2 q (k+1) (s.take j++awT (s[j]+1) (n-j)) H' (H2.set q (.rows 1 (aR (cR (s.take j++awT (s[j]+1) (n-j)))))):={
     lt:=atL.1
     walk:=atL.2
     len:=by simp;omega
     rng:=λx hx=>by
      have h2:=S (u[k+1]'atL.1) (auH _);have h3:u[k+1]'atL.1=s.take j++awT (s[j]+1) (n-j):=by obtain⟨r,N⟩:=atL.2.head;rw[awS atL.1]at N;injection N
      rw[h3]at h2;exact(h2.2.1 x hx).2
     j:=β
     le:=λo x O=>by
      have:¬o=q:=λe=>by rw[e,kq]at O;cases O
      rw[aT,aB this];exact U o x O
     g1:=k1,g2:=k2,gq:=kq
     b1:=by rw[aT,aB a1];exact d1
     b2:=by rw[aT,aB a2];exact d2
     bq:=by rw[cA] }
 simp only[go_sem,cyF];exact aF (k+1,s.take j++awT (s[j]+1) (n-j),H',H2.set q (.rows 1 (aR (cR (s.take j++awT (s[j]+1) (n-j)))))) χ sO_ Lq b_
def uU(f:aH)(p:cJ)(xs:I_)(i:Nat):Bool:=!(decide (fP f p i>0)&&decide (gU f xs i>fP f p i))
theorem yZ(f:aH)(p:cJ)(xs:I_):mI f p xs=(auE f.asS.length).all (uU f p xs):=rfl
theorem Th(f:aH)(xs ys:I_)(i:Nat):gU f xs i<=gU f (xs++ys) i:=by
 unfold gU;rw[ayR];split<;>omega
theorem U6{f:aH}{p:cJ}{xs ys:I_}{i:Nat}(h:uU f p xs i=false):uU f p (xs++ys) i=false:=by
 have:=Th f xs ys i;unfold uU at h ⊢;simp only[Bool.not_eq_false',auI,dT_]at h ⊢;omega
theorem qq{f:aH}{p:cJ}{xs:I_}{i:Nat}(hi:i<l'' f.asS)(h:uU f p xs i=false):mI f p xs=false:=by
 rw[yZ];simp only[List.all_eq_false,avM];exact⟨i,hi,by rw[h];simp⟩
theorem Jg{f:aH}{p:cJ}{xs ys:I_}(h:mI f p xs=false):mI f p (xs++ys)=false:=by
 rw[yZ]at h;simp only[List.all_eq_false,avM]at h;obtain⟨i,hi,h⟩:=h;exact qq hi (U6 (by simpa using h))
theorem La(f:aH)(p:cJ):mI f p []=true:=by
 rw[yZ];simp only[auX,avM];intro i _;unfold uU gU;simp;omega
theorem Rc{f:aH}(hV:VF f){p:cJ}{xs:I_}(h:∀i,i<l'' f.asS->0<lvl f i->uU f p xs i=true):mI f p xs=true:=by
 rw[yZ];simp only[auX,avM];intro i hi;have l:=hV.pS hi;by_cases e:i=0;unfold uU gU;rw[aD e];simp;omega;exact h i hi Om
theorem agR{f:aH}{p:cJ}{xs:I_}(h:mI f p xs=true){i:Nat}(hi:i<l'' f.asS):uU f p xs i=true:=by
 rw[yZ]at h;exact auX.1 h i (avM.2 hi)
theorem Wc(p:cJ)(t:V_){n:Nat}(h:n<5):(if 1<=(List.drop n (PV.int .i64 p.s0::PV.int .i64 p.s1::PV.int .i64 p.s2::PV.int .i64 p.s3::PV.int .i64 p.s4::t)).length then some (List.take 1 (List.drop n (PV.int .i64 p.s0::PV.int .i64 p.s1::PV.int .i64 p.s2::PV.int .i64 p.s3::PV.int .i64 p.s4::t)))else none)=some [PV.int .i64 (p.spread n)]:=by
 have:n=0\/n=1\/n=2\/n=3\/n=4:=Om;rcases this with rfl|rfl|rfl|rfl|rfl<;>simp[cJ.spread]
def MP(f:aH)(p:cJ)(i oD:Nat)(set:I_)(k:Nat):PF:=(((((((n_.set 3 (.bQ f.cells)).set 4 (.bQ p.cells)).set 7 (.osl i 1 0 f.asQ.length)).set 10 (.osl oD 1 0 f.asS.length)).set 34 (ints set)).set 35 (.int .i64 (l'' set:Nat))).set 36 (.int .i64 k))
def Oa(f:aH)(p:cJ)(i oD:Nat)(set:I_)(k:Nat)(at_:Nat):PF:=((((((((n_.set 3 (.bQ f.cells)).set 4 (.bQ p.cells)).set 7 (.osl i 1 0 f.asQ.length)).set 10 (.osl oD 1 0 f.asS.length)).set 34 (ints set)).set 35 (.int .i64 (l'' set:Nat))).set 36 (.int .i64 k)).set 13 (.int .i64 at_))
theorem adY{K:cH}[Up K](f:aH)(hV:VF f)(p:cJ)(oA oD:Nat)(set:I_)(k:Nat)(xs:I_)(κ:l'' xs<=16777216)(ζ:mI f p xs=true)(d:Nat)(hd:d<l'' f.asP){F:PF}{H:PH}
  (hF:(Oa f p oA oD set k (eT f d)).le F) (hD:H oD=some (.rows 1 (aR (pN f xs))))
  (hR:∀F' H',F' 6=some (.bool false)->mI f p (xs++[(d:Int)])=false->K .ret F' H')
  (hK:mI f p (xs++[(d:Int)])=true->K (.exit 4) (MP f p oA oD set k) (H.set oD (.rows 1 (aR (pN f (xs++[(d:Int)])))))) :
  aK.wp C (.loop cr) K F H:=by
 refine wp_loop (α:=Nat × PH) (λt=>Oa f p oA oD set k (upN f t.1 (eT f d))) (λt=>t.2) (λt=>t.1<=4/\t.2=H.set oD (.rows 1 (aR (qA f xs d t.1)))/\∀i,i<l'' f.asS->4-(t.1:Int)<lvl f i->uU f p (xs++[(d:Int)]) i=true) (λt=>4-t.1) (0,H) ⟨auK _,?_,?_⟩ (by rw[upN];exact hF) b_ ?_;rw[Tj hV];refine PH.ext λo=>?_;show H o=(H.set oD _) o;rw[aT];split;rename_i e;rw[e,hD];rfl;intro i hi hl;have:=(hV.pS hi).2.1;simp only at hl;omega;rintro⟨j,H0⟩ ⟨hj,hH,w⟩;simp only at hj hH w;subst hH;obtain⟨y,Z⟩:=VW hV hd (k:=j) hj;simp only[go_sem,cr,Oa];by_cases hlt:j<4;have ε:0<upN f j (eT f d):=by
  rcases axN (upN f j (eT f d))with e|e
  rw[e,hV.root.2.1]at Z;omega;exact e
 have hc:((upN f j (eT f d):Nat):Int)>0:=Om;obtain⟨b1,b2⟩:=aeJ hV xs hd hlt;have Q:(aR (qA f xs d j))[upN f j (eT f d)]?=some [.j (gU f xs (upN f j (eT f d)))]:=by unfold aR;rw[avC,b1];rfl
 have θ:=aeI f xs (upN f j (eT f d));have hw:i_.wrap (gU f xs (upN f j (eT f d))+1)=gU f xs (upN f j (eT f d))+1:=wrap_i64 Om Om;have A:((upN f j (eT f d):Nat):Int)<(l'' f.asS:Nat):=Om;have γ:upN f j (eT f d)<(aR (qA f xs d j)).length:=by rw[bG,Yp];exact y
 have V:gU f (xs++[(d:Int)]) (upN f j (eT f d))=gU f xs (upN f j (eT f d))+1:=by rw[HK f xs d Om,eJ,Z,show 4-(4-(j:Int)).toNat=j by omega,aD rfl]
 have l:uU f p (xs++[(d:Int)]) (upN f j (eT f d))=!(decide (fP f p (upN f j (eT f d))>0)&&decide (gU f xs (upN f j (eT f d))+1>fP f p (upN f j (eT f d)))):=by rw[uU,V]
 have atL:uU f p (xs++[(d:Int)]) (upN f j (eT f d))=true->∀i,i<l'' f.asS->4-((j+1:Nat):Int)<lvl f i->uU f p (xs++[(d:Int)]) i=true:=by
  intro h i hi hl;by_cases e:i=upN f j (eT f d);rw[e];exact h;by_cases c:4-(j:Int)<lvl f i;exact w i hi c;have U:lvl f i=4-(j:Int):=Om;have β:i≠0:=by intro e;subst e;rw[hV.root.2.1]at U;omega
  have N:gU f (xs++[(d:Int)]) i=gU f xs i:=by rw[HK f xs d β,eJ,U,show 4-(4-(j:Int)).toNat=j by omega,aB (λh=>e h.symm)];simp
  have:=agR ζ hi;unfold uU at this ⊢;rw[N];exact this
 have S:uU f p (xs++[(d:Int)]) (upN f j (eT f d))=false->mI f p (xs++[(d:Int)])=false:=qq y;have δ:fP f p (upN f j (eT f d))=p.spread (4-(j:Int)).toNat:=by rw[fP,Z]
 rw[δ]at l;have η:=Q;have M:(aR (qA f xs d j)).set (upN f j (eT f d)) [.j (gU f xs (upN f j (eT f d))+1)]=aR (qA f xs d (j+1)):=by rw[wX,b2]
 have E:(aR (qA f xs d (j+1)))[upN f j (eT f d)]?=some [.j (gU f xs (upN f j (eT f d))+1)]:=by rw[<-M,List.getElem?_set_self γ]
 have W:upN f (j+1) (eT f d)=PJ f (upN f j (eT f d)):=rfl;have J:=hV.M2 ε y;generalize ι:upN f j (eT f d)=u at *
 generalize gU f xs u=dc at *
 have l0:(0:Int)<=4-(j:Int):=Om;have h5:4-(j:Int)<((5:Nat):Int):=Om;simp only[go_sem,hc,A,avA,Q,hw,M,mO y,n8 y,Z,l0,h5,Nat.mul_one];rw[Wc p _ (Om:(4-(j:Int)).toNat<5)];by_cases O:p.spread (4-(j:Int)).toNat>0;by_cases Y:dc+1>p.spread (4-(j:Int)).toNat;simp only[go_sem,O,Y,A,E,avA];exact hR _ _ Sq (S (by rw[l,bH O,bH Y];rfl));simp only[go_sem,O,Y,A,E,avA,mO y,In y,J];exact aF (j+1,_) ⟨hlt,rfl,atL (by rw[l,bT Y,awB];rfl)⟩ sO_ (lE1 W) b_;simp only[go_sem,O,A,avA,mO y,In y,J];exact aF (j+1,_) ⟨hlt,rfl,atL (by rw[l,bT O];rfl)⟩ sO_ (lE1 W) b_;have:j=4:=Om;subst this;have h0:upN f 4 (eT f d)=0:=by have:=hV.pS y;omega
 have hc:¬((upN f 4 (eT f d):Nat):Int)>0:=Om;simp only[go_sem,hc];rw[Ti hV];refine Up.up ?_ (hK (Rc hV λi hi h=>w i hi (by simpa using h)));unfold MP;exact Lq
theorem Xs{f:aH}{p:cJ}{set:I_}{d:Int}(i:d∈set)(h:KK f p d=false):oO f p set=false:=by
 unfold oO;have:set.all (KK f p)=false:=by simp only[List.all_eq_false];exact⟨d,i,by rw[h];simp⟩
 rw[this];rfl
theorem Xr{f:aH}{p:cJ}{set:I_}{k:Nat}(h:mI f p (set.take k)=false):oO f p set=false:=by
 have:=Jg (ys:=set.drop k) h;rw[axY]at this;unfold oO;rw[this,awB]
def Cu(f:aH)(set:I_):Prop:=l'' set<=16777216/\∀x∈set,0<=x/\x<(l'' f.asP:Nat)
theorem Sz{K:cH}[Up K](f:aH)(hV:VF f)(p:cJ)(S oD:Nat)(hn:S≠oD)(set:I_)(hs:Cu f set){F:PF}{H:PH}
  (hF:(MP f p S oD set 0).le F) (Q:H S=some (.rows 1 (eK (marks f.asQ.length p.asQ)))) (hD:H oD=some (.rows 1 (aR (pN f []))))
  (hR:∀U H',U 6=some (.bool false)->oO f p set=false->K .ret U H')
  (hK:∀U H',oO f p set=true->K (.exit 2) U H') :
  aK.wp C (.loop FP) K F H:=by
 obtain⟨β,Z⟩:=hs;refine wp_loop (α:=Nat × PH) (λt=>MP f p S oD set t.1) (λt=>t.2) (λt=>t.1<=l'' set/\t.2 S=some (.rows 1 (eK (marks f.asQ.length p.asQ)))/\t.2 oD=some (.rows 1 (aR (pN f (set.take t.1))))/\(set.take t.1).all (KK f p)=true/\mI f p (set.take t.1)=true) (λt=>l'' set-t.1) (0,H) ⟨auK _,Q,hD,rfl,La f p⟩ hF b_ ?_;rintro⟨k,H0⟩ ⟨hk,Q,hD,u,J⟩;simp only at hk Q hD u J;by_cases hlt:k<l'' set
 ·have w:(k:Int)<(l'' set:Nat):=Om;have Y:(set.map λn=>[PV.int .i64 n])[k]?=some [.j set[k]]:=by simp[hlt]
  have M:set.take (k+1)=set.take k++[set[k]]:=awE hlt;have hx:=Z set[k] (auH hlt);have hm:=auH hlt;generalize γ:set[k]=x at *
  obtain⟨d,rfl⟩:∃d:Nat,x=d:=⟨x.toNat,by omega⟩;have i:d<l'' f.asP:=Om;have N:(d:Int)<(l'' f.asP:Nat):=Om;obtain⟨w1,w2,w3,w4,w5⟩:=hV.drive d i;have O:((mdl f d:Nat):Int)<(l'' f.asQ:Nat):=Om;have E:(eK (marks f.asQ.length p.asQ))[mdl f d]?=some [.bool (p.asQ.contains ((mdl f d:Nat):Int))]:=by have:=GG (n:=l'' f.asQ) (l:=p.asQ) (m:=((mdl f d:Nat):Int)) Om O;rw[awG]at this;unfold eK;rw[avC,this];rfl
  have A:KK f p (d:Int)=p.asQ.contains ((mdl f d:Nat):Int):=by rw[KK,awG]
  cases hb:p.asQ.contains ((mdl f d:Nat):Int)with
  |false =>rw[hb]at E A;simp only[go_sem,FP,MP,w,Y,wU i,N,hV.oe i,O,avA,Q,E,auY];exact hR _ _ Sq (Xs hm A)
  |true=>
   rw[hb]at E A;simp only[go_sem,FP,MP,w,Y,wU i,N,hV.oe i,O,avA,Q,E,auO,hV.Mo i];have up:=λ{K:cH} [Up K] {F:PF} {H:PH}=>adY (C:=C) (K:=K) f hV p S oD set k (set.take k) (by rw[auU];omega) J d i (F:=F) (H:=H);refine up (by unfold Oa;exact Lq) hD ?_ ?_;intro U H' h6 V;simp only[go_sem];exact hR _ _ h6 (Xr (k:=k+1) (by rw[M];exact V));intro W;simp only[go_sem,MP,wZz k];refine aF (k+1,H0.set oD (.rows 1 (aR (pN f (set.take k++[(d:Int)]))))) ⟨hlt,?_,?_,?_,by rw[M];exact W⟩ sO_ Lq b_;simp only[aT,aB hn];exact Q;simp only[cA,M];rw[M];intro y hy;rcases avX.1 hy with h|h
   exact auX.1 u y h;rw[avN.1 h];exact A
 have w:¬(k:Int)<(l'' set:Nat):=Om;have:k=l'' set:=Om;subst this;rw[avI]at u J;simp only[go_sem,FP,MP,w];exact hK _ _ (by rw[oO,u,J];rfl)

def anM(down:I_)(d:Int):Bool:=decide (0<=d)&&down.contains d
def anN(down:I_)(d:Int):Bool:=decide (0<=d)&&!down.contains d
def aqZ(down row:I_):Bool:=row.any (anM down)
def agY(down row:I_):Nat:=row.countP (anN down)
def akW(f:aH)(i:Int)(down:I_)(v:Nat)(row:I_):Bool:=aqZ down row&&decide (((agY down row:Nat):Int)<(PP f v).k+i)
def anO(f:aH)(l:L2_)(i:Int)(down:I_)(n:Nat):Bool:=(auE n).all λv=>!akW f i down v (l.getD v [])
def C2(f:aH)(l:L2_)(i:Int)(down:I_):Bool:=anO f l i down l.length


theorem jK{t:Nat}{b b':Bool}{F:PF}{H:PH}(h:F t=some (.bool b))(e:b=b'):aX [.tmp t] (aJ (.bool b')) .ret F H:=by
 subst e;exact aY (.inr rfl) .nil (vs:=[.bool b]) (by rw[kM,nF,h,oM]) a_ ⟨rfl,rfl⟩
theorem adX(f:aH)(hV:VF f)(p:cJ)(hp:∀m∈p.asQ,0<=m/\m<l'' f.asQ)(w:Fits p.asQ)(set:I_)(hs:Cu f set) :
  yf.wp C (aX nL.res (aJ (.bool (oO f p set)))) (g_ [.agg f.cells,.agg p.cells,ints set]) .nil:=by
 have l:=hV.small;have A:(l'' f.asQ:Int)*((1:Nat):Int)<=140737488355328:=by have:=l.asQ;omega
 have E:(l'' f.asQ:Int)<=9223372036854775807:=by have:=l.asQ;omega
 have F:(0:Int)<=(l'' f.asQ:Int):=Om;have K:(l'' f.asS:Int)*((8:Nat):Int)<=140737488355328:=by have:=l.asS;omega
 have M:(l'' f.asS:Int)<=9223372036854775807:=by have:=l.asS;omega
 have N:(0:Int)<=(l'' f.asS:Int):=Om;simp only[go_sem,yf,nL,auD,A,E,F,Int.le_refl,awG];refine aS λy hA=>?_;rw[SO];simp only[go_sem,auD];refine wp_loop (α:=Nat) (λk=>(((((((n_.set 2 (ints set)).set 3 (.bQ f.cells)).set 4 (.bQ p.cells)).set 7 (.osl y 1 0 f.asQ.length)).set 20 (ints p.asQ)).set 21 (.j (l'' p.asQ:Nat))).set 22 (.j k))) (λk=>h_.set y (.rows 1 (eK (marks f.asQ.length (p.asQ.take k))))) (λk=>k<=l'' p.asQ) (λk=>l'' p.asQ-k) 0 (auK _) Lq (by rw[List.take_zero];exact b_) ?_;intro k hk;simp only[go_sem];by_cases hlt:k<l'' p.asQ;have i:(k:Int)<(l'' p.asQ:Nat):=Om;have O:(p.asQ.map λn=>[PV.int .i64 n])[k]?=some [.j p.asQ[k]]:=by simp[hlt]
 obtain⟨S,U⟩:=hp _ (auH hlt);have H:(p.asQ[k]).toNat<(eK (marks f.asQ.length (p.asQ.take k))).length:=by rw[HG,TY];omega
 have J:(eK (marks f.asQ.length (p.asQ.take k)))[(p.asQ[k]).toNat]?=some [.bool ((p.asQ.take k).contains p.asQ[k])]:=by unfold eK;rw[avC,GG S U];rfl
 have V:l'' p.asQ<=9223372036854775807:=by have:=w;omega
 simp only[go_sem,i,O,S,U,avA,J,H,mU,TZ S U,wZz k];refine aF (k+1) hlt Om Lq ?_;rw[awE hlt];exact b_;have i:¬(k:Int)<(l'' p.asQ:Nat):=Om;have:k=l'' p.asQ:=Om;subst this;rw[avI];simp only[go_sem,i,auD,K,M,N,Int.le_refl,awG];refine aS λoD hD=>?_;have W:y≠oD:=by rintro rfl;simp only[cA]at hD;cases hD
 rw[Xf];simp only[go_sem,auD];refine Sz (C:=C) f hV p y oD W set hs (by unfold MP;exact lM) (by simp only[aT,aB W,if_true]) (by rw[cA]) ?_ ?_;intro Y H' Z u;simp only[go_sem];exact jK Z u.symm;intro Y H' Q;simp only[go_sem];exact jK Sq Q.symm
theorem Su(set:I_)(top:Int){k:Nat}:(auE (k+1)).all (tV set top)=((auE k).all (tV set top)&&tV set top k):=by
 rw[ayA,List.all_append];simp
theorem aeA(set:I_)(Y:l'' set<=1000000000000000)(n top:Int) :
  yh.wp C (aX Oe.res (aJ (.bool (cp set n top)))) (g_ [ints set,.j n,.j top]) .nil:=by
 have K:cp set n top=(decide ((l'' set:Int)=n)&&(auE set.length).all (tV set top)):=rfl;simp only[go_sem,yh,Oe,auD];refine wp_loop (α:=Nat) (λk=>((((((n_.set 0 (ints set)).set 1 (.j n)).set 2 (.j top)).set 9 (ints set)).set 10 (.j (l'' set:Nat))).set 11 (.j k))) (λ_=>.nil) (λk=>k<=l'' set/\(auE k).all (tV set top)=true) (λk=>l'' set-k) 0 ⟨auK _,rfl⟩ Lq a_ ?_;rintro k ⟨W,l⟩;have w:k<l'' set->tV set top k=false->cp set n top=false:=by
  intro h U;rw[K];have:(auE set.length).all (tV set top)=false:=by simp only[List.all_eq_false,avM];exact⟨k,h,by rw[U];simp⟩
  rw[this,awB]
 by_cases hlt:k<l'' set;have i:(k:Int)<(l'' set:Nat):=Om;have M:(set.map λn=>[PV.int .i64 n])[k]?=some [.j set[k]]:=by simp[hlt]
 have V:set.getD k 0=set[k]:=by simp[auM,hlt]
 have A:tV set top k=((decide (0<=set[k])&&decide (set[k]<top))&&(decide (k=0)||decide (set.getD (k-1) 0<set[k]))):=by rw[tV,V]
 have atL:tV set top k=true->(auE (k+1)).all (tV set top)=true:=λh=>by rw[Su,l,h];rfl
 generalize set[k]=x at *
 simp only[go_sem,i,M];by_cases E:x<0;simp only[go_sem,E];exact jK Sq (w hlt (by rw[A,bT (Om:¬0<=x)];rfl)).symm;by_cases J:x>=top;simp only[go_sem,E,J];exact jK Sq (w hlt (by rw[A,bT (Om:¬x<top),awB];rfl)).symm;rw[bH (Om:0<=x),bH (Om:x<top),awP,auV]at A;by_cases O:k=0;subst O;simp only[go_sem,E,J,show ¬((0:Nat):Int)>0 by omega,wZz 0];exact aF 1 ⟨hlt,auX.1 (atL (by rw[A];rfl))⟩ Om Lq a_;obtain⟨j,rfl⟩:∃j,k=j+1:=⟨k-1,by omega⟩;have S:i_.wrap (((j+1:Nat):Int)-1)=(j:Int):=wO_
 have F:j<l'' set:=Om;have u:(j:Int)<(l'' set:Nat):=Om;have H:(set.map λn=>[PV.int .i64 n])[j]?=some [.j set[j]]:=by simp[F]
 have N:set.getD (j+1-1) 0=set[j]:=by simp[auM,F]
 rw[N,bT O,Bool.false_or]at A;generalize set[j]=y at *
 by_cases Q:y>=x;simp only[go_sem,E,J,show((j+1:Nat):Int)>0 by omega,S,H,u,Q];exact jK Sq (w hlt (by rw[A,bT (Om:¬y<x)])).symm;simp only[go_sem,E,J,show((j+1:Nat):Int)>0 by omega,S,H,u,Q,dU (Om:j+1<9223372036854775807)];exact aF (j+1+1) ⟨hlt,auX.1 (atL (by rw[A,bH (Om:y<x)]))⟩ Om Lq a_;have i:¬(k:Int)<(l'' set:Nat):=Om;have:k=l'' set:=Om;subst this;rw[l,awP]at K;simp only[go_sem,i,auD];exact jK (b:=decide ((l'' set:Int)=n)) (by simp only[go_sem];rfl) K.symm
theorem dy{f:aH}{atB:Int}(h:nS f atB=true):VF f/\0<=atB/\atB.toNat<l'' f.asT/\atB=(atB.toNat:Nat):=by
 unfold nS at h;simp only[auI,dT_]at h;exact⟨VF.of h.1,h.2.1,by omega,by omega⟩
theorem zr{f:aH}{atB:Int}(h:nS f atB=true):lK f atB∈f.asT/\f.asT[atB.toNat]?=some (lK f atB):=by
 obtain⟨_,_,i,_⟩:=dy h;have e:lK f atB=f.asT[atB.toNat]:=by simp[lK,auM,i]
 rw[e];exact⟨auH i,auP i⟩
theorem S3(val:∀f:aH,f.Ok->aG C 96 [.agg f.cells] .nil (aJ (.j (sL f))))(f:aH)(u:f.Ok)(atB:Int) :
  YX.wp C (aX kf.res (aJ (.bool (nS f atB)))) (g_ [.agg f.cells,.j atB]) .nil:=by
 have l:=val f u;unfold sL at l;simp only[go_sem,YX,kf];refine aA l Ev ?_;have i:nS f atB=(dR f&&(decide (0<=atB)&&decide (atB<l'' f.asT))):=rfl;cases hp:dR f with
 |false =>rw[hp,auN]at i;simp only[go_sem,bP (show(1:Int)≠0 by decide)];exact jK Sq i.symm
 |true =>rw[hp,auV]at i;by_cases c:atB>=0;rw[bH (Om:0<=atB),auV]at i;simp only[go_sem,cI (show(0:Int)=0 from rfl),c,auD];exact jK (b:=decide (atB<l'' f.asT)) Sq i.symm;rw[bT (Om:¬0<=atB),auN]at i;simp only[go_sem,cI (show(0:Int)=0 from rfl),c,auD];exact jK Sq i.symm
structure Sl(C:Ctx):Prop where
 adm:∀(f:aH)(p:cJ)(set:I_),VF f->(∀m∈p.asQ,0<=m/\m<l'' f.asQ)->Fits p.asQ->Cu f set->aG C 201 [.agg f.cells,.agg p.cells,ints set] .nil (aJ (.bool (oO f p set)))
 known:∀(f:aH)(atB:Int),f.Ok->aG C 203 [.agg f.cells,.int .i64 atB] .nil (aJ (.bool (nS f atB)))
structure amH(C:Ctx):Prop extends Sl C where
 asc:∀(set:I_)(n top:Int),l'' set<=1000000000000000->aG C 202 [ints set,.int .i64 n,.int .i64 top] .nil (aJ (.bool (cp set n top)))
theorem MR{m:Nat}(l:m<=1000):∀i,i<=1000->(gF m i).natAbs<=1000^i
 |0,_=>auG _
 |i+1,h=>by have u:=MR l i Om;have hb:((m:Int)-(i:Int)).natAbs<=1000:=Om;rw[gF,Int.natAbs_tdiv,axO,awL];exact avJ (axT _ _) (awY u hb)
theorem ka{m:Nat}(l:m<=1000){i:Nat}(hi:i<=3):-1000000000<=gF m i/\gF m i<=1000000000:=by
 have h:=MR l i Om;have:1000^i<=1000^3:=ayJ Om hi;have e:(1000:Nat)^3=1000000000:=by decide
 omega
theorem Of(m n:Nat)(w:m<=1000)(S:n<=3) :
  SR.wp C (aX XA.res (aJ (.j (max (gF m n) 0)))) (g_ [.j m,.j n]) .nil:=by
 simp only[go_sem,SR,XA];refine wp_loop (α:=Nat) (λk=>((((n_.set 0 (.j m)).set 1 (.j n)).set 5 (.j (gF m k))).set 6 (.j k))) (λ_=>.nil) (λk=>k<=n) (λk=>n-k) 0 (auK _) (by(repeat' (first|exact e_|refine d_ ?_ ?_))<;>first|(simp only[go_sem,gF]<;>rfl)|rfl) a_ ?_;intro k Q;simp only[go_sem];by_cases hlt:k<n;have l:(k:Int)<(n:Nat):=Om;obtain⟨b1,b2⟩:=ka w (i:=k) Om;have J:=MR w k Om;have hb:((m:Int)-(k:Int)).natAbs<=1000:=Om;have u:=awY (avJ J (ayJ Om (Om:k<=2))) hb;rw[<-axO]at u;have e:(1000:Nat)^2*1000=1000000000:=by decide
 have K:i_.wrap ((m:Int)-(k:Int))=(m:Int)-k:=wrap_i64 Om Om;have M:i_.wrap (gF m k*((m:Int)-(k:Int)))=gF m k*((m:Int)-k):=wrap_i64 Om Om;have N:i_.wrap ((k:Int)+1)=(k:Int)+1:=wrap_i64 Om Om;have A:¬((k:Int)+1)=0:=Om;obtain⟨F,H⟩:=ka w (i:=k+1) Om;have E:gF m (k+1)=Int.tdiv (gF m k*((m:Int)-k)) ((k:Int)+1):=by rw[gF]
 rw[E]at F H;have O:i_.wrap (Int.tdiv (gF m k*((m:Int)-k)) ((k:Int)+1))=Int.tdiv (gF m k*((m:Int)-k)) ((k:Int)+1):=wrap_i64 Om Om;simp only[go_sem,l,K,M,N,A,O]
 try simp only[go_sem,wZz k]
 exact aF (k+1) hlt Om (lE1 E) a_;have l:¬(k:Int)<(n:Nat):=Om;have:k=n:=Om;subst this;simp only[go_sem,l];have y:(if gF m k<0 then 0 else gF m k)=max (gF m k) 0:=by split<;>omega
 rw[y];refine fH (.inr rfl) Ev ?_;rfl
def OD(k:Nat)(b:Bool):Nat:=if b then k+1 else k
theorem YY{α:Type}(q:α->Bool)(l:List α){i:Nat}(h:i<l'' l):(l.take (i+1)).countP q=OD ((l.take i).countP q) (q l[i]):=by
 rw[awE h,ayR];unfold OD;cases u:q l[i]<;>simp[u]
def HR(sc:L2_)(set:I_)(m:Int)(n i:Nat):PF:=((((((n_.set 1 (ints set)).set 2 (.int .i64 m)).set 7 (.int .i64 n)).set 14 (lay sc)).set 15 (.int .i64 (l'' sc:Nat))).set 16 (.int .i64 i))
def pR(sc:L2_)(set:I_)(m:Int)(n i:Nat)(b:Nat)(s:I_)(j:Nat):PF:=((((((((((n_.set 1 (ints set)).set 2 (.int .i64 m)).set 7 (.int .i64 n)).set 14 (lay sc)).set 15 (.int .i64 (l'' sc:Nat))).set 16 (.int .i64 i)).set 10 (.int .i64 b)).set 20 (ints s)).set 21 (.int .i64 (l'' s:Nat))).set 22 (.int .i64 j))
theorem Og{K:cH}[Up K](sc:L2_)(set:I_)(J:l'' set<=1000000000000000)(m:Int)(n i b:Nat)(s:I_)(j:Nat)(d:Int)(k:Nat)(y:k<=fM set d){F:PF}{H:PH}
  (A:(((pR sc set m n i b s j).set 13 (.j d)).set 11 (.j k)).le F)
  (w:K (.exit 4) (((pR sc set m n i b s j).set 13 (.j d)).set 11 (.j (fM set d:Nat))) H) :
  aK.wp C (.loop BG) K F H:=by
 refine wp_loop (α:=Nat) (λk=>((pR sc set m n i b s j).set 13 (.j d)).set 11 (.j k)) (λ_=>H) (λk=>k<=fM set d) (λk=>fM set d-k) k y A b_ ?_;intro k y;have E:=xt set d;by_cases hlt:k<l'' set;have l:(k:Int)<(l'' set:Nat):=Om;have u:(set.map λn=>[PV.int .i64 n])[k]?=some [.j set[k]]:=by simp[hlt]
 by_cases c:k<fM set d;have hb:set[k]<d:=QC set d c;simp only[go_sem,BG,pR,auD,l,u,hb,wZz k];exact aF (k+1) c Om Lq b_;have e:k=fM set d:=Om;subst e;have hb:¬set[fM set d]<d:=M9 set d hlt;simp only[go_sem,BG,pR,auD,l,u,hb];refine Up.up ?_ w;unfold pR;exact Lq;have l:¬(k:Int)<(l'' set:Nat):=Om;have e:k=fM set d:=Om;subst e;simp only[go_sem,BG,pR,auD,l];refine Up.up ?_ w;unfold pR;exact Lq
theorem S4{K:cH}[Up K](sc:L2_)(set:I_)(hl:l'' set<=1000000000000000)(hs:set.Pairwise (· < ·))(m:Int)(n i:Nat)(s:I_)(γ:l'' s<=1000000000000000)(O:s.Pairwise (· < ·)){F:PF}{H:PH}
  (S:((pR sc set m n i 0 s 0).set 11 (.j 0)).le F)
  (U:K (.exit 2) ((HR sc set m n i).set 10 (.j (oY set s:Nat))) H) :
  aK.wp C (.loop HH) K F H:=by
 refine wp_loop (α:=Nat × Nat) (λt=>(pR sc set m n i ((s.take t.1).countP λd=>set.contains d) s t.1).set 11 (.j t.2)) (λ_=>H) (λt=>t.1<=l'' s/\∀d∈s.drop t.1,t.2<=fM set d) (λt=>l'' s-t.1) (0,0) ⟨auK _,λd _=>auK _⟩ (by simpa using S) b_ ?_;rintro⟨j,k⟩ ⟨Z,Q⟩;simp only at Z Q;by_cases hlt:j<l'' s;have y:(j:Int)<(l'' s:Nat):=Om;have M:(s.map λn=>[PV.int .i64 n])[j]?=some [.j s[j]]:=by simp[hlt]
 have u:=YY (λd=>set.contains d) s hlt;have w:s.drop j=s[j]::s.drop (j+1):=awS hlt;have N:k<=fM set s[j]:=Q _ (by rw[w];exact List.mem_cons_self ..);have atL:∀d∈s.drop (j+1),fM set s[j]<=fM set d:=by intro d W;have:=O.sublist (List.drop_sublist j s);rw[w,List.pairwise_cons]at this;exact V2 set (Int.le_of_lt (this.1 d W))
 have l:=abF hs s[j];have V:(s.take j).countP (λd=>set.contains d)<=j:=avJ List.countP_le_length (by rw[auU];omega);generalize(s.take j).countP (λd=>set.contains d)=b at *
 generalize s[j]=d at *
 simp only[go_sem,HH,pR,y,M];have sk:=λ{K:cH} [Up K] {F:PF}=>Og (C:=C) (K:=K) sc set hl m n i b s j d k N (F:=F) (H:=H);refine sk (by unfold pR;exact Lq) ?_;have β:=xt set d;by_cases c:fM set d<l'' set;have E:((fM set d:Nat):Int)<(l'' set:Nat):=Om;have A:(set.map λn=>[PV.int .i64 n])[fM set d]?=some [.j set[fM set d]]:=by simp[c]
 have Y:set.getD (fM set d) 0=set[fM set d]:=by simp[auM,c]
 rw[bH c,auV,Y]at l;by_cases J:set[fM set d]=d;rw[bH J]at l;rw[l]at u;simp only[go_sem,pR,auD,E,A,cI J,wZz b,wZz j];exact aF (j+1,fM set d) ⟨hlt,atL⟩ sO_ (by(repeat' (first|exact e_|refine d_ ?_ ?_))<;>first|(simp only[go_sem,u,OD]<;>rfl)|rfl) b_;rw[bT J]at l;rw[l]at u;simp only[go_sem,pR,auD,E,A,bP J,wZz j];exact aF (j+1,fM set d) ⟨hlt,atL⟩ sO_ (by(repeat' (first|exact e_|refine d_ ?_ ?_))<;>first|(simp only[go_sem,u,OD]<;>rfl)|rfl) b_;have E:¬((fM set d:Nat):Int)<(l'' set:Nat):=Om;rw[bT c,auN]at l;rw[l]at u;simp only[go_sem,pR,auD,E,wZz j];exact aF (j+1,fM set d) ⟨hlt,atL⟩ sO_ (by(repeat' (first|exact e_|refine d_ ?_ ?_))<;>first|(simp only[go_sem,u,OD]<;>rfl)|rfl) b_;have y:¬(j:Int)<(l'' s:Nat):=Om;have:j=l'' s:=Om;subst this;simp only[go_sem,HH,pR,y,avI];refine Up.up ?_ U;unfold HR oY;exact Lq
theorem X5(sc:L2_)(N:l'' sc<=1000000000000000)(A:∀s∈sc,l'' s<=1000000000000000/\s.Pairwise (· < ·))(set:I_)(M:l'' set<=1000000000000000)(E:set.Pairwise (· < ·))(m:Int) :
  kg.wp C (aX mL.res (aJ (.j (DD sc set m:Nat)))) (g_ [lay sc,ints set,.j m]) .nil:=by
 simp only[go_sem,kg,mL,auD];refine wp_loop (α:=Nat) (λi=>HR sc set m ((sc.take i).countP λs=>decide (((oY s set:Nat):Int)>m)) i) (λ_=>.nil) (λi=>i<=l'' sc) (λi=>l'' sc-i) 0 (auK _) (by unfold HR;exact Lq) a_ ?_;intro i hi;by_cases hlt:i<l'' sc;have u:(i:Int)<(l'' sc:Nat):=Om;have y:(sc.map λr=>[ints r])[i]?=some [ints sc[i]]:=by simp[hlt]
 have l:=YY (λs=>decide (((oY s set:Nat):Int)>m)) sc hlt;obtain⟨k1,k2⟩:=A sc[i] (auH hlt);have J:(sc.take i).countP (λs=>decide (((oY s set:Nat):Int)>m))<=i:=avJ List.countP_le_length (by rw[auU];omega);generalize(sc.take i).countP (λs=>decide (((oY s set:Nat):Int)>m))=n at *
 generalize sc[i]=s at *
 have w:oY set s=oY s set:=yd (E.imp (λh=>by omega)) (k2.imp (λh=>by omega));simp only[go_sem,HR,u,y,auD];have one:=λ{K:cH} [Up K] {F:PF} {H:PH}=>S4 (C:=C) (K:=K) sc set M E m n i s k1 k2 (F:=F) (H:=H);refine one (by unfold pR;exact Lq) ?_;rw[w];by_cases c:((oY s set:Nat):Int)>m;rw[bH c]at l;simp only[go_sem,HR,c,wZz n,wZz i];exact aF (i+1) hlt Om (by(repeat' (first|exact e_|refine d_ ?_ ?_))<;>first|(simp only[go_sem,l,OD]<;>rfl)|rfl) a_;rw[bT c]at l;simp only[go_sem,HR,c,wZz i];exact aF (i+1) hlt Om (by(repeat' (first|exact e_|refine d_ ?_ ?_))<;>first|(simp only[go_sem,l,OD]<;>rfl)|rfl) a_;have u:¬(i:Int)<(l'' sc:Nat):=Om;have:i=l'' sc:=Om;subst this;rw[avI];simp only[go_sem,HR,u];refine fH (.inr rfl) Ev ?_;rfl
def Kept(f:aH)(p:cJ)(xs:I_):Prop:=∀i,i<l'' f.asS->fP f p i>0->gU f xs i<=fP f p i
theorem Kept.nil(f:aH)(p:cJ):Kept f p []:=λi _ h=>by
 have:gU f [] i=0:=by unfold gU;split<;>simp
 omega
def FF(f:aH)(p:cJ)(xs:I_)(d:Nat)(k:Nat):Prop:=∀i,i<l'' f.asS->4-(k:Int)<lvl f i->fP f p i>0->gU f (xs++[(d:Int)]) i<=fP f p i
theorem FF.zero{f:aH}(hV:VF f){p:cJ}(xs:I_)(d:Nat):FF f p xs d 0:=λi hi h _=>by
 have:=hV.pS hi;omega
theorem FF.done{f:aH}(hV:VF f){p:cJ}(u:fP f p 0<=0){xs:I_}{d:Nat}(h:FF f p xs d 4):Kept f p (xs++[(d:Int)]):=λi hi l=>by
 have:=hV.pS hi;by_cases e:i=0;subst e;omega;exact h i hi Om l
theorem FF.next{f:aH}(hV:VF f){p:cJ}{xs:I_}{d k:Nat}(A:d<l'' f.asP)(E:k<4)(w:Kept f p xs)(h:FF f p xs d k)(y:fP f p (upN f k (eT f d))>0->gU f (xs++[(d:Int)]) (upN f k (eT f d))<=fP f p (upN f k (eT f d))):FF f p xs d (k+1):=λi hi F u=>by
 by_cases e:4-(k:Int)<lvl f i;exact h i hi e u;have l:lvl f i=4-(k:Int):=Om;by_cases c:i=upN f k (eT f d);subst c;exact y u;have:gU f (xs++[(d:Int)]) i=gU f xs i:=by
  unfold gU;split;rfl;rw[ayR,List.countP_cons,List.countP_nil];have:DB f i (d:Int)=false:=by unfold DB eJ;rw[l,show(4-(4-(k:Int)).toNat)=k by omega,awG];simp[show ¬upN f k (eT f d)=i from λh=>c h.symm]
  rw[this];simp
 rw[this];exact w i hi u
theorem Tx{q:Nat->Bool}{n:Nat}:∀{i:Nat},i<n->q i=true->((auE n).filter q)[(auE i).countP q]?=some i:=by
 intro i hi l;have e:auE n=auE i++(i::awT (i+1) (n-i-1)):=by rw[List.range_eq_range',List.range_eq_range',show i::awT (i+1) (n-i-1)=awT i (n-i-1+1)from rfl];have:=List.range'_append (s:=0) (m:=i) (n:=n-i-1+1) (step:=1);rw[Nat.one_mul,avA]at this;rw[this];congr 1;omega
 rw[e,List.filter_append,List.filter_cons_of_pos l,List.countP_eq_length_filter,awH (auG _),awU];rfl
def InR(l:I_)(n:Nat):Prop:=∀x∈l,0<=x/\x<(n:Int)
def WH(f:aH)(i:L2_)(r:Int)(l:I_):Bool:=!l.isEmpty&&C2 f i r l
def aaN(f:aH)(w:L2_)(r:Int)(u:L2_)(d:Nat):L2_:=match u.findIdx? (λl=>C2 f w r (l++[(d:Int)]))with
 |some i=>u.set i (u.getD i []++[(d:Int)])
 |none=>u++[[(d:Int)]]
def tf(f:aH)(i:L2_)(r:Int):Nat->L2_
 |0=>[]
 |d+1=>aaN f i r (tf f i r d) d
def St(f:aH)(i:L2_)(r:Int):Bool:=(auE f.asP.length).all λd=>C2 f i r [(d:Int)]
theorem set_perm:∀(u:L2_) (i:Nat) (x:Int),i<l'' u->((u.set i (u.getD i []++[x])).flatten).Perm (u.flatten++[x])
 |[],i,x,h=>by cases h
 |l::u,0,x,_=>by simp only[avQ,List.getD_cons_zero,List.flatten_cons,avW];exact axF.append_left _ List.perm_append_comm
 |l::u,i+1,x,h=>by have:=set_perm u i x (by simpa using h);simp only[ayI,List.getD_cons_succ,List.flatten_cons,avW];exact axF.append_left _ this
structure En(f:aH)(now:L2_)(r:Int)(n:Nat)(w:L2_):Prop where
 ok:∀l∈w,WH f now r l=true
 len:l'' w.flatten=n
 nd:w.flatten.Nodup
 rng:InR w.flatten n
theorem En.put{f:aH}{y:L2_}{r:Int}{n:Nat}{w:L2_}(h:En f y r n w)(F:C2 f y r [(n:Int)]=true):En f y r (n+1) (aaN f y r w n):=by
 have E:∀u:L2_,u.flatten.Perm (w.flatten++[(n:Int)])->(∀l∈u,WH f y r l=true)->En f y r (n+1) u:=λu hp H=>by
  refine⟨H,by rw[hp.length_eq,auJ,h.len];rfl,hp.nodup_iff.2 ?_,λx J=>?_⟩;rw[axR];refine⟨h.nd,by simp,λa F b hb=>?_⟩;rw[avN]at hb;subst hb;have:=h.rng a F;omega;have:=hp.mem_iff.1 J;rw[avX,avN]at this;rcases this with J|rfl
  have:=h.rng x J;omega;omega
 unfold aaN;split;rename_i i hi;obtain⟨hlt,hp,-⟩:=List.findIdx?_eq_some_iff_getElem.1 hi;refine E _ (set_perm w i n hlt) λl A=>?_;rcases ayU A with A|rfl
 exact h.ok l A;unfold WH;rw[auM,auP hlt,axC,hp];simp;refine E _ (by rw[List.flatten_append];simp) λl A=>?_;rw[avX,avN]at A;rcases A with A|rfl
 exact h.ok l A;unfold WH;rw[F];rfl
theorem Bp{f:aH}{i:L2_}{r:Int}(u:St f i r=true):∀d,d<=l'' f.asP->En f i r d (tf f i r d)
 |0,_=>⟨(λl h=>by cases h),rfl,.nil,λx h=>by cases h⟩
 |d+1,w=>(Bp u d Om).put (auX.1 u d (avM.2 Om))
end Go.PM
namespace Go.RO
open Go
def ins(x:Int):I_->I_
 |[]=>[x]
 |y::ys=>if y<x then y::ins x ys else if y=x then y::ys else x::y::ys
end Go.RO
namespace Go.PM
open Go Go.Na





theorem cF.lenOf{H:PH}{v:PV}{rows:P2_}{s:Nat}(h:cF H s v rows):PV.mB v=some (.j (l'' rows:Nat)):=by
 rcases h with⟨rfl,rfl⟩|⟨q,rs,rfl,-⟩<;>rfl
theorem aQ.ajX{H:PH}{B:List BX}{u:PV}{ps:WPs}(h:aQ H B (gX u ps)){i:Nat}(hi:i<l'' ps) :
  ∃qo rs,u=.osl qo 1 0 ps.length/\H qo=some (.rows 1 rs)/\rs[i]?=some [ps[i].1]/\i<l'' rs:=by
 rcases h.outer with⟨l,-⟩|⟨q,rs,rfl,l,h2,h3⟩
 have:(fE ps).length=0:=by rw[l];rfl
 rw[qX]at this;omega;rw[qX]at h2 h3;refine⟨q,rs,by rw[qX],l,?_,by omega⟩;have:=Ij (ps:=ps) (i:=i) (v:=ps[i].1) (w:=ps[i].2) (by rw[auP hi]);rw[<-h3,List.getElem?_take_of_lt hi]at this;exact this
theorem aQ.agM{H:PH}{B:List BX}{i:PV}{ps:WPs}(h:aQ H B (gX i ps)):PV.mB i=some (.j (l'' ps:Nat)):=by
 have:=h.outer.lenOf
 rwa[qX]at this
theorem MD(ps:WPs):(wls ps).length=l'' ps:=auD _
theorem qg{res:List dZ}{F:PF}{H:PH}{i:PV}{ps:WPs}{e:lE}(u:e=.normal\/e=.ret)(h:dZ.evs F H res=some [i])(l:aQ H [] (gX i ps)):aX res (cN (lists (wls ps))) e F H:=by
 obtain⟨φ,y,k1,-,-,-,w,-⟩:=OX ps [] [] .nil l (λb hb=>by cases hb);refine FA u h ⟨_,_,.nil,w _,a_,φ (bO [i]),?_,?_⟩;rw[MB,mF,aD rfl];rfl;exact⟨k1,rfl⟩
def wg(f:aH)(lv:Int)(i:Nat):Bool:=decide (lvl f i=lv)
def HL(f:aH)(lv:Int):N_:=(auE f.asS.length).filter (wg f lv)
def fO(f:aH)(lv:Int)(i:Nat):Nat:=(auE i).countP (wg f lv)
def gT(f:aH)(lv:Int)(k:Nat):I_:=(auE f.asS.length).map λi=>if i<k/\lvl f i=lv then((fO f lv i:Nat):Int)else 0
def BM(f:aH)(lv:Int)(d i:Nat):N_:=(auE d).filter λe=>decide (eJ f e lv=i)
def rY(f:aH)(lv:Int)(d:Nat):L2_:=(HL f lv).map λi=>cR (BM f lv d i)
theorem Jz(f:aH){lv:Int}(h:lv≠5):iV f lv=rY f lv f.asP.length:=by
 unfold iV;rw[aB h];rfl
theorem Bj(f:aH):iV f 5=(auE f.asP.length).map λ(d:Nat)=>[(d:Int)]:=by
 unfold iV;rw[aD rfl]
theorem Qv(f:aH)(lv:Int)(k:Nat):(gT f lv k).length=l'' f.asS:=by unfold gT;simp
theorem K4(f:aH)(lv:Int):gT f lv 0=auL f.asS.length 0:=by
 unfold gT;refine axK bC λi l u=>?_;simp
theorem Aw{f:aH}{lv:Int}{k i:Nat}(hi:i<l'' f.asS):(gT f lv k)[i]?=some (if i<k/\lvl f i=lv then((fO f lv i:Nat):Int)else 0):=by
 unfold gT;rw[avC,List.getElem?_range hi];rfl
theorem Qu{f:aH}{lv:Int}{k:Nat}(h:lvl f k=lv):(gT f lv k).set k ((fO f lv k:Nat):Int)=gT f lv (k+1):=by
 refine axK (by simp[gT]) λi l u=>?_;simp only[gT,List.getElem_set,awA,List.getElem_range];by_cases e:k=i;subst e;rw[aD rfl,aD ⟨by omega,h⟩];rw[aB e];have:i<k↔i<k+1:=Om;simp only[this]
theorem K3{f:aH}{lv:Int}{k:Nat}(h:lvl f k≠lv):gT f lv k=gT f lv (k+1):=by
 refine axK (by simp[gT]) λi l u=>?_;simp only[gT,awA,List.getElem_range];by_cases e:k=i;subst e;rw[aB Om,aB (λx=>h x.2)];have:i<k↔i<k+1:=Om;simp only[this]
theorem Ru{f:aH}{lv:Int}{k:Nat}(h:lvl f k=lv):fO f lv (k+1)=fO f lv k+1:=by
 unfold fO wg;rw[ayA,ayR];simp[h]
theorem Lh{f:aH}{lv:Int}{k:Nat}(h:lvl f k≠lv):fO f lv (k+1)=fO f lv k:=by
 unfold fO wg;rw[ayA,ayR];simp[h]
theorem Wt(f:aH)(lv:Int)(k:Nat):fO f lv k<=k:=avJ List.countP_le_length bC
theorem Ng{f:aH}{lv:Int}{a:Nat}(i:a<l'' f.asS)(h:lvl f a=lv):(HL f lv)[fO f lv a]?=some a:=Tx (q:=wg f lv) i (by rw[wg,bH h])
theorem Kr(f:aH)(lv:Int)(d i:Nat):BM f lv (d+1) i=if eJ f d lv=i then BM f lv d i++[d]else BM f lv d i:=by
 unfold BM;rw[ayA,List.filter_append];by_cases h:eJ f d lv=i<;>simp[h]
theorem nu(f:aH)(lv:Int)(d i:Nat):(BM f lv d i).length<=d:=avJ (List.length_filter_le ..) bC
theorem Yq(f:aH)(lv:Int):(HL f lv).Nodup:=List.nodup_range.filter _
theorem abV{f:aH}{lv:Int}{d:Nat}(H:eJ f d lv<l'' f.asS)(h:lvl f (eJ f d lv)=lv){ps:WPs}(hp:wls ps=rY f lv d){v:PV}{w:I_}(hi:ps[fO f lv (eJ f d lv)]?=some (v,w))(v':PV) :
  w.length<=d/\wls (ps.set (fO f lv (eJ f d lv)) (v',w++[(d:Int)]))=rY f lv (d+1):=by
 have u:=Ng H h;have A:w=cR (BM f lv d (eJ f d lv)):=by
  have l:(wls ps)[fO f lv (eJ f d lv)]?=some w:=by unfold wls;rw[avC,hi];rfl
  rw[hp,rY,avC,u]at l;injection l with l
  exact l.symm
 refine⟨by rw[A];unfold cR;rw[auD];exact nu ..,?_⟩;have y:wls (ps.set (fO f lv (eJ f d lv)) (v',w++[(d:Int)]))=(rY f lv d).set (fO f lv (eJ f d lv)) (w++[(d:Int)]):=by rw[<-hp];unfold wls;rw[List.map_set]
 rw[y,A];unfold rY;refine axK bC λi l y=>?_;have il:i<(HL f lv).length:=by simpa using y
 rw[List.getElem_set];simp only[awA];rw[Kr];obtain⟨J,E⟩:=avP.1 u;by_cases e:fO f lv (eJ f d lv)=i;subst e;rw[aD rfl,E,aD rfl];unfold cR;rw[avD];rfl;rw[aB e,aB];intro e2;have F:(HL f lv)[fO f lv (eJ f d lv)]=(HL f lv)[i]:=E.trans e2;exact e ((List.getElem_inj (Yq f lv)).1 F)
def IB(n:Nat):P2_:=(auE n).map λ(d:Nat)=>[ints [(d:Int)]]
theorem Vy(n:Nat):(IB n).length=n:=by unfold IB;simp
theorem Q3(n:Nat):IB (n+1)=IB n++[[ints [(n:Int)]]]:=by unfold IB;rw[ayA,avD];rfl
theorem Wu(f:aH):lay (iV f 5)=.sl 1 (IB f.asP.length):=by
 rw[Bj];unfold IB;show PV.sl 1 (List.map _ (List.map _ _))=_;rw[axM];rfl
theorem Lg(f:aH)(lv:Int):rY f lv 0=auL (fO f lv f.asS.length) []:=by
 unfold rY fO;rw[List.countP_eq_length_filter];refine axK (by simp[HL]) λi l u=>?_;simp[BM,cR]
theorem sf(f:aH)(lv:Int)(d:Nat):(rY f lv d).length=(HL f lv).length:=by unfold rY;simp
def unB(f:aH)(lv:Int)(i:Nat)(l:PV)(k:Nat):PF:=(((((((n_.set 1 (.int .i64 lv)).set 2 (.bQ f.cells)).set 5 (l)).set 7 (.osl i 1 0 f.asS.length)).set 33 (.sl 7 (f.asS.map cQ.cells))).set 34 (.int .i64 (l'' f.asS:Nat))).set 35 (.int .i64 k))
def unC(f:aH)(lv:Int)(i:Nat)(l:PV)(d:Nat):PF:=(((((((n_.set 1 (.int .i64 lv)).set 2 (.bQ f.cells)).set 5 (l)).set 7 (.osl i 1 0 f.asS.length)).set 54 (.sl 3 (f.asP.map eE.cells))).set 55 (.int .i64 (l'' f.asP:Nat))).set 56 (.int .i64 d))
def unE(f:aH)(lv:Int)(i:Nat)(l:PV)(d at_:Nat):PF:=(((((((((n_.set 1 (.int .i64 lv)).set 2 (.bQ f.cells)).set 5 (l)).set 7 (.osl i 1 0 f.asS.length)).set 54 (.sl 3 (f.asP.map eE.cells))).set 55 (.int .i64 (l'' f.asP:Nat))).set 56 (.int .i64 d)).set 10 (.int .i64 d)).set 12 (.int .i64 at_))
variable{C:Ctx}
theorem Td{K:cH}[Up K](f:aH)(hV:VF f)(lv:Int)(S:1<=lv)(U:lv<=4)(E:Nat)(M:PV)(d:Nat)(Q:d<l'' f.asP){F:PF}{H:PH}
  (O:(unE f lv E M d (eT f d)).le F) (N:K (.exit 6) (unE f lv E M d (eJ f d lv)) H):aK.wp C (.loop CL) K F H:=by
 refine wp_loop (α:=Nat) (λj=>unE f lv E M d (upN f j (eT f d))) (λ_=>H) (λj=>(j:Int)<=4-lv) (λj=>4-j) 0 Om (by rw[upN];exact O) b_ ?_;intro j V;obtain⟨l,J⟩:=VW hV Q (k:=j) Om;have u:((upN f j (eT f d):Nat):Int)<(l'' f.asS:Nat):=Om;by_cases c:(j:Int)<4-lv;have i:4-(j:Int)>lv:=Om;have y:0<upN f j (eT f d):=by
  rcases axN (upN f j (eT f d))with e|e
  rw[e,hV.root.2.1]at J;omega;exact e
 have A:upN f (j+1) (eT f d)=PJ f (upN f j (eT f d)):=rfl;have w:=hV.M2 y l;simp only[go_sem,CL,unE,u,mO l,n8 l,J,i,In l,w];exact aF (j+1) Om Om (lE1 A) b_;have i:¬4-(j:Int)>lv:=Om;have e:eJ f d lv=upN f j (eT f d):=by rw[eJ,show 4-lv.toNat=j by omega]
 rw[e]at N;simp only[go_sem,CL,unE,u,mO l,n8 l,J,i];refine Up.up ?_ N;unfold unE;exact Lq
theorem Tc(f:aH)(hV:VF f)(lv:Int)(h1:1<=lv)(h5:lv<=5) :
  ZB.wp C (aX gE.res (cN (lay (iV f lv)))) (g_ [.agg f.cells,.j lv]) .nil:=by
 have ζ:=hV.small;have hd:=ζ.asP;have σ:=ζ.asS;simp only[go_sem,ZB,gE];by_cases c5:lv=5;subst c5;rw[Wu];simp only[go_sem,cI (show(5:Int)=5 from rfl),auD];refine wp_loop (α:=T3_) (λs=>(((n_.set 5 (s.2.1)).set 17 (.j (l'' f.asP:Nat))).set 18 (.j s.1))) (λs=>s.2.2) (λs=>s.1<=l'' f.asP/\cF s.2.2 1 s.2.1 (IB s.1)) (λs=>l'' f.asP-s.1) (0,.aE,.nil) ⟨auK _,.nil⟩ Lq b_ ?_;rintro⟨k,v,H⟩ ⟨hk,hO⟩;simp only at hk hO;simp only[go_sem];by_cases hlt:k<l'' f.asP;have l:(k:Int)<(l'' f.asP:Nat):=Om;simp only[go_sem,l];refine jJ (src:=[[ints [(k:Int)]]]) hO (by simp only[go_sem];rfl) (by unfold roomFor;rw[Vy];simp only[auS,maxLen];omega) λv' H' β _=>?_;rw[<-Q3]at β;simp only[go_sem,wZz k];exact aF (k+1,v',H') ⟨hlt,β⟩ sO_ Lq b_;have l:¬(k:Int)<(l'' f.asP:Nat):=Om;have:k=l'' f.asP:=Om;subst this;simp only[go_sem,l];exact DR (.inr rfl) hO Sq;have h4:lv<=4:=Om;rw[Jz f c5];have ι:(l'' f.asS:Int)*((8:Nat):Int)<=140737488355328:=Om;have κ:(l'' f.asS:Int)<=9223372036854775807:=Om;have μ:(0:Int)<=(l'' f.asS:Int):=Om;simp only[go_sem,bP c5,auD,ι,κ,μ,Int.le_refl,awG];refine aS λJ hP=>?_;have ez:auL f.asS.length [PV.int .i64 0]=aR (gT f lv 0):=by rw[K4,AM]
 rw[ez];have Z:aQ (h_.set J (.rows 1 (aR (gT f lv 0)))) [(J,.rows 1 (aR (gT f lv 0)))] (gX .aE []):=((aQ.nil (H:=h_)).new hP _).XU;simp only[go_sem,auD];refine wp_loop (α:=Nat × PV × WPs × PH) (λs=>unB f lv J s.2.1 s.1) (λs=>s.2.2.2) (λs=>s.1<=l'' f.asS/\wls s.2.2.1=auL (fO f lv s.1) []/\aQ s.2.2.2 [(J,.rows 1 (aR (gT f lv s.1)))] (gX s.2.1 s.2.2.1)) (λs=>l'' f.asS-s.1) (0,.aE,[],_) ⟨auK _,rfl,Z⟩ (by unfold unB;exact Lq) b_ ?_;clear Z ez hP;rintro⟨i,vo,ps,H⟩ ⟨hi,y,A⟩;simp only at hi y A;simp only[go_sem,unB];by_cases hlt:i<l'' f.asS;have l:(i:Int)<(l'' f.asS:Nat):=Om;have ο:l'' ps=fO f lv i:=by have:=congrArg List.length y;rw[MD,List.length_replicate]at this;exact this
 have V:=Wt f lv i;simp only[go_sem,l,mO hlt];refine aS λq W=>?_;have N:=A.at 0 rfl;have n1:¬J=q:=by rintro rfl;rw[N]at W;cases W
 have Q:=λx=>A.new W x;simp only[go_sem,n8 hlt];by_cases c:lvl f i=lv;have δ:=A.agM;have M:=Aw (f:=f) (lv:=lv) (k:=i) hlt;have E:(aR (gT f lv i))[i]?=some [.j (if i<i/\lvl f i=lv then((fO f lv i:Nat):Int)else 0)]:=by unfold aR;rw[avC,M];rfl
 have ξ:i<(aR (gT f lv i)).length:=by rw[bG,Qv];exact hlt
 have Y:(aR (gT f lv i)).set i [.j (l'' ps:Nat)]=aR (gT f lv (i+1)):=by rw[wX,ο,Qu c]
 have h3:=λx=>(Q x).set 0 rfl (.rows 1 (aR (gT f lv (i+1))));simp only[go_sem,cI c,δ,l,n1,N,E,ξ,avA,Y];refine(h3 _).agD Sq (by unfold roomFor;simp only[maxLen];omega) λq2 H2 h4=>?_;simp only[go_sem,wZz i];refine aF (i+1,PV.osl q2 1 0 (l'' ps+1),ps++[(PV.aE,[])],H2) ⟨hlt,?_,h4.AJ 1⟩ sO_ Lq b_;simp only;rw[Ru c,List.replicate_succ'];unfold wls at y ⊢;rw[avD,y];rfl;have Y:gT f lv i=gT f lv (i+1):=K3 c;simp only[go_sem,bP c,wZz i];refine aF (i+1,vo,ps,_) ⟨hlt,?_,?_⟩ sO_ Lq b_;simp only;rw[Lh c];exact y;simp only;rw[<-Y];exact(Q _).AJ 1;have l:¬(i:Int)<(l'' f.asS:Nat):=Om;have:i=l'' f.asS:=Om;subst this;rw[<-Lg]at y;simp only[go_sem,l,auD];refine wp_loop (α:=Nat × PV × WPs × PH) (λs=>unC f lv J s.2.1 s.1) (λs=>s.2.2.2) (λs=>s.1<=l'' f.asP/\wls s.2.2.1=rY f lv s.1/\aQ s.2.2.2 [(J,.rows 1 (aR (gT f lv f.asS.length)))] (gX s.2.1 s.2.2.1)) (λs=>l'' f.asP-s.1) (0,vo,ps,H) ⟨auK _,y,A⟩ (by unfold unC;exact Lq) b_ ?_;clear y A hi hlt l;rintro⟨d,vo,ps,H⟩ ⟨ν,y,A⟩;simp only at ν y A;simp only[go_sem,unC];by_cases hlt:d<l'' f.asP;have l:(d:Int)<(l'' f.asP:Nat):=Om;simp only[go_sem,l,wU hlt];refine aS λq W=>?_;have N:=A.at 0 rfl;have n1:¬J=q:=by rintro rfl;rw[N]at W;cases W
 have Q:=λx=>(A.new W x).AJ 1;simp only[go_sem,hV.Mo hlt];generalize hx:aW.rows 3 _=x;have Q:=Q x;have S:=Q.at 0 rfl;generalize H.set q x=H1 at *
 have up:=λ{K:cH} [Up K] {F:PF} {H:PH}=>Td (C:=C) (K:=K) f hV lv h1 h4 J vo d hlt (F:=F) (H:=H);refine up (by unfold unE;exact Lq) ?_;obtain⟨a1,a2⟩:=VW hV hlt (k:=4-lv.toNat) Om;have a3:lvl f (eJ f d lv)=lv:=by rw[eJ,a2];omega
 have a1:eJ f d lv<l'' f.asS:=a1;have θ:((eJ f d lv:Nat):Int)<(l'' f.asS:Nat):=Om;have M:=Aw (f:=f) (lv:=lv) (k:=l'' f.asS) a1;rw[aD ⟨a1,a3⟩]at M;have E:(aR (gT f lv f.asS.length))[eJ f d lv]?=some [.j (fO f lv (eJ f d lv):Nat)]:=by unfold aR;rw[avC,M];rfl
 have O:fO f lv (eJ f d lv)<l'' ps:=by have:=(avP.1 (Ng a1 a3)).1;rw[<-MD,y,sf];exact this
 have U:=λv'=>abV (ps:=ps) a1 a3 y (auP O) v';have V:ps[fO f lv (eJ f d lv)]?=some (ps[fO f lv (eJ f d lv)].1,ps[fO f lv (eJ f d lv)].2):=by rw[auP O]
 have τ:ps[fO f lv (eJ f d lv)]=(ps[fO f lv (eJ f d lv)].1,ps[fO f lv (eJ f d lv)].2):=rfl;obtain⟨qo,rs,rfl,b1,b2,b3⟩:=Q.ajX O;generalize ps[fO f lv (eJ f d lv)].2=w at *
 generalize ps[fO f lv (eJ f d lv)].1=v at *
 generalize fO f lv (eJ f d lv)=u at *
 have η:(u:Int)<(l'' ps:Nat):=Om;have υ:=(U .aE).1;simp only[go_sem,unE];refine bV (h_.set J (.rows 1 (aR (gT f lv f.asS.length)))) dY (c_ a_ S) ?_;simp only[go_sem,θ,S,E,avA,η,b1,b2,b3];refine Q.anZ (src:=[(d:Int)]) V (by simp only[go_sem];rfl) (by unfold roomFor;simp only[auS,maxLen];omega) bC λq2 H2 h5=>?_;have ε:=h5.at 0 rfl;refine⟨c_ a_ ε,?_⟩;obtain⟨rs2,e1,e2,e3,h6⟩:=h5.akX;have ρ:u<l'' rs2:=Om;have γ:rs2[u]?=some [v]:=by have:=Ij V;rw[<-e3,List.getElem?_take_of_lt O]at this;exact this
 refine bV .nil dY a_ ?_;simp only[go_sem,e1,ρ,γ,wZz d];refine⟨a_,?_⟩;refine aF (d+1,PV.osl qo 1 0 ps.length,ps.set u (PV.osl q2 1 0 (w++[(d:Int)]).length,w++[(d:Int)]),H2.set qo (.rows 1 (rs2.set u [.osl q2 1 0 (w++[(d:Int)]).length]))) ⟨hlt,(U _).2,h6⟩ sO_ Lq (by simp only;exact b_);have l:¬(d:Int)<(l'' f.asP:Nat):=Om;have:d=l'' f.asP:=Om;subst this;simp only[go_sem,l];rw[<-y];exact qg (.inr rfl) Sq (A.AJ 0)
def rA.rs : rA->List Rg
 | .seq a b=>a.rs++b.rs | .range _ _ _ _ _ a b c=>a.rs++b.rs++c.rs
def rsT(ro:N_)(f:Func)(x:{l:List Rg//((Go.Proofs.YtmjecabkffiabaaGreatDoor.T ro).C3 f).map (·.body.rs)=some l}:=by refine⟨?_,?_⟩;rotate_left;conv=>lhs;reduce;try simp only[FC,UInt8.reduceOfNat,Int.reduceOfNat,Int.reduceNegSucc]):List Rg:=x.1
def jG(q:List Rg)(k:Nat)(x:{l:Rg//q.getD k []=l}:=by refine⟨?_,?_⟩;rotate_left;conv=>lhs;reduce;try simp only[FC,UInt8.reduceOfNat,Int.reduceOfNat,Int.reduceNegSucc]):Rg:=x.1
@[go_sem ↓] theorem asE(q:List Rg)(k:Nat)(l:Rg)(h:q.getD k []=l):jG q k ⟨l,h⟩=l:=(rfl)
end Go.PM
namespace Go.PM
open Go
def tE:=rsT [2,3,23] Proofs.Tryz.f86
def yr:aK:=(.region (jG tE 3))
def yu:aK:=(.block 1 (.seq (.region (jG tE 4)) (.cond (.tmp 20) (.region (jG tE 5)) .skip)))
def lk:aK:=(.seq (.region (jG tE 6)) .ret)
def MZ(i l:Code):rA:=(.seq (.region (jG tE 0)) (.seq (.region (jG tE 1)) (.seq (.region (jG tE 2)) (.range (.tmp 15) 26 16 i l yr yu lk))))
def Yh:N_:=[2,3,23]
def Ot(i l:Code):FH:=⟨2,26,MZ i l,[.tmp 4]⟩
def eO:=rsT [2,3,96,101] Proofs.Tryz.f16
def TA:aK:=(.seq (.region (jG eO 14)) (.seq (.cond (.tmp 78) .skip (.exit 4)) (.seq (.block 5 (.seq (.region (jG eO 15)) (.region (jG eO 16)))) (.region (jG eO 17)))))
def TB:aK:=(.seq (.region (jG eO 11)) (.seq (.cond (.tmp 69) .skip (.exit 2)) (.seq (.block 3 (.seq (.region (jG eO 12)) (.seq (.region (jG eO 13)) (.block 4 (.loop TA))))) (.region (jG eO 18)))))
def TC:aK:=(.seq (.region (jG eO 21)) (.seq (.cond (.tmp 89) .skip (.exit 6)) (.seq (.block 7 (.seq (.region (jG eO 22)) (.seq (.region (jG eO 23)) (.cond (.tmp 93) (.region (jG eO 24)) .skip)))) (.region (jG eO 25)))))
def SY:aK:=(.region (jG eO 8))
def SZ:aK:=(.block 1 (.seq (.region (jG eO 9)) (.seq (.seq (.region (jG eO 10)) (.block 2 (.loop TB))) (.seq (.region (jG eO 19)) (.seq (.seq (.region (jG eO 20)) (.block 6 (.loop TC))) (.region (jG eO 26)))))))
def lj:aK:=(.seq (.region (jG eO 27)) .ret)
def MY(i l:Code):rA:=(.seq (.region (jG eO 0)) (.seq (.seq (.region (jG eO 1)) (.cond (.tmp 39) (.seq (.region (jG eO 2)) .ret) .skip)) (.seq (.region (jG eO 3)) (.seq (.seq (.region (jG eO 4)) (.cond (.tmp 55) (.seq (.region (jG eO 5)) .ret) .skip)) (.seq (.region (jG eO 6)) (.seq (.region (jG eO 7)) (.range (.tmp 60) 104 61 i l SY SZ lj)))))))
def Yf:N_:=[2,3,96,101]
def Oq(i l:Code):FH:=⟨2,104,MY i l,[.tmp 4,.tmp 5]⟩
variable{C:Ctx}
theorem Ug{H:PH}{name:Nat}{pre:V_}{v u:PV}{l:I_}(A:Plain u)(hp:∀x∈pre,Fx x)(y:cF H 1 v (aR l))(i:l≠[])(h:aG C name (pre++[ints l]) .nil (aJ u)) :
  ∃q,v=.osl q 1 0 l.length/\(∃x,H q=some x)/\aG C name (pre++[v]) (H.only [q]) (λr H'=>r=u/\H'=H.only [q]):=by
 rcases y with⟨w,-⟩|⟨q,rs,rfl,h1,h2,h3⟩
 ·exact absurd (List.map_eq_nil_iff.1 w) i
 ·rw[bG]at h2 h3 ⊢;refine⟨q,rfl,⟨_,h1⟩,?_⟩;rw[gx h1];refine aG.Zp A ?_;have e:pre.map (PV.frz q 1 rs)=pre:=by
   conv=>rhs;rw[<-List.map_id pre]
   exact axL λx E=>hp x E q 1 rs
  rw[avD,e,avH,avY,zS h2,h3];exact h
theorem wi{α:Type}(L:List α)(x:α)(n:Nat)(h:l'' L=n):(L++[x])[n]?=some x:=by
 subst h;simp
structure aiX(f:aH)(now:L2_)(r:Int)(d:Nat)(ps:WPs):Prop where
 eq:wls ps=tf f now r d
 num:l'' ps<=d
 len:∀i (h:i<l'' ps),1<=(ps[i].2).length/\(ps[i].2).length<=d
theorem aiX.of{f:aH}{u:L2_}{r:Int}(E:St f u r=true){d:Nat}(F:d<=l'' f.asP){ps:WPs}(h:wls ps=tf f u r d):aiX f u r d ps:=by
 have k:=Bp E d F;rw[<-h]at k;have y:∀i (h:i<l'' ps),ps[i].2∈wls ps:=λi hi=>auT.2 ⟨ps[i],auH hi,rfl⟩;have ne:∀l∈wls ps,1<=l'' l:=λl H=>by
  have:=k.ok l H;unfold WH at this;cases l with
  |nil=>cases this
  |cons x xs=>rw[avG];omega
 refine⟨h,?_,λi hi=>⟨ne _ (y i hi),?_⟩⟩;have A:(wls ps).length<=(wls ps).flatten.length:=by
  generalize wls ps=w at ne
  induction w with
  |nil=>exact auG _
  |cons l w K =>have:=K λx J=>ne x (ayV _ J);have:=ne l bC;rw[List.flatten_cons,auJ,avG];omega
 rw[MD,k.len]at A;exact A;have:=(List.sublist_flatten_of_mem (y i hi)).length_le;rw[k.len]at this;exact this
def aiV(n top:Int)(r:PV)(H':PH):Prop:=∃o1 o2,o1≠o2/\r=.fn 211 [.ptr o1 1 0 0,.ptr o2 1 0 0]/\H'=(h_.set o1 (.rows 1 [[.int .i64 n]])).set o2 (.rows 1 [[.int .i64 top]])
theorem Yi(n top:Int):lm.wp C (aX C1.res (aiV n top)) (g_ [.j n,.j top]) .nil:=by
 simp only[go_sem,lm,C1];refine aS λo1 u=>?_;simp only[go_sem];refine aS λo2 i=>?_;have l:o1≠o2:=by rintro rfl;simp only[cA]at i;cases i
 simp only[go_sem];exact aY (.inr rfl) _ (vs:=[.fn 211 [.ptr o1 1 0 0,.ptr o2 1 0 0]]) Sq b_ ⟨o1,o2,l,rfl,rfl⟩
structure jk(C:Ctx):Prop where
 subs:∀n top:Int,aG C 210 [.int .i64 n,.int .i64 top] .nil (aiV n top)
 iter:∀(l o1 o2 n top:Nat)(J:Nat->PH->Prop)(ss:List N_),ss=eC top n 0->1<=n->n<=1000->top<=1000 ->
  (∀k (hk:k<l'' ss) G c,J k G->G c=none->KJ C l [.osl c 1 0 n] (G.set c (.rows 1 (aR (cR ss[k])))) (λr H'=>r=.bool true/\J (k+1) H')) ->
  ∀G0 H:PH,J 0 G0->G0.le H->H o1=some (.rows 1 [[.int .i64 n]])->H o2=some (.rows 1 [[.int .i64 top]])->G0 o1=none->G0 o2=none->aG C 211 [CC l,.ptr o1 1 0 0,.ptr o2 1 0 0] H (λ_ H'=>∃G,J ss.length G/\G.le H')
structure Sm(C:Ctx):Prop extends Sl C,jk C
theorem nw(Lb:jk C){F:PF}{H:PH}{n m t o1 o2 top:Nat}{i u:Code}{V W:aK}{M:List N_}(γ:M=eC top n 0)(h1:1<=n)(hn:n<=1000)(ht:top<=1000)(δ:o1≠o2)
  (I:Nat->PH->Prop) (A:PH) (hI:I 0 A) (U:A.le H) (b1:H o1=some (.rows 1 [[.j n]])) (b2:H o2=some (.rows 1 [[.j top]])) (g1:A o1=none) (g2:A o2=none)
  (hY:∀(l:Nat)(x:PV)(J:PH)(J':PH->Prop),J l=none->V.wp C (jB C (W.wp C) (HN J')) (F.set t x) J->KJ C l [x] (J.set l (.loop F m t i u)) (λr H'=>r=.bool true/\∃H2,J' H2/\H2 l=none/\H'=H2.set l (.loop F m t i u)))
  (hb:∀k (hk:k<l'' M) G c,I k G->G c=none->V.wp C (jB C (W.wp C) (HN (I (k+1)))) (F.set t (.osl c 1 0 n)) (G.set c (.rows 1 (aR (cR M[k]))))) :
  D9 C 211 [.ptr o1 1 0 0,.ptr o2 1 0 0] F H m t i u (I M.length):=by
 intro l Y;have O:A l=none:=by
  cases h:A l with
  |none=>rfl
  |some x=>rw[U l x h]at Y;cases Y
 have n1:¬o1=l:=λe=>by rw[e,Y]at b1;cases b1
 have n2:¬o2=l:=λe=>by rw[e,Y]at b2;cases b2
 refine(Lb.iter l o1 o2 n top (λk G=>∃w,I k w/\w l=none/\G=w.set l (.loop F m t i u)) M γ h1 hn ht ?_ (A.set l (.loop F m t i u)) (H.set l (.loop F m t i u)) ⟨A,hI,O,rfl⟩ ?_ ?_ ?_ ?_ ?_).post ?_;rintro k hk G c ⟨w,N,y,rfl⟩ hc;have Q:¬c=l:=λe=>by rw[e,cA]at hc;cases hc
 have S:¬l=c:=λe=>Q e.symm;have α:w c=none:=by rwa[aT,aB Q]at hc
 have:=hY l (.osl c 1 0 n) (w.set c (.rows 1 (aR (cR M[k])))) (I (k+1)) (by rw[aT,aB S];exact y) (hb k hk w c N α);have e:(w.set c (.rows 1 (aR (cR M[k])))).set l (.loop F m t i u)=(w.set l (.loop F m t i u)).set c (.rows 1 (aR (cR M[k]))):=by refine PH.ext λo=>?_;simp only[aT];by_cases Z:o=l;subst Z;rw[aD rfl,aB S,aD rfl];rw[aB Z,aB Z]
 rw[e]at this;exact this;intro o x K;rw[aT]at K ⊢;split at K;rename_i e;rw[aD e];exact K;rename_i e;rw[aB e];exact U o x K;rw[aT,aB n1];exact b1;rw[aT,aB n2];exact b2;rw[aT,aB n1];exact g1;rw[aT,aB n2];exact g2;rintro r H' ⟨G,⟨w,N,y,rfl⟩,E⟩;have β:H' l=some (.loop F m t i u):=E l _ (by rw[cA]);exact⟨r,.refl _,w,N,(λo x K=>E o x (by
  have:¬o=l:=λe=>by rw[e,y]at K;cases K
  rw[aT,aB this];exact K)),y,β⟩
def jr(l:Nat)(u:L2_)(G:PH):Prop:=∃i ps,aQ G [(l,.rows 1 [[i]])] (gX i ps)/\wls ps=u
theorem Yg(Lb:jk C)(M N:Code)(f:aH)(hd:l'' f.asP<=12)(p:cJ)(adm:∀set,Cu f set->set∈(eC f.asP.length (rO p).toNat 0).map cR->aG C 201 [.agg f.cells,.agg p.cells,ints set] .nil (aJ (.bool (oO f p set))))(hk:1<=p.k)(ο:p.k<=6)(hm:0<=p.m)(ρ:p.m<=4) :
  (MZ M N).wp C (aX (Ot M N).res (cN (lay (lO f p)))) (g_ [.agg f.cells,.agg p.cells]) .nil:=by
 obtain⟨n,hn⟩:∃n:Nat,(n:Int)=rO p:=⟨(p.k+p.m).toNat,by unfold rO;omega⟩;have ε:1<=n/\n<=10:=by unfold rO at hn;omega
 have hw:i_.wrap (p.k+p.m)=(n:Int):=by rw[hn];exact wrap_i64 Om Om
 simp only[go_sem,MZ,rA.wp,Ot];refine aS λJ ζ=>?_;simp only[go_sem,hw,auD];refine fD (Lb.subs n f.asP.length) Sq a_ ?_;rintro r H' ⟨o1,o2,w,rfl,rfl⟩ V;have α:¬J=o1:=λe=>by have:=V o1 _ (by rw[aT,aB w,cA]) rfl;rw[<-e,cA]at this;cases this
 have β:¬J=o2:=λe=>by have:=V o2 _ (by rw[cA]) rfl;rw[<-e,cA]at this;cases this
 have ν:¬o2=o1:=λe=>w e.symm;simp only[go_sem];generalize Q:PF.set _ 15 _=F;have f2:F 2=some (.bQ f.cells):=by rw[<-Q];simp only[go_sem]
 have f3:F 3=some (.bQ p.cells):=by rw[<-Q];simp only[go_sem]
 have f5:F 5=some (.ptr J 1 0 0):=by rw[<-Q];simp only[go_sem]
 have ξ:F 15=some (.fn 211 [.ptr o1 1 0 0,.ptr o2 1 0 0]):=by rw[<-Q];simp only[go_sem]
 clear Q;have Z:eC f.asP.length n 0=eC f.asP.length (rO p).toNat 0:=by rw[<-hn];rfl
 have U:=wO f.asP.length n 0;have hE:lO f p=((eC f.asP.length n 0).map cR).filter (oO f p):=by rw[Z];rfl
 refine⟨211,[.ptr o1 1 0 0,.ptr o2 1 0 0],jr J (((((eC f.asP.length n 0).take (eC f.asP.length n 0).length)).map cR).filter (oO f p)),rfl,λhY=>?_,λH2 S=>?_⟩
 ·refine nw (m:=26) (t:=16) Lb rfl ε.1 Om Om w (λk=>jr J ((((eC f.asP.length n 0).take k).map cR).filter (oO f p))) (h_.set J (.rows 1 [[.aE]])) ⟨.aE,[],((aQ.nil (H:=h_)).new ζ _).XU,rfl⟩ ?_ ?_ ?_ ?_ ?_ hY ?_;intro o x ho;rw[aT]at ho;split at ho;rename_i e;rw[iL];simp only[aT,e,aB α,aB β,XM,if_true];exact ho;cases ho;rw[iL];simp only[aT,aB w,if_true];rw[iL];simp only[aT,if_true];rw[aT,aB (λe=>α e.symm)];rfl;rw[aT,aB (λe=>β e.symm)];rfl;rintro k hk G c ⟨vo,ps,K,A⟩ hc;have η:=U _ (auH hk);have θ:(eC f.asP.length n 0).take (k+1)=(eC f.asP.length n 0).take k++[(eC f.asP.length n 0)[k]]:=awE hk;have W:cR (eC f.asP.length n 0)[k]∈(eC f.asP.length (rO p).toNat 0).map cR:=by rw[<-Z];exact List.mem_map_of_mem (auH hk)
  generalize(eC f.asP.length n 0)[k]=s at *
  obtain⟨sl,γ,-⟩:=η;have l:((((eC f.asP.length n 0).take (k+1)).map cR).filter (oO f p))=wls ps++if oO f p (cR s)then[cR s]else[]:=by rw[θ,avD,List.filter_append,A];congr 1;by_cases c:oO f p (cR s)<;>simp[c]
  have Y:(aR (cR s)).length=n:=by rw[bG,iR,sl]
  have O:=K.Qi (s:=1) (rows:=aR (cR s)) hc;have hO:cF (G.set c (.rows 1 (aR (cR s)))) 1 (.osl c 1 0 n) (aR (cR s)):=by
   have:=O.own ((gX vo ps).length) (wi _ _ _ rfl)
   rwa[Y]at this
  have σ:l'' ps<=4096:=by
   rw[<-MD,A];refine avJ (List.length_filter_le ..) ?_;rw[auD,auU];have h1:=GN f.asP.length n 0;have O:2^(l'' f.asP-0)<=2^12:=ayJ Om Om;have e:(2:Nat)^12=4096:=by decide
   omega
  have i:=adm (cR s) ⟨by rw[iR];omega,λx hx=>by obtain⟨y,hy,rfl⟩:=auT.1 hx;have:=γ y hy;omega⟩ W;obtain⟨q,e1,hx,i⟩:=Ug (C:=C) (name:=201) (pre:=[.agg f.cells,.agg p.cells]) (u:=.bool (oO f p (cR s))) (.bool _) (λx hx=>by
   simp only[auQ,avE,or_false]at hx;rcases hx with rfl|rfl
   exact λ_ _ _=>rfl;exact λ_ _ _=>rfl) hO (λe=>by have:=congrArg List.length e;rw[iR,sl]at this;simp at this;omega) i
  have eq:c=q:=by injection e1
  subst eq;have μ:=O.at 0 rfl;have κ:¬J=c:=λe=>by have:=K.at 0 rfl;rw[e,hc]at this;cases this
  simp only[go_sem,yr,yu,f2,f3];refine R7 (cs:=[]) (vs:=[.agg f.cells,.agg p.cells,.osl c 1 0 n]) (by rw[awD];exact i) Sq (LN _ _) ?_;cases E:oO f p (cR s)with
  |true=>
   rw[E,aD rfl]at l;simp only[go_sem,f5,κ,K.at 0 rfl];refine O.append 0 (rows:=fE ps) (src:=[[.osl c 1 0 n]]) rfl Sq (by unfold roomFor;rw[qX];simp only[auS,maxLen];omega) λv' H' h3 ι=>?_;obtain⟨q2,rfl⟩:=ι bC;have δ:=h3.at 0 rfl;have h4:=h3.set 0 rfl (aW.rows 1 [[PV.osl q2 1 0 (fE ps++[[PV.osl c 1 0 n]]).length]]);simp only[go_sem,δ,f5,auQ,avE,or_false,forall_eq];refine⟨PV.osl q2 1 0 (fE ps++[[PV.osl c 1 0 n]]).length,ps++[(.osl c 1 0 n,cR s)],?_,?_⟩;have e:gX (.osl q2 1 0 (fE ps++[[PV.osl c 1 0 n]]).length) (ps++[(PV.osl c 1 0 n,cR s)])=((gX vo ps)++[(PV.osl c 1 0 (aR (cR s)).length,1,aR (cR s))]).set 0 (.osl q2 1 0 (fE ps++[[PV.osl c 1 0 n]]).length,1,fE ps++[[PV.osl c 1 0 n]]):=by rw[Y];unfold gX fE tG;rw[avD,avD];rfl
   rw[e];exact h4;rw[l];unfold wls;rw[avD];rfl
  |false =>rw[E,aB aU,awD]at l;simp only[go_sem];exact⟨vo,ps,O.sub (avU.refl _) (ayD ..),l.symm⟩
 rw[avI,<-hE]at S;obtain⟨vo,ps,K,A⟩:=S;have hb:=K.at 0 rfl;simp only[go_sem,lk,f5,hb];rw[<-A];exact qg (.inr rfl) Sq (K.AJ 0)
def CD(f:aH)(atB:Int):Int:=if nS f atB then(if f.asP.length>12 then 2 else 0)else 1
def zI(f:aH)(atB:Int):L2_:=if CD f atB=0 then lO f (lK f atB)else[]
structure D5(C:Ctx):Prop extends Sm C where
 sets:∀(f:aH)(p:cJ),VF f->l'' f.asP<=12->(∀m∈p.asQ,0<=m/\m<l'' f.asQ)->Fits p.asQ->1<=p.k->p.k<=6->0<=p.m->p.m<=4->aG C 229 [.agg f.cells,.agg p.cells] .nil (aJ (lay (lO f p)))
def cyS(r:PV):Spec:=λ_ _=>some ([],λ_=>aJ r)
theorem yg(F:D5 C)(f:aH)(H:f.Ok)(atB:Int) :
  YS.wp C (aX call17.res (cN (.tup [lay (zI f atB),.j (CD f atB)]))) (g_ [.agg f.cells,.j atB]) .nil:=by
 have hB:zI f atB=if CD f atB=0 then lO f (lK f atB)else[]:=rfl
 have l:CD f atB=if nS f atB then(if f.asP.length>12 then 2 else 0)else 1:=rfl
 simp only[go_sem,YS,call17];refine aA (F.known f atB H) Ev ?_;cases A:nS f atB with
 |false =>rw[A,aB aU]at l;rw[l,aB aU]at hB;rw[hB,l];simp only[go_sem,auY];exact HY (.inr rfl) Sq (aQ.XU aQ.nil)
 |true=>
  rw[A,aD rfl]at l;obtain⟨hV,J,M,K⟩:=dy A;obtain⟨y,E⟩:=zr A;have i:=hV.atB _ y;have w:=(H.atB _ y).asQ;have u:(f.asT.map cJ.cells)[atB.toNat]?=some (lK f atB).cells:=by rw[avC,E];rfl
  have hlt:atB<(l'' f.asT:Nat):=Om;by_cases c:l'' f.asP>12;rw[aD c]at l;rw[l,aB aU]at hB;rw[hB,l];simp only[go_sem,auO,auD,show(l'' f.asP:Int)>12 by omega];exact HY (.inr rfl) Sq (aQ.XU aQ.nil);rw[aB c]at l;rw[l,aD rfl]at hB;rw[hB,l];simp only[go_sem,auO,auD,show ¬(l'' f.asP:Int)>12 by omega];refine bV .nil (cyS (lay (lO f (lK f atB)))) a_ ?_;simp only[go_sem,J,hlt,auD,u];refine cB rfl (F.sets f (lK f atB) hV Om i.2.2.2.2.2.2.2 w i.1 i.2.1 i.2.2.1 i.2.2.2.1) Sq a_ ?_;simp only[go_sem];exact aY (.inr rfl) .nil (vs:=[lay (lO f (lK f atB)),.j 0]) Sq a_ (aJ.akR ⟨rfl,rfl⟩)
theorem aQ.HX{H:PH}{B:List BX}{L:List LI}(h:aQ H B L)(i:Nat){q s k:Nat}{rows:P2_}(hi:L[i]?=some (.osl q s 0 k,s,rows)):∃rs,H q=some (.rows s rs)/\(∀d,d<l'' rows->rs[d]?=rows[d]?)/\k<=l'' rs/\rs.take k=rows:=by
 obtain⟨rs,u,w,y,l⟩:=(h.own i hi).id rfl;injection w with _ _ _ E
 subst E;refine⟨rs,u,λd A=>?_,y,l⟩
 conv=>rhs;rw[<-l]
 rw[axZ,aD A]
def oQ(l:List (Int × I_ × Int)):P2_:=l.map λc=>[.int .i64 c.1,ints c.2.1,.int .i64 c.2.2]
theorem E6(a b:List (Int × I_ × Int)):oQ (a++b)=oQ a++oQ b:=avD
theorem zO(a:List (Int × I_ × Int)):(oQ a).length=l'' a:=auD _
def zV(m:Nat):Nat->N_->List LI
 |_,[]=>[]
 |i,q::t=>(.osl q 1 0 m,1,aR (fl m λk=>idM i k))::zV m (i+1) t
theorem Gj(m:Nat):∀(l:N_)(i:Nat)(q:Nat),zV m i (l++[q])=zV m i l++[(.osl q 1 0 m,1,aR (fl m λk=>idM (i+l'' l) k))]
 |[],i,q=>rfl
 |a::t,i,q=>by rw[axX,zV,Gj m t (i+1) q,avG,show i+1+l'' t=i+(l'' t+1) by omega];rfl
theorem GB(m:Nat):∀(l:N_)(i:Nat),(zV m i l).length=l'' l
 |[],_=>rfl
 |_::t,i=>by rw[zV,avG,avG,GB m t (i+1)]
theorem Gk(m:Nat):∀(l:N_)(i:Nat),fG (zV m i l)=l
 |[],_=>rfl
 |q::t,i=>by rw[zV];have:=Gk m t (i+1);unfold fG at this ⊢;rw[List.filterMap_cons];exact congrArg (q::·) this
theorem Mg(m:Nat):∀(l:N_)(i k:Nat),k<l'' l->(zV m i l)[k]?=some (.osl (l.getD k 0) 1 0 m,1,aR (fl m λx=>idM (i+k) x))
 |[],_,_,h=>absurd h (axA _)
 |q::t,i,0,_=>rfl
 |q::t,i,k+1,h=>by rw[zV,List.getElem?_cons_succ,Mg m t (i+1) k (by simpa using h),show i+1+k=i+(k+1) by omega];rfl
theorem jO.frz{H:PH}{p q s m:Nat}{rs:P2_}{g:Nat->Int}(h:jO H p m g)(ne:¬p=q):jO (H.frz q s rs) p m g:=by
 obtain⟨ro,l,u⟩:=h;exact⟨_,by rw[qM,aB ne,l];rfl,λi hi=>by rw[avC,u i hi];rfl⟩
theorem jr.frz{H:PH}{p q s m:Nat}{rs:P2_}{g:Nat->Nat}(h:∃ro,H p=some (.rows 1 ro)/\∀i,i<m->ro[i]?=some [.osl (g i) 1 0 m])(ne:¬p=q)(w:∀i,i<m->¬g i=q):∃ro,(H.frz q s rs) p=some (.rows 1 ro)/\∀i,i<m->ro[i]?=some [.osl (g i) 1 0 m]:=by
 obtain⟨ro,l,u⟩:=h;refine⟨_,by rw[qM,aB ne,l];rfl,λi hi=>?_⟩;rw[avC,u i hi];simp only[avB,avH,avY,PV.cZ,aB (w i hi)]
theorem zo{l:I_}{i:Nat}(h:i<l'' l):(aR l)[i]?=some [.j (l.getD i 0)]:=by
 unfold aR;simp[auM,h]
theorem Xy{H:PH}{o u y qo qr qb m n:Nat}{cl:List (Int × I_ × Int)}{row right bas:I_}{w:N_}
  (h:aQ H [(o,.rows 7 [[.osl u 3 0 cl.length,.j (m:Nat),.osl y 1 0 n,.osl qo 1 0 m,.j 1,.osl qr 1 0 m,.osl qb 1 0 m]])] ([(.osl y 1 0 n,1,aR row),(.osl qr 1 0 m,1,aR right),(.osl u 3 0 cl.length,3,oQ cl),(.osl qo 1 0 m,1,w.map λq=>[.osl q 1 0 m]),(.osl qb 1 0 m,1,aR bas)]++zV m 0 w))
  (N:l'' row=n) (hq:l'' w=m) (hr:l'' right=m) (hb:l'' bas=m) :
  ∃rc E,H u=some (.rows 3 rc)/\(H.frz u 3 rc) y=some (.rows 1 E)/\XV ⟨o,qr,qb,qo,λi=>w.getD i 0⟩ ⟨m,oQ cl,row⟩ ⟨1,λi k=>idM i k,λi=>right.getD i 0,λi=>bas.getD i 0⟩ ((H.frz u 3 rc).frz y 1 E):=by
 subst N;have F:=h.nd;rw[mP,Gk]at F;simp only[fN,fG,avH,avY,List.filterMap_cons,List.filterMap_nil,PV.oid,axX,axI,List.nodup_cons,auQ,not_or]at F;obtain⟨⟨a1,a2,a3,a4,a5,a6⟩,⟨b1,b2,Q,S,U⟩,⟨V,c2,c3,c4⟩,⟨W,Y,Z⟩,⟨e1,e2⟩,f1,O⟩:=F;have J:∀i,i<m->w.getD i 0∈w:=λi hi=>by have:i<l'' w:=Om;simp[auM,this]
 have A:∀i x,i<m->x ∉ w->¬w.getD i 0=x:=λi x hi N e=>N (e ▸ J i hi);obtain⟨rc,g1,g2,g3,g4⟩:=h.HX 2 rfl;obtain⟨E,v1,v2,v3,v4⟩:=h.HX 0 rfl;obtain⟨rr,r1,r2,-⟩:=h.HX 1 rfl;obtain⟨ro,o1,o2,-⟩:=h.HX 3 rfl;obtain⟨rb,p1,p2,-⟩:=h.HX 4 rfl;have K:jO H qr m λi=>right.getD i 0:=⟨rr,r1,λi hi=>by rw[r2 i (by rw[bG];omega),zo Om]⟩;have M:jO H qb m λi=>bas.getD i 0:=⟨rb,p1,λi hi=>by rw[p2 i (by rw[bG];omega),zo Om]⟩;have hO:∃ro,H qo=some (.rows 1 ro)/\∀i,i<m->ro[i]?=some [.osl (w.getD i 0) 1 0 m]:=⟨ro,o1,λi hi=>by have:i<l'' w:=Om;rw[o2 i (by rw[auD];omega),avC];simp[auM,this]⟩
 have hI:∀i,i<m->jO H (w.getD i 0) m λk=>idM i k:=λi hi=>by obtain⟨ri,i1,i2,-⟩:=h.HX (i+5) (q:=w.getD i 0) (s:=1) (k:=m) (rows:=aR (fl m λx=>idM (0+i) x)) (by simp only[axX,axI,List.getElem?_cons_succ];exact Mg m w 0 i Om);exact⟨ri,i1,λk hk=>by rw[i2 k (by rw[bG,yD];exact hk),CW _ hk,avA]⟩
 have w1:(H.frz u 3 rc) y=some (.rows 1 (E.map λr=>r.map (PV.cZ u 3 rc))):=by rw[qM,aB b2,v1];rfl
 have w2:(E.map λr=>r.map (PV.cZ u 3 rc)).take row.length=aR row:=by rw[<-axQ,v4];unfold aR;rw[axM];rfl
 have w3:l'' row<=(E.map λr=>r.map (PV.cZ u 3 rc)).length:=by rw[auD];exact v3
 refine⟨rc,_,g1,w1,?_,?_,?_,?_,?_,λi hi=>?_⟩;exact⟨a2,a5,a4,c3,c2,λe=>e1 e.symm,λi hi=>⟨A i o hi a6,A i qr hi c4,A i qb hi f1,A i qo hi e2⟩,λi l hi hl e=>by
  have h1:i<l'' w:=by rw[hq];exact hi
  have h2:l<l'' w:=by rw[hq];exact hl
  simp only[auM,h1,h2,auP,axC]at e;exact(List.getElem_inj O).1 e⟩
 rw[qM,aB a1,qM,aB a3,h.at 0 rfl];have k1:PV.cZ u 3 rc (.osl u 3 0 cl.length)=.sl 3 (oQ cl):=by simp only[PV.cZ,if_true,true_and,avA,g3,avR,g4]
 have k2:PV.cZ y 1 (E.map λr=>r.map (PV.cZ u 3 rc)) (.osl y 1 0 row.length)=ints row:=by simp only[PV.cZ,if_true,true_and,avA,w3,avR,w2];rfl
 have o1:∀p s k,¬p=u->PV.cZ u 3 rc (.osl p s 0 k)=.osl p s 0 k:=λp s k e=>by simp only[PV.cZ,aB e]
 have o2:∀p s k,¬p=y->PV.cZ y 1 (E.map λr=>r.map (PV.cZ u 3 rc)) (.osl p s 0 k)=.osl p s 0 k:=λp s k e=>by simp only[PV.cZ,aB e]
 simp only[avB,aW.frz,avH,avY,k1,o1 y _ _ b2,o1 qo _ _ (λe=>W e.symm),o1 qr _ _ V,o1 qb _ _ (λe=>Y e.symm),k2,o2 qo _ _ (λe=>Q e.symm),o2 qr _ _ (λe=>b1 e.symm),o2 qb _ _ (λe=>S e.symm)];rfl;exact(K.frz V).frz (λe=>b1 e.symm);exact(M.frz (λe=>Y e.symm)).frz (λe=>S e.symm);exact jr.frz (jr.frz hO (λe=>W e.symm) λi hi=>A i u hi Z) (λe=>Q e.symm) λi hi=>A i y hi U;exact((hI i hi).frz (A i u hi Z)).frz (A i y hi U)
def iB(dm:I_)(k:Nat):I_:=(auE k).map λp=>if 0<dm.getD p 0 then(((dm.take p).countP λn=>decide (0<n):Nat):Int)else -1
def dE(dm:I_)(k:Nat):I_:=(dm.take k).filter λn=>decide (0<n)
theorem qW(dm:I_)(k:Nat):(dE dm k).length=(dm.take k).countP λn=>decide (0<n):=by
 unfold dE;rw[List.countP_eq_length_filter]
theorem UY(dm:I_)(k:Nat):iB dm (k+1)=iB dm k++[if 0<dm.getD k 0 then((dE dm k).length:Int)else -1]:=by
 unfold iB;rw[ayA,avD,qW];rfl
theorem uF(dm:I_){k:Nat}(i:k<l'' dm):dE dm (k+1)=dE dm k++(if 0<dm.getD k 0 then[dm.getD k 0]else[]):=by
 unfold dE;rw[awE i,List.filter_append];have:dm.getD k 0=dm[k]:=by simp[auM,i]
 rw[this];by_cases c:0<dm[k];rw[aD c];simp[c];rw[aB c];simp[c]
theorem iC(dm:I_)(k:Nat):(iB dm k).length=k:=by unfold iB;simp
def jZ(dm:I_)(al:Nat->L2_)(lo:Nat->I_->Int)(k:Nat):List (Int × I_ × Int):=(auE k).flatMap λp=>if 0<dm.getD p 0 then(al p).map λs=>((p:Int),s,lo p s)else[]
theorem xW(dm:I_)(al:Nat->L2_)(lo:Nat->I_->Int)(k:Nat):jZ dm al lo (k+1)=jZ dm al lo k++if 0<dm.getD k 0 then(al k).map λs=>((k:Int),s,lo k s)else[]:=by
 unfold jZ;rw[ayA,List.flatMap_append];simp
def nA(n:Nat):List (Int × I_ × Int):=(auE n).map λd:Nat=>((-1:Int),[(d:Int)],(0:Int))
theorem K9(n:Nat):nA (n+1)=nA n++[((-1:Int),[(n:Int)],(0:Int))]:=by unfold nA;rw[ayA,avD];rfl
theorem DW(n:Nat):(nA n).length=n:=by unfold nA;simp
def tA(nn first i:Nat):I_:=(auE i).map λl:Nat=>if l<nn then -1-(l:Int)else(first:Int)+l-nn
theorem Sw(nn first i:Nat):tA nn first (i+1)=tA nn first i++[if i<nn then -1-(i:Int)else(first:Int)+i-nn]:=by unfold tA;rw[ayA,avD];rfl
theorem MM(nn first i:Nat):(tA nn first i).length=i:=by unfold tA;simp
structure aiY(C:Ctx)(f:aH)(x:PV)(rm:I_)(dm:I_)(rl:I_)(sc:L2_)(e:Int)(al:Nat->L2_)(ae:Nat->Int)(lo:Nat->I_->Int):Prop where
 dem:aG C 337 [.agg f.cells] .nil (aJ (ints dm))
 room:aG C 152 [.agg f.cells,ints rm] .nil (aJ (ints rl))
 GL:aG C 230 [.agg f.cells,x] .nil (aJ (.tup [lay sc,.int .i64 e]))
 all:∀p:Nat,p<l'' dm->aG C 205 [.agg f.cells,.int .i64 (p:Nat)] .nil (aJ (.tup [lay (al p),.int .i64 (ae p)]))
 loss:∀p:Nat,p<l'' dm->∀s∈al p,aG C 351 [lay sc,ints s,.int .i64 (f.asT.getD p DN).m] .nil (aJ (.int .i64 (lo p s)))
theorem W6(f:aH)(a1 a2:Int)(rm dm rl:I_)(sc:L2_)(e:Int)(al:Nat->L2_)(ae:Nat->Int)(lo:Nat->I_->Int)(L:aiY C f (.agg [.j a1,.j a2]) rm dm rl sc e al ae lo)(p':l'' dm<=1000)(s':l'' rl<=1000)(o':0<l'' dm)(r':0<l'' rl)(l':l'' f.asT=l'' dm)(Φ:l'' f.asP=l'' rl)(κ:∀p,p<=l'' dm->(jZ dm al lo p).length<=1000000)(m':(jZ dm al lo dm.length).length+l'' rl<=1000000)
  : bo.wp C (aX WM.res (λr H'=>∃I,r=xp I/\XV I ⟨(dE dm dm.length).length+l'' rl,oQ (jZ dm al lo dm.length++nA rl.length),iB dm dm.length⟩ ⟨1,λi k=>idM i k,λi=>(dE dm dm.length++rl).getD i 0,λi=>(tA (dE dm dm.length).length (jZ dm al lo dm.length).length ((dE dm dm.length).length+l'' rl)).getD i 0⟩ H')) (g_ [.agg f.cells,.agg [.j a1,.j a2],ints rm]) .nil:=by
 simp only[go_sem,bo,WM];have h0:aQ (h_) [] []:=aQ.nil;refine h0.zM λo H1 h1=>?_;simp only[go_sem];refine aA L.dem Sq ?_;have N:=(h1.lJ 1).lJ 1;simp only[go_sem];refine wp_loop (α:=Nat × PV × PV × PH) (λt=>((((((((n_.set 2 (ints rm)).set 3 (.bQ f.cells)).set 4 (.bQ [.j a1,.j a2])).set 7 (.ptr o 7 0 0)).set 8 (t.2.2.1)).set 25 (ints dm)).set 26 (.j (l'' dm:Nat))).set 27 (.j t.1))) (λt=>t.2.2.2) (λt=>t.1<=l'' dm/\aQ t.2.2.2 [(o,.rows 7 [[.aE,.j 0,t.2.1,.aE,.j 1,.aE,.aE]])] [(t.2.1,1,aR (iB dm t.1)),(t.2.2.1,1,aR (dE dm t.1))]) (λt=>l'' dm-t.1) (0,.aE,.aE,H1) ⟨auK _,N⟩ lM b_ ?_;clear h0 h1 N H1;rintro⟨k,rv,nv,H1⟩ ⟨hk,h1⟩;simp only at hk h1 ⊢;simp only[go_sem];by_cases H:k<l'' dm
 ·have A:(k:Int)<(l'' dm:Nat):=Om;have V:(dm.map λn=>[PV.int .i64 n])[k]?=some [.j (dm.getD k 0)]:=by simp[auM,H]
  have hb:=h1.at 0 rfl;simp only[go_sem,A,V,hb,show(1:Nat)*1<=16777216 from by decide,avN,forall_eq];refine h1.append 0 rfl (by simp only[go_sem];rfl) (by unfold roomFor;rw[bG,iC];simp only[maxLen,avG,avS];omega) λu' H2 N hq=>?_;obtain⟨q,hq⟩:=hq bC;rw[show(aR (iB dm k)++[[PV.int .i64 (-1)]]).length=k+1 by rw[auJ,bG,iC];rfl]at hq;subst hq;simp only[avQ]at N;have O:=N.at 0 rfl;have w:=N.set 0 rfl (.rows 7 [[.aE,.j 0,.osl q 1 0 (k+1),.aE,.j 1,.aE,.aE]]);simp only[avQ]at w;have ξ:nv.mB=some (.j ((dE dm k).length:Nat)):=by have:=(w.own 1 rfl).mB;rw[bG]at this;exact this
  simp only[go_sem,O];generalize H2.set o _=J at *
  have y:=w.at 0 rfl;by_cases c:0<dm.getD k 0
  ·have Ω:(k:Int)<((k+1:Nat):Int):=Om;obtain⟨rs,s1,s2,s3,M⟩:=w.We 0 rfl (d:=k) (by rw[auJ,bG,iC];exact Nat.lt_succ_self k) [.j ((dE dm k).length:Nat)];have η:rs[k]?=some [PV.int .i64 (-1)]:=by rw[s2,awH (by rw[bG,iC];exact auG k),bG,iC,awU];rfl
   simp only[go_sem,show dm.getD k 0>0 from c,y,ξ,s1,η,Ω,avQ,avN,forall_eq];simp only[avQ]at M;generalize J.set q _=H4 at *
   refine M.append 1 rfl (by simp only[go_sem];rfl) (by unfold roomFor;rw[bG,qW];have:=List.countP_le_length (p:=λn=>decide ((0:Int)<n)) (l:=dm.take k);rw[auU]at this;simp only[maxLen,avG,avS];omega) λj' H5 h5 _=>?_;simp only[go_sem,wZz k];refine aF (k+1,.osl q 1 0 (k+1),j',H5) ⟨H,?_⟩ sO_ Lq b_;simp only;have e1:aR (iB dm (k+1))=(aR (iB dm k)++[[PV.int .i64 (-1)]]).set k [PV.int .i64 ((dE dm k).length:Nat)]:=by rw[UY,aD c,axS _ _ (by rw[bG,iC];exact auG k),bG,iC,awU];unfold aR;rw[avD];rfl
   have e2:aR (dE dm (k+1))=aR (dE dm k)++[[PV.int .i64 (dm.getD k 0)]]:=by rw[uF dm H,aD c];unfold aR;rw[avD];rfl
   rw[e1,e2];exact h5
  ·simp only[go_sem,show ¬dm.getD k 0>0 from c,y,avN,forall_eq,wZz k];refine aF (k+1,.osl q 1 0 (k+1),nv,J) ⟨H,?_⟩ sO_ Lq b_;simp only;have e1:aR (iB dm (k+1))=aR (iB dm k)++[[PV.int .i64 (-1)]]:=by rw[UY,aB c];unfold aR;rw[avD];rfl
   have e2:dE dm (k+1)=dE dm k:=by rw[uF dm H,aB c,awD]
   rw[e1,e2];exact w
 ·have A:¬(k:Int)<(l'' dm:Nat):=Om;have:k=l'' dm:=Om;subst this;simp only[go_sem,A];refine aA L.room Sq ?_;have q':(dE dm dm.length).length<=l'' dm:=by rw[qW];exact avJ List.countP_le_length (by rw[auU];omega)
  simp only[go_sem];refine h1.append 1 rfl (by simp only[go_sem];rfl) (by unfold roomFor;rw[bG];simp only[maxLen,auD];omega) λrt H2 N _=>?_;simp only[ayI,avQ]at N;rw[show aR (dE dm dm.length)++rl.map (λn=>[PV.int .i64 n])=aR (dE dm dm.length++rl)from avD.symm]at N;have O:=N.at 0 rfl;have h':rt.mB=some (.j ((dE dm dm.length++rl).length:Nat)):=by have:=(N.own 1 rfl).mB;rw[bG]at this;exact this
  have τ:nv.mB=some (.j ((dE dm dm.length).length:Nat)):=by have:=(h1.own 1 rfl).mB;rw[bG]at this;exact this
  obtain⟨qr,rfl⟩:=(N.own 1 rfl).one (by rw[bG,auJ];omega);obtain⟨E,rfl⟩:=(N.own 0 rfl).one (by rw[bG,iC];omega);simp only[bG,iC]at N O;rw[bG];generalize ρ:(dE dm dm.length++rl).length=m at *
  have w:=N.set 0 rfl (.rows 7 [[.aE,.j 0,.osl E 1 0 dm.length,.aE,.j 1,.osl qr 1 0 m,.aE]]);have M:=w.set 0 rfl (.rows 7 [[.aE,.j (m:Nat),.osl E 1 0 dm.length,.aE,.j 1,.osl qr 1 0 m,.aE]]);have h5:=M.lJ 3;simp only[avQ,axX,axI]at h5;simp only[go_sem,O,avN,forall_eq];rw[PH.set_set]at h5;clear w M;generalize H2.set o _=J at *
  refine aA L.GL Sq ?_;have y:=h5.at 0 rfl;simp only[go_sem,y];clear y N O h' h1 H2;refine wp_loop (α:=T3_) (λt=>(((((((n_.set 3 (.bQ f.cells)).set 7 (.ptr o 7 0 0)).set 8 (nv)).set 11 (lay sc)).set 81 (.osl E 1 0 dm.length)).set 82 (.j (l'' dm:Nat))).set 83 (.j t.1))) (λt=>t.2.2) (λt=>t.1<=l'' dm/\aQ t.2.2 [(o,.rows 7 [[t.2.1,.j (m:Nat),.osl E 1 0 dm.length,.aE,.j 1,.osl qr 1 0 m,.aE]])] [(.osl E 1 0 dm.length,1,aR (iB dm dm.length)),(.osl qr 1 0 m,1,aR (dE dm dm.length++rl)),(t.2.1,3,oQ (jZ dm al lo t.1))]) (λt=>l'' dm-t.1) (0,.aE,J) ⟨auK _,h5⟩ Lq b_ ?_;clear h5 J;rintro⟨p,cv,J⟩ ⟨hp,w⟩;simp only at hp w ⊢;simp only[go_sem];by_cases Q:p<l'' dm
  ·have β:(p:Int)<(l'' dm:Nat):=Om;obtain⟨rs,s1,s2,-⟩:=w.HX 0 rfl;have V:rs[p]?=some [.j (if 0<dm.getD p 0 then(((dm.take p).countP λn=>decide (0<n):Nat):Int)else -1)]:=by rw[s2 p (by rw[bG,iC];exact Q)];unfold aR iB;simp[Q]
   have Z:=xW dm al lo p;simp only[go_sem,β,s1,V];by_cases c:0<dm.getD p 0
   ·rw[aD c]at Z;have σ:¬(((dm.take p).countP λn=>decide (0<n):Nat):Int)<0:=Om;simp only[go_sem,aD c,σ];refine aA (L.all p Q) Sq ?_;simp only[go_sem,auD];generalize jZ dm al lo p=cs at *
    have ζ:=L.loss p Q;have n':l'' cs+(al p).length<=1000000:=by have:=κ (p+1) Q;rw[Z,auJ,auD]at this;exact this
    refine wp_loop (α:=T3_) (λt=>(((((((((((n_.set 3 (.bQ f.cells)).set 7 (.ptr o 7 0 0)).set 8 (nv)).set 11 (lay sc)).set 13 (.j p)).set 81 (.osl E 1 0 dm.length)).set 82 (.j (l'' dm:Nat))).set 83 (.j p)).set 96 (lay (al p))).set 97 (.j ((al p).length:Nat))).set 98 (.j t.1))) (λt=>t.2.2) (λt=>t.1<=(al p).length/\aQ t.2.2 [(o,.rows 7 [[t.2.1,.j (m:Nat),.osl E 1 0 dm.length,.aE,.j 1,.osl qr 1 0 m,.aE]])] [(.osl E 1 0 dm.length,1,aR (iB dm dm.length)),(.osl qr 1 0 m,1,aR (dE dm dm.length++rl)),(t.2.1,3,oQ (cs++((al p).take t.1).map λs=>((p:Int),s,lo p s)))]) (λt=>(al p).length-t.1) (0,cv,J) ⟨auK _,by simp only[List.take_zero,avY,awD];exact w⟩ Lq b_ ?_;clear w s1 s2 V J cv rs;rintro⟨k,cv,J⟩ ⟨hk,w⟩;simp only at hk w ⊢;simp only[go_sem];by_cases H:k<(al p).length
    ·have A:(k:Int)<((al p).length:Nat):=Om;have V:((al p).map λl=>[ints l])[k]?=some [ints (al p)[k]]:=by simp[H]
     have y:=w.at 0 rfl;have ο:=ζ _ (auH H);have i':cs++((al p).take (k+1)).map (λs=>((p:Int),s,lo p s))=(cs++((al p).take k).map λs=>((p:Int),s,lo p s))++[((p:Int),(al p)[k],lo p (al p)[k])]:=by rw[awE H,avD,avW];rfl
     have υ:p<l'' f.asT:=Om;have Ψ:f.asT.getD p DN=f.asT[p]:=by simp[auM,υ]
     rw[Ψ]at ο;generalize(al p)[k]=s at *
     have ν:(h_.set o (.rows 7 [[cv,.j (m:Nat),.osl E 1 0 dm.length,.aE,.j 1,.osl qr 1 0 m,.aE]])).le J:=c_ a_ y;have e':(p:Int)<(l'' f.asT:Nat):=Om;simp only[go_sem,A,V];refine bV _ (cyS (.j (lo p s))) ν ?_;simp only[go_sem,y,ai υ,e',auD];refine cB rfl ο Sq ν ?_;simp only[go_sem,show(3:Nat)*1<=16777216 from by decide,avN,forall_eq];refine w.append 2 rfl (by simp only[go_sem];rfl) (by unfold roomFor;rw[zO,auJ,auD,auU];simp only[maxLen,avG,avS];omega) λω H4 M hq=>?_;simp only[ayI,avQ]at M;have γ:=M.at 0 rfl;refine⟨c_ a_ γ,?_⟩;obtain⟨q,rfl⟩:=hq bC;have h5:=M.set 0 rfl (.rows 7 [[.osl q 3 0 (oQ (cs++((al p).take k).map λs=>((p:Int),s,lo p s))++[[PV.int .i64 (p:Int),ints s,PV.int .i64 (lo p s)]]).length,.j (m:Nat),.osl E 1 0 dm.length,.aE,.j 1,.osl qr 1 0 m,.aE]]);simp only[avQ]at h5;refine bV .nil dY a_ ?_;simp only[go_sem,γ,avN,forall_eq];refine⟨a_,?_⟩;simp only[go_sem,wZz k];refine aF (k+1,.osl q 3 0 (oQ (cs++((al p).take k).map λs=>((p:Int),s,lo p s))++[[PV.int .i64 (p:Int),ints s,PV.int .i64 (lo p s)]]).length,_) ⟨H,?_⟩ sO_ Lq b_;simp only;have S:=congrArg oQ i';rw[E6 _ [_]]at S;rw[S];exact h5
    ·have A:¬(k:Int)<((al p).length:Nat):=Om;have:k=(al p).length:=Om;subst this;rw[avI,<-Z]at w;simp only[go_sem,A,wZz p];refine aF (p+1,cv,J) ⟨Q,w⟩ sO_ Lq b_
   ·rw[aB c,awD]at Z;simp only[go_sem,aB c,wZz p];refine aF (p+1,cv,J) ⟨Q,?_⟩ sO_ Lq b_;simp only[Z];exact w
  ·have β:¬(p:Int)<(l'' dm:Nat):=Om;have:p=l'' dm:=Om;subst this;have y:=w.at 0 rfl;have μ:cv.mB=some (.j ((jZ dm al lo dm.length).length:Nat)):=by have:=(w.own 2 rfl).mB;rw[zO]at this;exact this
   simp only[go_sem,β,y,μ,auD];generalize jZ dm al lo dm.length=cs at *
   refine wp_loop (α:=T3_) (λt=>(((((n_.set 7 (.ptr o 7 0 0)).set 8 (nv)).set 19 (.j (l'' cs:Nat))).set 132 (.j (l'' f.asP:Nat))).set 133 (.j t.1))) (λt=>t.2.2) (λt=>t.1<=l'' f.asP/\aQ t.2.2 [(o,.rows 7 [[t.2.1,.j (m:Nat),.osl E 1 0 dm.length,.aE,.j 1,.osl qr 1 0 m,.aE]])] [(.osl E 1 0 dm.length,1,aR (iB dm dm.length)),(.osl qr 1 0 m,1,aR (dE dm dm.length++rl)),(t.2.1,3,oQ (cs++nA t.1))]) (λt=>l'' f.asP-t.1) (0,cv,J) ⟨auK _,by rw[show nA 0=[]from rfl,awD];exact w⟩ Lq b_ ?_;clear w y μ cv J;rintro⟨d,cv,J⟩ ⟨hd,w⟩;simp only at hd w ⊢;simp only[go_sem];by_cases Γ:d<l'' f.asP
   ·have Y:(d:Int)<(l'' f.asP:Nat):=Om;have y:=w.at 0 rfl;have S:oQ (cs++nA (d+1))=oQ (cs++nA d)++[[PV.int .i64 (-1),ints [(d:Int)],PV.int .i64 0]]:=by rw[K9,<-avW];exact E6 _ _
    simp only[go_sem,Y,y,show(3:Nat)*1<=16777216 from by decide,show(1:Nat)*1<=16777216 from by decide,avN,forall_eq];refine w.append 2 rfl (by simp only[go_sem];rfl) (by unfold roomFor;rw[zO,auJ,DW];simp only[maxLen,avG,avS];omega) λω H4 M hq=>?_;simp only[ayI,avQ]at M;have γ:=M.at 0 rfl;obtain⟨q,rfl⟩:=hq bC;have h5:=M.set 0 rfl (.rows 7 [[.osl q 3 0 (oQ (cs++nA d)++[[PV.int .i64 (-1),ints [(d:Int)],PV.int .i64 0]]).length,.j (m:Nat),.osl E 1 0 dm.length,.aE,.j 1,.osl qr 1 0 m,.aE]]);simp only[avQ]at h5;simp only[go_sem,γ,avN,forall_eq,wZz d];refine aF (d+1,.osl q 3 0 (oQ (cs++nA d)++[[PV.int .i64 (-1),ints [(d:Int)],PV.int .i64 0]]).length,_) ⟨Γ,?_⟩ sO_ Lq b_;simp only;rw[S];exact h5
   ·have Y:¬(d:Int)<(l'' f.asP:Nat):=Om;have:d=l'' f.asP:=Om;subst this;obtain⟨qc,rfl⟩:=(w.own 2 rfl).one (by rw[zO,auJ,DW];omega);rw[zO]at w;simp only[go_sem,Y];generalize hC:cs++nA f.asP.length=cl at *
    generalize b':(dE dm dm.length).length=nn at *
    have a':m=nn+l'' rl:=by rw[<-ρ,<-b',auJ]
    refine wp_loop (α:=N_ × PV × PV × PH) (λt=>((((n_.set 7 (.ptr o 7 0 0)).set 8 (nv)).set 19 (.j (l'' cs:Nat))).set 21 (.j (t.1.length:Nat)))) (λt=>t.2.2.2) (λt=>t.1.length<=m/\aQ t.2.2.2 [(o,.rows 7 [[.osl qc 3 0 cl.length,.j (m:Nat),.osl E 1 0 dm.length,t.2.1,.j 1,.osl qr 1 0 m,t.2.2.1]])] ([(.osl E 1 0 dm.length,1,aR (iB dm dm.length)),(.osl qr 1 0 m,1,aR (dE dm dm.length++rl)),(.osl qc 3 0 cl.length,3,oQ cl),(t.2.1,1,t.1.map λq=>[.osl q 1 0 m]),(t.2.2.1,1,aR (tA nn cs.length t.1.length))]++zV m 0 t.1)) (λt=>m-t.1.length) ([],.aE,.aE,J) ⟨auK _,(w.lJ 1).lJ 1⟩ (by(repeat' (first|exact e_|refine d_ ?_ ?_))<;>first|(simp only[go_sem,avS]<;>rfl)|rfl) b_ ?_;clear w J;rintro⟨u,ov,bv,J⟩ ⟨hi,w⟩;simp only at hi w ⊢;have y:=w.at 0 rfl;simp only[go_sem,y];by_cases δ:l'' u<m
    ·have U:(l'' u:Int)<(m:Nat):=Om;have Δ:((m:Nat):Int)*((8:Nat):Int)<=140737488355328:=Om;have O:((m:Nat):Int)<=9223372036854775807:=Om;simp only[go_sem,U];refine bV .nil dY a_ ?_;simp only[go_sem,y,Δ,O];refine aS λq hq=>?_;have M:=w.Qi (s:=1) (rows:=auL m [PV.int .i64 0]) hq;rw[List.length_replicate,NM]at M;rw[NM];generalize J.set q _=H4 at *
     simp only[axX,axI]at M;simp only[go_sem,M.at 0 rfl,avN,forall_eq,show(1:Nat)*1<=16777216 from by decide];refine M.append 3 rfl (by simp only[go_sem];rfl) (by unfold roomFor;rw[auD];simp only[maxLen,avG,avS];omega) λt' H5 h5 f'=>?_;simp only[ayI,avQ]at h5;have Θ:=h5.at 0 rfl;refine⟨a_,?_⟩;obtain⟨qo,χ⟩:=f' bC;rw[show(u.map (λq=>[PV.osl q 1 0 m])++[[PV.osl q 1 0 m]]).length=l'' u+1 by rw[auJ,auD];rfl]at χ;subst χ;have h6:=h5.set 0 rfl (.rows 7 [[.osl qc 3 0 cl.length,.j (m:Nat),.osl E 1 0 dm.length,.osl qo 1 0 (l'' u+1),.j 1,.osl qr 1 0 m,bv]]);simp only[avQ]at h6;simp only[go_sem,Θ,avN,forall_eq];refine⟨a_,?_⟩;generalize H5.set o _=H6 at *
     have Λ:=h6.at 0 rfl;obtain⟨ro,o1,o2,-⟩:=h6.HX 3 rfl;have o3:ro[l'' u]?=some [.osl q 1 0 m]:=by rw[o2 u.length (by rw[auJ,auD];exact Nat.lt_succ_self _),awH (by rw[auD];exact auG _),auD,awU];rfl
     have d':(l'' u:Int)<((l'' u+1:Nat):Int):=Om;obtain⟨ri,i1,i2,i3,h7⟩:=h6.We (5+l'' u) (q:=q) (s:=1) (k:=m) (rows:=aR (fl m λ_=>0)) (by rw[show 5+l'' u=l'' u+5 by omega];simp only[List.getElem?_cons_succ];rw[awH (by rw[GB];exact auG _),GB,awU];rfl) (d:=l'' u) (by rw[bG,yD];exact δ) [.j 1];have i4:ri[l'' u]?=some [.j 0]:=by rw[i2];exact CW (λ_=>0) δ
     rw[Fw,show 5+l'' u=l'' u+5 by omega]at h7;simp only[ayI]at h7;rw[axS _ _ (by rw[GB];exact auG _),GB,awU]at h7;simp only[go_sem,Λ,o1,o3,d',i1,i4,U,avQ,τ];generalize H6.set q _=H7 at *
     have θ:=h7.at 0 rfl;have Ξ:=Sw nn cs.length u.length;have ι:=MM nn cs.length u.length;have ψ:∀(v:Int),v=(if u.length<nn then -1-(l'' u:Int)else(l'' cs:Int)+l'' u-nn)->∀{K:R_},(∀F H8 qb,F=.osl qb 1 0 (l'' u+1)->H8 o=some (.rows 7 [[.osl qc 3 0 cl.length,.j (m:Nat),.osl E 1 0 dm.length,.osl qo 1 0 (l'' u+1),.j 1,.osl qr 1 0 m,bv]])->aQ (H8.set o (.rows 7 [[.osl qc 3 0 cl.length,.j (m:Nat),.osl E 1 0 dm.length,.osl qo 1 0 (l'' u+1),.j 1,.osl qr 1 0 m,F]])) [(o,.rows 7 [[.osl qc 3 0 cl.length,.j (m:Nat),.osl E 1 0 dm.length,.osl qo 1 0 (l'' u+1),.j 1,.osl qr 1 0 m,F]])] ([(.osl E 1 0 dm.length,1,aR (iB dm dm.length)),(.osl qr 1 0 m,1,aR (dE dm dm.length++rl)),(.osl qc 3 0 cl.length,3,oQ cl),(.osl qo 1 0 (l'' u+1),1,(u++[q]).map λq=>[.osl q 1 0 m]),(F,1,aR (tA nn cs.length (u++[q]).length))]++zV m 0 (u++[q]))->K F H8)->mJ H7 1 8 bv (.sl 1 [[.j v]]) K:=by
      intro v hv K hK;refine h7.append 4 rfl (src:=[[.j v]]) Sq (by unfold roomFor;rw[bG,ι];simp only[maxLen,avG,avS];omega) λF H8 h8 g'=>?_;simp only[ayI,avQ]at h8;obtain⟨qb,W⟩:=g' bC;rw[show(aR (tA nn cs.length u.length)++[[PV.int .i64 v]]).length=l'' u+1 by rw[auJ,bG,ι];rfl]at W;have h9:=h8.set 0 rfl (.rows 7 [[.osl qc 3 0 cl.length,.j (m:Nat),.osl E 1 0 dm.length,.osl qo 1 0 (l'' u+1),.j 1,.osl qr 1 0 m,F]]);simp only[avQ]at h9;refine hK F H8 qb W (h8.at 0 rfl) ?_;have e1:aR (tA nn cs.length (u++[q]).length)=aR (tA nn cs.length u.length)++[[PV.int .i64 v]]:=by rw[auJ,avG,avS,Ξ,hv];exact avD
      rw[e1,avD,Gj];simp only[axX,axI,avA];exact h9
     by_cases c:l'' u<nn
     ·have c':(l'' u:Int)<(nn:Nat):=Om;simp only[go_sem,c',θ,wrap_i64 (Om:-9223372036854775808<=(-1:Int)-(l'' u:Nat)) Om,show(1:Nat)*1<=16777216 from by decide,avN,forall_eq];refine ψ _ (by rw[aD c]) λF H8 qb W ε h9=>?_;subst W;simp only[go_sem,ε,avN,forall_eq,dU (Om:l'' u<9223372036854775807)];refine aF (u++[q],.osl qo 1 0 (l'' u+1),.osl qb 1 0 (l'' u+1),_) ⟨by rw[auJ];exact δ,h9⟩ (by simp only[auJ,avG,avS];omega) (by(repeat' (first|exact e_|refine d_ ?_ ?_))<;>first|(simp only[go_sem,auJ,avG,avS]<;>rfl)|rfl) b_
     ·have c':¬(l'' u:Int)<(nn:Nat):=Om;have k':l'' cs<=1000000:=Om;simp only[go_sem,c',θ,τ,wrap_i64 (Om:-9223372036854775808<=(l'' cs:Int)+(l'' u:Nat)) Om,wrap_i64 (Om:-9223372036854775808<=(l'' cs:Int)+(l'' u:Nat)-(nn:Nat)) Om,show(1:Nat)*1<=16777216 from by decide,avN,forall_eq];refine ψ _ (by rw[aB c]) λF H8 qb W ε h9=>?_;subst W;simp only[go_sem,ε,avN,forall_eq,dU (Om:l'' u<9223372036854775807)];refine aF (u++[q],.osl qo 1 0 (l'' u+1),.osl qb 1 0 (l'' u+1),_) ⟨by rw[auJ];exact δ,h9⟩ (by simp only[auJ,avG,avS];omega) (by(repeat' (first|exact e_|refine d_ ?_ ?_))<;>first|(simp only[go_sem,auJ,avG,avS]<;>rfl)|rfl) b_
    ·have U:¬(l'' u:Int)<(m:Nat):=Om;have φ:l'' u=m:=Om;obtain⟨qo,rfl⟩:=(w.own 3 rfl).one (by rw[auD];omega);obtain⟨qb,rfl⟩:=(w.own 4 rfl).one (by rw[bG,MM];omega);rw[auD,bG,MM,φ]at w;obtain⟨rc,rv,g1,g2,g3⟩:=Xy w (iC ..) φ (by rw[ρ]) (MM ..);simp only[go_sem,U];rw[<-a',<-Φ,hC];refine⟨[.ptr o 7 0 0],s_,_,_,_,.step qc g1 (.step E g2 (.refl _ _)),b_,.ptr o 7 0 0,?_,⟨_,rfl,g3⟩⟩;simp only[go_sem];rfl
mutual
def PV.ren(r:Nat->Nat):PV->PV
 | .osl o s off len=>.osl (r o) s off len
 | .ptr o s i c=>.ptr (r o) s i c
 | .map o=>.map (r o)
 | .sl s rows=>.sl s (PV.pB r rows)
 | .bQ cs=>.bQ (PV.kI r cs)
 | .fn n cs=>.fn n (PV.kI r cs)
 | .agg cs=>.agg (PV.kI r cs)
 | .tup cs=>.tup (PV.kI r cs)
 | .int k n=>.int k n
 | .bool b=>.bool b
 | .str s=>.str s
 | .aE=>.aE
 | .lit v=>.lit v
 | .junk=>.junk
def PV.kI(r:Nat->Nat):V_->V_
 |[]=>[]
 |v::vs=>PV.ren r v::PV.kI r vs
def PV.pB(r:Nat->Nat):P2_->P2_
 |[]=>[]
 |v::vs=>PV.kI r v::PV.pB r vs
end
theorem PV.fB(r:Nat->Nat):∀l,PV.kI r l=l.map (PV.ren r)
 |[]=>rfl
 |v::vs=>by rw[PV.kI,PV.fB r vs];rfl
theorem PV.kA(r:Nat->Nat):∀l,PV.pB r l=l.map λx=>x.map (PV.ren r)
 |[]=>rfl
 |v::vs=>by rw[PV.pB,PV.kA r vs,PV.fB];rfl
mutual
def PV.bound(n:Nat):PV->Bool
 | .osl o _ _ _=>decide (o<n)
 | .ptr o _ _ _=>decide (o<n)
 | .map o=>decide (o<n)
 | .sl _ rows=>PV.gZ n rows
 | .bQ cs=>PV.bounds n cs
 | .fn _ cs=>PV.bounds n cs
 | .agg cs=>PV.bounds n cs
 | .tup cs=>PV.bounds n cs
 | .int _ _=>true
 | .bool _=>true
 | .str _=>true
 | .aE=>true
 | .lit _=>true
 | .junk=>true
def PV.bounds(n:Nat):V_->Bool
 |[]=>true
 |v::vs=>PV.bound n v&&PV.bounds n vs
def PV.gZ(n:Nat):P2_->Bool
 |[]=>true
 |v::vs=>PV.bounds n v&&PV.gZ n vs
end
mutual
theorem PV.UU{n:Nat}{r r':Nat->Nat}(h:∀i,i<n->r i=r' i):∀v:PV,v.bound n=true->v.ren r=v.ren r'
 | .osl o s off len,hb=>by simp only[PV.bound,dT_]at hb;simp only[PV.ren,h o hb]
 | .ptr o s i c,hb=>by simp only[PV.bound,dT_]at hb;simp only[PV.ren,h o hb]
 | .map o,hb=>by simp only[PV.bound,dT_]at hb;simp only[PV.ren,h o hb]
 | .sl s rows,hb=>by simp only[PV.bound]at hb;simp only[PV.ren,PV.JK h rows hb]
 | .bQ cs,hb=>by simp only[PV.bound]at hb;simp only[PV.ren,PV.rM h cs hb]
 | .fn _ cs,hb=>by simp only[PV.bound]at hb;simp only[PV.ren,PV.rM h cs hb]
 | .agg cs,hb=>by simp only[PV.bound]at hb;simp only[PV.ren,PV.rM h cs hb]
 | .tup cs,hb=>by simp only[PV.bound]at hb;simp only[PV.ren,PV.rM h cs hb]
 | .int _ _,_=>rfl
 | .bool _,_=>rfl
 | .str _,_=>rfl
 | .aE,_=>rfl
 | .lit _,_=>rfl
 | .junk,_=>rfl
theorem PV.rM{n:Nat}{r r':Nat->Nat}(h:∀i,i<n->r i=r' i):∀l:V_,PV.bounds n l=true->PV.kI r l=PV.kI r' l
 |[],_=>rfl
 |v::vs,hb=>by simp only[PV.bounds,auI]at hb;rw[PV.kI,PV.kI,PV.UU h v hb.1,PV.rM h vs hb.2]
theorem PV.JK{n:Nat}{r r':Nat->Nat}(h:∀i,i<n->r i=r' i):∀l:P2_,PV.gZ n l=true->PV.pB r l=PV.pB r' l
 |[],_=>rfl
 |v::vs,hb=>by simp only[PV.gZ,auI]at hb;rw[PV.pB,PV.pB,PV.rM h v hb.1,PV.JK h vs hb.2]
end
mutual
theorem PV.Vp:∀v:PV,v.ren id=v
 | .osl o s off len=>rfl
 | .ptr o s i c=>rfl
 | .map o=>rfl
 | .sl s rows=>by simp only[PV.ren,PV.I0 rows]
 | .bQ cs=>by simp only[PV.ren,PV.xC cs]
 | .fn _ cs=>by simp only[PV.ren,PV.xC cs]
 | .agg cs=>by simp only[PV.ren,PV.xC cs]
 | .tup cs=>by simp only[PV.ren,PV.xC cs]
 | .int _ _=>rfl
 | .bool _=>rfl
 | .str _=>rfl
 | .aE=>rfl
 | .lit _=>rfl
 | .junk=>rfl
theorem PV.xC:∀l:V_,PV.kI id l=l
 |[]=>rfl
 |v::vs=>by rw[PV.kI,PV.Vp v,PV.xC vs]
theorem PV.I0:∀l:P2_,PV.pB id l=l
 |[]=>rfl
 |v::vs=>by rw[PV.pB,PV.xC v,PV.I0 vs]
end
theorem PV.yU{v:PV}(h:v.bound 0=true)(r:Nat->Nat):v.ren r=v:=(PV.UU (r':=id) (λi hi=>absurd hi (axA i)) v h).trans (PV.Vp v)
theorem PV.oJ{l:V_}(h:PV.bounds 0 l=true)(r:Nat->Nat):l.map (PV.ren r)=l:=by
 rw[<-PV.fB];exact(PV.rM (r':=id) (λi hi=>absurd hi (axA i)) l h).trans (PV.xC l)
theorem xB(r:Nat->Nat)(v:PV):(v.ren r).cells=v.cells.map (PV.ren r):=by
 cases v<;>simp only[PV.ren,PV.cells,PV.fB,avH,avY]
theorem ahH(r:Nat->Nat)(v:PV):(v.ren r).one=v.one:=by
 cases v<;>simp only[PV.ren,PV.one]
theorem vH(r:Nat->Nat)(l:V_):(l.map (PV.ren r)).all PV.one=l.all PV.one:=by
 rw[List.all_map];congr 1;exact funext λv=>ahH r v
theorem GI(r:Nat->Nat):∀(vs:V_)(l:V_)(c:Nat),(setCells l c vs).map (PV.ren r)=setCells (l.map (PV.ren r)) c (vs.map (PV.ren r))
 |[],_,_=>rfl
 |v::vs,l,c=>by simp only[setCells,avH];rw[GI r vs,List.map_set]
theorem ahG{r:Nat->Nat}{op:BinOp}{x y v:PV}(h:PV.bin op x y=some v):PV.bin op (x.ren r) (y.ren r)=some (v.ren r):=by
 have i:∀{k:IntKind}{n:Int},(PV.int k n).ren r=.int k n:=rfl;cases x<;>cases y<;>try (cases op<;>simp[PV.bin]at h;done)
 simp only[PV.ren];rw[h];congr 1;revert h;unfold PV.bin;cases op<;>simp only[shift,nP]<;>intro h<;>(repeat' split at h)<;>cases h<;>rfl;simp only[PV.ren];rw[h];congr 1;revert h;unfold PV.bin;cases op<;>simp only[KM]<;>intro h<;>(repeat' split at h)<;>cases h<;>rfl
def aW.ren(r:Nat->Nat):aW->aW
 | .rows s rs=>.rows s (rs.map λx=>x.map (PV.ren r))
 |x=>x
def PF.ren(r:Nat->Nat)(F:PF):PF:=λi=>(F i).map (PV.ren r)
def SF(r:Nat->Nat)(h H:PH):Prop:=∀i x,h i=some x->H (r i)=some (x.ren r)
def aP.clo:aP->Bool
 | .tmp _=>true
 | .const v=>v.bound 0
section
variable {r:Nat->Nat} {F:PF} {h H:PH}
theorem cU{x:aP}{v:PV}(i:x.clo=true)(e:x.ev F=some v):x.ev (F.ren r)=some (v.ren r):=by
 cases x with
 |tmp t=>simp only[aP.ev]at e ⊢;simp only[PF.ren,e,avB]
 |const u=>simp only[aP.ev,awN.injEq]at e ⊢;subst e;exact(PV.yU i r).symm
theorem EM:∀{l:List aP}{vs:V_},l.all aP.clo=true->aP.evs F l=some vs->aP.evs (F.ren r) l=some (vs.map (PV.ren r))
 |[],vs,_,e=>by cases e;rfl
 |x::xs,vs,i,e=>by simp only[axP,auI]at i;simp only[aP.evs]at e ⊢;split at e;rename_i v y u w;cases e;rw[cU i.1 u,EM i.2 w];rfl;cases e
theorem Mb{k:Sc}{x y:PV}{b:Bool}(e:PV.eq1 k x y=some b):PV.eq1 k (x.ren r) (y.ren r)=some b:=by
 unfold PV.eq1 at e;split at e<;>first|exact e|cases e
theorem Mc:∀{l:List Sc}{xs ys:V_}{b:Bool},PV.eqs l xs ys=some b->PV.eqs l (xs.map (PV.ren r)) (ys.map (PV.ren r))=some b
 |[],[],[],_,e=>e
 |k::l,x::xs,y::ys,b,e=>by simp only[PV.eqs,avH]at e ⊢;split at e;rename_i i;rw[Mb i];exact Mc e;rename_i i;rw[Mb i];simpa using e;cases e
 |[],_::_,_,_,e=>by simp[PV.eqs]at e
 |[],[],_::_,_,e=>by simp[PV.eqs]at e
 |_::_,[],_,_,e=>by simp[PV.eqs]at e
 |_::_,_::_,[],_,e=>by simp[PV.eqs]at e
theorem alD{op:UnOp}{x v:PV}(e:PV.un op x=some v):PV.un op (x.ren r)=some (v.ren r):=by
 unfold PV.un at e;split at e;split at e<;>cases e<;>rfl;split at e<;>cases e;rfl;cases e
theorem zb:∀{l:List (Nat × Nat × aP)}{cells v:V_},(l.all λx=>x.2.2.clo)=true->pP cells F l=some v->pP (cells.map (PV.ren r)) (F.ren r) l=some (v.map (PV.ren r))
 |[],_,_,_,e=>by cases e;rfl
 |(off,size,x)::l,cells,v,i,e=>by simp only[axP,auI]at i;simp only[pP]at e ⊢;split at e;rename_i w u;rw[cU i.1 u];simp only[xB,vH,auD];split at e;rename_i y;rw[aD y,<-GI];exact zb i.2 e;cases e;cases e
theorem FU{size:Nat}:∀{l:List (Nat × aP)}{rows v:P2_},(l.all λx=>x.2.clo)=true->gQ size rows F l=some v ->
  gQ size (rows.map λx=>x.map (PV.ren r)) (F.ren r) l=some (v.map λx=>x.map (PV.ren r))
 |[],_,_,_,e=>by cases e;rfl
 |(i,x)::l,rows,v,u,e=>by simp only[axP,auI]at u;simp only[gQ]at e ⊢;split at e;rename_i w y;rw[cU u.1 y];simp only[xB,vH,auD];split at e;rename_i A;rw[aD A,<-List.map_set];exact FU u.2 e;cases e;cases e
theorem vP(A:SF r h H){p:PV}{n:Nat}{v:V_}(e:loadCells h p n=some v):loadCells H (p.ren r) n=some (v.map (PV.ren r)):=by
 unfold loadCells at e;split at e;split at e;rename_i o size i c s rs w;have u:=A _ _ w;simp only[aW.ren]at u;simp only[PV.ren,loadCells,u];split at e;rename_i l;rw[aD l,avC];split at e;rename_i q y;rw[y];simp only[avB,auD];split at e;rename_i h5;rw[aD h5,<-ayH,<-axQ];cases e;rfl;cases e;cases e;cases e;cases e;simp only[PV.ren,loadCells,PV.fB,auD];split at e;rename_i l;rw[aD l,<-axQ];cases e;rfl;cases e;cases e
theorem zF(y:SF r h H){s:Nat}{p:PV}{v:P2_}(e:dP h s p=some v):dP H s (p.ren r)=some (v.map λx=>x.map (PV.ren r)):=by
 unfold dP at e;split at e;cases e;rfl;simp only[PV.ren,dP,PV.kA];split at e;rename_i i;rw[aD i];cases e;rfl;cases e;split at e;rename_i i;split at e;rename_i u;have l:=y _ _ u;simp only[aW.ren]at l;simp only[PV.ren,dP,l,auD];rw[aD i];split at e;rename_i w;rw[aD w,<-ayH,<-axQ];cases e;rfl;cases e;cases e;cases e;cases e
theorem FO:∀{l:P2_}{s:List UInt8},iM l=some s->iM (l.map λx=>x.map (PV.ren r))=some s
 |[],_,e=>e
 |[.int .u8 n]::rest,s,e=>by
  simp only[iM,avH,avY,PV.ren]at e ⊢;cases i:iM rest with
  |none=>rw[i]at e;cases e
  |some t=>rw[i]at e;rw[FO i];exact e
 |[]::_,_,e=>by simp[iM]at e
 |(_::_::_)::_,_,e=>by simp[iM]at e
 |[v]::rest,s,e=>by
  cases v<;>try (simp[iM]at e;done)
  rename_i k n;cases k<;>try (simp[iM]at e;done)
  simp only[iM,avH,avY,PV.ren]at e ⊢;cases i:iM rest with
  |none=>rw[i]at e;cases e
  |some t=>rw[i]at e;rw[FO i];exact e
theorem KN{d n:Int}{x:Option aP}(l:(x.all aP.clo)=true)(e:bnd F d x=some n):bnd (F.ren r) d x=some n:=by
 cases x with
 |none=>exact e
 |some x=>
  simp only[bnd]at e ⊢;cases i:x.ev F with
  |none=>rw[i]at e;cases e
  |some v =>rw[i]at e;rw[cU (by simpa using l) i];cases v<;>first|exact e|cases e
theorem A9{size:Nat}{x v:PV}{l m:Int}{mx:Option Int}(e:PV.slice size x l m mx=some v):PV.slice size (x.ren r) l m mx=some (v.ren r):=by
 unfold PV.slice at e;split at e;split at e;rename_i i;cases e;simp only[PV.ren,PV.slice];rw[aD i];cases e;split at e;rename_i i;cases e;simp only[PV.ren,PV.slice,PV.kA,auD];rw[aD i,<-axQ,<-ayH];cases e;split at e;rename_i i;cases e;simp only[PV.ren,PV.slice];rw[aD i];cases e;cases e
theorem Px{x:PV}{b:Bool}(e:PV.vF x=some b):PV.vF (x.ren r)=some b:=by
 unfold PV.vF at e;split at e<;>first|exact e|cases e
theorem Zo{x v:PV}(e:PV.mB x=some v):PV.mB (x.ren r)=some (v.ren r):=by
 unfold PV.mB at e;split at e<;>cases e<;>simp only[PV.ren,PV.mB,PV.kA,auD]
theorem kc(size:Nat):∀(n:Nat)(cs:V_),chunks size n (cs.map (PV.ren r))=(chunks size n cs).map λx=>x.map (PV.ren r)
 |0,_=>rfl
 |n+1,cs=>by simp only[chunks,avH,axQ,<-ayH,kc size n]
end
def POp.clo:POp->Bool
 | .mv x | .same x | .un _ x | .conv _ x | .box _ x | .load _ x | .atC x | .atU _ x | .field _ _ x | .len x | .atQ x | .auC x | .isNil _ x | .extract x _ | .atD x=>x.clo
 | .pick c a b=>c.clo&&(a.clo&&b.clo)
 | .bin _ x y | .eqb _ x y | .eqs _ _ x y | .atG _ x y | .idxA _ _ x y | .idxV _ _ _ x y | .atS x y | .atK _ x y | .store _ x y | .append _ _ x y=>x.clo&&y.clo
 | .alloc cells=>PV.bounds 0 cells
 | .build zero parts=>PV.bounds 0 zero&&parts.all λx=>x.2.2.clo
 | .asV _ _ _ zero parts=>PV.bounds 0 zero&&parts.all λx=>x.2.clo
 | .slice _ x lo hi mx=>x.clo&&(lo.all aP.clo&&(hi.all aP.clo&&mx.all aP.clo))
 | .atM x lo hi=>x.clo&&(lo.all aP.clo&&hi.all aP.clo)
 | .sliceA _ _ x _ _ _=>x.clo
 | .asX _ _ zero l c=>PV.bounds 0 zero&&(l.clo&&c.clo)
 | .mkfn _ l=>l.all aP.clo
 | .call _ l=>l.all aP.clo
 | .atT x l=>x.clo&&l.all aP.clo
 |_=>false
section
variable {r:Nat->Nat} {F:PF} {h H:PH}
theorem UR(M:SF r h H){op:POp}{v:PV}(A:op.clo=true)(e:aZ op F h=some v):aZ op (F.ren r) H=some (v.ren r):=by
 cases op<;>try (simp[aZ]at e;done)
 case mv x=>exact cU A e
 case pick c a b=>
  simp only[POp.clo,auI]at A;simp only[aZ]at e ⊢;split at e
  ·rename_i t u;rw[cU A.1 u];cases t with
   |true=>exact cU A.2.1 e
   |false=>exact cU A.2.2 e
  ·cases e
 case bin op x y=>
  simp only[POp.clo,auI]at A;simp only[aZ]at e ⊢;split at e
  ·rename_i a b u E;rw[cU A.1 u,cU A.2 E];exact ahG e
  ·cases e
 case eqb n x y=>
  simp only[POp.clo,auI]at A;simp only[aZ]at e ⊢;split at e
  ·rename_i a b u E;rw[cU A.1 u,cU A.2 E];cases e;rfl
  ·cases e
 case eqs n ks x y=>
  simp only[POp.clo,auI]at A;simp only[aZ]at e ⊢;split at e
  ·rename_i a b u E;rw[cU A.1 u,cU A.2 E];simp only[PV.ren,PV.fB];cases J:PV.eqs ks a b with
   |none=>rw[J]at e;cases e
   |some t=>rw[J]at e;rw[Mc J];cases e;rfl
  ·cases e
 case un op x=>
  simp only[aZ]at e ⊢;split at e
  ·rename_i a u;rw[cU A u];exact alD e
  ·cases e
 case conv k x=>
  simp only[aZ]at e ⊢;split at e
  ·rename_i O n u;rw[cU A u];cases e;rfl
  ·cases e
 case same x=>
  simp only[aZ]at e ⊢;split at e
  ·rename_i s u;rw[cU A u];cases e;rfl
  ·cases e
 case box ro x=>
  cases ro with
  |false=>simp[aZ]at e
  |true=>
   simp only[aZ]at e ⊢;split at e
   ·rename_i a u;rw[cU A u];simp only[xB,vH];split at e
    ·rename_i E;rw[aD E];cases e;simp only[PV.ren,PV.fB]
    ·cases e
   ·cases e
 case build zero parts=>
  simp only[POp.clo,auI]at A;simp only[aZ]at e ⊢;cases u:pP zero F parts with
  |none=>rw[u]at e;cases e
  |some w =>rw[u]at e;have E:=zb (r:=r) A.2 u;rw[PV.oJ A.1]at E;rw[E];cases e;simp only[avB,PV.ren,PV.fB]
 case asV ro size len zero parts=>
  cases ro with
  |false=>simp[aZ]at e
  |true=>
   simp only[POp.clo,auI]at A;simp only[aZ]at e ⊢;split at e
   ·rename_i N;rw[aD N];cases u:gQ size (auL len zero) F parts with
    |none=>rw[u]at e;cases e
    |some w =>rw[u]at e;have E:=FU (r:=r) A.2 u;rw[List.map_replicate,PV.oJ A.1]at E;rw[E];cases e;simp only[avB,PV.ren,PV.kA]
   ·cases e
 case load n p=>
  cases n with
  |none=>
   simp only[aZ]at e ⊢;split at e
   ·rename_i a u;rw[cU A u];split at e
    ·rename_i w E;have J:=vP M E;simp only[avH,avY]at J;simp only[J];cases e;rfl
    ·cases e
   ·cases e
  |some n=>
   simp only[aZ]at e ⊢;split at e
   ·rename_i a u;rw[cU A u];cases E:loadCells h a n with
    |none=>rw[E]at e;cases e
    |some w =>rw[E]at e;simp only[vP M E];cases e;simp only[avB,PV.ren,PV.fB]
   ·cases e
 case atC x=>
  simp only[aZ]at e ⊢;split at e
  ·rename_i u;rw[cU A u];cases e;rfl
  ·rename_i u;rw[cU A u];cases e;rfl
  ·cases e
 case atU off x=>
  simp only[aZ]at e ⊢;split at e
  ·rename_i u;rw[cU A u];cases e;rfl
  ·rename_i u;rw[cU A u];cases e;simp only[PV.ren,PV.fB,ayH]
  ·cases e
 case field off n x=>
  simp only[aZ]at e ⊢;split at e
  ·rename_i cs u;rw[cU A u];simp only[PV.ren,PV.fB];split at e
   ·rw[avC,e];rfl
   ·split at e
    ·rename_i E;rw[auD,aD E,<-ayH,<-axQ];cases e;simp only[PV.ren,PV.fB]
    ·cases e
  ·cases e
 case atG size x i=>
  simp only[POp.clo,auI]at A;simp only[aZ]at e ⊢;split at e
  ·rename_i s rows k n u E;rw[cU A.1 u,cU A.2 E];simp only[PV.ren,PV.kA];split at e
   ·rename_i J;rw[aD J,avC];split at e
    ·rename_i q K;rw[K];cases e;simp only[avB,PV.ren,PV.fB]
    ·cases e
   ·cases e
  ·rename_i o s off len k n u E;rw[cU A.1 u,cU A.2 E];simp only[PV.ren];split at e
   ·rename_i J;rw[aD J];cases e;rfl
   ·cases e
  ·cases e
 case idxA n size x i=>
  simp only[POp.clo,auI]at A;simp only[aZ]at e ⊢;split at e
  ·rename_i u E;rw[cU A.1 u,cU A.2 E];simp only[PV.ren];split at e
   ·rename_i J;rw[aD J];cases e;rfl
   ·cases e
  ·rename_i u E;rw[cU A.1 u,cU A.2 E];simp only[PV.ren,PV.fB];split at e
   ·rename_i J;rw[aD J];cases e;simp only[PV.ren,PV.fB,ayH]
   ·cases e
  ·cases e
 case idxV n size ag x i=>
  simp only[POp.clo,auI]at A;simp only[aZ]at e ⊢;split at e
  ·rename_i u E;rw[cU A.1 u,cU A.2 E];simp only[PV.ren,PV.fB,auD];split at e
   ·rename_i J;rw[aD J];cases ag with
    |true=>
     simp only[if_true]at e ⊢;split at e
     ·rename_i K;rw[aD K,<-ayH,<-axQ];cases e;simp only[PV.ren,PV.fB]
     ·cases e
    |false =>simp only[awQ,if_false]at e ⊢;rw[avC,e];rfl
   ·cases e
  ·cases e
 case atS x i=>
  simp only[POp.clo,auI]at A;simp only[aZ]at e ⊢;split at e
  ·rename_i s k n u E;rw[cU A.1 u,cU A.2 E];simp only[PV.ren];split at e
   ·rename_i J;rw[aD J];cases K:s[n.toNat]? with
    |none=>rw[K]at e;cases e
    |some b=>rw[K]at e;cases e;rfl
   ·cases e
  ·cases e
 case atM x lo hi=>
  simp only[POp.clo,auI]at A;simp only[aZ]at e ⊢;split at e
  ·rename_i s u;rw[cU A.1 u];simp only[PV.ren];split at e
   ·rename_i l m E J;rw[KN A.2.1 E,KN A.2.2 J];simp only;split at e
    ·rename_i K;rw[aD K];cases e;rfl
    ·cases e
   ·cases e
  ·cases e
 case sliceA n size x lo hi mx=>
  cases lo<;>cases hi<;>cases mx<;>try (simp[aZ]at e;done)
  simp only[aZ]at e ⊢;split at e
  ·rename_i cs u;rw[cU A u];simp only[PV.ren,PV.fB,auD];split at e
   ·rename_i J;rw[aD J];cases e;simp only[PV.ren,PV.kA,kc]
   ·cases e
  ·cases e
 case len x=>
  simp only[aZ]at e ⊢;cases u:x.ev F with
  |none=>rw[u]at e;cases e
  |some a=>rw[u]at e;rw[cU A u];exact Zo e
 case atQ x=>
  simp only[aZ]at e ⊢;split at e
  ·rename_i u;rw[cU A u];cases e;rfl
  ·cases e
 case lenM x=>simp[POp.clo]at A
 case auC x=>
  simp only[aZ]at e ⊢;split at e
  ·rename_i u;rw[cU A u];cases e;rfl
  ·cases e
 case isNil n x=>
  simp only[aZ]at e ⊢;cases u:x.ev F with
  |none=>rw[u]at e;cases e
  |some a=>
   rw[u]at e;rw[cU A u];simp only[ayE]at e ⊢;cases E:a.vF with
   |none=>rw[E]at e;cases e
   |some b=>rw[E]at e;rw[Px E];cases e;rfl
 case extract x i=>
  simp only[aZ]at e ⊢;split at e
  ·rename_i vs u;rw[cU A u];simp only[PV.ren,PV.fB];rw[avC,e];rfl
  ·cases e
 case atK mx x y=>
  simp only[POp.clo,auI]at A;simp only[aZ]at e ⊢;split at e
  ·rename_i u E;rw[cU A.1 u,cU A.2 E];simp only[PV.ren];split at e
   ·rename_i J;rw[aD J];cases e;rfl
   ·cases e
  ·cases e
 case mkfn name l=>
  simp only[aZ]at e ⊢;cases u:aP.evs F l with
  |none=>rw[u]at e;cases e
  |some vs =>rw[u]at e;rw[EM A u];cases e;simp only[avB,PV.ren,PV.fB]
 case lookup=>simp[POp.clo]at A
 case atD x=>
  simp only[aZ]at e ⊢;split at e
  ·rename_i a u;rw[cU A u];split at e
   ·rename_i rows E;simp only[zF M E];cases J:iM rows with
    |none=>rw[J]at e;cases e
    |some s=>rw[J]at e;rw[FO J];cases e;rfl
   ·cases e
  ·cases e
 case slice size x lo hi mx=>
  simp only[POp.clo,auI]at A;simp only[aZ]at e ⊢;split at e
  ·rename_i a u;rw[cU A.1 u];cases a<;>try (simp at e;done)
   all_goals
    simp only[PV.ren,PV.kA,auD]at e ⊢;split at e
    ·rename_i l m E J;rw[KN A.2.1 E,KN A.2.2.1 J];simp only;cases mx with
     |none =>simp only at e ⊢;have K:=A9 (r:=r) e;simpa only [PV.ren,PV.kA]using K
     |some q=>
      simp only at e ⊢;cases h5:bnd F 0 (some q)with
      |none=>rw[h5]at e;cases e
      |some z =>rw[h5]at e;rw[KN A.2.2.2 h5];have K:=A9 (r:=r) (by simpa using e);simpa only [PV.ren,PV.kA,ayE]using K
    ·cases e
  ·cases e
end
inductive Fr where
 |nil
 |node (v:Option PV) (l r:Fr)
def Fr.pf:Fr->PF
 | .nil,_=>none
 | .node v l r,i=>cond (awK i 0) v (cond (awK (i%2) 1) (l.pf (i/2)) (r.pf (i/2-1)))
def Fr.set:Fr->Nat->PV->Fr
 | .nil,_,_=>.nil
 | .node v l r,i,x=>cond (awK i 0) (.node (some x) l r) (cond (awK (i%2) 1) (.node v (l.set (i/2) x) r) (.node v l (r.set (i/2-1) x)))
def Fr.has:Fr->Nat->Bool
 | .nil,_=>false
 | .node _ l r,i=>cond (awK i 0) true (cond (awK (i%2) 1) (l.has (i/2)) (r.has (i/2-1)))
def Fr.put(l:Fr)(d:O_)(v:PV):Fr:=match d with
 |none=>l
 |some d=>l.set d v
def Fr.fits(l:Fr)(d:O_):Bool:=match d with
 |none=>true
 |some d=>l.has d
theorem Ew(i j:Nat):awK i j=decide (i=j):=by
 rw[Bool.eq_iff_iff,Nat.beq_eq,dT_]
theorem Fr.qn:∀{l:Fr}{d:Nat}{v:PV},l.has d=true->(l.set d v).pf=λi=>if i=d then some v else l.pf i
 | .nil,d,v,h=>by cases h
 | .node w l r,d,v,h=>by funext i;simp only[Fr.has,Fr.set,Ew]at h ⊢;by_cases A:d=0;subst A;simp only[decide_true,cond_true,Fr.pf,Ew];by_cases y:i=0<;>simp[y];simp only[A,decide_false,cond_false]at h ⊢;by_cases E:d%2=1;simp only[E,decide_true,cond_true]at h ⊢;simp only[Fr.pf,Ew,Fr.qn h];by_cases y:i=0;simp only[y,decide_true,cond_true];rw[aB (λe=>A e.symm)];simp only[y,decide_false,cond_false];by_cases u:i%2=1;simp only[u,decide_true,cond_true];by_cases e:i=d;rw[aD e,aD (by rw[e])];rw[aB e,aB Om];simp only[u,decide_false,cond_false];rw[aB (by intro e;rw[e]at u;exact u E)];simp only[E,decide_false,cond_false]at h ⊢;simp only[Fr.pf,Ew,Fr.qn h];by_cases y:i=0;simp only[y,decide_true,cond_true];rw[aB (λe=>A e.symm)];simp only[y,decide_false,cond_false];by_cases u:i%2=1;simp only[u,decide_true,cond_true];rw[aB (by intro e;rw[e]at u;exact E u)];simp only[u,decide_false,cond_false];by_cases e:i=d;rw[aD e,aD (by rw[e])];rw[aB e,aB Om]
theorem Fr.Vm{l:Fr}{d:O_}{v:PV}(h:l.fits d=true):(l.put d v).pf=l.pf.put d v:=by
 cases d with
 |none=>rfl
 |some d =>simp only[Fr.put];rw[Fr.qn h];rfl
def Fr.empty:Nat->Fr
 |0=>.nil
 |n+1=>.node none (Fr.empty n) (Fr.empty n)
theorem Fr.Fm:∀(n i:Nat),(Fr.empty n).pf i=none
 |0,i=>rfl
 |n+1,i=>by simp only[Fr.empty,Fr.pf,Ew];cases decide (i=0)<;>cases decide (i%2=1)<;>simp[Fr.Fm n]
def Fr.args:V_->Nat->Fr->Option Fr
 |[],_,f=>some f
 |v::vs,k,f=>cond (f.has k) (Fr.args vs (k+1) (f.set k v)) none
theorem Fr.Lw:∀{vs:V_}{k:Nat}{f g:Fr},Fr.args vs k f=some g->g.pf=λi=>if i<k then f.pf i else match vs[i-k]? with|some v=>some v|none=>f.pf i
 |[],k,f,g,h=>by cases h;funext i;split<;>simp
 |v::vs,k,f,g,h=>by
  simp only[Fr.args]at h;cases l:f.has k with
  |false=>rw[l]at h;cases h
  |true=>
   rw[l]at h;rw[Fr.Lw h,Fr.qn l];funext i;show(if i<k+1 then(if i=k then some v else f.pf i)else match vs[i-(k+1)]? with|some w=>some w|none=>(if i=k then some v else f.pf i))=if i<k then f.pf i else match(v::vs)[i-k]? with|some w=>some w|none=>f.pf i
   rcases Nat.lt_trichotomy i k with c|c|c
   rw[aD Om,aB Om,aD c];subst c;rw[aD Om,aD rfl,aB Om,awU];rfl;rw[aB Om,aB Om,aB Om];obtain⟨d,u⟩:∃d,i-k=d+1:=⟨i-k-1,by omega⟩;rw[u,show i-(k+1)=d by omega];rfl
abbrev Hp:=List aW
def aW.live:aW->Option aW
 | .rows s rs=>some (.rows s rs)
 |_=>none
def Hp.ph(l:Hp):PH:=⟨λo=>(l[o]?).bind aW.live,l'' l,λo i=>by simp[avZ i]⟩
theorem Hp.mC(l:Hp)(o:Nat):l.ph o=(l[o]?).bind aW.live:=rfl
def aW.Bd(n:Nat):aW->Prop
 | .rows _ rs=>PV.gZ n rs=true
 |_=>True
def v8(n:Nat)(f:Fr):Prop:=∀i v,f.pf i=some v->v.bound n=true
structure Rl(r:Nat->Nat)(f:Fr)(h:Hp)(F:PF)(H:PH):Prop where
 fr:F=f.pf.ren r
 hp:SF r h.ph H
 inj:∀i j x y,h.ph i=some x->h.ph j=some y->r i=r j->i=j
 fb:v8 h.length f
 hb:∀x∈h,aW.Bd h.length x
def gR(n:Nat)(r r':Nat->Nat):Prop:=∀i,i<n->r i=r' i
mutual
theorem PV.tW{n m:Nat}(h:n<=m):∀v:PV,v.bound n=true->v.bound m=true
 | .osl o s off len,hb=>by simp only[PV.bound,dT_]at hb ⊢;omega
 | .ptr o s i c,hb=>by simp only[PV.bound,dT_]at hb ⊢;omega
 | .map o,hb=>by simp only[PV.bound,dT_]at hb ⊢;omega
 | .sl s rows,hb=>by simp only[PV.bound]at hb ⊢;exact PV.xV h rows hb
 | .bQ cs,hb=>by simp only[PV.bound]at hb ⊢;exact PV.pY h cs hb
 | .fn _ cs,hb=>by simp only[PV.bound]at hb ⊢;exact PV.pY h cs hb
 | .agg cs,hb=>by simp only[PV.bound]at hb ⊢;exact PV.pY h cs hb
 | .tup cs,hb=>by simp only[PV.bound]at hb ⊢;exact PV.pY h cs hb
 | .int _ _,_=>rfl
 | .bool _,_=>rfl
 | .str _,_=>rfl
 | .aE,_=>rfl
 | .lit _,_=>rfl
 | .junk,_=>rfl
theorem PV.pY{n m:Nat}(h:n<=m):∀l:V_,PV.bounds n l=true->PV.bounds m l=true
 |[],_=>rfl
 |v::vs,hb=>by simp only[PV.bounds,auI]at hb ⊢;exact⟨PV.tW h v hb.1,PV.pY h vs hb.2⟩
theorem PV.xV{n m:Nat}(h:n<=m):∀l:P2_,PV.gZ n l=true->PV.gZ m l=true
 |[],_=>rfl
 |v::vs,hb=>by simp only[PV.gZ,auI]at hb ⊢;exact⟨PV.pY h v hb.1,PV.xV h vs hb.2⟩
end
def PV.BE(n:Nat)(v:PV):Bool:=cond (v.bound 0) true (v.bound n)
theorem PV.xU{n:Nat}{v:PV}(h:v.BE n=true):v.bound n=true:=by
 unfold PV.BE at h;cases e:v.bound 0 with
 |true=>exact PV.tW (auK _) v e
 |false=>rw[e]at h;exact h
theorem aW.Bd.mono{n m:Nat}(h:n<=m){x:aW}(hb:x.Bd n):x.Bd m:=by
 cases x with
 |rows s rs=>exact PV.xV h rs hb
 |_=>trivial
theorem aW.oI{n:Nat}{r r':Nat->Nat}(h:gR n r r'){x:aW}(hb:x.Bd n):x.ren r=x.ren r':=by
 cases x with
 |rows s rs=>simp only[aW.ren,<-PV.kA];rw[PV.JK h rs hb]
 |_=>rfl
theorem PF.oI{n:Nat}{r r':Nat->Nat}(h:gR n r r'){f:Fr}(hb:v8 n f):f.pf.ren r=f.pf.ren r':=by
 funext i;unfold PF.ren;cases e:f.pf i with
 |none=>rfl
 |some v=>rw[avB,avB,PV.UU h v (hb i v e)]
theorem PF.ahI(r:Nat->Nat)(F:PF)(d:O_)(v:PV):(F.put d v).ren r=(F.ren r).put d (v.ren r):=by
 cases d with
 |none=>rfl
 |some d =>funext i;simp only[PF.put,PF.ren,PF.set,upd];split<;>rfl
theorem lW{l:Hp}{o:Nat}{x:aW}(h:l.ph o=some x):l[o]?=some x/\o<l'' l:=by
 rw[Hp.mC]at h;cases e:l[o]? with
 |none=>rw[e]at h;cases h
 |some y=>
  rw[e]at h;have hlt:=(avP.1 e).1;cases y with
  |rows=>cases h;exact⟨rfl,hlt⟩
  |_=>cases h
theorem Hp.LO{l:Hp}{o:Nat}{x:aW}(u:o<l'' l)(q:Nat):Hp.ph (l.set o x) q=if q=o then x.live else l.ph q:=by
 rw[Hp.mC,Hp.mC,ayG];by_cases e:o=q;subst e;rw[aD rfl,aD u,aD rfl];rfl;rw[aB e,aB (λi=>e i.symm)]
theorem Hp.zY{l:Hp}{x:aW}(q:Nat):Hp.ph (l++[x]) q=if q=l.length then x.live else l.ph q:=by
 rw[Hp.mC,Hp.mC];by_cases e:q=l'' l;subst e;rw[aD rfl,awH (auG _),awU];rfl;rw[aB e];rcases avF q l.length with h|h
 rw[awR h];rw[awH h,avZ (show[x].length<=q-l.length by simp;omega),avZ h]
theorem aW.BO{x y:aW}(h:x.live=some y):x=y:=by
 cases x<;>first|cases h;done|(cases h;rfl)
section
variable {r:Nat->Nat} {f:Fr} {h:Hp} {F:PF} {H:PH}
theorem Rl.push(R:Rl r f h F H){x:aW}(K:x.Bd h.length){o:Nat}(O:H o=none) :
  Rl (λi=>if i=h.length then o else r i) f (h++[x]) F (H.set o (x.ren r))/\gR h.length r (λi=>if i=h.length then o else r i):=by
 have A:gR h.length r (λi=>if i=h.length then o else r i):=λi hi=>by
  show r i=if i=h.length then o else r i
  rw[aB Om]
 have l:∀i y,h.ph i=some y->r i≠o:=λi y hy e=>by have:=R.hp i y hy;rw[e,O]at this;cases this
 have J:(h++[x]).length=l'' h+1:=by simp
 refine⟨⟨?_,λi y hy=>?_,λi j y z hy w e=>?_,λi v Q=>?_,λy hy=>?_⟩,A⟩;rw[R.fr];exact PF.oI A R.fb;rw[Hp.zY]at hy;by_cases e:i=l'' h;rw[aD e]at hy;have:=aW.BO hy;subst this;show(H.set o (x.ren r)) (if i=h.length then o else r i)=_;rw[aD e,aW.oI A K];simp[PH.set,PH.upd,upd];rw[aB e]at hy;show(H.set o (x.ren r)) (if i=h.length then o else r i)=_;rw[aB e];have E:=R.hp i y hy;have M:=lW hy;rw[aW.oI A (R.hb y (awW M.1))]at E;have N:=l i y hy;simp only[PH.set,PH.upd,upd];rw[aB N];exact E;rw[Hp.zY]at hy w
 try simp only at e
 by_cases u:i=l'' h;by_cases e2:j=l'' h;omega;rw[aD u,aB e2]at e;rw[aB e2]at w;exact absurd e.symm (l j z w);by_cases e2:j=l'' h;rw[aB u,aD e2]at e;rw[aB u]at hy;exact absurd e (l i y hy);rw[aB u,aB e2]at e;rw[aB u]at hy;rw[aB e2]at w;exact R.inj i j y z hy w e;rw[J];exact PV.tW (Nat.le_succ _) v (R.fb i v Q);rw[J];rcases avX.1 hy with hy|hy
 exact(R.hb y hy).mono (Nat.le_succ _);rw[avN]at hy;subst hy;exact K.mono (Nat.le_succ _)
theorem Rl.VQ(R:Rl r f h F H){o:Nat}{x y:aW}(A:h.ph o=some x)(Q:y.Bd h.length):Rl r f (h.set o y) F (H.set (r o) (y.ren r)):=by
 have hlt:=(lW A).2;refine⟨R.fr,λi z l=>?_,λi j z w l J e=>?_,λi v O=>?_,λz l=>?_⟩;rw[Hp.LO hlt]at l;by_cases e:i=o;rw[aD e]at l;have:=aW.BO l;subst this;subst e;simp[PH.set,PH.upd,upd];rw[aB e]at l;simp only[PH.set,PH.upd,upd];rw[aB (λN=>e (R.inj i o z x l A N))];exact R.hp i z l;rw[Hp.LO hlt]at l J;have h1:∃M,h.ph i=some M:=by by_cases u:i=o;subst u;exact⟨x,A⟩;rw[aB u]at l;exact⟨z,l⟩
 have E:∃K,h.ph j=some K:=by by_cases u:j=o;subst u;exact⟨x,A⟩;rw[aB u]at J;exact⟨w,J⟩
 obtain⟨M,h1⟩:=h1;obtain⟨K,E⟩:=E;exact R.inj i j M K h1 E e;rw[avT];exact R.fb i v O;rw[avT];rcases ayU l with h1|h1
 exact R.hb z h1;subst h1;exact Q
theorem Rl.drop(R:Rl r f h F H)(o:Nat):Rl r f (h.set o .dead) F H:=by
 have u:∀i z,Hp.ph (h.set o .dead) i=some z->h.ph i=some z:=λi z l=>by rw[Hp.mC,ayG]at l;by_cases e:o=i;rw[aD e]at l;split at l<;>cases l;rw[aB e]at l;exact l
 refine⟨R.fr,λi z l=>R.hp i z (u i z l),λi j z w l A e=>R.inj i j z w (u i z l) (u j w A) e,λi v y=>?_,λz l=>?_⟩;rw[avT];exact R.fb i v y;rw[avT];rcases ayU l with h1|h1
 exact R.hb z h1;subst h1;trivial
theorem Rl.move(R:Rl r f h F H){o:Nat}{x y:aW}(K:h.ph o=some x)(Q:y.Bd h.length) :
  Rl (λi=>if i=h.length then r o else r i) f (h.set o .dead++[y]) F (H.set (r o) (y.ren r))/\gR h.length r (λi=>if i=h.length then r o else r i):=by
 have hlt:=(lW K).2;have J:gR h.length r (λi=>if i=h.length then r o else r i):=λi hi=>by
  show r i=if i=h.length then r o else r i
  rw[aB Om]
 have E:(h.set o .dead).length=l'' h:=avT ..;have l:∀i z,i≠l'' h->Hp.ph (h.set o .dead++[y]) i=some z->i≠o/\h.ph i=some z:=λi z hi hz=>by rw[Hp.zY,E,aB hi,Hp.LO hlt]at hz;by_cases e:i=o;rw[aD e]at hz;cases hz;rw[aB e]at hz;exact⟨e,hz⟩
 have N:(h.set o .dead++[y]).length=l'' h+1:=by simp
 refine⟨⟨?_,λi z hz=>?_,λi j z w hz O e=>?_,λi v U=>?_,λz hz=>?_⟩,J⟩;rw[R.fr];exact PF.oI J R.fb;show(H.set (r o) (y.ren r)) (if i=h.length then r o else r i)=_;by_cases e:i=l'' h;rw[aD e];rw[Hp.zY,E,aD e]at hz;have:=aW.BO hz;subst this;rw[<-aW.oI J Q];simp[PH.set,PH.upd,upd];rw[aB e];obtain⟨h1,u⟩:=l i z e hz;have M:=R.hp i z u;rw[aW.oI J (R.hb z (awW (lW u).1))]at M;simp only[PH.set,PH.upd,upd];rw[aB (λS=>h1 (R.inj i o z x u K S))];exact M
 try simp only at e
 by_cases A:i=l'' h;by_cases e2:j=l'' h;omega;rw[aD A,aB e2]at e;obtain⟨h1,u⟩:=l j w e2 O;exact absurd (R.inj o j x w K u e).symm h1;by_cases e2:j=l'' h;rw[aB A,aD e2]at e;obtain⟨h1,u⟩:=l i z A hz;exact absurd (R.inj i o z x u K e) h1;rw[aB A,aB e2]at e;exact R.inj i j z w (l i z A hz).2 (l j w e2 O).2 e;rw[N];exact PV.tW (Nat.le_succ _) v (R.fb i v U);rw[N];rcases avX.1 hz with hz|hz
 rcases ayU hz with h1|h1
 exact(R.hb z h1).mono (Nat.le_succ _);subst h1;trivial;rw[avN]at hz;subst hz;exact Q.mono (Nat.le_succ _)
theorem Rl.put(R:Rl r f h F H){d:O_}{v:PV}(u:f.fits d=true)(y:v.bound h.length=true):Rl r (f.put d v) h (F.put d (v.ren r)) H:=by
 refine⟨?_,R.hp,R.inj,λi w l=>?_,R.hb⟩;rw[Fr.Vm u,PF.ahI,R.fr]
 ·rw[Fr.Vm u]at l;cases d with
  |none=>exact R.fb i w l
  |some d =>simp only[PF.put,PF.set,upd]at l;split at l;cases l;exact y;exact R.fb i w l
end
end Go.PM
namespace Go.PM
open Go
def aW.bd(n:Nat):aW->Bool
 | .rows _ rs=>PV.gZ n rs
 |_=>false
theorem aW.zK{n:Nat}{x:aW}(h:x.bd n=true):x.Bd n:=by
 cases x<;>first|exact h|cases h
def Dk(n m bytes:Nat):Bool:=decide (n+m<=maxLen)&&decide ((n+m)*bytes<=140737488355328)
theorem aj{n m bytes:Nat}(h:Dk n m bytes=true):roomFor n m bytes:=by
 simp only[Dk,auI,dT_]at h;exact h
def xH(op:POp)(f:Fr)(h:Hp):Option (PV × Hp):=match cS op f.pf with
 |some (i,x)=>if x.bd h.length then some (i h.length,h++[x])else none
 |none=>none
def kU(op:POp)(f:Fr)(h:Hp):Option (PV × Hp):=match op with
 | .store n p x=>match p.ev f.pf,x.ev f.pf with
  |some (.ptr o s i c),some v=>match h[o]? with
   |some (.rows s' rs)=>match rs[i]? with
    |some q=>if(decide (l'' v.cells=n)&&(decide (s'=s)&&(decide (c+l'' v.cells<=s)&&v.cells.all PV.one)))&&aW.bd h.length (.rows s' (rs.set i (setCells q c v.cells)))then
      some (.junk,h.set o (.rows s' (rs.set i (setCells q c v.cells))))else none
    |none=>none
   |_=>none
  |_,_=>none
 | .append size bytes x y=>match x.ev f.pf,y.ev f.pf with
  |some .aE,some b=>match dP h.ph size b with
   |some []=>some (.aE,h)
   |some (a::src)=>if Dk 0 (a::src).length bytes&&aW.bd h.length (.rows size (a::src))then some (.osl h.length size 0 (a::src).length,h++[.rows size (a::src)])else none
   |none=>none
  |some (.osl o s 0 len),some b=>match dP h.ph size b,h[o]? with
   |some src,some (.rows s' rs)=>if(decide (s=size)&&(decide (s'=size)&&decide (len<=l'' rs)))&&(Dk len src.length bytes&&aW.bd h.length (.rows size (rs.take len++src)))then
     some (.osl h.length size 0 (len+l'' src),h.set o .dead++[.rows size (rs.take len++src)])else none
   |_,_=>none
  |_,_=>none
 |_=>none
noncomputable def BS(op:POp)(f:Fr)(h:Hp):Option (PV × Hp):=
 if op.clo then
  if op.iO then xH op f h else if op.eR then kU op f h else
   match aZ op f.pf h.ph with
   |some v=>if v.BE h.length then some (v,h)else none
   |none=>none
 else none
section
variable {r:Nat->Nat} {f:Fr} {h h':Hp} {F:PF} {H:PH} {K:R_} {v:PV}
theorem Kd{F:PF}{op:POp}{E:Nat->PV}{x:aW}(i:op.clo=true)(e:cS op F=some (E,x)) :
  ∃mk',cS op (F.ren r)=some (mk',x.ren r)/\(∀(q:Nat->Nat) n,mk' (q n)=(E n).ren q)/\∀n,(E n).bound (n+1)=true:=by
 cases op<;>try (simp[cS]at e;done)
 case alloc cells =>simp only[cS,awN.injEq,Prod.mk.injEq]at e ⊢;obtain⟨rfl,rfl⟩:=e;refine⟨_,⟨rfl,?_⟩,λq n=>rfl,λn=>by simp[PV.bound]⟩;simp only[aW.ren,avH,avY,PV.oJ i]
 case box ro y=>
  cases ro with
  |true=>simp[cS]at e
  |false=>
   simp only[cS]at e ⊢;split at e
   ·rename_i w u;rw[cU i u];simp only[xB,vH,auD];split at e
    ·rename_i A;rw[aD A];cases e;exact⟨_,rfl,λq n=>rfl,λn=>by simp[PV.bound]⟩
    ·cases e
   ·cases e
 case asV ro size len zero parts=>
  cases ro with
  |true=>simp[cS]at e
  |false=>
   simp only[POp.clo,auI]at i;simp only[cS]at e ⊢;split at e
   ·rename_i J;rw[aD J];cases u:gQ size (auL len zero) F parts with
    |none=>rw[u]at e;cases e
    |some w =>rw[u]at e;have A:=FU (r:=r) i.2 u;rw[List.map_replicate,PV.oJ i.1]at A;rw[A];cases e;exact⟨_,rfl,λq n=>rfl,λn=>by simp[PV.bound]⟩
   ·cases e
 case asX size bytes zero l c=>
  simp only[POp.clo,auI]at i;simp only[cS]at e ⊢;split at e
  ·rename_i k n O m u A;rw[cU i.2.1 u,cU i.2.2 A];simp only[PV.ren];split at e
   ·rename_i M;rw[aD M];cases e;have N:aW.ren r (.rows size (auL n.toNat zero))=.rows size (auL n.toNat zero):=by simp only[aW.ren,List.map_replicate,PV.oJ i.1]
    rw[N];exact⟨_,rfl,λq n=>rfl,λn=>by simp[PV.bound]⟩
   ·cases e
  ·cases e
 case atX sh=>simp[POp.clo]at i
theorem RZ{op:POp}{d:O_}{K:K_}(R:Rl r f h F H)(E:op.clo=true)(e:xH op f h=some (v,h'))
  (J:∀r' H',gR h.length r r'->Rl r' f h' F H'->v.bound h'.length=true->K (F.put d (v.ren r')) H'):oG (cS op F) d K F H:=by
 unfold xH at e;cases i:cS op f.pf with
 |none=>rw[i]at e;cases e
 |some p =>obtain⟨N,x⟩:=p;rw[i]at e;simp only at e;split at e;rename_i hb;cases e;obtain⟨mk',l,w,y⟩:=Kd (r:=r) E i;rw[<-R.fr]at l;refine⟨mk',x.ren r,l,λo M=>?_⟩;obtain⟨u,A⟩:=R.push (aW.zK hb) M;have:=J _ _ A u (by rw[auJ];exact y _);rw[<-w]at this;simpa using this;cases e
theorem IG{op:POp}(R:Rl r f h F H)(l:op.clo=true)(e:kU op f h=some (v,h'))
  (S:∀r' H',gR h.length r r'->Rl r' f h' F H'->v.bound h'.length=true->K (v.ren r') H'):cD op F H K:=by
 have u:=R.fr;cases op<;>try (simp[kU]at e;done)
 case store n p x=>
  simp only[POp.clo,auI]at l;simp only[kU]at e;split at e
  ·rename_i o s i c w N O;split at e
   ·rename_i s' rs E;split at e
    ·rename_i q V;split at e
     ·rename_i h5;simp only[auI,dT_]at h5;obtain⟨⟨W,rfl,h7,h8⟩,h9⟩:=h5;cases e;simp only[cD,u,cU l.1 N,cU l.2 O];have J:h.ph o=some (.rows s' rs):=by rw[Hp.mC,E];rfl
      refine⟨by rw[xB,auD];exact W,_,?_,S r _ (λ_ _=>rfl) (R.VQ J (aW.zK h9)) rfl⟩;simp only[PV.ren,storeAt,R.hp o _ J,aW.ren,xB,vH,auD];rw[aD ⟨trivial,h7,h8⟩,avC,V];simp only[avB,List.map_set,GI]
     ·cases e
    ·cases e
   ·cases e
  ·cases e
 case append size bytes x y=>
  simp only[POp.clo,auI]at l;simp only[kU]at e;split at e
  ·rename_i b N O;split at e
   ·rename_i E;cases e;simp only[cD,u,cU l.1 N,cU l.2 O];refine⟨[],zF R.hp E,⟨by simp[maxLen],by simp⟩,λ_=>S r H (λ_ _=>rfl) R rfl,λY=>absurd rfl Y⟩
   ·rename_i a src E;split at e
    ·rename_i h5;simp only[auI]at h5;cases e;simp only[cD,u,cU l.1 N,cU l.2 O];refine⟨_,zF R.hp E,?_⟩;simp only[PV.ren];refine⟨by rw[auD];exact aj h5.1,λY=>by simp at Y,λ_ o J=>?_⟩;obtain⟨M,Q⟩:=R.push (aW.zK h5.2) J;have:=S _ _ Q M (by simp[PV.bound]);simpa[PV.ren,aW.ren]using this
    ·cases e
   ·cases e
  ·rename_i o s len b N O;split at e
   ·rename_i src s' rs E V;split at e
    ·rename_i h5;simp only[auI,dT_]at h5;obtain⟨⟨rfl,rfl,W⟩,h7,h8⟩:=h5;cases e;have J:h.ph o=some (.rows s' rs):=by rw[Hp.mC,V];rfl
     simp only[cD,u,cU l.1 N,cU l.2 O];refine⟨_,zF R.hp E,?_⟩;simp only[PV.ren];have U:=R.hp o _ J;simp only[aW.ren]at U;have A:(List.map (λx=>List.map (PV.ren r) x) rs).take len++List.map (λx=>List.map (PV.ren r) x) src=List.map (λx=>List.map (PV.ren r) x) (rs.take len++src):=by rw[avD,axQ]
     refine⟨trivial,trivial,by rw[auD];exact aj h7,_,U,by rw[auD];exact W,?_,λo' Z=>?_⟩
     ·obtain⟨M,Q⟩:=R.move J (aW.zK h8);have:=S _ _ Q M (by simp[PV.bound]);rw[A,auD];simpa[PV.ren,aW.ren]using this
     ·obtain⟨M,Q⟩:=(R.drop o).push (x:=.rows s' (rs.take len++src)) (by rw[avT];exact aW.zK h8) Z;rw[avT]at Q M;have:=S _ _ Q M (by simp[PV.bound]);rw[A,auD];simpa[PV.ren,aW.ren]using this
    ·cases e
   ·cases e
  ·cases e
end
abbrev gD:=Nat->V_->Hp->Option (PV × Hp)
abbrev KG:=List (bY × Bool)->Fr->Hp->Option (Fr × Hp)
noncomputable def YD(call:gD)(op:POp)(f:Fr)(h:Hp):Option (PV × Hp):=match op with
 | .call name args=>if args.all aP.clo then match aP.evs f.pf args with
  |some vs=>call name vs h
  |none=>none
  else none
 | .atT x args=>if x.clo&&args.all aP.clo then match x.ev f.pf,aP.evs f.pf args with
  |some (.fn name cs),some vs=>call name (vs++cs) h
  |_,_=>none
  else none
 |op=>BS op f h
noncomputable def yV(call:gD):List bY->Fr->Hp->Option (Fr × Hp)
 |[],f,h=>some (f,h)
 |i::rest,f,h=>if f.fits i.dst then match i.guard with
   |none=>match YD call i.op f h with
    |some (v,h')=>yV call rest (f.put i.dst v) h'
    |none=>none
   |some (t,l)=>match f.pf t with
    |some (.bool b)=>if b=l then match YD call i.op f h with
      |some (v,h')=>yV call rest (f.put i.dst v) h'
      |none=>none
     else yV call rest (f.put i.dst (.tup [])) h
    |some (.tup [])=>yV call rest (f.put i.dst (.tup [])) h
    |_=>none
  else none
noncomputable def qQ(call:gD)(dr:KG):Nat->aK->Fr->Hp->Option (lE × Fr × Hp)
 |0,_,_,_=>none
 |n+1,c,f,h=>match c with
  | .skip=>some (.normal,f,h)
  | .region ops=>match yV call ops f h with
   |some (f',h')=>some (.normal,f',h')
   |none=>none
  | .draw ops=>match dr ops f h with
   |some (f',h')=>some (.normal,f',h')
   |none=>none
  | .seq a b=>match qQ call dr n a f h with
   |some (.normal,f',h')=>qQ call dr n b f' h'
   |x=>x
  | .cond x a b=>if x.clo then match x.ev f.pf with
   |some (.bool t)=>if t then qQ call dr n a f h else qQ call dr n b f h
   |_=>none
   else none
  | .block id c=>match qQ call dr n c f h with
   |some (.exit i,f',h')=>if i=id then some (.normal,f',h')else some (.exit i,f',h')
   |x=>x
  | .loop c=>match qQ call dr n c f h with
   |some (.normal,f',h')=>qQ call dr n (.loop c) f' h'
   |x=>x
  | .exit id=>some (.exit id,f,h)
  | .ret=>some (.ret,f,h)
def Comes(r:Nat->Nat)(n:Nat)(v:PV)(h':Hp)(i:PV)(H':PH):Prop:=
 ∃r',gR n r r'/\Rl r' .nil h' n_ H'/\i=v.ren r'/\v.bound h'.length=true/\n<=l'' h'
def Exact(r:Nat->Nat)(h:Hp)(H:PH):Prop:=∀o x,H o=some x->∃i y,h.ph i=some y/\r i=o
def pJ(C:Ctx)(call:gD):Prop:=∀name vs h v h',call name vs h=some (v,h')->∀r H,Rl r .nil h n_ H->Exact r h H->PV.bounds h.length vs=true ->
 aG C name (vs.map (PV.ren r)) H (Comes r h.length v h')
def jo(C:Ctx)(call:gD):Prop:=∀name vs h v h',call name vs h=some (v,h')->∀r f F H d (K:K_),Rl r f h F H->PV.bounds h.length vs=true ->
 (∀r' H',gR h.length r r'->l'' h<=l'' h'->Rl r' f h' F H'->v.bound h'.length=true->K (F.put d (v.ren r')) H')->tQ C name (some (vs.map (PV.ren r))) d K F H
def D7(C:Ctx)(dr:KG):Prop:=∀ops f h f' h',dr ops f h=some (f',h')->∀r F H,Rl r f h F H->∀K:K_,
 (∀r' i H',gR h.length r r'->l'' h<=l'' h'->Rl r' f' h' i H'->K i H')->∃Hs S,PH.le Hs H/\wpD C Hs S ops K F H
theorem gR.trans{n m:Nat}{r r' l:Nat->Nat}(h:gR n r r')(u:gR m r' l)(w:n<=m):gR n r l:=
 λi hi=>(h i hi).trans (u i (Nat.lt_of_lt_of_le hi w))
section
variable {C:Ctx} {call:gD} {dr:KG} {r:Nat->Nat} {f f':Fr} {h h':Hp} {F:PF} {H:PH} {v:PV}
theorem Rl.heap(R:Rl r f h F H):Rl r .nil h n_ H:=⟨rfl,R.hp,R.inj,λi v l=>by simp[Fr.pf]at l,R.hb⟩
theorem TK{n:Nat}(hb:v8 n f):∀{l:List aP}{vs:V_},l.all aP.clo=true->aP.evs f.pf l=some vs->PV.bounds n vs=true
 |[],_,_,e=>by cases e;rfl
 |x::xs,vs,i,e=>by
  simp only[axP,auI]at i;simp only[aP.evs]at e;split at e
  ·rename_i v A w y;cases e;rw[PV.bounds,TK hb i.2 y,awP];cases x with
   |tmp t=>exact hb t v w
   |const u=>cases w;exact PV.tW (auK _) _ i.1
  cases e
theorem RS{n:Nat}:∀{a b:V_},PV.bounds n a=true->PV.bounds n b=true->PV.bounds n (a++b)=true
 |[],_,_,h=>h
 |x::a,b,i,l=>by simp only[PV.bounds,axX,auI]at i ⊢;exact⟨i.1,RS i.2 l⟩
theorem Jj{op:POp}{d:O_}{K:K_}(R:Rl r f h F H)(e:BS op f h=some (v,h'))
  (y:∀r' H',gR h.length r r'->Rl r' f h' F H'->v.bound h'.length=true->K (F.put d (v.ren r')) H') :
  if op.iO then oG (cS op F) d K F H else if op.eR then cD op F H (λr H'=>K (F.put d r) H')else vJ (aZ op F H) d K F H:=by
 unfold BS at e;split at e;rename_i u;split at e;rename_i i;rw[aD i];exact RZ R u e y;rename_i i;rw[aB i];split at e;rename_i l;rw[aD l];exact IG R u e y;rename_i l;rw[aB l];split at e;rename_i w A;split at e;rename_i hb;replace hb:=PV.xU hb;cases e;have:=UR R.hp u A;rw[<-R.fr]at this;exact⟨_,this,y r H (λ_ _=>rfl) R hb⟩;cases e;cases e;cases e
theorem QG{op:POp}(e:BS op f h=some (v,h')):l'' h<=l'' h':=by
 unfold BS at e;split at e
 ·split at e
  ·unfold xH at e;split at e
   ·split at e<;>cases e;simp
   ·cases e
  ·split at e
   ·cases op<;>try (simp[kU]at e;done)
    all_goals
     simp only[kU]at e
     (repeat' split at e)<;>cases e<;>simp
   ·split at e
    ·split at e<;>cases e;exact auG _
    ·cases e
 ·cases e
theorem Lc(N:jo C call){op:POp}{d:O_}{K:K_}(R:Rl r f h F H)(e:YD call op f h=some (v,h'))
  (A:∀r' H',gR h.length r r'->l'' h<=l'' h'->Rl r' f h' F H'->v.bound h'.length=true->K (F.put d (v.ren r')) H'):wpOp C op d K F H:=by
 by_cases y:∃name args,op=.call name args;obtain⟨name,args,rfl⟩:=y;simp only[YD]at e;split at e;rename_i i;split at e;rename_i vs w;have l:=EM (r:=r) i w;rw[<-R.fr]at l;refine .inl ?_;rw[l];simp only[avB,awD];exact N _ _ _ _ _ e _ _ _ _ _ _ R (TK R.fb i w) A;cases e;cases e;by_cases w:∃x args,op=.atT x args;obtain⟨x,args,rfl⟩:=w;simp only[YD]at e;split at e;rename_i i;simp only[auI]at i;split at e
 ·rename_i name cs vs l J;have h5:=EM (r:=r) i.2 J;have M:=cU (r:=r) i.1 l;rw[<-R.fr]at h5 M;show uP C (x.ev F) args d K F H;rw[M];simp only[PV.ren,PV.fB,uP];refine .inl ?_;rw[h5];simp only[avB,<-avD];refine N _ _ _ _ _ e _ _ _ _ _ _ R (RS (TK R.fb i.2 J) ?_) A;cases x with
  |tmp t=>exact R.fb t _ l
  |const u =>simp only[aP.ev,awN.injEq]at l;subst l;have:=i.1;simp only[aP.clo,PV.bound]at this;exact PV.pY (auK _) _ this
 cases e;cases e;have E:BS op f h=some (v,h'):=by cases op<;>first|exact e|exact absurd ⟨_,_,rfl⟩ y|exact absurd ⟨_,_,rfl⟩ w
 have S:=QG E;have:=Jj (d:=d) (K:=K) R E λr' H' Q O hb=>A r' H' Q S O hb;cases op<;>first|exact this|exact absurd ⟨_,_,rfl⟩ y|exact absurd ⟨_,_,rfl⟩ w
theorem GJ(O:jo C call):∀(ops:List bY){r:Nat->Nat}{f f':Fr}{h h':Hp}{F:PF}{H:PH}{K:K_},yV call ops f h=some (f',h')->Rl r f h F H ->
  (∀r' W H',gR h.length r r'->l'' h<=l'' h'->Rl r' f' h' W H'->K W H')->wpOps C ops K F H
 |[],r,f,f',h,h',F,H,K,e,R,E=>by cases e;exact E r F H (λ_ _=>rfl) (auG _) R
 |i::rest,r,f,f',h,h',F,H,K,e,R,E=>by
  simp only[yV]at e;split at e;rename_i Y;have u:∀{e2:(match YD call i.op f h with|some (v,h')=>yV call rest (f.put i.dst v) h'|none=>none)=some (f',h')},wpOp C i.op i.dst (wpOps C rest K) F H:=by intro e2;split at e2;rename_i v h1 e3;refine Lc O R e3 λr' H' ha Z R' hb=>?_;exact GJ O rest e2 (R'.put Y hb) λV J M Q U N=>E V J M (ha.trans Q Z) (avJ Z U) N;cases e2
  have l:∀{e2:yV call rest (f.put i.dst (.tup [])) h=some (f',h')},wpOps C rest K (F.put i.dst (.tup [])) H:=by intro e2;exact GJ O rest e2 (R.put (v:=.tup []) Y rfl) E
  have y:∀t w,f.pf t=some w->F t=some (w.ren r):=λt w A=>by rw[R.fr];simp only[PF.ren,A,avB]
  simp only[wpOps];split at e;rename_i S;rw[S];exact u (e2:=e);rename_i t α S;rw[S];simp only;split at e;rename_i b hb;rw[y t _ hb];simp only[PV.ren];split at e;rename_i A;rw[aD A];exact u (e2:=e);rename_i A;rw[aB A];exact l (e2:=e);rename_i hb;rw[y t _ hb];exact l (e2:=e);cases e;cases e
theorem Q5(hC:jo C call)(hD:D7 C dr):∀(n:Nat)(c:aK){r:Nat->Nat}{f f':Fr}{h h':Hp}{F:PF}{H:PH}{x:lE}{K:cH},qQ call dr n c f h=some (x,f',h')->Rl r f h F H ->
  (∀r' i H',gR h.length r r'->l'' h<=l'' h'->Rl r' f' h' i H'->K x i H')->c.wp C K F H:=by
 intro n
 induction n using Nat.strongRecOn with
 |_ n ih=>
 intro c r f f' h h' F H x K e R l;cases n with
 |zero=>cases e
 |succ n=>
 have N:=ih n (Nat.lt_succ_self n);cases c with
 |skip=>cases e;exact l r F H (λ_ _=>rfl) (auG _) R
 |exit id=>cases e;exact l r F H (λ_ _=>rfl) (auG _) R
 |ret=>cases e;exact l r F H (λ_ _=>rfl) (auG _) R
 |region ops =>simp only[qQ]at e;split at e;rename_i f1 A w;cases e;exact GJ hC ops w R l;cases e
 |draw ops =>simp only[qQ]at e;split at e;rename_i f1 A w;cases e;exact hD ops f h _ _ w r F H R _ l;cases e
 |cond c a b=>
  simp only[qQ]at e;split at e;rename_i hc;split at e
  ·rename_i t A;have O:=cU (r:=r) hc A;rw[<-R.fr]at O;simp only[aK.wp,O,PV.ren];cases t with
   |true=>exact N a e R l
   |false=>exact N b e R l
  cases e;cases e
 |seq a b=>
  simp only[qQ]at e;cases A:qQ call dr n a f h with
  |none=>rw[A]at e;cases e
  |some p=>
   obtain⟨y,f1,g1⟩:=p;rw[A]at e;refine N a A R λr' i H' M E J=>?_;cases y with
   |normal=>exact N b e J λγ U V Y β W=>l γ U V (M.trans Y E) (avJ E β) W
   |exit id=>cases e;exact l r' i H' M E J
   |ret=>cases e;exact l r' i H' M E J
 |block id c=>
  simp only[qQ]at e;cases A:qQ call dr n c f h with
  |none=>rw[A]at e;cases e
  |some p=>
   obtain⟨y,f1,g1⟩:=p;rw[A]at e;refine N c A R λr' i H' M E J=>?_;cases y with
   |normal=>cases e;exact l r' i H' M E J
   |exit δ =>simp only at e;simp only[fX];split at e;rename_i O;rw[aD O];cases e;exact l r' i H' M E J;rename_i O;rw[aB O];cases e;exact l r' i H' M E J
   |ret=>cases e;exact l r' i H' M E J
 |loop c=>
  let α:=Nat × Fr × Hp × (Nat->Nat) × PF × PH
  refine⟨α,λa=>a.2.2.2.2.1,λa=>a.2.2.2.2.2,λa=>a.1<=n+1/\qQ call dr a.1 (.loop c) a.2.1 a.2.2.1=some (x,f',h')/\Rl a.2.2.2.1 a.2.1 a.2.2.1 a.2.2.2.2.1 a.2.2.2.2.2/\gR h.length r a.2.2.2.1/\l'' h<=a.2.2.1.length,
   λa=>a.1,(n+1,f,h,r,F,H),F,H,.refl F H,⟨auG _,e,R,λ_ _=>rfl,auG _⟩,λ_ _ S=>S,λ_ _ S=>S,?_⟩
  rintro⟨k,f1,A,r1,F1,H1⟩ ⟨Z,w,R1,Q,u⟩;simp only at Z w R1 Q u ⊢;cases k with
  |zero=>cases w
  |succ k=>
   simp only[qQ]at w;cases O:qQ call dr k c f1 A with
   |none=>rw[O]at w;cases w
   |some p=>
    obtain⟨y,f2,g2⟩:=p;rw[O]at w;refine ih k Om c O R1 λr' i H' M E J=>?_;cases y with
    |normal=>exact⟨(k,f2,g2,r',i,H'),i,H',.refl i H',⟨by omega,w,J,Q.trans M u,avJ u E⟩,Nat.lt_succ_self k,λ_ _ S=>S,λ_ _ S=>S⟩
    |exit id=>cases w;exact l r' i H' (Q.trans M u) (avJ u E) J
    |ret=>cases w;exact l r' i H' (Q.trans M u) (avJ u E) J
end
mutual
def PV.on(L:Nat->Bool):PV->Bool
 | .osl o _ _ _=>L o
 | .ptr o _ _ _=>L o
 | .map o=>L o
 | .sl _ rows=>PV.sK L rows
 | .bQ cs=>PV.ons L cs
 | .fn _ cs=>PV.ons L cs
 | .agg cs=>PV.ons L cs
 | .tup cs=>PV.ons L cs
 | .int _ _=>true
 | .bool _=>true
 | .str _=>true
 | .aE=>true
 | .lit _=>true
 | .junk=>true
def PV.ons(L:Nat->Bool):V_->Bool
 |[]=>true
 |v::vs=>PV.on L v&&PV.ons L vs
def PV.sK(L:Nat->Bool):P2_->Bool
 |[]=>true
 |v::vs=>PV.ons L v&&PV.sK L vs
end
mutual
theorem PV.Iz{L:Nat->Bool}{r s t:Nat->Nat}(h:∀i,L i=true->r (t i)=s i):∀v:PV,v.on L=true->(v.ren t).ren r=v.ren s
 | .osl o _ _ _,hb=>by simp only[PV.on]at hb;simp only[PV.ren,h o hb]
 | .ptr o _ _ _,hb=>by simp only[PV.on]at hb;simp only[PV.ren,h o hb]
 | .map o,hb=>by simp only[PV.on]at hb;simp only[PV.ren,h o hb]
 | .sl _ rows,hb=>by simp only[PV.on]at hb;simp only[PV.ren,PV.PU h rows hb]
 | .bQ cs,hb=>by simp only[PV.on]at hb;simp only[PV.ren,PV.xD h cs hb]
 | .fn _ cs,hb=>by simp only[PV.on]at hb;simp only[PV.ren,PV.xD h cs hb]
 | .agg cs,hb=>by simp only[PV.on]at hb;simp only[PV.ren,PV.xD h cs hb]
 | .tup cs,hb=>by simp only[PV.on]at hb;simp only[PV.ren,PV.xD h cs hb]
 | .int _ _,_=>rfl
 | .bool _,_=>rfl
 | .str _,_=>rfl
 | .aE,_=>rfl
 | .lit _,_=>rfl
 | .junk,_=>rfl
theorem PV.xD{L:Nat->Bool}{r s t:Nat->Nat}(h:∀i,L i=true->r (t i)=s i):∀l:V_,PV.ons L l=true->PV.kI r (PV.kI t l)=PV.kI s l
 |[],_=>rfl
 |v::vs,hb=>by simp only[PV.ons,auI]at hb;simp only[PV.kI,PV.Iz h v hb.1,PV.xD h vs hb.2]
theorem PV.PU{L:Nat->Bool}{r s t:Nat->Nat}(h:∀i,L i=true->r (t i)=s i):∀l:P2_,PV.sK L l=true->PV.pB r (PV.pB t l)=PV.pB s l
 |[],_=>rfl
 |v::vs,hb=>by simp only[PV.sK,auI]at hb;simp only[PV.pB,PV.xD h v hb.1,PV.PU h vs hb.2]
end
mutual
theorem PV.gw{L:Nat->Bool}{t:Nat->Nat}{m:Nat}(h:∀i,L i=true->t i<m):∀v:PV,v.on L=true->(v.ren t).bound m=true
 | .osl o _ _ _,hb=>by simp only[PV.on]at hb;simp only[PV.ren,PV.bound,h o hb,decide_true]
 | .ptr o _ _ _,hb=>by simp only[PV.on]at hb;simp only[PV.ren,PV.bound,h o hb,decide_true]
 | .map o,hb=>by simp only[PV.on]at hb;simp only[PV.ren,PV.bound,h o hb,decide_true]
 | .sl _ rows,hb=>by simp only[PV.on]at hb;simp only[PV.ren,PV.bound,PV.PI h rows hb]
 | .bQ cs,hb=>by simp only[PV.on]at hb;simp only[PV.ren,PV.bound,PV.tL h cs hb]
 | .fn _ cs,hb=>by simp only[PV.on]at hb;simp only[PV.ren,PV.bound,PV.tL h cs hb]
 | .agg cs,hb=>by simp only[PV.on]at hb;simp only[PV.ren,PV.bound,PV.tL h cs hb]
 | .tup cs,hb=>by simp only[PV.on]at hb;simp only[PV.ren,PV.bound,PV.tL h cs hb]
 | .int _ _,_=>rfl
 | .bool _,_=>rfl
 | .str _,_=>rfl
 | .aE,_=>rfl
 | .lit _,_=>rfl
 | .junk,_=>rfl
theorem PV.tL{L:Nat->Bool}{t:Nat->Nat}{m:Nat}(h:∀i,L i=true->t i<m):∀l:V_,PV.ons L l=true->PV.bounds m (PV.kI t l)=true
 |[],_=>rfl
 |v::vs,hb=>by simp only[PV.ons,auI]at hb;simp only[PV.kI,PV.bounds,PV.gw h v hb.1,PV.tL h vs hb.2,awP]
theorem PV.PI{L:Nat->Bool}{t:Nat->Nat}{m:Nat}(h:∀i,L i=true->t i<m):∀l:P2_,PV.sK L l=true->PV.gZ m (PV.pB t l)=true
 |[],_=>rfl
 |v::vs,hb=>by simp only[PV.sK,auI]at hb;simp only[PV.pB,PV.gZ,PV.tL h v hb.1,PV.PI h vs hb.2,awP]
end
mutual
theorem PV.U8{L L':Nat->Bool}(h:∀i,L i=true->L' i=true):∀v:PV,v.on L=true->v.on L'=true
 | .osl o _ _ _,hb=>h o hb
 | .ptr o _ _ _,hb=>h o hb
 | .map o,hb=>h o hb
 | .sl _ rows,hb=>by simp only[PV.on]at hb ⊢;exact PV.Ig h rows hb
 | .bQ cs,hb=>by simp only[PV.on]at hb ⊢;exact PV.EY h cs hb
 | .fn _ cs,hb=>by simp only[PV.on]at hb ⊢;exact PV.EY h cs hb
 | .agg cs,hb=>by simp only[PV.on]at hb ⊢;exact PV.EY h cs hb
 | .tup cs,hb=>by simp only[PV.on]at hb ⊢;exact PV.EY h cs hb
 | .int _ _,_=>rfl
 | .bool _,_=>rfl
 | .str _,_=>rfl
 | .aE,_=>rfl
 | .lit _,_=>rfl
 | .junk,_=>rfl
theorem PV.EY{L L':Nat->Bool}(h:∀i,L i=true->L' i=true):∀l:V_,PV.ons L l=true->PV.ons L' l=true
 |[],_=>rfl
 |v::vs,hb=>by simp only[PV.ons,auI]at hb ⊢;exact⟨PV.U8 h v hb.1,PV.EY h vs hb.2⟩
theorem PV.Ig{L L':Nat->Bool}(h:∀i,L i=true->L' i=true):∀l:P2_,PV.sK L l=true->PV.sK L' l=true
 |[],_=>rfl
 |v::vs,hb=>by simp only[PV.sK,auI]at hb ⊢;exact⟨PV.EY h v hb.1,PV.Ig h vs hb.2⟩
end
mutual
theorem PV.MN{n:Nat}:∀v:PV,v.on (λi=>decide (i<n))=v.bound n
 | .osl o _ _ _=>rfl
 | .ptr o _ _ _=>rfl
 | .map o=>rfl
 | .sl _ rows=>by simp only[PV.on,PV.bound,PV.MO rows]
 | .bQ cs=>by simp only[PV.on,PV.bound,PV.wT cs]
 | .fn _ cs=>by simp only[PV.on,PV.bound,PV.wT cs]
 | .agg cs=>by simp only[PV.on,PV.bound,PV.wT cs]
 | .tup cs=>by simp only[PV.on,PV.bound,PV.wT cs]
 | .int _ _=>rfl
 | .bool _=>rfl
 | .str _=>rfl
 | .aE=>rfl
 | .lit _=>rfl
 | .junk=>rfl
theorem PV.wT{n:Nat}:∀l:V_,PV.ons (λi=>decide (i<n)) l=PV.bounds n l
 |[]=>rfl
 |v::vs=>by simp only[PV.ons,PV.bounds,PV.MN v,PV.wT vs]
theorem PV.MO{n:Nat}:∀l:P2_,PV.sK (λi=>decide (i<n)) l=PV.gZ n l
 |[]=>rfl
 |v::vs=>by simp only[PV.sK,PV.gZ,PV.wT v,PV.MO vs]
end
theorem PV.agV{L L':Nat->Bool}(h:∀i,L i=true->L' i=true)(v:PV)(l:v.on L=true):v.on L'=true:=by
 have:=PV.U8 (L:=L) (L':=L') h v;exact this l
def PV.xk(r:Nat->Nat)(v:PV):PV:=cond (v.bound 0) v (v.ren r)
theorem PV.PT(r:Nat->Nat)(v:PV):v.xk r=v.ren r:=by
 unfold PV.xk;cases e:v.bound 0 with
 |true=>exact(PV.yU e r).symm
 |false=>rfl
def PV.onC(L:Nat->Bool)(v:PV):Bool:=cond (v.bound 0) true (v.on L)
theorem PV.Ib{L:Nat->Bool}{v:PV}(h:v.onC L=true):v.on L=true:=by
 unfold PV.onC at h;cases e:v.bound 0 with
 |true =>rw[<-PV.MN]at e;exact PV.agV (λi hi=>by simp at hi) v e
 |false=>rw[e]at h;exact h
mutual
def PV.ids:PV->N_->N_
 | .osl o _ _ _,l=>o::l
 | .ptr o _ _ _,l=>o::l
 | .map o,l=>o::l
 | .sl _ rows,l=>PV.adE rows l
 | .bQ cs,l=>PV.wc cs l
 | .fn _ cs,l=>PV.wc cs l
 | .agg cs,l=>PV.wc cs l
 | .tup cs,l=>PV.wc cs l
 | .int _ _,l=>l
 | .bool _,l=>l
 | .str _,l=>l
 | .aE,l=>l
 | .lit _,l=>l
 | .junk,l=>l
def PV.wc:V_->N_->N_
 |[],l=>l
 |v::vs,l=>PV.ids v (PV.wc vs l)
def PV.adE:P2_->N_->N_
 |[],l=>l
 |v::vs,l=>PV.wc v (PV.adE vs l)
end
def PV.Zi(v:PV)(l:N_):N_:=cond (v.bound 0) l (v.ids l)
def uA:V_->N_->N_
 |[],l=>l
 |v::vs,l=>PV.Zi v (uA vs l)
def Ge:P2_->N_->N_
 |[],l=>l
 |v::vs,l=>uA v (Ge vs l)
def UM(L:Nat->Bool):V_->Bool
 |[]=>true
 |v::vs=>v.onC L&&UM L vs
def XW(L:Nat->Bool):P2_->Bool
 |[]=>true
 |v::vs=>UM L v&&XW L vs
theorem PD{L:Nat->Bool}:∀{l:V_},UM L l=true->PV.ons L l=true
 |[],_=>rfl
 |v::vs,h=>by simp only[UM,PV.ons,auI]at h ⊢;exact⟨PV.Ib h.1,PD h.2⟩
theorem yM{L:Nat->Bool}:∀{l:P2_},XW L l=true->PV.sK L l=true
 |[],_=>rfl
 |v::vs,h=>by simp only[XW,PV.sK,auI]at h ⊢;exact⟨PD h.1,yM h.2⟩
theorem PV.akC{L:Nat->Bool}{v:PV}(h:v.on L=true):v.onC L=true:=by
 unfold PV.onC;rw[h];cases v.bound 0<;>rfl
theorem Ie{L:Nat->Bool}:∀{l:V_},PV.ons L l=true->UM L l=true
 |[],_=>rfl
 |v::vs,h=>by simp only[UM,PV.ons,auI]at h ⊢;exact⟨PV.akC h.1,Ie h.2⟩
theorem p6{L:Nat->Bool}:∀{l:P2_},PV.sK L l=true->XW L l=true
 |[],_=>rfl
 |v::vs,h=>by simp only[XW,PV.sK,auI]at h ⊢;exact⟨Ie h.1,p6 h.2⟩
def YA(r:Nat->Nat):V_->V_
 |[]=>[]
 |v::vs=>v.xk r::YA r vs
def UT(r:Nat->Nat):P2_->P2_
 |[]=>[]
 |v::vs=>YA r v::UT r vs
theorem DQ(r:Nat->Nat):∀l,YA r l=PV.kI r l
 |[]=>rfl
 |v::vs=>by rw[YA,PV.kI,PV.PT,DQ r vs]
theorem yT(r:Nat->Nat):∀l,UT r l=PV.pB r l
 |[]=>rfl
 |v::vs=>by rw[UT,PV.pB,DQ,yT r vs]
mutual
def PV.beq:PV->PV->Bool
 | .osl a b c d,y=>match y with | .osl l b' u w=>awK a l&&(awK b b'&&(awK c u&&awK d w))|_=>false
 | .ptr a b c d,y=>match y with | .ptr l b' u w=>awK a l&&(awK b b'&&(awK c u&&awK d w))|_=>false
 | .map a,y=>match y with | .map l=>awK a l|_=>false
 | .sl s rows,y=>match y with | .sl s' rows'=>awK s s'&&PV.WZ rows rows'|_=>false
 | .bQ cs,y=>match y with | .bQ i=>PV.IQ cs i|_=>false
 | .fn n cs,y=>match y with | .fn A i=>awK n A&&PV.IQ cs i|_=>false
 | .agg cs,y=>match y with | .agg i=>PV.IQ cs i|_=>false
 | .tup cs,y=>match y with | .tup i=>PV.IQ cs i|_=>false
 | .int k n,y=>match y with | .int E A=>decide (k=E)&&decide (n=A)|_=>false
 | .bool b,y=>match y with | .bool b'=>decide (b=b')|_=>false
 | .str s,y=>match y with | .str s'=>decide (s=s')|_=>false
 | .aE,y=>match y with | .aE=>true|_=>false
 | .lit _,_=>false
 | .junk,y=>match y with | .junk=>true|_=>false
def PV.IQ:V_->V_->Bool
 |[],y=>match y with|[]=>true|_=>false
 |v::vs,y=>match y with|w::i=>PV.beq v w&&PV.IQ vs i|_=>false
def PV.WZ:P2_->P2_->Bool
 |[],y=>match y with|[]=>true|_=>false
 |v::vs,y=>match y with|w::i=>PV.IQ v w&&PV.WZ vs i|_=>false
end
mutual
theorem PV.beq_eq:∀v w:PV,PV.beq v w=true->v=w
 | .osl _ _ _ _,w,h=>by cases w<;>simp_all [PV.beq]
 | .ptr _ _ _ _,w,h=>by cases w<;>simp_all [PV.beq]
 | .map _,w,h=>by cases w<;>simp_all [PV.beq]
 | .sl s rows,w,h=>by cases w<;>simp only[PV.beq,auI,awQ]at h;rw[PV.cq _ _ h.2,Nat.eq_of_beq_eq_true h.1]
 | .bQ cs,w,h=>by cases w<;>simp only[PV.beq,awQ]at h;rw[PV.zL _ _ h]
 | .fn _ cs,w,h=>by cases w<;>simp only[PV.beq,auI,awQ]at h;rw[PV.zL _ _ h.2,Nat.eq_of_beq_eq_true h.1]
 | .agg cs,w,h=>by cases w<;>simp only[PV.beq,awQ]at h;rw[PV.zL _ _ h]
 | .tup cs,w,h=>by cases w<;>simp only[PV.beq,awQ]at h;rw[PV.zL _ _ h]
 | .int _ _,w,h=>by cases w<;>simp_all [PV.beq]
 | .bool _,w,h=>by cases w<;>simp_all [PV.beq]
 | .str _,w,h=>by cases w<;>simp_all [PV.beq]
 | .aE,w,h=>by cases w<;>simp_all [PV.beq]
 | .lit _,_,h=>by simp[PV.beq]at h
 | .junk,w,h=>by cases w<;>simp_all [PV.beq]
theorem PV.zL:∀v w:V_,PV.IQ v w=true->v=w
 |[],w,h=>by cases w<;>simp_all [PV.IQ]
 |v::vs,w,h=>by cases w<;>simp only[PV.IQ,auI,awQ]at h;rw[PV.beq_eq _ _ h.1,PV.zL _ _ h.2]
theorem PV.cq:∀v w:P2_,PV.WZ v w=true->v=w
 |[],w,h=>by cases w<;>simp_all [PV.WZ]
 |v::vs,w,h=>by cases w<;>simp only[PV.WZ,auI,awQ]at h;rw[PV.zL _ _ h.1,PV.cq _ _ h.2]
end
def posOf:N_->Nat->Nat
 |[],_=>0
 |x::xs,i=>if awK x i then 0 else posOf xs i+1
def inL:N_->Nat->Bool
 |[],_=>false
 |x::xs,i=>awK x i||inL xs i
def UH:N_->Bool
 |[]=>true
 |x::xs=>!inL xs x&&UH xs
def atN:N_->Nat->Nat
 |[],_=>0
 |x::_,0=>x
 |_::xs,k+1=>atN xs k
theorem zU:∀{l:N_}{i:Nat},inL l i=true->i∈l
 |x::xs,i,h=>by
  simp only[inL,Bool.or_eq_true]at h;rcases h with h|h
  rw[Nat.eq_of_beq_eq_true h];exact List.mem_cons_self ..;exact ayV _ (zU h)
theorem uC:∀{l:N_}{i:Nat},i∈l->inL l i=true
 |x::xs,i,h=>by
  simp only[inL,Bool.or_eq_true];rcases auQ.1 h with h|h
  left;rw[h];simp;right;exact uC h
theorem rL:∀{l:N_}{i:Nat},inL l i=true->atN l (posOf l i)=i/\posOf l i<l'' l
 |x::xs,i,h=>by simp only[inL,Bool.or_eq_true]at h;simp only[posOf];by_cases e:awK x i=true;rw[aD e];exact⟨Nat.eq_of_beq_eq_true e,Nat.zero_lt_succ _⟩;rw[aB e];have:=rL (h.resolve_left e);exact⟨this.1,Nat.succ_lt_succ this.2⟩
theorem sZ:∀{l:N_}{k:Nat},k<l'' l->inL l (atN l k)=true
 |x::xs,0,_=>by simp[inL,atN]
 |x::xs,k+1,h=>by simp only[inL,atN,Bool.or_eq_true];exact .inr (sZ (Nat.lt_of_succ_lt_succ h))
theorem BR:∀{l:N_}{k:Nat},UH l=true->k<l'' l->posOf l (atN l k)=k
 |x::xs,0,_,_=>by simp[posOf,atN]
 |x::xs,k+1,i,h=>by simp only[UH,auI,Bool.not_eq_true']at i;show(if awK x (atN xs k)=true then 0 else posOf xs (atN xs k)+1)=k+1;have u:=sZ (Nat.lt_of_succ_lt_succ h);rw[aB (λe=>by rw[Nat.eq_of_beq_eq_true e,u]at i;cases i.1),BR i.2 (Nat.lt_of_succ_lt_succ h)]
theorem wF{β:Type}(g:Nat->β):∀(l:N_)(k:Nat),(l.map g)[k]?=if k<l.length then some (g (atN l k))else none
 |[],k=>by simp
 |x::xs,0=>by simp[atN]
 |x::xs,k+1=>by rw[avH,List.getElem?_cons_succ,wF g xs k];simp only[atN,avG,Nat.succ_lt_succ_iff,Nat.add_lt_add_iff_right]
def aW.on(L:Nat->Bool):aW->Bool
 | .rows _ rs=>XW L rs
 |_=>true
def aW.rn(r:Nat->Nat):aW->aW
 | .rows s rs=>.rows s (UT r rs)
 |x=>x
theorem aW.Vw{L:Nat->Bool}{n:Nat}{r s t:Nat->Nat}(h:∀i,L i=true->r (t i)=s i){x:aW}(hb:x.Bd n)(l:x.on L=true):(x.rn t).ren r=x.ren s:=by
 cases x with
 |rows sz rs=>simp only[aW.rn,aW.ren,<-PV.kA,yT];rw[PV.PU h rs (yM l)]
 |_=>rfl
theorem aW.akM{L:Nat->Bool}{n:Nat}{r s t:Nat->Nat}(h:∀i,L i=true->r (t i)=s i){x:aW}(hb:x.Bd n)(l:x.on L=true):(x.ren t).ren r=x.rn s:=by
 cases x with
 |rows sz rs=>simp only[aW.rn,aW.ren,<-PV.kA,yT];rw[PV.PU h rs (yM l)]
 |_=>rfl
theorem aW.adM{L:Nat->Bool}{n m:Nat}{t:Nat->Nat}(h:∀i,L i=true->t i<m){x:aW}(hb:x.Bd n)(l:x.on L=true):(x.rn t).Bd m:=by
 cases x with
 |rows sz rs =>show PV.gZ m (UT t rs)=true;rw[yT];exact PV.PI h rs (yM l)
 |_=>trivial
theorem aW.xq{t:Nat->Nat}{x y:aW}(h:(x.rn t).live=some y):x.live=some x/\y=x.rn t:=by
 cases x<;>first|(cases h;done)|(cases h;exact⟨rfl,rfl⟩)
def gtH(h:Hp)(i:Nat):aW:=match h[i]? with
 |some x=>x
 |none=>.dead
theorem dk{h:Hp}{i:Nat}{x:aW}(e:(gtH h i).live=some x):h.ph i=some x/\gtH h i=x:=by
 have e2:=aW.BO e;refine⟨?_,e2⟩;unfold gtH at e;rw[Hp.mC];split at e;rename_i y l;rw[l];exact e;cases e
theorem akF{h:Hp}{i:Nat}{x:aW}(e:h.ph i=some x):gtH h i=x/\x.live=some x:=by
 have l:=lW e;rw[Hp.mC,l.1]at e;refine⟨?_,e⟩;unfold gtH;rw[l.1]
def qE(h:Hp)(t:Nat->Nat)(M:N_):Hp:=M.map λi=>(gtH h i).rn t
def DO(M:N_)(h:Hp):Bool:=UH M&&M.all λi=>(gtH h i).on (inL M)
theorem gv{M:N_}{h:Hp}(ok:DO M h=true){i:Nat}(hi:inL M i=true):(gtH h i).on (inL M)=true:=by
 simp only[DO,auI,auX]at ok;exact ok.2 i (zU hi)
theorem PL{h:Hp}{t:Nat->Nat}{M:N_}{k:Nat}{x:aW}(e:Hp.ph (qE h t M) k=some x):k<l'' M/\(gtH h (atN M k)).live=some (gtH h (atN M k))/\x=(gtH h (atN M k)).rn t:=by
 rw[Hp.mC,qE,wF]at e;split at e;rename_i i;exact⟨i,aW.xq e⟩;cases e
section
variable {r:Nat->Nat} {f:Fr} {h:Hp} {F:PF} {H:PH}
theorem BK(R:Rl r f h F H)(i:Nat):(gtH h i).Bd h.length:=by
 unfold gtH;split;rename_i x e;exact R.hb x (awW e);trivial
theorem Rl.cut(R:Rl r f h F H){M:N_}(ok:DO M h=true):Rl (λk=>r (atN M k)) .nil (qE h (posOf M) M) n_ H:=by
 have u:(qE h (posOf M) M).length=l'' M:=by simp[qE]
 refine⟨rfl,λk x w=>?_,λk l x y w Q e=>?_,λi v O=>by simp[Fr.pf]at O,λx w=>?_⟩;obtain⟨J,A,rfl⟩:=PL w;have E:=dk A;rw[aW.Vw (L:=inL M) (λi hi=>by rw[(rL hi).1]) (BK R _) (gv ok (sZ J))];exact R.hp _ _ E.1;obtain⟨J,A,-⟩:=PL w;obtain⟨N,E,-⟩:=PL Q;have K:=R.inj _ _ _ _ (dk A).1 (dk E).1 e;simp only[DO,auI]at ok;rw[<-BR ok.1 J,K,BR ok.1 N];rw[u];obtain⟨i,hi,rfl⟩:=auT.1 w;exact aW.adM (L:=inL M) (λi hi=>(rL hi).2) (BK R _) (gv ok (uC hi))
theorem wI(H:PH)(D:N_)(o:Nat):(H.only D) o=if o∈D then H o else none:=rfl
theorem Rl.only(R:Rl r f h F H){D:N_}(u:∀i x,h.ph i=some x->r i∈D):Rl r f h F (H.only D):=by
 refine⟨R.fr,λi x l=>?_,R.inj,R.fb,R.hb⟩;rw[wI,aD (u i x l)];exact R.hp i x l
end
def reach(h:Hp):Nat->N_->N_->N_
 |0,_,seen=>seen
 |_+1,[],seen=>seen
 |n+1,i::l,seen=>if inL seen i then reach h n l seen else match gtH h i with
  | .rows _ rs=>reach h n (Ge rs l) (i::seen)
  |_=>reach h n l seen
def zC:Nat->N_->N_
 |0,l=>l
 |n+1,l=>zC n (n::l)
theorem Nh:∀(n:Nat)(l:N_)(k:Nat),atN (zC n l) k=if k<n then k else atN l (k-n)
 |0,l,k=>by simp[zC]
 |n+1,l,k=>by
  rw[zC,Nh n (n::l) k];rcases Nat.lt_trichotomy k n with h|h|h
  rw[aD h,aD Om];subst h;rw[aB (Nat.lt_irrefl _),aD Om,awU];rfl;rw[aB Om,aB Om];obtain⟨d,i⟩:∃d,k-n=d+1:=⟨k-n-1,by omega⟩;rw[i,show k-(n+1)=d by omega];rfl
theorem J2:∀(n:Nat)(l:N_),(zC n l).length=n+l'' l
 |0,l=>by simp[zC]
 |n+1,l=>by rw[zC,J2 n];simp;omega
def pw:Hp->N_->N_
 |[],l=>l
 |x::xs,l=>match x with
  | .rows _ rs=>Ge rs (pw xs l)
  |_=>pw xs l
def trim(n:Nat)(v:PV)(h:Hp):Option (PV × Hp):=
 if awK n h.length then some (v,h)else
 let M:=zC n ((reach h 1000 (PV.Zi v (pw (h.take n) [])) []).filter λi=>Nat.ble n i)
 if DO M h&&v.onC (inL M)then some (v.xk (posOf M),qE h (posOf M) M)else none
noncomputable def YG(call:gD):gD:=λname vs h=>match call name vs h with
 |some (v,i)=>trim h.length v i
 |none=>none
theorem Rj{r:Nat->Nat}{n:Nat}{v v':PV}{h w:Hp}{A:PV}{H:PH}(e:trim n v h=some (v',w))(y:Comes r n v h A H):Comes r n v' w A H:=by
 unfold trim at e;split at e;cases e;exact y;simp only at e;generalize(reach h 1000 (PV.Zi v (pw (h.take n) [])) []).filter (λi=>Nat.ble n i)=N at e;split at e;rename_i l;simp only[auI]at l;replace l:=And.intro l.1 (PV.Ib l.2);rw[PV.PT]at e;cases e;obtain⟨r',E,R,rfl,hb,J⟩:=y;have u:(qE h (posOf (zC n N)) (zC n N)).length=(zC n N).length:=by simp[qE]
 refine⟨λk=>r' (atN (zC n N) k),λi hi=>?_,R.cut l.1,(PV.Iz (L:=inL (zC n N)) (λi hi=>by rw[(rL hi).1]) _ l.2).symm,?_,?_⟩;show r i=r' (atN (zC n N) i);rw[Nh,aD hi];exact E i hi;rw[u];exact PV.gw (λi hi=>(rL hi).2) _ l.2;rw[u,J2];omega;cases e
variable{C:Ctx}
theorem aG.oo{name:Nat}{vs:V_}{H:PH}{R l:R_}(h:aG C name vs H R)(N:∀y H',R y H'->l y H'):aG C name vs H l:=by
 refine⟨h.1,λE w O K hW i=>(h.2 E w O K hW i).mono λQ S M=>?_⟩;obtain⟨u,pv,A,H',g1,g2,g3,g4,J⟩:=M;exact⟨u,pv,A,H',g1,g2,g3,g4,N _ _ J⟩
theorem abN{call:gD}(l:pJ C call):pJ C (YG call):=by
 intro name vs h v y e r H R X hb;unfold YG at e;split at e;rename_i w g i;exact(l name vs h w g i r H R X hb).oo λA H' u=>Rj e u;cases e
open Go Go.Na
structure Ny(C:Ctx):Prop where
 r346:bJ C 346 WP
 r352:bJ C 352 jX
 r353:bJ C 353 WU
 r354:bJ C 354 WT
 r355:bJ C 355 WQ
 r356:bJ C 356 tj
 r358:bJ C 358 MG
 r359:bJ C 359 mK
 r360:bJ C 360 WS
def cE(S:XSt)(cl:List (Int × I_ × Int))(j:Nat):I_:=FT S (cl.getD j (0,[],0)).1 (cl.getD j (0,[],0)).2.1
def cO(cl:List (Int × I_ × Int))(j:Nat):Int:=(cl.getD j (0,[],0)).2.2
structure SD(S:XSt)(cl:List (Int × I_ × Int)):Prop where
 cols:S.cols=oQ cl
 m:S.m<=9
 row:l'' S.row<=1000
 num:l'' cl<=900000
 pol:∀c∈cl,c.1<(l'' S.row:Nat)
 ent:∀c∈cl,∀e∈FT S c.1 c.2.1,0<=e/\e<(S.m:Nat)
 len:∀c∈cl,c.2.1.length<=19
 set:∀c∈cl,∀d∈c.2.1,0<=d/\d<=1000
 cost:∀c∈cl,0<=c.2.2/\c.2.2<=10000
section
variable {C:Ctx} {S:XSt} {cl:List (Int × I_ × Int)}
theorem SD.IV(h:SD S cl):l'' S.cols=l'' cl:=by rw[h.cols,zO]
theorem SD.at'(h:SD S cl){j:Nat}(i:j<l'' cl):S.cols[j]?=some [.j cl[j].1,ints cl[j].2.1,.j (cO cl j)]/\cE S cl j=FT S cl[j].1 cl[j].2.1/\cO cl j=cl[j].2.2/\cl[j]∈cl:=by
 have e:cl.getD j (0,[],0)=cl[j]:=by simp[auM,i]
 refine⟨?_,?_,?_,auH i⟩;rw[h.cols];unfold oQ cO;rw[e];simp[i];unfold cE;rw[e];unfold cO;rw[e]
theorem SD.adP(h:SD S cl):acX S (cE S cl) (cO cl) where
 at' j hj:=by rw[h.IV]at hj;exact⟨_,_,(h.at' hj).1,rfl,rfl⟩
 len j hj:=by rw[h.IV]at hj;obtain⟨-,e,-,i⟩:=h.at' hj;have:=h.len _ i;rw[e];unfold FT;rw[auJ,auD];split;rw[auS];omega;rw[avS];omega
 ent j hj:=by rw[h.IV]at hj;obtain⟨-,e,-,i⟩:=h.at' hj;rw[e];exact h.ent _ i
 cost j hj:=by rw[h.IV]at hj;obtain⟨-,-,e,i⟩:=h.at' hj;rw[e];exact h.cost _ i
 num:=by rw[h.IV];have:=h.num;omega
theorem XBd.neg{m:Nat}{D:XDy}(h:XBd m (ge D)):XBd m D:=
 ⟨by have:=h.d;unfold ge at this;simpa using this,λi hi=>by have:=h.r i hi;unfold ge at this;simpa using this,λi k hi l=>by have:=h.x i k hi l;unfold ge at this;simpa using this⟩
theorem XBd.ia{m:Nat}{D:XDy}{U:Nat->Int}{i:Nat}{j:Int}(h:XBd m (xh D U i j)):XBd m (ia D U i j):=by
 unfold xh at h;split at h;exact h.neg;exact h
theorem Ls(S:XSt)(E:Nat->I_)(rhs co:Nat->Int)(first:Bool){B:Int}(hB:B<(l'' S.cols:Nat)):(PX S E rhs co first).cost (ixX S.cols.length B)=XF S.cols co first B:=by
 unfold XF ixX;by_cases c:B<0;rw[aD c,aD c];exact aB Om;rw[aB c,aB c];exact aD Om
theorem Ny.lib(c:Ny C)(I:XId)(h:SD S cl)(rhs:Nat->Int)(J:∀first,(PX S (cE S cl) rhs (cO cl) first).xR):Xq C I S (cE S cl) (PX S (cE S cl) rhs (cO cl)):=by
 have Y:=h.m;have M:=h.adP;have ε:=M.num;have ent:∀(H:PH)(den:Int),H I.o=some (.rows 7 [S.cells I den])->∀j co,S.cols[j]?=some co->aG C 352 [xp I,.agg co] H (sM H (cE S cl j)):=by
  intro H den hb j co A;have w:j<l'' cl:=by rw[<-h.IV];exact(avP.1 A).1
  obtain⟨Z,e2,e3,Y⟩:=h.at' w;cases A.symm.trans Z;rw[e2];exact c.r352.go (Lo I S den Om h.row (λH hb=>c.r358.go (Sb I S den Om h.row hb) rfl) _ (h.pol _ Y) _ (by have:=h.len _ Y;omega) (h.set _ Y) _ hb) rfl
 have V:∀b D first j,(PX S (cE S cl) rhs (cO cl) first).Rl S.cols.length b D->j<l'' S.cols->∀i,i<S.m->kN D.X (cE S cl j) i=(PX S (cE S cl) rhs (cO cl) first).tab b i ((PX S (cE S cl) rhs (cO cl) first).col j):=by
  intro b D first j l w i hi
  rw[Lin.YE (P:=PX S (cE S cl) rhs (cO cl) first) hi];have e:=zB (λk=>D.X i k) S.m (cE S cl j) (M.ent j w);refine Eq.trans (show kN D.X (cE S cl j) i=qT (λk=>D.X i k) (cE S cl j)from rfl) (e.symm.trans (bM λk hk=>?_));rw[l.inv i k hi hk];congr 1;exact(aD w).symm
 have Q:∀b first j,j<l'' S.cols->∀i,((PX S (cE S cl) rhs (cO cl) first).tab b i ((PX S (cE S cl) rhs (cO cl) first).col j)).natAbs<=1000000000:=λb first j w i=>avJ ((J first).tab b i _ λr N=>(J first).col j r N) aU
 refine⟨ent,?_,?_,?_,?_⟩;intro b D first H l E j co A
 have w:j<l'' S.cols:=(avP.1 A).1;have u:=l.bd (J first);obtain⟨x,y,Z,ox,oy⟩:=M.at' j w;cases A.symm.trans Z;rw[<-wC (V b D first j l w)];exact c.r353.go (Xd I S D Om _ (cE S cl j) (by have:=M.len j w;omega) (M.ent j w) u.x (λH hb=>ent H D.den hb j _ A) rfl (by rw[axP,ox,axP,oy];rfl) E) rfl;intro b D first H l E
 have u:=l.bd (J first);have F:∀i,i<S.m->D.B i<(l'' S.cols:Nat):=λi hi=>(l.rng i hi).2;have e:(fl S.m λk=>bB (λi=>XF S.cols (cO cl) first (D.B i)*D.X i k) S.m)=fl S.m ((PX S (cE S cl) rhs (cO cl) first).eF b):=wC λk hk=>bM λi hi=>by rw[l.inv i k hi hk,l.bas i hi,Ls S _ rhs _ first (F i hi)]
 rw[<-e];refine c.r346.go (W8 I S D Om first (λi=>XF S.cols (cO cl) first (D.B i)) (λi hi=>?_) u.x (λH E i hi=>c.r356.go (acL I S D (cO cl) (λj w=>by obtain⟨x,y,e,-⟩:=M.at' j w;exact⟨x,y,e⟩) i hi (F i hi) first E) rfl) E) rfl;rw[<-Ls S (cE S cl) rhs _ first (F i hi)];have:=(J first).cost (ixX S.cols.length (D.B i));omega;intro b D first H j qu i l E hu K
 have u:=l.bd (J first);have hl:=l.leave (j:=j) (U:=λi=>(PX S (cE S cl) rhs (cO cl) first).tab b i ((PX S (cE S cl) rhs (cO cl) first).col j)) (λ_ _=>rfl) S.m (auG _);have β:kZ D.R (λi=>(PX S (cE S cl) rhs (cO cl) first).tab b i ((PX S (cE S cl) rhs (cO cl) first).col j)) (λi=>JJ S.cols.length (D.B i)) S.m=(i:Int):=by
  rcases hl with⟨-,W⟩|⟨i',e,W⟩
  exact absurd K.pos (W i K.lt);rw[e,(Lin.LvN.lv (P:=PX S (cE S cl) rhs (cO cl) first) W).uniq l.jA K]
 have hU:∀i,i<S.m->((PX S (cE S cl) rhs (cO cl) first).tab b i ((PX S (cE S cl) rhs (cO cl) first).col j)).natAbs<=1000000000:=λi hi=>avJ ((J first).tab b i _ λr N=>(J first).col j r N) aU;rw[<-β];exact c.r355.go (W9 I S D Om u qu _ hU _ (λH E i hi=>c.r360.go (Xa I S D Om i hi (by have W:=(l.rng i hi).1;have h2:=(l.rng i hi).2;have h3:(PX S (cE S cl) rhs (cO cl) first).m=S.m:=rfl;omega) E) rfl) E hu) rfl;intro b D first H j qu i l E hu hq δ hi w γ
 have u:=l.bd (J first);have O:=l.step (i:=i) (j:=j) hi w (U:=λi=>(PX S (cE S cl) rhs (cO cl) first).tab b i ((PX S (cE S cl) rhs (cO cl) first).col j)) (λ_ _=>rfl) γ;have α:D.den≠0:=by rw[l.den];have:=l.jA.pos;omega
 refine(c.r354.go (Xb I S D Om u α qu hq δ _ (λi _=>Q b first j w i) i hi (j:Int) (O.bd (J first)).ia (λD H hD E=>c.r359.go (Se I S D Om hD E) rfl) E hu) rfl).oo λr H' N=>⟨_,O,N.1,N.2⟩
end
structure jC(dm rl:I_)(al:Nat->L2_)(lo:Nat->I_->Int):Prop where
 m:(dE dm dm.length).length+l'' rl<=9
 n:l'' dm<=1000
 num:(jZ dm al lo dm.length).length<=100000
 dem:∀x∈dm,x<=200
 room:∀x∈rl,0<=x/\x<=200
 set:∀p,p<l'' dm->∀s∈al p,s.Nodup/\l'' s<=19/\∀d∈s,0<=d/\d<(l'' rl:Nat)
 cost:∀p,p<l'' dm->∀s∈al p,0<=lo p s/\lo p s<=10000
section
variable {dm rl:I_} {al:Nat->L2_} {lo:Nat->I_->Int}
def clB(dm rl:I_)(al:Nat->L2_)(lo:Nat->I_->Int):List (Int × I_ × Int):=jZ dm al lo dm.length++nA rl.length
def stB(dm rl:I_)(al:Nat->L2_)(lo:Nat->I_->Int):XSt:=⟨(dE dm dm.length).length+l'' rl,oQ (clB dm rl al lo),iB dm dm.length⟩
def rhB(dm rl:I_)(i:Nat):Int:=(dE dm dm.length++rl).getD i 0
theorem qh(dm:I_):∀k,k<=l'' dm->(iB dm k).countP (λr=>decide (0<=r))=(dE dm k).length
 |0,_=>rfl
 |k+1,i=>by rw[UY,ayR,qh dm k Om,uF dm i,auJ,List.countP_cons,List.countP_nil];by_cases c:0<dm.getD k 0;rw[aD c,aD c,auS,bH (Int.natCast_nonneg _)];rfl;rw[aB c,aB c];rfl
theorem ajI(dm rl:I_)(al:Nat->L2_)(lo:Nat->I_->Int):qI (stB dm rl al lo).m (stB dm rl al lo).row=(l'' rl:Nat):=by
 unfold qI;rw[show(stB dm rl al lo).row=iB dm dm.length from rfl,qh dm dm.length (auG _)];unfold stB;simp only;omega
theorem tI{c:Int × I_ × Int}:∀k,c∈jZ dm al lo k->∃p,p<k/\0<dm.getD p 0/\c.1=(p:Int)/\c.2.1∈al p/\c.2.2=lo p c.2.1
 |0,h=>by cases h
 |k+1,h=>by
  rw[xW,avX]at h;rcases h with h|h
  obtain⟨p,i,l⟩:=tI k h;exact⟨p,by omega,l⟩;by_cases d:0<dm.getD k 0;rw[aD d]at h;obtain⟨s,i,rfl⟩:=auT.1 h;exact⟨k,by omega,d,rfl,i,rfl⟩;rw[aB d]at h;cases h
theorem uD{c:Int × I_ × Int}{n:Nat}(h:c∈nA n):∃d,d<n/\c=(-1,[(d:Int)],0):=by
 unfold nA at h;obtain⟨d,i,rfl⟩:=auT.1 h;exact⟨d,avM.1 i,rfl⟩
theorem IA(dm:I_){k p:Nat}(h:p<k):(iB dm k).getD p 0=if 0<dm.getD p 0 then(((dm.take p).countP λn=>decide (0<n):Nat):Int)else -1:=by
 unfold iB;simp[auM,h]
theorem tD(dm:I_):∀{k p:Nat},p<k->k<=l'' dm->0<dm.getD p 0->(dm.take p).countP (λn=>decide (0<n))<(dE dm k).length
 |0,_,h,_,_=>absurd h (axA _)
 |k+1,p,h,l,i=>by rw[uF dm l,auJ];by_cases c:p=k;subst c;rw[aD i,qW];simp;have:=tD dm (k:=k) (p:=p) Om Om i;omega
theorem CU(dm rl:I_)(al:Nat->L2_)(lo:Nat->I_->Int)(d:Nat):FT (stB dm rl al lo) (-1) [(d:Int)]=[(((dE dm dm.length).length+d:Nat):Int)]:=by
 unfold FT;rw[aB aU,ajI];unfold stB;simp only[avH,avY,axI];congr 1;omega
theorem c7(dm rl:I_)(al:Nat->L2_)(lo:Nat->I_->Int){p:Nat}(hp:p<l'' dm)(i:0<dm.getD p 0)(s:I_):FT (stB dm rl al lo) (p:Int) s=(((dm.take p).countP λn=>decide (0<n):Nat):Int)::s.map λd=>(((dE dm dm.length).length:Nat):Int)+d:=by
 unfold FT;rw[aD (Int.natCast_nonneg p),awG,ajI,show(stB dm rl al lo).row=iB dm dm.length from rfl,IA dm hp,aD i,List.singleton_append];congr 1;refine axL λd _=>?_;unfold stB;simp only;omega
theorem jC.cl(h:jC dm rl al lo):SD (stB dm rl al lo) (clB dm rl al lo):=by
 have E:(stB dm rl al lo).row.length=l'' dm:=iC ..;have F:(stB dm rl al lo).m=(dE dm dm.length).length+l'' rl:=rfl;have:=h.m;have:=h.n;have:=h.num;refine⟨rfl,h.m,by omega,?_,?_,?_,?_,?_,?_⟩;unfold clB;rw[auJ,DW];omega;intro c hc;rw[E];rcases avX.1 hc with hc|hc
 obtain⟨p,i,-,e,-⟩:=tI _ hc;omega;obtain⟨d,i,rfl⟩:=uD hc;simp only;omega;intro c hc e he;rw[F];rcases avX.1 hc with hc|hc
 obtain⟨p,i,u,w,l,-⟩:=tI _ hc;rw[w,c7 dm rl al lo i u]at he;have hlt:=tD dm i (auG _) u;rcases auQ.1 he with rfl|he
 omega;obtain⟨d,y,rfl⟩:=auT.1 he;have:=(h.set p i _ l).2.2 d y;omega;obtain⟨d,i,rfl⟩:=uD hc;simp only at he;rw[CU,avN]at he;omega;intro c hc;rcases avX.1 hc with hc|hc
 obtain⟨p,i,u,w,l,-⟩:=tI _ hc;exact(h.set p i _ l).2.1;obtain⟨d,i,rfl⟩:=uD hc;simp;intro c hc d y;rcases avX.1 hc with hc|hc
 obtain⟨p,i,u,w,l,-⟩:=tI _ hc;have:=(h.set p i _ l).2.2 d y;omega;obtain⟨A,i,rfl⟩:=uD hc;simp only[avN]at y;omega;intro c hc;rcases avX.1 hc with hc|hc
 obtain⟨p,i,u,w,l,e2⟩:=tI _ hc;rw[e2];exact h.cost p i _ l;obtain⟨A,i,rfl⟩:=uD hc;simp
def PB(dm rl:I_)(al:Nat->L2_)(lo:Nat->I_->Int):Bool->Lin:=PX (stB dm rl al lo) (cE (stB dm rl al lo) (clB dm rl al lo)) (rhB dm rl) (cO (clB dm rl al lo))
theorem Kx{l:I_}(h:l.Nodup)(x:Int):l.count x<=1:=List.nodup_iff_count.1 h x
theorem jC.To(h:jC dm rl al lo){c:Int × I_ × Int}(hc:c∈clB dm rl al lo):(FT (stB dm rl al lo) c.1 c.2.1).Nodup:=by
 rcases avX.1 hc with hc|hc
 obtain⟨p,i,l,w,y,-⟩:=tI _ hc;have hlt:=tD dm i (auG _) l;have u:=h.set p i _ y;rw[w,c7 dm rl al lo i l,List.nodup_cons];refine⟨λF=>?_,List.Pairwise.map _ (λa b A=>by omega) u.1⟩;obtain⟨d,E,e⟩:=auT.1 F;have:=u.2.2 d E;omega;obtain⟨d,i,rfl⟩:=uD hc;simp only;rw[CU];simp
theorem jC.E4(h:jC dm rl al lo):(stB dm rl al lo).cols.length=(jZ dm al lo dm.length).length+l'' rl:=by
 rw[h.cl.IV];unfold clB;rw[auJ,DW]
theorem agL(w:∀x∈dm,x<=200):∀x∈dE dm dm.length,0<=x/\x<=200:=by
 intro x i;unfold dE at i;obtain⟨l,u⟩:=ayM.1 i;have:=w x (ayW l);simp only[dT_]at u;omega
theorem jC.rhs(h:jC dm rl al lo)(r:Nat):0<=rhB dm rl r/\rhB dm rl r<=200:=by
 unfold rhB;rw[auM];by_cases c:r<(dE dm dm.length++rl).length;rw[auP c,axC];rcases avX.1 (auH c)with hm|hm
 exact agL h.dem _ hm;exact h.room _ hm;rw[avZ Om];exact⟨Int.le_refl 0,by decide⟩
theorem jC.VO(h:jC dm rl al lo)(first:Bool):(PB dm rl al lo first).xR:=by
 refine⟨h.m,λj r u=>?_,λr _=>?_,λj=>?_⟩;change(if j<(stB dm rl al lo).cols.length then(((cE (stB dm rl al lo) (clB dm rl al lo) j).count (r:Int):Nat):Int)else idM (j-(stB dm rl al lo).cols.length) r).natAbs<=1;split;rename_i l;rw[h.cl.IV]at l;obtain⟨-,e,-,i⟩:=h.cl.at' l;rw[e,Int.natAbs_natCast];exact Kx (h.To i) _;unfold idM;split<;>decide;have:=h.rhs r;change(rhB dm rl r).natAbs<=200;omega;change 0<=(if j<(stB dm rl al lo).cols.length then(if first then 0 else cO (clB dm rl al lo) j)else if first then 1 else 0)/\(if j<(stB dm rl al lo).cols.length then(if first then 0 else cO (clB dm rl al lo) j)else if first then 1 else 0)<=10000;by_cases c:j<(stB dm rl al lo).cols.length
 ·rw[aD c];cases first with
  |true=>rw[aD rfl];decide
  |false =>rw[h.cl.IV]at c;obtain⟨-,-,e,i⟩:=h.cl.at' c;have:=h.cl.cost _ i;rw[aB aU,e];exact this
 rw[aB c];cases first<;>decide
def b0B(dm rl:I_)(al:Nat->L2_)(lo:Nat->I_->Int)(i:Nat):Nat:=ixX (stB dm rl al lo).cols.length ((tA (dE dm dm.length).length (jZ dm al lo dm.length).length ((dE dm dm.length).length+l'' rl)).getD i 0)
def d0B(dm rl:I_)(al:Nat->L2_)(lo:Nat->I_->Int):XDy:=⟨1,λi k=>idM i k,λi=>(dE dm dm.length++rl).getD i 0,λi=>(tA (dE dm dm.length).length (jZ dm al lo dm.length).length ((dE dm dm.length).length+l'' rl)).getD i 0⟩
theorem yb(nn first m:Nat){i:Nat}(h:i<m):(tA nn first m).getD i 0=if i<nn then -1-(i:Int)else(first:Int)+i-nn:=by
 unfold tA;simp[auM,h]
theorem Zg(i k:Nat):idM i k=idM k i:=by
 unfold idM;by_cases c:i=k;rw[aD c,aD c.symm];rw[aB c,aB (λe=>c e.symm)]
theorem Jc(dm rl:I_)(al:Nat->L2_)(lo:Nat->I_->Int){d:Nat}(i:d<l'' rl):(clB dm rl al lo).getD ((jZ dm al lo dm.length).length+d) (0,[],0)=(-1,[(d:Int)],0):=by
 unfold clB nA;rw[auM,awH Om];simp[i]
theorem jC.aqF(h:jC dm rl al lo)(first:Bool)(i r:Nat)(hi:i<(PB dm rl al lo first).m):(PB dm rl al lo first).col (b0B dm rl al lo i) r=idM i r:=by
 have l:i<(dE dm dm.length).length+l'' rl:=hi;have u:=h.E4;change(if b0B dm rl al lo i<(stB dm rl al lo).cols.length then(((cE (stB dm rl al lo) (clB dm rl al lo) (b0B dm rl al lo i)).count (r:Int):Nat):Int)else idM (b0B dm rl al lo i-(stB dm rl al lo).cols.length) r)=idM i r;have hb:b0B dm rl al lo i=if i<(dE dm dm.length).length then(stB dm rl al lo).cols.length+i else(jZ dm al lo dm.length).length+(i-(dE dm dm.length).length):=by unfold b0B;rw[yb _ _ _ l];unfold ixX;by_cases c:i<(dE dm dm.length).length;rw[aD c,aD c,aD Om];omega;rw[aB c,aB c,aB Om];omega
 rw[hb];by_cases c:i<(dE dm dm.length).length;rw[aD c,aB Om,show(stB dm rl al lo).cols.length+i-(stB dm rl al lo).cols.length=i by omega];rw[aB c,aD Om];unfold cE;rw[Jc dm rl al lo (Om:i-(dE dm dm.length).length<l'' rl)];simp only;rw[CU,show(dE dm dm.length).length+(i-(dE dm dm.length).length)=i by omega];unfold idM;by_cases e:r=i;subst e;simp;rw[aB e];have:¬((i:Int)=(r:Int)):=Om;simp[this]
theorem jC.rl0(h:jC dm rl al lo)(first:Bool):(PB dm rl al lo first).Rl (stB dm rl al lo).cols.length (b0B dm rl al lo) (d0B dm rl al lo)/\(PB dm rl al lo first).oN (b0B dm rl al lo):=by
 obtain⟨g1,g2,g3,g4⟩:=Lin.afG (P:=PB dm rl al lo first) (b:=b0B dm rl al lo) λi r hi _=>h.aqF first i r hi
 have l:(PB dm rl al lo first).m=(dE dm dm.length).length+l'' rl:=rfl;have u:=h.E4;refine⟨⟨g1,by rw[g2];rfl,λi k hi _=>by rw[g3 i k hi];exact Zg i k,λi hi=>by rw[g4 i hi];rfl,λi hi=>rfl,λi hi=>?_⟩,λi hi=>?_⟩;rw[l]at hi ⊢;change -(((dE dm dm.length).length+l'' rl:Nat):Int)<=(tA _ _ _).getD i 0/\(tA _ _ _).getD i 0<((stB dm rl al lo).cols.length:Nat);rw[yb _ _ _ hi];split<;>omega;rw[g4 i hi];exact(h.rhs i).1
end
theorem QI(f:Nat->Int)(a:Nat):∀b,bB f (a+b)=bB f a+bB (λk=>f (a+k)) b
 |0=>(Int.add_zero _).symm
 |b+1=>by rw[show a+(b+1)=(a+b)+1 from rfl,bB,bB,QI f a b,Int.add_assoc]
section
variable {dm rl:I_} {al:Nat->L2_} {lo:Nat->I_->Int}
def cnY(al:Nat->L2_)(p i d:Nat):Int:=((((al p).getD i []).count (d:Int):Nat):Int)
structure vL(dm rl:I_)(al:Nat->L2_)(t:Int)(y:Nat->Nat->Int):Prop where
 nn:∀p i,p<l'' dm->i<(al p).length->0<=y p i
 dem:∀p,p<l'' dm->0<dm.getD p 0->bB (y p) (al p).length=t*dm.getD p 0
 none:∀p i,p<l'' dm->¬0<dm.getD p 0->i<(al p).length->y p i=0
 room:∀d,d<l'' rl->bB (λp=>bB (λi=>y p i*cnY al p i d) (al p).length) dm.length<=t*rl.getD d 0
def HI(al:Nat->L2_)(lo:Nat->I_->Int)(n:Nat)(y:Nat->Nat->Int):Int:=bB (λp=>bB (λi=>y p i*lo p ((al p).getD i [])) (al p).length) n
def ofK(dm:I_)(al:Nat->L2_)(lo:Nat->I_->Int)(p:Nat):Nat:=(jZ dm al lo p).length
theorem gt(p:Nat):ofK dm al lo (p+1)=ofK dm al lo p+if 0<dm.getD p 0 then(al p).length else 0:=by
 unfold ofK;rw[xW,auJ];split<;>simp
theorem Hy{p:Nat}:∀{n},p<=n->ofK dm al lo p<=ofK dm al lo n
 |0,h=>by rw[show p=0 by omega];exact auG _
 |n+1,h=>by by_cases e:p=n+1;rw[e];exact auG _;have:=Hy (p:=p) (n:=n) Om;rw[gt];omega
theorem Jr(F:Nat->Int):∀k,bB F (ofK dm al lo k)=bB (λp=>if 0<dm.getD p 0 then bB (λi=>F (ofK dm al lo p+i)) (al p).length else 0) k
 |0=>rfl
 |k+1=>by rw[gt,bB,<-Jr F k];split;rw[QI];rw[Int.add_zero];rfl
theorem S7{p i n:Nat}(hp:p<n)(u:0<dm.getD p 0)(hi:i<(al p).length):ofK dm al lo p+i<ofK dm al lo n/\(jZ dm al lo n)[ofK dm al lo p+i]?=some ((p:Int),(al p).getD i [],lo p ((al p).getD i [])):=by
 have y:=gt (dm:=dm) (al:=al) (lo:=lo) p;rw[aD u]at y;have w:=Hy (dm:=dm) (al:=al) (lo:=lo) (Om:p+1<=n);refine⟨by omega,?_⟩;have l:∀k,p<k->(jZ dm al lo k)[ofK dm al lo p+i]?=some ((p:Int),(al p).getD i [],lo p ((al p).getD i [])):=by
  intro k
  induction k with
  |zero=>intro h;omega
  |succ k A =>intro h;rw[xW];by_cases e:p=k;subst e;rw[aD u,awH (by unfold ofK;omega),show ofK dm al lo p+i-(jZ dm al lo p).length=i by unfold ofK;omega];simp[auM,hi];have E:=Hy (dm:=dm) (al:=al) (lo:=lo) (Om:p+1<=k);rw[awR (by unfold ofK at *;omega)];exact A Om
 exact l n hp
theorem ajF{p i:Nat}(hp:p<l'' dm)(l:0<dm.getD p 0)(hi:i<(al p).length):(clB dm rl al lo).getD (ofK dm al lo p+i) (0,[],0)=((p:Int),(al p).getD i [],lo p ((al p).getD i [])):=by
 obtain⟨w,u⟩:=S7 (dm:=dm) (al:=al) (lo:=lo) hp l hi;unfold clB;rw[auM,awR (by unfold ofK at *;omega),u];rfl
def rwK(dm:I_)(p:Nat):Nat:=(dm.take p).countP λn=>decide (0<n)
theorem Js(D:Nat->Int):∀k,k<=l'' dm->bB (λi=>D i*(dE dm k).getD i 0) (dE dm k).length=bB (λp=>if 0<dm.getD p 0 then D (rwK dm p)*dm.getD p 0 else 0) k
 |0,_=>rfl
 |k+1,l=>by rw[bB,<-Js D k Om,uF dm l];by_cases c:0<dm.getD k 0;rw[aD c,aD c,auJ,auS,bB];congr 1;refine bM λi hi=>?_;rw[auM,awR hi,<-auM];rw[auM,awH (auG _),awU,qW];rfl;rw[aB c,aB c,awD,Int.add_zero]
theorem Mw{p:Nat}(i:0<dm.getD p 0):∀{k},p<k->k<=l'' dm->(dE dm k)[rwK dm p]?=some (dm.getD p 0)
 |0,h,_=>absurd h (axA _)
 |k+1,h,l=>by rw[uF dm l];by_cases e:p=k;subst e;rw[aD i,awH (by rw[qW];exact auG _),qW];unfold rwK;rw[awU];rfl;have hlt:rwK dm p<(dE dm k).length:=tD dm Om Om i;rw[awR hlt];exact Mw i Om Om
section
variable (dm rl:I_) (al:Nat->L2_) (lo:Nat->I_->Int) (first:Bool) (b:Nat->Nat)
def nnK:Nat:=(dE dm dm.length).length
def uY(p:Nat):Int:=if 0<dm.getD p 0 then(PB dm rl al lo first).eF b (rwK dm p)else 0
def vY(d:Nat):Int:=(PB dm rl al lo first).eF b (nnK dm+d)
def cY(p i:Nat):Int:=if first then 0 else lo p ((al p).getD i [])
end
variable {first:Bool} {b:Nat->Nat}
theorem Ef:(PB dm rl al lo first).m=nnK dm+l'' rl:=rfl
theorem U4:(PB dm rl al lo first).obj b=bB (λp=>uY dm rl al lo first b p*dm.getD p 0) dm.length+bB (λd=>vY dm rl al lo first b d*rl.getD d 0) rl.length:=by
 rw[Lin.Hx,Ef,QI];congr 1;have:=Js (dm:=dm) ((PB dm rl al lo first).eF b) dm.length (auG _);rw[bM (g:=λi=>(PB dm rl al lo first).eF b i*(dE dm dm.length).getD i 0) λi hi=>by show _*rhB dm rl i=_;unfold rhB;rw[auM,awR hi,<-auM]]
 refine this.trans (bM λp _=>?_);unfold uY;split;rfl;rw[awV];refine bM λd _=>?_;show _*rhB dm rl (nnK dm+d)=_;unfold rhB nnK vY;rw[auM,awH Om,Nat.add_sub_cancel_left,<-auM];rfl
theorem Jo(f:Nat->Int)(n:Nat):∀(s:I_),(∀d∈s,0<=d)->qT f (s.map λd=>((n:Nat):Int)+d)=qT (λd=>f (n+d)) s
 |[],_=>rfl
 |d::t,h=>by have:=h d List.mem_cons_self;rw[avH,BT,BT,Jo f n t λx i=>h x (ayV _ i),show(((n:Nat):Int)+d).toNat=n+d.toNat by omega]
theorem LQ(hB:jC dm rl al lo){p i:Nat}(hp:p<l'' dm)(y:0<dm.getD p 0)(hi:i<(al p).length) :
  ofK dm al lo p+i<(stB dm rl al lo).cols.length/\(PB dm rl al lo first).cost (ofK dm al lo p+i)=cY al lo first p i /\
  (PB dm rl al lo first).rc b (ofK dm al lo p+i)=cY al lo first p i*(PB dm rl al lo first).den b-(uY dm rl al lo first b p+bB (λd=>vY dm rl al lo first b d*cnY al p i d) rl.length)/\(∀d,d<l'' rl->(PB dm rl al lo first).col (ofK dm al lo p+i) (nnK dm+d)=cnY al p i d) /\
  ∀q,q<l'' dm->0<dm.getD q 0->(PB dm rl al lo first).col (ofK dm al lo p+i) (rwK dm q)=if p=q then 1 else 0:=by
 have hlt:ofK dm al lo p+i<(stB dm rl al lo).cols.length:=by rw[hB.E4];have:=(S7 (dm:=dm) (al:=al) (lo:=lo) hp y hi).1;unfold ofK at *;omega
 have E:=ajF (rl:=rl) (lo:=lo) hp y hi;have N:(al p).getD i []∈al p:=by rw[auM,auP hi];exact auH hi
 have l:=hB.set p hp _ N;have H:cE (stB dm rl al lo) (clB dm rl al lo) (ofK dm al lo p+i)=(((rwK dm p:Nat)):Int)::((al p).getD i []).map λd=>((nnK dm:Nat):Int)+d:=by unfold cE;rw[E];exact c7 dm rl al lo hp y _
 have u:(PB dm rl al lo first).cost (ofK dm al lo p+i)=cY al lo first p i:=by change(if _<_ then(if first then 0 else cO (clB dm rl al lo) (ofK dm al lo p+i))else _)=_;rw[aD hlt];unfold cO cY;rw[E]
 have w:∀r,(PB dm rl al lo first).col (ofK dm al lo p+i) r=(((cE (stB dm rl al lo) (clB dm rl al lo) (ofK dm al lo p+i)).count (r:Int):Nat):Int):=λr=>aD hlt;have F:∀q,q<l'' dm->0<dm.getD q 0->rwK dm q<nnK dm:=λq K y=>tD dm K (auG _) y;have M:=hB.m;refine⟨hlt,u,?_,λd A=>?_,λq K J=>?_⟩;unfold Lin.rc;rw[u];congr 1;rw[bM (λk _=>by rw[w k]),zB _ _ _ (λe he=>?_),H,BT,awG,Jo _ _ _ λd A=>(l.2.2 d A).1];unfold uY;rw[aD y];congr 1;exact(zB (λd=>(PB dm rl al lo first).eF b (nnK dm+d)) rl.length _ λd A=>l.2.2 d A).symm;rw[H]at he;rw[Ef];rcases auQ.1 he with rfl|he
 have:=F p hp y;omega;obtain⟨d,A,rfl⟩:=auT.1 he;have:=l.2.2 d A;omega
 ·rw[w,H,List.count_cons,aB (by simp;have:=F p hp y;omega),awX];unfold cnY;congr 1;generalize(al p).getD i []=s;clear N l H w u E hlt
  induction s with
  |nil=>rfl
  |cons x t Y =>rw[avH,List.count_cons,List.count_cons,Y];congr 1;by_cases e:x=(d:Int);rw[aD (by simp;omega),aD (by simp[e])];rw[aB (by simp;omega),aB (by simp[e])]
 rw[w,H,List.count_cons];have W:(((al p).getD i []).map λd=>((nnK dm:Nat):Int)+d).count ((rwK dm q:Nat):Int)=0:=by rw[List.count_eq_zero];intro U;obtain⟨d,A,e⟩:=auT.1 U;have:=l.2.2 d A;have:=F q K J;omega
 rw[W];by_cases e:p=q;subst e;simp;have V:rwK dm p≠rwK dm q:=by
  intro h;have mono:∀a c,a<c->c<=l'' dm->0<dm.getD a 0->rwK dm a<rwK dm c:=λa c O Q S=>by have:=tD dm O Q S;rw[qW]at this;exact this
  rcases Nat.lt_or_gt_of_ne e with g|g
  have:=mono p q g Om y;omega;have:=mono q p g Om J;omega
 rw[aB (by simp;omega),aB e];rfl
theorem AA(hB:jC dm rl al lo){d:Nat}(A:d<l'' rl) :
  ofK dm al lo dm.length+d<(stB dm rl al lo).cols.length/\(PB dm rl al lo first).cost (ofK dm al lo dm.length+d)=0/\(PB dm rl al lo first).rc b (ofK dm al lo dm.length+d)=- vY dm rl al lo first b d /\
  ∀r,(PB dm rl al lo first).col (ofK dm al lo dm.length+d) r=if r=nnK dm+d then 1 else 0:=by
 have hlt:ofK dm al lo dm.length+d<(stB dm rl al lo).cols.length:=by rw[hB.E4];unfold ofK;omega
 have w:=Jc dm rl al lo A;have y:cE (stB dm rl al lo) (clB dm rl al lo) (ofK dm al lo dm.length+d)=[((nnK dm+d:Nat):Int)]:=by unfold cE ofK;rw[w];exact CU dm rl al lo d
 have u:(PB dm rl al lo first).cost (ofK dm al lo dm.length+d)=0:=by change(if _<_ then(if first then 0 else cO (clB dm rl al lo) (ofK dm al lo dm.length+d))else _)=_;rw[aD hlt];unfold cO ofK;rw[w];split<;>rfl
 have l:∀r,(PB dm rl al lo first).col (ofK dm al lo dm.length+d) r=if r=nnK dm+d then 1 else 0:=λr=>by change(if _<_ then(((cE (stB dm rl al lo) (clB dm rl al lo) (ofK dm al lo dm.length+d)).count (r:Int):Nat):Int)else _)=_;rw[aD hlt,y,List.count_cons,List.count_nil];by_cases e:r=nnK dm+d;rw[aD e,aD (by simp[e])];rfl;rw[aB e,aB (by simp;omega)];rfl
 refine⟨hlt,u,?_,l⟩;unfold Lin.rc;rw[u,awV,Int.zero_sub,jW (i:=nnK dm+d) (by rw[Ef];omega) (λk _ E=>by rw[l,aB E,axE]),l,aD rfl,Int.mul_one];rfl
theorem adO(hB:jC dm rl al lo)(hb:∀j,j<(stB dm rl al lo).cols.length->0<=(PB dm rl al lo first).rc b j){t:Int}{y:Nat->Nat->Int}(h:vL dm rl al t y) :
  t*(PB dm rl al lo first).obj b<=(PB dm rl al lo first).den b*bB (λp=>bB (λi=>y p i*cY al lo first p i) (al p).length) dm.length:=by
 have J:∀d,d<l'' rl->vY dm rl al lo first b d<=0:=λd u=>by obtain⟨l,-,w,-⟩:=AA (lo:=lo) (first:=first) (b:=b) hB u;have:=hb _ l;omega
 have E:t*bB (λp=>uY dm rl al lo first b p*dm.getD p 0) dm.length=bB (λp=>bB (λi=>y p i*uY dm rl al lo first b p) (al p).length) dm.length:=by
  rw[<-dD];refine bM λp hp=>?_;by_cases c:0<dm.getD p 0;rw[bM (g:=λi=>uY dm rl al lo first b p*y p i) λi _=>axW _ _,dD,h.dem p hp c]
  grind
  unfold uY;rw[aB c,gV λi _=>axE _];simp
 have e2:t*bB (λd=>vY dm rl al lo first b d*rl.getD d 0) rl.length<=bB (λp=>bB (λi=>y p i*bB (λd=>vY dm rl al lo first b d*cnY al p i d) rl.length) (al p).length) dm.length:=by
  rw[<-dD];have F:bB (λp=>bB (λi=>y p i*bB (λd=>vY dm rl al lo first b d*cnY al p i d) rl.length) (al p).length) dm.length=bB (λd=>vY dm rl al lo first b d*bB (λp=>bB (λi=>y p i*cnY al p i d) (al p).length) dm.length) rl.length:=by rw[bM (g:=λp=>bB (λd=>bB (λi=>y p i*(vY dm rl al lo first b d*cnY al p i d)) (al p).length) rl.length) λp _=>by rw[qY];exact bM λi _=>(dD _ _ _).symm];rw[qY];refine bM λd _=>?_;rw[<-dD];refine bM λp _=>?_;rw[<-dD];exact bM λi _=>by grind
  rw[F];refine Lin.sF λd u=>?_;have l:=h.room d u;have w:=Int.mul_le_mul_of_nonpos_left (J d u) l;have A:t*(vY dm rl al lo first b d*rl.getD d 0)=vY dm rl al lo first b d*(t*rl.getD d 0):=by grind
  omega
 have K:bB (λp=>bB (λi=>y p i*uY dm rl al lo first b p) (al p).length) dm.length+bB (λp=>bB (λi=>y p i*bB (λd=>vY dm rl al lo first b d*cnY al p i d) rl.length) (al p).length) dm.length<=(PB dm rl al lo first).den b*bB (λp=>bB (λi=>y p i*cY al lo first p i) (al p).length) dm.length:=by
  rw[<-lP,<-dD];refine Lin.sF λp hp=>?_;rw[<-lP,<-dD];refine Lin.sF λi hi=>?_;by_cases c:0<dm.getD p 0;obtain⟨l,-,w,-⟩:=LQ (lo:=lo) (first:=first) (b:=b) hB hp c hi;have A:=hb _ l;rw[w]at A;have H:=ayX (c:=y p i) (Om:uY dm rl al lo first b p+bB (λd=>vY dm rl al lo first b d*cnY al p i d) rl.length<=cY al lo first p i*(PB dm rl al lo first).den b) (h.nn p i hp hi);have h5:(PB dm rl al lo first).den b*(y p i*cY al lo first p i)=y p i*(cY al lo first p i*(PB dm rl al lo first).den b):=by grind
  rw[h5,<-Int.mul_add];exact H;rw[h.none p i hp c hi];simp
 rw[U4,Int.mul_add,E];omega
def yB(dm rl:I_)(al:Nat->L2_)(lo:Nat->I_->Int)(b:Nat->Nat)(p i:Nat):Int:=if 0<dm.getD p 0 then(PB dm rl al lo false).pt b (ofK dm al lo p+i)else 0
theorem x4(hB:jC dm rl al lo)(F:Nat->Int):bB F (stB dm rl al lo).cols.length=bB (λp=>if 0<dm.getD p 0 then bB (λi=>F (ofK dm al lo p+i)) (al p).length else 0) dm.length+bB (λd=>F (ofK dm al lo dm.length+d)) rl.length:=by
 rw[hB.E4,QI,<-Jr F dm.length];rfl
theorem ptY(hB:jC dm rl al lo)(g:(PB dm rl al lo false).Good b)(f:(PB dm rl al lo false).oN b)(h:∀i,i<(PB dm rl al lo false).m->b i<(stB dm rl al lo).cols.length\/(PB dm rl al lo false).right b i=0) :
  vL dm rl al ((PB dm rl al lo false).den b) (yB dm rl al lo b)/\HI al lo dm.length (yB dm rl al lo b)=(PB dm rl al lo false).obj b:=by
 obtain⟨hp,K⟩:=Lin.aaM g f h;have w:∀q,q<l'' dm->0<dm.getD q 0->rwK dm q<nnK dm:=λq E J=>tD dm E (auG _) J;refine⟨⟨λp i l hi=>?_,λp l c=>?_,λp i _ c _=>aB c,λd u=>?_⟩,?_⟩;unfold yB;split;rename_i c;exact hp.nn _ (LQ (lo:=lo) (first:=false) (b:=b) hB l c hi).1;exact Int.le_refl 0;have e:=hp.eq (rwK dm p) (by rw[Ef];have:=w p l c;omega);have H:bB (λd=>(PB dm rl al lo false).pt b (ofK dm al lo dm.length+d)*(PB dm rl al lo false).col (ofK dm al lo dm.length+d) (rwK dm p)) rl.length=0:=gV λd u=>by rw[(AA (lo:=lo) (first:=false) (b:=b) hB u).2.2.2,aB (by have:=w p l c;omega),axE]
 rw[x4 hB,jW (i:=p) l (λq E y=>?_),aD c,H,Int.add_zero]at e;rw[show(PB dm rl al lo false).rhs (rwK dm p)=dm.getD p 0 from ?_]at e;refine Eq.trans (bM λi hi=>?_) e;rw[(LQ (lo:=lo) (first:=false) (b:=b) hB l c hi).2.2.2.2 p l c,aD rfl,Int.mul_one];exact aD c;show rhB dm rl (rwK dm p)=_;unfold rhB;rw[auM,awR (w p l c)];rw[Mw c l (auG _)];rfl;by_cases F:0<dm.getD q 0;rw[aD F];refine gV λi hi=>?_;rw[(LQ (lo:=lo) (first:=false) (b:=b) hB E F hi).2.2.2.2 p l c,aB y,axE];exact aB F;have e:=hp.eq (nnK dm+d) (by rw[Ef];omega);have A:=hp.nn _ (AA (lo:=lo) (first:=false) (b:=b) hB u).1;rw[x4 hB,jW (i:=d) u (λq E y=>?_),(AA (lo:=lo) (first:=false) (b:=b) hB u).2.2.2,aD rfl,Int.mul_one,show(PB dm rl al lo false).rhs (nnK dm+d)=rl.getD d 0 from ?_]at e;rw[<-e];refine Int.le_trans (Int.le_of_eq ?_) (Int.le_add_of_nonneg_right A);refine bM λp l=>?_;by_cases c:0<dm.getD p 0;rw[aD c];refine bM λi hi=>?_;rw[(LQ (lo:=lo) (first:=false) (b:=b) hB l c hi).2.2.2.1 d u];unfold yB;rw[aD c];rw[aB c];refine gV λi hi=>?_;unfold yB;rw[aB c,awV];show rhB dm rl (nnK dm+d)=_;unfold rhB nnK;rw[auM,awH Om,Nat.add_sub_cancel_left,<-auM];rw[(AA (lo:=lo) (first:=false) (b:=b) hB E).2.2.2,aB Om,axE];have H:bB (λd=>(PB dm rl al lo false).pt b (ofK dm al lo dm.length+d)*(PB dm rl al lo false).cost (ofK dm al lo dm.length+d)) rl.length=0:=gV λd u=>by rw[(AA (lo:=lo) (first:=false) (b:=b) hB u).2.1,axE]
 rw[<-K,x4 hB,H,Int.add_zero];refine bM λp l=>?_;by_cases c:0<dm.getD p 0;rw[aD c];refine bM λi hi=>?_;rw[(LQ (lo:=lo) (first:=false) (b:=b) hB l c hi).2.1];unfold yB;rw[aD c];rfl;rw[aB c];refine gV λi hi=>?_;unfold yB;rw[aB c,awV]
end
theorem XV.boxes{I:XId}{S:XSt}{D:XDy}{H:PH}(w:XV I S D H):∃B:List BX,aQ H B []/\(∀b∈B,vp I S.m b.1\/b.1=I.qo)/\∀H':PH,(∀b∈B,H' b.1=some b.2)->XV I S D H':=by
 obtain⟨N,r1,r2⟩:=w.right;obtain⟨M,b1,b2⟩:=w.basis;obtain⟨ro,o1,o2⟩:=w.outer;have hi:∀i,∃rs:P2_,i<S.m->H (I.q i)=some (.rows 1 rs)/\∀k,k<S.m->rs[k]?=some [.j (D.X i k)]:=λi=>by by_cases c:i<S.m;obtain⟨rs,l,F⟩:=w.inner i c;exact⟨rs,λ_=>⟨l,F⟩⟩;exact⟨[],λh=>absurd h c⟩
 obtain⟨A,y⟩:=Classical.axiomOfChoice hi;have n:=w.ne;have u:∀b:BX,b∈(auE S.m).map (λi=>((I.q i,.rows 1 (A i)):BX))->∃i,i<S.m/\b=(I.q i,.rows 1 (A i)):=λb h=>by obtain⟨i,l,rfl⟩:=auT.1 h;exact⟨i,avM.1 l,rfl⟩
 refine⟨(I.o,.rows 7 [S.cells I D.den])::(I.qr,.rows 1 N)::(I.qb,.rows 1 M)::(I.qo,.rows 1 ro)::(auE S.m).map λi=>(I.q i,.rows 1 (A i)),⟨λb hb=>?_,λx U=>(by cases U),?_⟩,λb hb=>?_,λH' h=>?_⟩;simp only[auQ]at hb;rcases hb with rfl|rfl|rfl|rfl|hb
 exact w.box;exact r1;exact b1;exact o1;obtain⟨i,l,rfl⟩:=u b hb;exact(y i l).1;have e:fN ((I.o,.rows 7 [S.cells I D.den])::(I.qr,.rows 1 N)::(I.qb,.rows 1 M)::(I.qo,.rows 1 ro)::(auE S.m).map λi=>((I.q i,.rows 1 (A i)):BX))=I.o::I.qr::I.qb::I.qo::(auE S.m).map I.q:=by unfold fN;simp only[avH,axM];rfl
 rw[e,show fG ([]:List LI)=[]from rfl,awD];have E:∀x,(∀i,i<S.m->¬I.q i=x)->x ∉ (auE S.m).map I.q:=λx h O=>by obtain⟨i,l,F⟩:=auT.1 O;exact h i (avM.1 l) F
 have K:((auE S.m).map I.q).Nodup:=by unfold List.Nodup;rw[List.pairwise_map];exact List.Pairwise.imp_of_mem (λ{a b} Q hb J e=>J (n.h a b (avM.1 Q) (avM.1 hb) e)) List.nodup_range
 simp only[List.nodup_cons,auQ,not_or];exact⟨⟨n.a,n.b,n.c,E _ λi h=>(n.g i h).1⟩,⟨n.d,n.e,E _ λi h=>(n.g i h).2.1⟩,⟨n.f,E _ λi h=>(n.g i h).2.2.1⟩,E _ λi h=>(n.g i h).2.2.2,K⟩;simp only[auQ]at hb;rcases hb with rfl|rfl|rfl|rfl|hb
 exact .inl (.inl rfl);exact .inl (.inr (.inl rfl));exact .inl (.inr (.inr (.inl rfl)));exact .inr rfl;obtain⟨i,l,rfl⟩:=u b hb;exact .inl (.inr (.inr (.inr ⟨i,l,rfl⟩)));have O:=λb hb=>h b hb;refine⟨n,h _ List.mem_cons_self,⟨N,h (I.qr,_) bC,r2⟩,⟨M,h (I.qb,_) bC,b2⟩,⟨ro,h (I.qo,_) bC,o2⟩,λi hi=>⟨A i,h (I.q i,_) ?_,(y i hi).2⟩⟩;simp only[auQ];exact .inr (.inr (.inr (.inr (auT.2 ⟨i,avM.2 hi,rfl⟩))))
structure UOk(n:Nat)(U:L2_):Prop where
 len:l'' U<=1000
 at_:∀u∈U,l'' u<=1000/\∀d∈u,0<=d/\d<n
def qU(U:L2_)(s:N_):I_:=s.flatMap λi=>U.getD i []
theorem Jy(U:L2_)(s:N_){i:Nat}(h:i<l'' s):qU U (s.take (i+1))=qU U (s.take i)++U.getD s[i] []:=by
 unfold qU;rw[awE h,List.flatMap_append];simp
theorem Li(U:L2_)(s:N_)(d:Nat):(qU U s).contains (d:Int)=tZ U s d:=by
 unfold qU tZ
 induction s with
 |nil=>rfl
 |cons i s l=>rw[List.flatMap_cons,List.contains_append,l,List.any_cons]
theorem Ta{K:cH}[Up K](ou Z y c nd n i:Nat)(fl:PV)(u:I_)(β:l'' u<=1000)(hu:∀d∈u,0<=d/\d<nd)(l:I_){F:PF}{H:PH}{B:List BX}{L:List LI}
  (A:aQ H B L) (b:Nat) (hb:B[b]?=some (y,.rows 1 (eK (marks nd l))))
  (hF:(((((((((((n_.set 2 (fl)).set 6 (.ptr ou 1 0 0)).set 7 (.ptr Z 1 0 0)).set 9 (.osl y 1 0 nd)).set 66 (.osl c 1 0 n)).set 67 (.j n)).set 68 (.j i)).set 75 (ints u)).set 76 (.j (l'' u:Nat))).set 77 (.j 0))).le F)
  (hK:∀H',aQ H' (B.set b (y,.rows 1 (eK (marks nd (l++u))))) L->K (.exit 4) ((((((((n_.set 2 (fl)).set 6 (.ptr ou 1 0 0)).set 7 (.ptr Z 1 0 0)).set 9 (.osl y 1 0 nd)).set 66 (.osl c 1 0 n)).set 67 (.j n)).set 68 (.j i))) H') :
  aK.wp C (.loop TA) K F H:=by
 refine wp_loop (α:=Nat × PH) (λs=>((((((((((n_.set 2 (fl)).set 6 (.ptr ou 1 0 0)).set 7 (.ptr Z 1 0 0)).set 9 (.osl y 1 0 nd)).set 66 (.osl c 1 0 n)).set 67 (.j n)).set 68 (.j i)).set 75 (ints u)).set 76 (.j (l'' u:Nat))).set 77 (.j s.1))) (λs=>s.2) (λs=>s.1<=l'' u/\aQ s.2 (B.set b (y,.rows 1 (eK (marks nd (l++u.take s.1))))) L) (λs=>l'' u-s.1) (0,H) ⟨auK _,?_⟩ hF b_ ?_;rw[List.take_zero,awD];have e:B.set b (y,.rows 1 (eK (marks nd l)))=B:=by obtain⟨h1,M⟩:=avP.1 hb;rw[<-M,List.set_getElem_self]
 rw[e];exact A;rintro⟨j,H0⟩ ⟨hj,A⟩;simp only at hj A;have N:b<l'' B:=(avP.1 hb).1;have E:(B.set b (y,aW.rows 1 (eK (marks nd (l++u.take j)))))[b]?=some (y,.rows 1 (eK (marks nd (l++u.take j)))):=List.getElem?_set_self N;simp only[go_sem,TA];by_cases hlt:j<l'' u;have w:(j:Int)<(l'' u:Nat):=Om;have U:(u.map λn=>[PV.int .i64 n])[j]?=some [.j u[j]]:=by simp[hlt]
 obtain⟨W,Y⟩:=hu _ (auH hlt);have V:u.take (j+1)=u.take j++[u[j]]:=awE hlt;have Q:(u[j]).toNat<(eK (marks nd (l++u.take j))).length:=by rw[HG,TY];omega
 have O:(eK (marks nd (l++u.take j)))[(u[j]).toNat]?=some [.bool ((l++u.take j).contains u[j])]:=by unfold eK;rw[avC,GG W Y];rfl
 have S:=A.at b E;have M:=A.set b E (.rows 1 (eK (marks nd (l++u.take (j+1)))));rw[List.set_set]at M;have J:=TZ (l:=l++u.take j) W Y;rw[avW,<-V]at J;simp only[go_sem,w,U,W,Y,avA,S,O,Q,mU,J,wZz j];exact aF (j+1,H0.set y (.rows 1 (eK (marks nd (l++u.take (j+1)))))) ⟨hlt,M⟩ sO_ Lq b_;have w:¬(j:Int)<(l'' u:Nat):=Om;have:j=l'' u:=Om;subst this;rw[avI]at A;simp only[go_sem,w];exact Up.up Lq (hK H0 A)
def scB(i w c u:Nat)(y:PV)(U:L2_)(s:N_)(nd:Nat)(l:I_):List BX:=[(i,.rows 1 [[y]]),(w,.rows 1 [[lay U]]),(c,.rows 1 (aR (cR s))),(u,.rows 1 (eK (marks nd l)))]
theorem Ki{K:cH}[Up K](J A E c nd n:Nat)(fl vo:PV)(U:L2_)(hU:UOk nd U)(s:N_)(hs:l'' s=n)(W:∀x∈s,x<l'' U)(hn:n<=1000){F:PF}{H:PH}{L:List LI}
  (y:aQ H (scB A J c E vo U s nd []) L)
  (hF:((((((((n_.set 2 (fl)).set 6 (.ptr J 1 0 0)).set 7 (.ptr A 1 0 0)).set 9 (.osl E 1 0 nd)).set 66 (.osl c 1 0 n)).set 67 (.j n)).set 68 (.j 0))).le F)
  (hK:∀H',aQ H' (scB A J c E vo U s nd (qU U s)) L->K (.exit 2) (((((n_.set 2 (fl)).set 6 (.ptr J 1 0 0)).set 7 (.ptr A 1 0 0)).set 9 (.osl E 1 0 nd))) H') :
  aK.wp C (.loop TB) K F H:=by
 refine wp_loop (α:=Nat × PH) (λt=>(((((((n_.set 2 (fl)).set 6 (.ptr J 1 0 0)).set 7 (.ptr A 1 0 0)).set 9 (.osl E 1 0 nd)).set 66 (.osl c 1 0 n)).set 67 (.j n)).set 68 (.j t.1))) (λt=>t.2) (λt=>t.1<=l'' s/\aQ t.2 (scB A J c E vo U s nd (qU U (s.take t.1))) L) (λt=>l'' s-t.1) (0,H) ⟨auK _,y⟩ hF b_ ?_;rintro⟨i,H0⟩ ⟨hi,y⟩;simp only at hi y;simp only[go_sem,TB];by_cases hlt:i<l'' s;have l:(i:Int)<(n:Nat):=Om;have hc:=y.at 2 rfl;have V:=y.at 1 rfl;have Q:=EV hlt;have S:i<(aR (cR s)).length:=by rw[bG,iR];exact hlt
 have Y:=W s[i] (auH hlt);have Z:((s[i]:Nat):Int)<(l'' U:Nat):=Om;have w:=Jy U s hlt;have M:=hU.at_ U[s[i]] (auH Y);have O:U.getD s[i] []=U[s[i]]:=by simp[auM,Y]
 have N:(U.map λr=>[ints r])[s[i]]?=some [ints U[s[i]]]:=by simp[Y]
 rw[O]at w;generalize U[s[i]]=u at *
 generalize s[i]=x at *
 simp only[go_sem,l,hc,Q,S,avA,V,Z,auD,N];have one:=λ{K:cH} [Up K] {F:PF}=>Ta (C:=C) (K:=K) J A E c nd n i fl u M.1 M.2 (qU U (s.take i)) (F:=F) y 3 rfl;refine one lM λH' h2=>?_;rw[<-w]at h2;simp only[go_sem,wZz i];exact aF (i+1,H') ⟨hlt,h2⟩ sO_ Lq b_;have l:¬(i:Int)<(n:Nat):=Om;have:i=l'' s:=Om;subst this;rw[avI]at y;simp only[go_sem,l];exact Up.up Lq (hK H0 y)
def scD(l:I_)(k:Nat):I_:=cR ((auE k).filter λd=>l.contains (d:Int))
theorem abA(l:I_)(k:Nat):scD l (k+1)=if l.contains (k:Int)then scD l k++[(k:Int)]else scD l k:=by
 unfold scD;rw[ayA,List.filter_append,Z6];by_cases h:l.contains (k:Int);rw[aD h];simp[cR]at h ⊢;simp[h];rw[aB h];simp[cR]at h ⊢;simp[h]
theorem ahJ(l:I_)(k:Nat):(scD l k).length<=k:=by
 unfold scD;rw[iR];exact avJ (List.length_filter_le ..) bC
theorem E7{K:cH}[Up K](E A O c nd:Nat)(β:nd<=1000)(fl Q:PV)(U:L2_)(s:N_)(l:I_){F:PF}{H:PH}{L:List LI}
  (w:aQ H (scB A E c O Q U s nd l) L)
  (Z:((((((((n_.set 2 (fl)).set 6 (.ptr E 1 0 0)).set 7 (.ptr A 1 0 0)).set 14 (.aE)).set 86 (.osl O 1 0 nd)).set 87 (.j nd)).set 88 (.j 0))).le F)
  (hK:∀v H',aQ H' (scB A E c O Q U s nd l) (L++[(v,1,aR (scD l nd))])->K (.exit 6) (((((n_.set 2 (fl)).set 6 (.ptr E 1 0 0)).set 7 (.ptr A 1 0 0)).set 14 (v))) H') :
  aK.wp C (.loop TC) K F H:=by
 refine wp_loop (α:=T3_) (λt=>(((((((n_.set 2 (fl)).set 6 (.ptr E 1 0 0)).set 7 (.ptr A 1 0 0)).set 14 (t.2.1)).set 86 (.osl O 1 0 nd)).set 87 (.j nd)).set 88 (.j t.1))) (λt=>t.2.2) (λt=>t.1<=nd/\aQ t.2.2 (scB A E c O Q U s nd l) (L++[(t.2.1,1,aR (scD l t.1))])) (λt=>nd-t.1) (0,.aE,H) ⟨auK _,w.lJ 1⟩ Z b_ ?_;clear w;rintro⟨k,v,S⟩ ⟨hk,w⟩;simp only at hk w;simp only[go_sem,TC];by_cases hlt:k<nd
 ·have u:(k:Int)<(nd:Nat):=Om;have M:=w.at 3 rfl;have i:=abA l k;have Y:=ahJ l k;have J:k<(eK (marks nd l)).length:=by rw[HG,TY];exact hlt
  have y:(eK (marks nd l))[k]?=some [.bool (l.contains (k:Int))]:=by have:=GG (n:=nd) (l:=l) (m:=(k:Int)) Om u;rw[awG]at this;unfold eK;rw[avC,this];rfl
  cases W:l.contains (k:Int)with
  |true=>
   rw[W]at y i;rw[aD rfl]at i;simp only[go_sem,u,M,y,J,avA];refine w.append L.length (rows:=aR (scD l k)) (src:=[[.j k]]) (wi _ _ _ rfl) Sq (by unfold roomFor;rw[bG];simp only[auS,maxLen];omega) λv' H' V _=>?_;have N:aR (scD l k)++[[.j k]]=aR (scD l (k+1)):=by rw[i,GC];rfl
   rw[N,axS _ _ (auG _),awU]at V;simp only[go_sem,wZz k];exact aF (k+1,v',H') ⟨hlt,V⟩ sO_ Lq b_
  |false =>rw[W]at y i;rw[aB aU]at i;rw[<-i]at w;simp only[go_sem,u,M,y,J,avA,wZz k];exact aF (k+1,v,S) ⟨hlt,w⟩ sO_ Lq b_
 have u:¬(k:Int)<(nd:Nat):=Om;have:k=nd:=Om;subst this;simp only[go_sem,u];exact Up.up Lq (hK v S w)
def kB(f:aH)(lv i:Int):Int:=if dR f&&(decide (1<=lv)&&decide (lv<=5)&&decide (1<=i)&&decide (i<=3))then(if 12<l'' f.asP\/512<gF ((iV f lv).length:Nat) i.toNat then 2 else 0)else 1
def mS(f:aH)(lv i:Int):L2_:=if kB f lv i=0 then vS f (iV f lv) i.toNat else[]
structure Sn(C:Ctx):Prop extends jk C where
 val:∀f:aH,f.Ok->aG C 96 [.agg f.cells] .nil (aJ (.int .i64 (sL f)))
 units:∀(f:aH)(lv:Int),VF f->1<=lv->lv<=5->aG C 206 [.agg f.cells,.int .i64 lv] .nil (aJ (lay (iV f lv)))
 choose:∀m n:Nat,m<=1000->n<=3->aG C 207 [.int .i64 m,.int .i64 n] .nil (aJ (.int .i64 (max (gF m n) 0)))
structure aiP(C:Ctx):Prop extends D5 C,Sn C
theorem i7{f:aH}(hV:VF f)(lv:Int):UOk f.asP.length (iV f lv)/\(iV f lv).length<=40:=by
 have J:=hV.small.asP;have E:=hV.small.asS;by_cases c:lv=5;subst c;rw[Bj];refine⟨⟨by simp;omega,λu w=>?_⟩,by simp;omega⟩;obtain⟨d,l,rfl⟩:=auT.1 w;rw[avM]at l;refine⟨by simp,λx A=>?_⟩;rw[avN]at A;omega;rw[Jz f c];have F:(rY f lv f.asP.length).length<=40:=by rw[sf];exact avJ (List.length_filter_le ..) (by simp;omega)
 refine⟨⟨by omega,λu w=>?_⟩,F⟩;obtain⟨i,-,rfl⟩:=auT.1 w;refine⟨by rw[iR];have:=nu f lv f.asP.length i;omega,λx A=>?_⟩;obtain⟨y,H,rfl⟩:=auT.1 A;have:=avM.1 (ayM.1 H).1;omega
theorem akQ(U:L2_)(s:N_)(nd:Nat):scD (qU U s) nd=cR ((auE nd).filter (tZ U s)):=by
 unfold scD;congr 2;funext d;exact Li U s d
instance upDone{R:PH->Prop}:Up (HN R):=⟨λ{e F i H} _ h=>by cases e<;>exact h⟩
def Ek(l u:Nat)(U:L2_)(w:L2_)(G:PH):Prop:=∃i ps,aQ G [(l,.rows 1 [[i]]),(u,.rows 1 [[lay U]])] (gX i ps)/\wls ps=w
theorem Kj(f:aH)(hV:VF f)(U:L2_)(hU:UOk f.asP.length U)(α:l'' U<=40)(n:Nat)(β:1<=n)(hn:n<=3)(J u:Nat)(F:PF)(f2:F 2=some (.bQ f.cells))(f6:F 6=some (.ptr J 1 0 0))(f7:F 7=some (.ptr u 1 0 0))(k:Nat)(hk:k<(eC U.length n 0).length)(G:PH)(c:Nat)
  (hI:Ek u J U (((eC U.length n 0).take k).map λs=>cR ((auE f.asP.length).filter (tZ U s))) G) (hc:G c=none) :
  SY.wp C (jB C (SZ.wp C) (HN (Ek u J U (((eC U.length n 0).take (k+1)).map λs=>cR ((auE f.asP.length).filter (tZ U s)))))) (F.set 61 (.osl c 1 0 n)) (G.set c (.rows 1 (aR (cR (eC U.length n 0)[k])))):=by
 obtain⟨w,ps,hH,hw⟩:=hI;have A:=hV.small;have O:(l'' f.asP:Int)*((1:Nat):Int)<=140737488355328:=by have:=A.asP;omega
 have Q:(l'' f.asP:Int)<=9223372036854775807:=by have:=A.asP;omega
 have i:(0:Int)<=(l'' f.asP:Int):=Om;have V:=wO U.length n 0 _ (auH hk);have W:(eC U.length n 0).take (k+1)=(eC U.length n 0).take k++[(eC U.length n 0)[k]]:=awE hk;have γ:l'' ps<=1099511627776:=by
  rw[<-MD,hw,auD,auU];have h1:=GN U.length n 0;have Z:2^(l'' U-0)<=2^40:=ayJ Om Om;have e:(2:Nat)^40=1099511627776:=by decide
  omega
 generalize(eC U.length n 0)[k]=s at *
 obtain⟨sl,N,-⟩:=V;rw[W,avD,<-hw];have Z:=hH.new hc (.rows 1 (aR (cR s)));simp only[go_sem,SY,SZ,f2,auD,O,Q,i,Int.le_refl,awG];refine aS λY S=>?_;rw[SO];have h3:=Z.new S (.rows 1 (eK (marks f.asP.length [])));simp only[go_sem];have mk:=λ{K:cH} [Up K] {F:PF} {H:PH}=>Ki (C:=C) (K:=K) J u Y c f.asP.length n (.bQ f.cells) w U hU s sl (λx hx=>(N x hx).2) Om (F:=F) (H:=H) (L:=gX w ps);refine mk h3 (lE3 f2 f6 f7) λH1 h4=>?_;simp only[go_sem];have dr:=λ{K:cH} [Up K] {F:PF} {H:PH}=>E7 (C:=C) (K:=K) J u Y c f.asP.length (by have:=A.asP;omega) (.bQ f.cells) w U s (qU U s) (F:=F) (H:=H) (L:=gX w ps);refine dr h4 Lq λv H2 h5=>?_;have hO:=h5.own (gX w ps).length (wi _ _ _ rfl);have M:=h5.at 0 rfl;rw[akQ]at h5 hO;generalize hD:cR ((auE f.asP.length).filter (tZ U s))=D at *
 have fin:∀(l:Nat)(H':PH),aQ H' (scB u J c Y w U s f.asP.length (qU U s)) ((gX w ps++[(v,1,aR D)]).set 0 (PV.osl l 1 0 (fE ps++[[v]]).length,1,fE ps++[[v]]))->Ek u J U (wls ps++[D]) (H'.set u (.rows 1 [[PV.osl l 1 0 (fE ps++[[v]]).length]])):=by
  intro l H' y;have h7:=y.set 0 rfl (aW.rows 1 [[PV.osl l 1 0 (fE ps++[[v]]).length]]);refine⟨PV.osl l 1 0 (fE ps++[[v]]).length,ps++[(v,D)],?_,?_⟩;have e:gX (PV.osl l 1 0 (fE ps++[[v]]).length) (ps++[(v,D)])=(gX w ps++[(v,1,aR D)]).set 0 (PV.osl l 1 0 (fE ps++[[v]]).length,1,fE ps++[[v]]):=by unfold gX fE tG;rw[avD,avD];rfl
  rw[e];exact(h7.AJ 3).AJ 2;unfold wls;rw[avD];rfl
 have room:roomFor (fE ps).length 1 24:=by unfold roomFor;rw[qX];simp only[maxLen];omega
 rcases hO with⟨-,rfl⟩|⟨q,rs,rfl,-,-,-⟩
 simp only[go_sem,M,auQ,avE,or_false,forall_eq];refine h5.append 0 (rows:=fE ps) (src:=[[PV.aE]]) rfl Sq room λv' H' y E=>?_;obtain⟨l,rfl⟩:=E bC;have i:=y.at 0 rfl;simp only[go_sem,i,auQ,avE,or_false,forall_eq];exact fin l H' y;simp only[go_sem,M,auQ,avE,or_false,forall_eq];refine h5.append 0 (rows:=fE ps) (src:=[[PV.osl q 1 0 (aR D).length]]) rfl Sq room λv' H' y E=>?_;obtain⟨l,rfl⟩:=E bC;have i:=y.at 0 rfl;simp only[go_sem,i,auQ,avE,or_false,forall_eq];exact fin l H' y
abbrev yC(lv i:Int):PV:=.agg [.int .i64 lv,.int .i64 i]
theorem Ye(O:Sn C)(Q S:Code)(f:aH)(hf:f.Ok)(lv i:Int) :
  (MY Q S).wp C (aX (Oq Q S).res (cN (.tup [lay (mS f lv i),.j (kB f lv i)]))) (g_ [.agg f.cells,yC lv i]) .nil:=by
 have hB:mS f lv i=if kB f lv i=0 then vS f (iV f lv) i.toNat else[]:=rfl
 have W:kB f lv i=if dR f&&(decide (1<=lv)&&decide (lv<=5)&&decide (1<=i)&&decide (i<=3))then(if 12<l'' f.asP\/512<gF ((iV f lv).length:Nat) i.toNat then 2 else 0)else 1:=rfl
 have hv:=O.val f hf;unfold sL at hv;have u:∀(e:Int)(F:PF)(H:PH),e≠0->kB f lv i=e->F 4=some .aE->F 5=some (.j e)->aX [.tmp 4,.tmp 5] (cN (.tup [lay (mS f lv i),.j (kB f lv i)])) .ret F H:=by intro e F H he l h2 h3;rw[l,aB he]at hB;rw[hB,l];exact HY (H:=H) (.inr rfl) (by simp only[go_sem,h2,h3]) (show aQ H [] (gX .aE [])from aQ.XU aQ.nil)
 have no:(dR f&&(decide (1<=lv)&&decide (lv<=5)&&decide (1<=i)&&decide (i<=3)))=false->kB f lv i=1:=λh=>by rw[W,h];rfl
 simp only[go_sem,MY,rA.wp,Oq];refine aA hv Ev ?_;cases hp:dR f with
 |false =>have l:=no (by rw[hp];rfl);simp only[go_sem,eZ (show(1:Int)≠0 by decide)];exact u 1 _ _ aU l Sq Sq
 |true=>
  have hV:=VF.of hp;by_cases V:lv<1;have l:=no (by rw[bT (Om:¬1<=lv)];simp);simp only[go_sem,dM (show(0:Int)=0 from rfl),V];exact u 1 _ _ aU l Sq Sq;by_cases c2:lv>5;have l:=no (by rw[bT (Om:¬lv<=5)];simp);simp only[go_sem,dM (show(0:Int)=0 from rfl),V,c2];exact u 1 _ _ aU l Sq Sq;by_cases c3:i<1;have l:=no (by rw[bT (Om:¬1<=i)];simp);simp only[go_sem,dM (show(0:Int)=0 from rfl),V,c2,c3];exact u 1 _ _ aU l Sq Sq;by_cases c4:i>3;have l:=no (by rw[bT (Om:¬i<=3)];simp);simp only[go_sem,dM (show(0:Int)=0 from rfl),V,c2,c3,c4];exact u 1 _ _ aU l Sq Sq;obtain⟨n,rfl⟩:∃n:Nat,i=n:=⟨i.toNat,by omega⟩;rw[hp,bH (Om:1<=lv),bH (Om:lv<=5),bH (Om:(1:Int)<=(n:Int)),bH (Om:(n:Int)<=3),Bool.and_self,Bool.and_self,Bool.and_self,Bool.and_self,aD rfl,awG]at W;rw[awG]at hB;obtain⟨hU,Z⟩:=i7 hV lv;have E:=O.units f lv hV Om Om;generalize iV f lv=U at *
  simp only[go_sem,dM (show(0:Int)=0 from rfl),V,c2,c3,c4];refine aA E Ev ?_;simp only[go_sem];refine aS λy θ=>?_;simp only[go_sem,auD];by_cases c5:12<l'' f.asP;have l:kB f lv n=2:=by rw[W,aD (.inl c5)]
  simp only[go_sem,show(l'' f.asP:Int)>12 by omega];exact u 2 _ _ aU l Sq Sq;simp only[go_sem,show ¬(l'' f.asP:Int)>12 by omega];refine aA (O.choose U.length n Om Om) Ev ?_;by_cases c6:512<gF (l'' U:Nat) n;have l:kB f lv n=2:=by rw[W,aD (.inr c6)]
  simp only[go_sem,show max (gF (l'' U:Nat) n) 0>512 by omega];exact u 2 _ _ aU l Sq Sq;have l:kB f lv n=0:=by rw[W,aB (λh=>h.elim c5 c6)]
  rw[l,aD rfl]at hB;rw[hB,l];simp only[go_sem,show ¬max (gF (l'' U:Nat) n) 0>512 by omega];refine aS λw N=>?_;have κ:¬w=y:=by rintro rfl;rw[cA]at N;cases N
  have J:¬y=w:=λe=>κ e.symm;simp only[go_sem,J,auD];refine fD (O.subs n U.length) Sq a_ ?_;rintro r H' ⟨o1,o2,M,rfl,rfl⟩ η;have ε:∀o x,(((h_.set o1 (.rows 1 [[.j n]])).set o2 (.rows 1 [[.j (l'' U:Nat)]])):PH) o=some x->¬w=o/\¬y=o:=λo x h=>by have:=η o x h rfl;refine⟨λe=>?_,λe=>?_⟩;rw[<-e,cA]at this;cases this;rw[<-e,aT,aB J,cA]at this;cases this
  obtain⟨α,γ⟩:=ε o1 _ (by rw[aT,aB M,cA]);obtain⟨β,δ⟩:=ε o2 _ (by rw[cA]);simp only[go_sem];generalize Y:PF.set _ 60 _=F;have f2:F 2=some (.bQ f.cells):=by rw[<-Y];simp only[go_sem]
  have f6:F 6=some (.ptr y 1 0 0):=by rw[<-Y];simp only[go_sem]
  have f7:F 7=some (.ptr w 1 0 0):=by rw[<-Y];simp only[go_sem]
  have μ:F 60=some (.fn 211 [.ptr o1 1 0 0,.ptr o2 1 0 0]):=by rw[<-Y];simp only[go_sem]
  clear Y;have K:vS f U n=((eC U.length n 0).take (eC U.length n 0).length).map λs=>cR ((auE f.asP.length).filter (tZ U s)):=by rw[avI];rfl
  have A:aQ ((h_.set y (.rows 1 [[lay U]])).set w (.rows 1 [[.aE]])) [(w,.rows 1 [[.aE]]),(y,.rows 1 [[lay U]])] (gX .aE []):=((((aQ.nil (H:=h_)).new θ _).new N _).perm (axF.swap _ _ _) (axF.refl _)).XU;refine⟨211,[.ptr o1 1 0 0,.ptr o2 1 0 0],Ek w y U (vS f U n),rfl,λhY=>?_,λH2 ζ=>?_⟩;rw[K];refine nw (m:=104) (t:=61) O.tojk rfl Om Om Om M (λk=>Ek w y U (((eC U.length n 0).take k).map λs=>cR ((auE f.asP.length).filter (tZ U s)))) ((h_.set y (.rows 1 [[lay U]])).set w (.rows 1 [[.aE]])) ⟨.aE,[],A,rfl⟩ ?_ ?_ ?_ ?_ ?_ hY λk hk G c hI hc=>Kj f hV U hU Z n Om Om y w F f2 f6 f7 k hk G c hI hc;intro o x ho;rw[iL];have e1:¬o=o1:=λe=>by rw[e,aT,aB (λh=>α h.symm),aT,aB (λh=>γ h.symm)]at ho;cases ho
  have e2:¬o=o2:=λe=>by rw[e,aT,aB (λh=>β h.symm),aT,aB (λh=>δ h.symm)]at ho;cases ho
  have:((h_.set o1 (.rows 1 [[.j n]])).set o2 (.rows 1 [[.j (l'' U:Nat)]]):PH) o=none:=by rw[aT,aB e2,aT,aB e1];rfl
  rw[this];exact ho;rw[iL];simp only[aT,aB M,if_true];rw[iL];simp only[aT,if_true];rw[aT,aB (λe=>α e.symm),aT,aB (λe=>γ e.symm)];rfl;rw[aT,aB (λe=>β e.symm),aT,aB (λe=>δ e.symm)];rfl;obtain⟨vo,ps,hH,ι⟩:=ζ;have hb:=hH.at 0 rfl;simp only[go_sem,lj,f7,hb];rw[<-ι];exact HY (.inr rfl) Sq ((hH.AJ 0).AJ 0)
theorem ZX{l:N_}(h:l.Pairwise (· < ·)):(cR l).Pairwise (· < ·):=by
 unfold cR;rw[List.pairwise_map];exact h.imp λh=>by omega
theorem abB{f:aH}(hV:VF f)(U:L2_)(w:l'' U<=40)(n:Nat):(vS f U n).length<=1099511627776/\∀s∈vS f U n,l'' s<=24/\s.Pairwise (· < ·):=by
 have y:=hV.small.asP;unfold vS;constructor;rw[auD];have l:=GN U.length n 0;have u:2^(l'' U-0)<=2^40:=ayJ Om Om;have e:(2:Nat)^40=1099511627776:=by decide
 omega;intro s i;obtain⟨t,-,rfl⟩:=auT.1 i;refine⟨?_,ZX (List.pairwise_lt_range.filter _)⟩;rw[iR];exact avJ (List.length_filter_le ..) (by simp;omega)
def OH(f:aH)(atB:Int)(set:I_)(lv i:Int):Int:=if kB f lv i≠0 then kB f lv i else if Xt f atB set then 0 else 1
def P2(f:aH)(atB:Int)(set:I_)(lv i:Int):Nat:=if OH f atB set lv i=0 then DD (mS f lv i) set (lK f atB).m else 0
def FR.got:FR->FV
 | .ok x=>x
 | .error _=>(false,0,0)
def FR.err:FR->Int
 | .ok _=>0
 | .error e=>e
theorem Md(r:FR):frV r=.tup [.agg r.got.rf.cells,.j r.err]:=by
 rcases r with e|⟨n,a,b⟩
 show frV (.error e)=.tup [.agg (fI false (aM 0) (aM 0)),.j e];rw[gL];rfl;rfl
def UP(x y:FV):Int:=rJ x.1 x.2.1 x.2.2 y.1 y.2.1 y.2.2
def jR(x:RF):Bool:=match oF x with
 | .ok (_,a,b)=>decide (nl a<=2)&&decide (nl b<=2)
 | .error _=>false
def yI:FV->FV->FR
 |(i,a1,b1),(l,a2,b2)=>if cK a1 b1&&cK a2 b2 then iU (i != l) (a1*a2) (b1*b2)else .error 1
theorem agG{x y r:FV}(h:yI x y=.ok r):r.rf.Ok:=by
 obtain⟨i,a1,b1⟩:=x;obtain⟨l,a2,b2⟩:=y;simp only[yI]at h;split at h;exact(rI h).2;cases h
theorem Nt:(FV.rf (false,0,0)).Ok:=by
 have h:FV.rf (false,0,0)=⟨false,[],[]⟩:=by show RF.mk false (aM 0) (aM 0)=_;rw[gL]
 rw[h];exact⟨λx i=>(avE i).elim,λx i=>(avE i).elim,auK _,auK _⟩
theorem ajV(x y:FV):(yI x y).got.rf.Ok:=by
 cases h:yI x y with
 |ok r=>exact agG h
 |error e=>exact Nt
theorem ajA(x y:FV):(gY x y).got.rf.Ok:=by
 cases h:gY x y with
 |ok r=>exact WY h
 |error e=>exact Nt
def yP(s x:FV)(n:Nat):FV:=(gY s (yI x (false,n,1)).got).got
theorem ahB(s x:FV)(n:Nat):(yP s x n).rf.Ok:=ajA _ _
def mN(s:FV):List FV->N_->FV
 |x::xs,n::ns=>mN (yP s x n) xs ns
 |_,_=>s
def eX(f:aH):I_:=sI f.asT.length (f.asR.map dW.atB)
def nE(l:List RF)(n:Nat):Bool:=l.all jR&&decide (l'' l=n)
def rS(f:aH)(room:I_)(a b:List RF):FV:=mN (mN (false,0,1) (a.map RF.v) ((eX f).map awC)) (b.map RF.v) ((mR f room).map awC)
def KO(f:aH)(a b:List RF):Bool:=dR f&&(nE a f.asT.length&&nE b f.asP.length)
def SN(f:aH)(room:I_)(a b:List RF):PV:=
 if KO f a b then .tup [.agg (rS f room a b).rf.cells,.int .i64 0]else .tup [.agg (fI false [] []),.int .i64 1]
abbrev nC:V_:=[.aE,.aE,.aE,.bool false,.aE,.aE]
theorem aeV(l:List RF):Flat (l.map RF.cells):=Flat.map l λx c i q s rs=>by
 obtain⟨n,a,b⟩:=x;simp only[RF.cells,auQ,avE,or_false]at i;rcases i with rfl|rfl|rfl<;>rfl
theorem Sf(f:aH)(rm:I_)(a b:List RF)(y:FV)(bnd:aG C 328 [.agg f.cells,ints rm,frs a,frs b] .nil (aJ (.tup [.agg y.rf.cells,.j 0])))
  (R:R_) (o6 A:Nat) (E W Y:PV) (rows:P2_) (Bx:List BX) (F:PF) (H:PH)
  (hF:(((((n_.set 2 (ints rm)).set 3 (.bQ f.cells)).set 6 (.ptr o6 6 0 0)).set 11 (.ptr A 6 0 0))).le F)
  (h8:aQ H ((A,.rows 6 [[E,W,Y,.bool false,.aE,.aE]])::(o6,.rows 6 [nC])::Bx) [(E,5,rows),(W,3,a.map RF.cells),(Y,3,b.map RF.cells)]) (ha:0<l'' a) (hb:0<l'' b)
  (hR:∀E,PV.one E=true->R (.tup [.agg ([E,frs a,frs b]++y.rf.cells),.j 0]) .nil) :
  aK.wp C (.seq (.region RC) (.seq (.region RD) .ret)) (aX eN.res R) F H:=by
 refine sT _ (λ_ _ _ _ a b=>Up.up a b) hF ?_;obtain⟨K,rfl⟩:=(h8.own 1 rfl).one (by rw[auD];exact ha);obtain⟨qr,rfl⟩:=(h8.own 2 rfl).one (by rw[auD];exact hb);obtain⟨rd,d1,O,-,V,h9⟩:=h8.frz 1 rfl;obtain⟨S,e1,e2,-,e4,w⟩:=h9.frz (q:=qr) (s:=3) (k:=(b.map RF.cells).length) (rows:=(b.map RF.cells).map λr=>r.map (PV.cZ K 3 rd)) 1 rfl;have Z:=V 0 _ aU rfl;have U:=V 2 _ aU rfl;have y0:=e4 0 _ aU rfl;have one:PV.one E=true:=by rcases h8.own 0 rfl with⟨-,e⟩|⟨q,rs,e,-⟩<;>rw[e]<;>rfl
 rw[aeV b]at e2;simp only[auD]at O e2 Z U y0;have Q:=h8.at 0 rfl;have i:=w.at 0 rfl;have l:=w.at 1 rfl;simp only[aW.frz,avH,avY,auD,Z,U,y0,O,e2]at i l;have f1:∀(r:P2_),PV.cZ qr 3 S (.sl 3 r)=.sl 3 r:=λ_=>rfl;have f2:∀(q:Nat)(rs:P2_) (t:Bool),PV.cZ q 3 rs (.bool t)=.bool t:=λ_ _ _=>rfl;have f3:∀(q:Nat)(rs:P2_),PV.cZ q 3 rs .aE=.aE:=λ_ _=>rfl;simp only[f1,f2,f3]at i l;simp only[go_sem,RC,Q];refine .inr ⟨_,_,.step K d1 (.step qr e1 (.refl _ _)),[.agg f.cells,ints rm,frs a,frs b],.nil,_,?_,a_,bnd,?_⟩;have d3:PV.frz K 3 rd (.osl K 3 0 a.length)=.sl 3 (a.map RF.cells):=O;have e3:PV.frz qr 3 S (.osl qr 3 0 b.length)=.sl 3 (b.map RF.cells):=e2;have x3:PV.frz K 3 rd (.osl qr 3 0 b.length)=.osl qr 3 0 b.length:=U;simp only[wA,EL,KT,rT,mF,Nat.reduceEqDiff,reduceIte,avB,d3,e3,x3];rfl;rintro r H' ⟨rfl,rfl⟩ -;rw[PH.rK];generalize(H.frz K 3 rd).frz qr 3 S=H3 at i l w ⊢;have M:¬o6=A:=λe=>w.ne 0 1 rfl rfl aU e.symm;have N:¬A=o6:=λe=>M e.symm;obtain⟨n,u,v⟩:=y;have J:=one;unfold PV.one at J;simp only[go_sem,i,l,M,N,J,RD,eN];refine aY (.inr rfl) .nil (vs:=[.agg ([E,frs a,frs b]++(FV.rf (n,u,v)).cells),.j 0]) ?_ a_ (hR E one);simp only[go_sem,dZ.evs];rfl

def j8:=bR [4] Proofs.Tryz.f24
def YU:=bX j8
def XG:=bR [] Proofs.Tryz.f58
def SW:=bX XG
def XD:=bR [] Proofs.Tryz.f23
def SV:=bX XD
def MQ:=bR [1] Proofs.Tryz.f47
def RU:=bX MQ
def C0:=bR [4] Proofs.Tryz.f59
def kj:=bX C0
def ll:=bR [1] Proofs.Tryz.f95
def ZA:=bX ll
def O7:=bR [2,3] Proofs.Tryz.f96
def zc:=bX O7


theorem E5(a b:Nat):eI a b<0↔a<b:=by
 unfold eI;split;rename_i h;exact⟨λ_=>h,λ_=>by decide⟩;split;rename_i i l;exact⟨λh=>absurd h aU,λh=>by omega⟩;exact⟨λh=>absurd h aU,λh=>by omega⟩
theorem X6(a b:Nat):eI a b=0↔a=b:=by
 unfold eI;split;rename_i h;exact⟨λh=>absurd h aU,λh=>by omega⟩;split;exact⟨λh=>absurd h aU,λh=>by omega⟩;exact⟨λh=>by omega,λ_=>rfl⟩
def sgF(x:FV):Int:=if x.1 then -(x.2.1:Int)else x.2.1
theorem agX{x y:FV}(w:x.2.2≠0)(E:y.2.2≠0):(UP x y<0↔sgF x*(y.2.2:Nat)<sgF y*(x.2.2:Nat))/\(UP x y=0↔sgF x*(y.2.2:Nat)=sgF y*(x.2.2:Nat)):=by
 obtain⟨F,a1,b1⟩:=x;obtain⟨H,a2,b2⟩:=y;simp only at w E;unfold UP rJ sgF;simp only;have J:0<a1->0<a1*b2:=λh=>Nat.mul_pos h Om;have K:0<a2->0<a2*b1:=λh=>Nat.mul_pos h Om;have M:a1=0->a1*b2=0:=λh=>by rw[h,Nat.zero_mul]
 have N:a2=0->a2*b1=0:=λh=>by rw[h,Nat.zero_mul]
 have u:(a1:Int)*(b2:Int)=((a1*b2:Nat):Int):=by simp
 have e2:(a2:Int)*(b1:Int)=((a2*b1:Nat):Int):=by simp
 have U:=E5 (a1*b2) (a2*b1);have V:=X6 (a1*b2) (a2*b1);have W:=E5 (a2*b1) (a1*b2);have Y:=SU (a1*b2) (a2*b1);generalize eI (a1*b2) (a2*b1)=c at *
 generalize eI (a2*b1) (a1*b2)=S at *
 generalize a1*b2=A at *
 generalize a2*b1=B at *
 by_cases i:a1=0<;>by_cases l:a2=0<;>cases F<;>cases H <;>
  simp only[i,l,ne_eq,not_true_eq_false,not_false_eq_true,decide_true,decide_false,awP,awB,auN,if_true,if_false,awQ,Int.neg_mul,u,e2,Int.neg_zero,awV] <;>
  (first|(have O:=M i)|(have O:=J Om))<;>(first|(have Q:=N l)|(have Q:=K Om))<;>constructor<;>constructor<;>intro h<;>first|omega|(simp only[i,l,Int.ofNat_zero]at *;omega)
theorem Uq{n:Nat}(h:n<=9223372036854775807):vQ n 1=.tup [.agg (FV.rf (false,n,1)).cells,.j 0]:=by
 have i:nl n<=2:=iA Om;have l:=(kC n 128).2 Om;have u:nl 1=1:=by rw[nl,qV];rfl
 have w:=(kC 1 128).2 Om;unfold vQ;rw[aB aU,ER,Int.natAbs_natCast,show(1:Int).natAbs=1 from rfl];unfold iU;rw[Nat.gcd_one_right,Nat.div_one,Nat.div_one,aB Om];have e:decide ((n:Int)<0)=false:=bT Om;rw[e];rfl
def muS:Spec:=λname vs=>match name,vs with
 |121,[x,y]=>some ([],λ_=>aJ (aL (aM (val (jU x)*val (jU y)))))
 |120,[.bool n,x,y]=>some ([],λ_=>aJ (zW n (val (jU x)) (val (jU y))))
 |_,_=>none
theorem Ag(a b:N_):muS 121 [aL a,aL b]=some ([],λ_=>aJ (aL (aM (val a*val b)))):=by
 show some _=_;rw[eW,eW]
theorem agF(n:Bool)(a b:N_):muS 120 [.bool n,aL a,aL b]=some ([],λ_=>aJ (zW n (val a) (val b))):=by
 show some _=_;rw[eW,eW]
theorem aeW(L:HC C)(x y:RF)(V:x.Ok)(W:y.Ok):zc.wp C (aX O7.res (cN (frV (yI x.v y.v)))) (g_ [.agg x.cells,.agg y.cells]) .nil:=by
 obtain⟨J,a1,b1⟩:=x;obtain⟨K,a2,b2⟩:=y;obtain⟨i,u,A,F⟩:=V;obtain⟨l,w,E,H⟩:=W;simp only at i u A F l w E H;have O:frV (yI (RF.v ⟨J,a1,b1⟩) (RF.v ⟨K,a2,b2⟩))=if cK (val a1) (val b1)&&cK (val a2) (val b2)then zW (J != K) (val a1*val a2) (val b1*val b2)else CY 1:=by show frV (if cK (val a1) (val b1)&&cK (val a2) (val b2)then _ else _)=_;split;rw[ER];rfl
 rw[O];simp only[go_sem,zc,O7];refine aS λo ho=>?_;simp only[go_sem];refine aA (L.valid J a1 b1 i u A F) Ev ?_;cases S:cK (val a1) (val b1)with
 |false =>simp only[go_sem,auY,auN];exact iN Sq
 |true=>
  obtain⟨Y,Z,v3⟩:=fT.1 S;simp only[go_sem,auO];refine aA (L.valid K a2 b2 l w E H) Ev ?_;cases U:cK (val a2) (val b2)with
  |false =>simp only[go_sem,auY,awB];exact iN Sq
  |true =>obtain⟨w1,w2,w3⟩:=fT.1 U;simp only[go_sem,auO,awP];refine bV .nil muS a_ ?_;simp only[go_sem];refine cB (Ag a1 a2) (L.times a1 a2 i l A E Om Om) Ev a_ ?_;simp only[go_sem];refine cB (Ag b1 b2) (L.times b1 b2 u w F H Om Om) Ev a_ ?_;simp only[go_sem];have m1:=mY v3 w3;have m2:=mY Z w2;have M:=L.lowest (J != K) (aM (val a1*val a2)) (aM (val b1*val b2)) (bA _) (bA _) (by rw[bD];omega) (by rw[bD];omega) (by rw[aV];omega) (by rw[aV];omega) (by rw[aV];exact Nat.mul_ne_zero Y w1);have N:=agF (J != K) (aM (val a1*val a2)) (aM (val b1*val b2));rw[aV,aV]at M N;obtain⟨m,p,q,e,Q⟩:=d8 (J != K) (val a1*val a2) (val b1*val b2);rw[Q]at M N ⊢;refine cB N M Ev a_ ?_;simp only[go_sem];refine bV .nil dY a_ ?_;simp only[go_sem];refine⟨a_,?_⟩;exact aY (.inr rfl) .nil (by simp only[go_sem];rfl) a_ ⟨.refl _,rfl⟩
theorem MT(L:HB C)(n:Nat)(l:n<=9223372036854775807):SV.wp C (aX XD.res (aJ (.agg (FV.rf (false,n,1)).cells))) (g_ [.j (n:Nat)]) .nil:=by
 have h:=L.sJ n 1 (by unfold dS;omega) aU;rw[Uq l]at h;generalize FV.rf (false,n,1)=y at *
 simp only[go_sem,SV,XD];refine aS λo w=>?_;simp only[go_sem];refine aA h Ev ?_;simp only[go_sem];refine aS λo2 i=>?_;have u:¬o=o2:=λe=>by rw[<-e,cA]at i;cases i
 simp only[go_sem,u];refine fH (.inr rfl) Ev ?_;rfl
theorem Tb(L:HB C)(x:RF)(H:x.Ok):ZA.wp C (aX ll.res (aJ (.bool (jR x)))) (g_ [.agg x.cells]) .nil:=by
 have w:=L.red x H;have u:jR x=match oF x with | .ok (_,a,b)=>decide (nl a<=2)&&decide (nl b<=2) | .error _=>false:=rfl
 simp only[go_sem,ZA,ll];refine aA w Sq ?_;cases y:oF x with
 |error e =>have A:=im y;rw[y]at u;simp only at u;rw[u];simp only[go_sem,frV];refine aS λo F=>?_;simp only[go_sem,bP A];refine fH (.inr rfl) Ev ?_;rfl
 |ok r =>obtain⟨n,a,b⟩:=r;rw[y]at u;simp only at u;rw[u];have J:=kC a 2;have K:=kC b 2;have i:=M5 y;simp only[go_sem,frV];refine aS λo F=>?_;simp only[go_sem];refine aA (L.bits (aM a) i.1 i.2.2.1) Sq ?_;simp only[go_sem,aV];by_cases E:nl a<=2;have l:((dC a:Nat):Int)<=64:=Om;simp only[go_sem,l];refine aA (L.bits (aM b) i.2.1 i.2.2.2) Sq ?_;simp only[go_sem,aV];refine fH (.inr rfl) Ev ?_;rw[bO,bH E,auV,decide_eq_decide.2 (Om:((dC b:Nat):Int)<=64↔nl b<=2)];have l:¬((dC a:Nat):Int)<=64:=Om;simp only[go_sem,l];refine fH (.inr rfl) Ev ?_;rw[bO,bT E,auN]
theorem Ol(short:∀x:RF,x.Ok->aG C 348 [.agg x.cells] .nil (aJ (.bool (jR x))))(l:List RF)(F:∀x∈l,x.Ok)(A:l'' l<=9223372036854775807)(n:Nat) :
  SW.wp C (aX XG.res (aJ (.bool (nE l n)))) (g_ [frs l,.j (n:Nat)]) .nil:=by
 simp only[go_sem,SW,XG,auD];refine wp_loop (α:=Nat) (λk=>(((((n_.set 0 (frs l)).set 1 (.j (n:Nat))).set 7 (frs l)).set 8 (.j (l'' l:Nat))).set 9 (.j k))) (λ_=>.nil) (λk=>k<=l'' l/\∀x∈l.take k,jR x=true) (λk=>l'' l-k) 0 ⟨auK _,λx h=>by cases h⟩ Lq a_ ?_;rintro k ⟨M,i⟩;have i:(l.take k).all jR=true:=auX.2 i;simp only[go_sem];by_cases hlt:k<l'' l
 ·have u:(k:Int)<(l'' l:Nat):=Om;have J:(l.map RF.cells)[k]?=some (l[k]).cells:=by simp[hlt]
  have K:=short l[k] (F _ (auH hlt));have w:(l.take (k+1)).all jR=((l.take k).all jR&&jR l[k]):=by rw[awE hlt,List.all_append];simp
  rw[i,auV]at w;have y:jR l[k]=false->nE l n=false:=λe=>by
   have:l.all jR=false:=by
    cases e2:l.all jR with
    |false=>rfl
    |true=>rw[auX.1 e2 _ (auH hlt)]at e;cases e
   rw[nE,this,auN]
  generalize l[k]=x at *
  simp only[go_sem,u,J];refine aS λo N=>?_;simp only[go_sem];refine aA K Sq ?_;cases E:jR x with
  |true =>simp only[go_sem,auO,wZz k];exact aF (k+1) ⟨hlt,auX.1 (w.trans E)⟩ Om Lq a_
  |false =>simp only[go_sem,auY];exact jK Sq (y E).symm
 have u:¬(k:Int)<(l'' l:Nat):=Om;have:k=l'' l:=Om;subst this;rw[avI]at i;have H:((l'' l:Int)==(n:Nat))=decide (l'' l=n):=by by_cases c:l'' l=n;rw[cI Om,bH c];rw[bP Om,bT c]
 simp only[go_sem,u,auD,H];refine jK (b:=decide (l'' l=n)) Sq ?_;rw[nE,i,auV]
def plS(y:RF)(r:PV):Spec:=λname _=>if name=336 then some ([],λ_=>aJ (.agg y.cells))else some ([],λ_=>aJ r)
theorem Yc(L:HB C)(number:∀n:Nat,n<=9223372036854775807->aG C 336 [.j (n:Nat)] .nil (aJ (.agg (FV.rf (false,n,1)).cells)))
  (mul:∀x y:RF,x.Ok->y.Ok->aG C 349 [.agg x.cells,.agg y.cells] .nil (aJ (frV (yI x.v y.v)))) (s x:RF) (O:s.Ok) (Q:x.Ok) (n:Nat) (M:n<=9223372036854775807) :
  kj.wp C (aX C0.res (aJ (.agg (yP s.v x.v n).rf.cells))) (g_ [.agg s.cells,.agg x.cells,.j (n:Nat)]) .nil:=by
 have H:=number n M;have S:(FV.rf (false,n,1)).Ok:=by have H:nl n<=2:=iA Om;refine⟨bA _,bA _,?_,?_⟩;show(aM n).length<=_;rw[bD];omega;show(aM 1).length<=_;rw[qV];simp
 have J:=mul x (FV.rf (false,n,1)) Q S;rw[FV.QA,Md]at J;have K:=L.plus s _ O (ajV x.v (false,n,1));rw[FV.QA,Md]at K;unfold yP;generalize(gY s.v (yI x.v (false,n,1)).got).got=z at *
 generalize(gY s.v (yI x.v (false,n,1)).got).err=W at *
 generalize(yI x.v (false,n,1)).got=w at *
 generalize(yI x.v (false,n,1)).err=V at *
 generalize FV.rf (false,n,1)=y at *
 simp only[go_sem,kj,C0];refine aS λF N=>?_;simp only[go_sem];refine aS λo6 l=>?_;have u:¬F=o6:=λe=>by rw[<-e,cA]at l;cases l
 simp only[go_sem];refine bV .nil (plS y (.tup [.agg w.rf.cells,.j V])) a_ ?_;simp only[go_sem];refine cB rfl H Sq a_ ?_;simp only[go_sem];refine cB rfl J Sq a_ ?_;simp only[go_sem];refine aS λo7 i=>?_;rw[jL,jL]at i;have A:¬o6=o7:=λe=>i.1 e.symm;have E:¬F=o7:=λe=>i.2.1 e.symm;simp only[go_sem,u,A,E];refine⟨a_,?_⟩
 try simp only[go_sem,u,A,E]
 refine aA K (by simp only[go_sem,u,A,E]) ?_;have U:¬o6=F:=λe=>u e.symm;simp only[go_sem,u,A,E,U];refine fH (.inr rfl) Ev ?_;rfl
theorem YV(f:aH)(hV:VF f)(hp:l'' f.asT<=1000000)(hv:l'' f.asR<=1000000) :
  RU.wp C (aX MQ.res (cN (ints (eX f)))) (g_ [.agg f.cells]) .nil:=by
 have K:(l'' f.asT:Int)*((8:Nat):Int)<=140737488355328:=Om;have M:(l'' f.asT:Int)<=9223372036854775807:=Om;have H:∀v (h:v<l'' f.asR),∃d:Nat,(f.asR[v]).atB=(d:Int)/\d<l'' f.asT:=λv h=>by obtain⟨h1,U⟩:=hV.volume v h;refine⟨zZ f v,?_,U⟩;unfold zZ;simp only[auM,avC,auP h,avB,axC];omega
 unfold eX;simp only[go_sem,RU,MQ,auD,K,M];refine aS λo ho=>?_;simp only[go_sem,auD];generalize f.asT.length=n at *
 generalize f.asR=vs at *
 generalize J:f.cells=fc at *
 refine wp_loop (α:=Nat) (λi=>((((n_.set 3 (.osl o 1 0 n)).set 11 (.sl 2 (vs.map dW.cells))).set 12 (.j (l'' vs:Nat))).set 13 (.j i))) (λi=>h_.set o (.rows 1 (aR (sI n ((vs.map dW.atB).take i))))) (λi=>i<=l'' vs) (λi=>l'' vs-i) 0 (auK _) ?_ ?_ ?_;exact Lq;refine c_ a_ ?_;simp only[go_sem,List.take_zero];rw[X9,AM];intro i hi;simp only[go_sem];by_cases hlt:i<l'' vs;have u:(i:Int)<(l'' vs:Nat):=Om;have Y:(vs.map dW.cells)[i]?=some (vs[i]).cells:=by simp[hlt]
 obtain⟨d,Q,w⟩:=H i hlt;have N:(vs.map dW.atB).take (i+1)=(vs.map dW.atB).take i++[((d:Nat):Int)]:=by rw[awE (by simpa using hlt),awA,Q]
 generalize vs[i]=x at *
 have y:=Gl (l:=sI n ((vs.map dW.atB).take i)) (i:=d) (by rw[zN];exact w);rw[XC _ w]at y;have V:((vs.map dW.atB).take i).count (d:Int)<=1000000:=by refine avJ (List.count_le_length ..) ?_;rw[auU,auD];omega
 have E:=aeB ((vs.map dW.atB).take i) w;rw[<-N]at E;have hw:i_.wrap (((((vs.map dW.atB).take i).count (d:Int):Nat):Int)+1)=((((vs.map dW.atB).take i).count (d:Int):Nat):Int)+1:=wrap_i64 Om Om;have A:(d:Int)<(n:Nat):=Om;have W:(d:Int)>=0:=Om;simp only[go_sem,u,Y];refine aS λo2 F=>?_;have O:¬o=o2:=λe=>by rw[<-e,cA]at F;cases F
 have S:¬o2=o:=λe=>O e.symm;simp only[go_sem,Q,O,S,avA,y,hw,wX,E,A,wZz i];refine aF (i+1) hlt Om Lq (c_ a_ ?_);simp only[go_sem,O,S];have u:¬(i:Int)<(l'' vs:Nat):=Om;have:i=l'' vs:=Om;subst this;have Z:(vs.map dW.atB).take vs.length=vs.map dW.atB:=by rw[auZ bC]
 simp only[go_sem,u,Z];refine I2 (.inr rfl) (o:=o) (s:=1) (k:=n) (rs:=aR (sI n (vs.map dW.atB))) Sq Sq (by rw[bG,zN];omega) ⟨?_,rfl⟩;rw[Pv,auZ (by rw[bG,zN];omega)];exact .refl _
theorem yw:∀{xs:List FV}{ns:N_}(s x:FV)(n:Nat),l'' xs=l'' ns->mN s (xs++[x]) (ns++[n])=yP (mN s xs ns) x n
 |[],[],s,x,n,_=>rfl
 |y::xs,m::ns,s,x,n,h=>by simp only[axX,mN];exact yw _ x n (by simpa using h)
 |[],_::_,_,_,_,h=>by simp at h
 |_::_,[],_,_,_,h=>by simp at h
theorem yx{xs:List FV}{ns:N_}(s:FV){k:Nat}(i:k<l'' xs)(l:k<l'' ns):mN s (xs.take (k+1)) (ns.take (k+1))=yP (mN s (xs.take k) (ns.take k)) xs[k] ns[k]:=by
 rw[awE i,awE l];exact yw s _ _ (by rw[auU,auU];omega)
theorem KR:∀{xs:List FV}{ns:N_}{s:FV},s.rf.Ok->(mN s xs ns).rf.Ok
 |[],_,s,h=>by cases ‹N_›<;>exact h
 |x::xs,[],s,h=>h
 |x::xs,n::ns,s,h=>by show(mN (yP s x n) xs ns).rf.Ok;exact KR (s:=yP s x n) (ahB s x n)
theorem Ic(n:Nat)(l:n<=9223372036854775807):(FV.rf (false,n,1)).Ok:=by
 have i:nl n<=2:=iA Om;refine⟨bA _,bA _,?_,?_⟩;show(aM n).length<=_;rw[bD];omega;show(aM 1).length<=_;rw[qV];simp
structure acS(C:Ctx):Prop where
 vald:∀f:aH,f.Ok->aG C 96 [.agg f.cells] .nil (aJ (.int .i64 (sL f)))
 prices:∀(l:List RF),(∀x∈l,x.Ok)->l'' l<=9223372036854775807->∀n:Nat,aG C 335 [frs l,.int .i64 (n:Nat)] .nil (aJ (.bool (nE l n)))
 number:∀n:Nat,n<=9223372036854775807->aG C 336 [.int .i64 (n:Nat)] .nil (aJ (.agg (FV.rf (false,n,1)).cells))
 demands:∀f:aH,VF f->l'' f.asT<=1000000->l'' f.asR<=1000000->aG C 337 [.agg f.cells] .nil (aJ (ints (eX f)))
 plus:∀s x:RF,s.Ok->x.Ok->∀n:Nat,n<=9223372036854775807->aG C 338 [.agg s.cells,.agg x.cells,.int .i64 (n:Nat)] .nil (aJ (.agg (yP s.v x.v n).rf.cells))
 room:∀(f:aH)(room:I_),f.Ok->aG C 152 [.agg f.cells,ints room] .nil (aJ (ints (mR f room)))
def Ee(l:I_):Prop:=∀x∈l,0<=x/\x<=9223372036854775807
theorem aeF(f:aH)(l:l'' f.asR<=1000000):Ee (eX f):=by
 intro x i;unfold eX sI at i;obtain⟨d,-,rfl⟩:=auT.1 i;have:((f.asR.map dW.atB).count (d:Int))<=l'' f.asR:=by refine avJ (List.count_le_length ..) ?_;rw[auD];exact auG _
 omega
theorem S1(L:acS C)(f:aH)(hf:f.Ok)(room:I_)(a b:List RF)(ha:∀x∈a,x.Ok)(hb:∀x∈b,x.Ok)(la:l'' a<=9223372036854775807)(lb:l'' b<=9223372036854775807)
  (Q:dR f=true->Ee (mR f room)/\(mR f room).length=l'' f.asP) (η:dR f=true->l'' f.asT<=1000000/\l'' f.asR<=1000000) :
  YU.wp C (aX j8.res (cN (SN f room a b))) (g_ [.agg f.cells,ints room,frs a,frs b]) .nil:=by
 have k1:=L.vald f hf;have k2:=L.prices a ha la f.asT.length;have k3:=L.prices b hb lb f.asP.length;have hB:SN f room a b=if KO f a b then .tup [.agg (rS f room a b).rf.cells,.j 0]else .tup [.agg (fI false [] []),.j 1]:=rfl
 have u:KO f a b=(dR f&&(nE a f.asT.length&&nE b f.asP.length)):=rfl;have E:KO f a b=false->∀{F:PF}{o:Nat}{H:PH},F 8=some (.ptr o 3 0 0)->H o=some (.rows 3 [[.bool false,.aE,.aE]])->F 9=some (.j 1)->aX [.cell 8 (some 3),.tmp 9] (cN (SN f room a b)) .ret F H:=by intro e F o H h8 ho h9;rw[hB,e];exact iN (e:=1) (by simp only[go_sem,h8,ho,h9])
 simp only[go_sem,YU,j8];refine aS λo8 κ=>?_;simp only[go_sem];refine aA k1 Sq ?_;cases hp:dR f with
 |false =>rw[hp,auN]at u;simp only[go_sem,so hp,eZ (show(1:Int)≠0 by decide)];exact E u (o:=o8) Sq Sq Sq
 |true=>
  have θ:sL f=0:=by rw[sL,hp];rfl
  have hV:=VF.of hp;obtain⟨ζ,Z⟩:=η hp;obtain⟨ε,Y⟩:=Q hp;have k4:=L.demands f hV ζ Z;have k5:=L.room f room hf;have γ:=aeF f Z;have V:(eX f).length=l'' f.asT:=zN _ _;rw[hp,auV]at u;simp only[go_sem,θ,dM (show(0:Int)=0 from rfl),auD];refine aA k2 Sq ?_;cases h2:nE a f.asT.length with
  |false =>rw[h2,auN]at u;simp only[go_sem,auY];exact E u (o:=o8) Sq Sq Sq
  |true=>
   rw[h2,auV]at u;simp only[go_sem,auO,auD];refine aA k3 Sq ?_;cases h3:nE b f.asP.length with
   |false =>rw[h3]at u;simp only[go_sem,auY];exact E u (o:=o8) Sq Sq Sq
   |true=>
    rw[h3]at u;rw[u,aD rfl]at hB;have l2:l'' a=l'' f.asT:=by simp only[nE,auI,dT_]at h2;exact h2.2
    have l3:l'' b=l'' f.asP:=by simp only[nE,auI,dT_]at h3;exact h3.2
    rw[<-l2]at V;rw[<-l3]at Y;have k6:aG C 336 [.j 0] .nil (aJ (.agg (FV.rf (false,0,1)).cells)):=L.number 0 aU;rw[hB];unfold rS;generalize eX f=ns at *
    generalize mR f room=rs at *
    have J:=L.plus;have U:=Ic 0 aU;have A:∀(l:List RF),(∀x∈l,x.Ok)->∀(ms:I_),Ee ms->l'' ms=l'' l->∀(s:FV),s.rf.Ok->∀k,k<l'' l->∃x m,(l.map RF.cells)[k]?=some (RF.cells x)/\(ms.map λn=>[PV.int .i64 n])[k]?=some [.j m] /\
      aG C 338 [.agg (mN s ((l.map RF.v).take k) ((ms.map awC).take k)).rf.cells,.agg x.cells,.j m] .nil (aJ (.agg (mN s ((l.map RF.v).take (k+1)) ((ms.map awC).take (k+1))).rf.cells)):=by
     intro l hl ms δ ι s hs k W;have N:k<l'' ms:=Om;obtain⟨g1,g2⟩:=δ _ (auH N);refine⟨l[k],ms[k],by simp[W],by simp[N],?_⟩;have h:=J (mN s ((l.map RF.v).take k) ((ms.map awC).take k)).rf l[k] (KR hs) (hl _ (auH W)) ms[k].toNat Om;rw[Int.toNat_of_nonneg g1,FV.QA]at h;rw[yx s (by simpa using W) (by simpa using N),awA,awA];exact h
    have hA:=A a ha ns γ V (false,0,1) U;have β:=A b hb rs ε Y (mN (false,0,1) (a.map RF.v) (ns.map awC)) (KR U);clear A J;simp only[go_sem,auO];refine aA k6 Sq ?_;simp only[go_sem];refine aS λw M=>?_;have y:¬o8=w:=λe=>by rw[<-e,cA]at M;cases M
    have K:¬w=o8:=λe=>y e.symm;simp only[go_sem];refine aA k4 Sq ?_;simp only[go_sem,auD];refine wp_loop (α:=Nat) (λk=>(((((((((n_.set 1 (ints room)).set 2 (frs a)).set 3 (frs b)).set 4 (.bQ f.cells)).set 8 (.ptr o8 3 0 0)).set 10 (.ptr w 3 0 0)).set 37 (ints ns)).set 38 (.j (l'' ns:Nat))).set 39 (.j k)))
     (λk=>(h_.set o8 (.rows 3 [[.bool false,.aE,.aE]])).set w (.rows 3 [(mN (false,0,1) ((a.map RF.v).take k) ((ns.map awC).take k)).rf.cells])) (λk=>k<=l'' ns) (λk=>l'' ns-k) 0 (auK _) ?_ ?_ ?_
    exact Lq;refine c_ (c_ a_ (by simp only[go_sem,y])) ?_;simp only[go_sem,List.take_zero];rfl;intro k W;simp only[go_sem];by_cases hlt:k<l'' ns;have i:(k:Int)<(l'' ns:Nat):=Om;obtain⟨x,m,e1,e2,S⟩:=hA k Om;generalize hz:mN (false,0,1) ((a.map RF.v).take (k+1)) ((ns.map awC).take (k+1))=z at S;simp only[go_sem,i,e2];refine bV .nil (λ_ _=>some ([],λ_=>aJ (.agg z.rf.cells))) a_ ?_;simp only[go_sem,e1];refine cB rfl S Sq a_ ?_;simp only[go_sem,y,K];refine⟨a_,?_⟩;simp only[go_sem,wZz k];refine aF (k+1) hlt Om Lq (c_ (c_ a_ (by simp only[go_sem,y,K])) ?_);rw[hz];simp only[go_sem,y,K];have i:¬(k:Int)<(l'' ns:Nat):=Om;have O:k=l'' ns:=Om;subst O;have t1:(a.map RF.v).take ns.length=a.map RF.v:=by rw[auZ (by rw[auD];omega)]
    have t2:(ns.map awC).take ns.length=ns.map awC:=by rw[auZ (by rw[auD];exact auG _)]
    rw[t1,t2];generalize mN (false,0,1) (a.map RF.v) (ns.map awC)=s1 at *
    simp only[go_sem,i];refine aA k5 Sq ?_;simp only[go_sem,auD];refine wp_loop (α:=Nat) (λk=>((((((n_.set 3 (frs b)).set 8 (.ptr o8 3 0 0)).set 10 (.ptr w 3 0 0)).set 54 (ints rs)).set 55 (.j (l'' rs:Nat))).set 56 (.j k)))
     (λk=>(h_.set o8 (.rows 3 [[.bool false,.aE,.aE]])).set w (.rows 3 [(mN s1 ((b.map RF.v).take k) ((rs.map awC).take k)).rf.cells])) (λk=>k<=l'' rs) (λk=>l'' rs-k) 0 (auK _) ?_ ?_ ?_
    exact Lq;refine c_ (c_ a_ (by simp only[go_sem,y,K])) ?_;simp only[go_sem,List.take_zero,y,K];rfl;intro k W;simp only[go_sem];by_cases hlt:k<l'' rs;have i:(k:Int)<(l'' rs:Nat):=Om;obtain⟨x,m,e1,e2,S⟩:=β k Om;generalize hz:mN s1 ((b.map RF.v).take (k+1)) ((rs.map awC).take (k+1))=z at S;simp only[go_sem,i,e2];refine bV .nil (λ_ _=>some ([],λ_=>aJ (.agg z.rf.cells))) a_ ?_;simp only[go_sem,e1];refine cB rfl S Sq a_ ?_;simp only[go_sem,y,K];refine⟨a_,?_⟩;simp only[go_sem,wZz k];refine aF (k+1) hlt Om Lq (c_ (c_ a_ (by simp only[go_sem,y,K])) ?_);rw[hz];simp only[go_sem,y,K];have i:¬(k:Int)<(l'' rs:Nat):=Om;have O:k=l'' rs:=Om;subst O;have t3:(b.map RF.v).take rs.length=b.map RF.v:=by rw[auZ (by rw[auD];omega)]
    have t4:(rs.map awC).take rs.length=rs.map awC:=by rw[auZ (by rw[auD];exact auG _)]
    rw[t3,t4];simp only[go_sem,i,y,K];exact aY (.inr rfl) .nil (by simp only[go_sem,y,K];rfl) a_ ⟨.refl _,rfl⟩
theorem abH{f:aH}{p:cJ}{s:I_}(h:s∈lO f p):l'' s=(rO p).toNat/\∀d∈s,0<=d/\d<l'' f.asP:=by
 unfold lO at h;obtain⟨t,w,rfl⟩:=auT.1 (ayM.1 h).1;obtain⟨i,l,-⟩:=wO _ _ _ t w;refine⟨by rw[iR,i],λd u=>?_⟩;obtain⟨x,y,rfl⟩:=auT.1 u;have:=l x y;omega
theorem VC{f:aH}{p:cJ}{s:I_}(h:s∈lO f p):s.Pairwise (· < ·):=by
 unfold lO at h;obtain⟨t,i,rfl⟩:=auT.1 (ayM.1 h).1;exact ZX (wO _ _ _ t i).2.2
theorem V7(f:aH)(p:cJ)(u:l'' f.asP<=12):(lO f p).length<=4096:=by
 unfold lO;refine avJ (List.length_filter_le ..) ?_;rw[auD];have i:=GN f.asP.length (rO p).toNat 0;have l:2^(l'' f.asP-0)<=2^12:=ayJ Om Om;have e:(2:Nat)^12=4096:=by decide
 omega
theorem Vu(x:FV):val x.rf.num=x.2.1/\val x.rf.den=x.2.2/\x.rf.neg=x.1:=by
 have:=x.QA;unfold RF.v at this;obtain⟨n,a,b⟩:=x;injection this with l i
 injection i with i u
 exact⟨i,u,l⟩









noncomputable def Rh:aH:=(hZ [] 1 0 0).1

theorem Le(n k a:Nat)(h:a<n):eC n (k+1) a=(eC n k (a+1)).map (a::·)++eC n (k+1) (a+1):=by
 rw[eC];by_cases c:n-k-a=0;have i:n-k-(a+1)=0:=Om;rw[eC,c,i];have:eC n k (a+1)=[]:=by
  cases k with
  |zero=>omega
  |succ k=>rw[eC,show n-k-(a+1)=0 by omega];rfl
 rw[this];rfl;obtain⟨m,l⟩:∃m,n-k-a=m+1:=⟨n-k-a-1,by omega⟩;rw[eC,l,List.range'_succ,List.flatMap_cons,show n-k-(a+1)=m by omega]
def Grow(P:N_->Bool):Prop:=∀s t:N_,(∀x∈s,x∈t)->P s=true->P t=true
theorem Grow.cons{P:N_->Bool}(h:Grow P)(a:Nat):Grow λs=>P (a::s):=λs t i u=>
 h (a::s) (a::t) (λx l=>(auQ.1 l).elim (λe=>e ▸ List.mem_cons_self) λl=>ayV _ (i x l)) u
def kO(n k a:Nat)(P:N_->Bool):Nat:=(eC n k a).countP P
theorem FQ(n k a:Nat)(h:a<n)(P:N_->Bool):kO n (k+1) a P=kO n k (a+1) (λs=>P (a::s))+kO n (k+1) (a+1) P:=by
 unfold kO;rw[Le n k a h,ayR,List.countP_map];rfl
theorem S5(n k a:Nat){P Q:N_->Bool}(h:∀s,P s=true->Q s=true):kO n k a P<=kO n k a Q:=List.countP_mono_left λs _ i=>h s i
theorem IS(n a:Nat)(P:N_->Bool):kO n 0 a P=if P []then 1 else 0:=by
 unfold kO;rw[eC,List.countP_cons,List.countP_nil,avA]
theorem MS(n:Nat):∀(m k a:Nat)(P:N_->Bool),Grow P->a+m=n->(m-k)*kO n k a P<=(k+1)*kO n (k+1) a P
 |0,k,a,P,_,_=>by rw[Nat.zero_sub,Nat.zero_mul];exact auK _
 |m+1,0,a,P,i,h=>by
  rw[FQ n 0 a Om,IS,IS];have u:=MS n m 0 (a+1) P i Om;rw[IS]at u;cases hp:P []with
  |false=>rw[aB bC];omega
  |true =>have A:P [a]=true:=i [] [a] (λx l=>by cases l) hp;rw[aD hp]at u;rw[aD rfl,aD A];omega
 |m+1,k+1,a,P,i,h=>by
  have H:=MS n m (k+1) (a+1) P i Om;have J:=MS n m k (a+1) (λs=>P (a::s)) (i.cons a) Om;have E:=S5 n (k+1) (a+1) (P:=P) (Q:=λs=>P (a::s)) λs F=>i s (a::s) (λx l=>ayV _ l) F;rw[FQ n k a Om,FQ n (k+1) a Om];generalize kO n (k+1) (a+1) P=x at *
  generalize kO n (k+1+1) (a+1) P=y at *
  generalize kO n k (a+1) (λs=>P (a::s))=z at *
  generalize kO n (k+1) (a+1) (λs=>P (a::s))=w at *
  rw[show m+1-(k+1)=m-k by omega,auW,auW];have K:(m-k)*x<=(m-(k+1))*x+x:=by
   rcases avF k m with c|c
   rw[show m-k=(m-(k+1))+1 by omega,axB];exact auG _;rw[show m-k=0 by omega,Nat.zero_mul];exact auK _
  have e2:(k+1+1)*w=(k+1)*w+w:=axB _ _;omega
theorem Ya{n k:Nat}{P:N_->Bool}(u:Grow P)(h:2*k+1<=n):kO n k 0 P<=kO n (k+1) 0 P:=by
 have i:=MS n n k 0 P u Om;have l:(k+1)*kO n k 0 P<=(n-k)*kO n k 0 P:=avL _ Om;exact Nat.le_of_mul_le_mul_left (avJ l i) Om
theorem Gu(f:aH)(u:L2_)(k:Nat)(set:I_)(m:Int):DD (vS f u k) set m=kO u.length k 0 λs=>decide (((oY (cR ((auE f.asP.length).filter (tZ u s))) set:Nat):Int)>m):=by
 unfold DD vS kO;rw[List.countP_map];rfl
theorem Ul{f:aH}{u:L2_}{k:Nat}{set:I_}{m:Int}(h:2*k+1<=l'' u):DD (vS f u k) set m<=DD (vS f u (k+1)) set m:=by
 rw[Gu,Gu];refine Ya (λs t y E=>?_) h;have F:=of_decide_eq_true E;refine bH ?_;have:oY (cR ((auE f.asP.length).filter (tZ u s))) set<=oY (cR ((auE f.asP.length).filter (tZ u t))) set:=by unfold oY;refine List.countP_mono_left λd _ w=>?_;rw[List.contains_iff_mem]at w ⊢;unfold cR at w ⊢;rw[auT]at w ⊢;obtain⟨x,l,rfl⟩:=w;refine⟨x,?_,rfl⟩;rw[ayM]at l ⊢;refine⟨l.1,?_⟩;unfold tZ at l ⊢;rw[List.any_eq_true]at l ⊢;obtain⟨-,i,hi,A⟩:=l;exact⟨i,y i hi,A⟩
 omega
def lvC(L:Int)(ds:List cQ):Nat:=ds.countP λx=>decide (x.level=L)
theorem Zu(f:aH)(L:Int):((auE f.asS.length).filter λi=>decide (lvl f i=L)).length=lvC L f.asS:=by
 rw[<-List.countP_eq_length_filter];unfold lvC lvl;have l:∀(ds:List cQ),(auE ds.length).countP (λi=>decide ((ds.map cQ.level).getD i 0=L))=ds.countP λx=>decide (x.level=L):=by
  intro ds
  induction ds with
  |nil=>rfl
  |cons d ds u =>rw[avG,List.range_succ_eq_map,List.countP_cons,List.countP_map,List.countP_cons,<-u];rfl
 exact l f.asS
theorem E0:∀m:Fin 10,∀c:Fin 4,gF (m.val:Int) c.val<=512:=by decide
theorem Ce(l:N_)(asP asR:Nat){a:Nat}(h:a<=l'' l):(hZ l asP asR a).1.asP.length<=asP:=by
 have A:=bU l 2 h;have w:=bU l 2 A;obtain⟨u,-⟩:=GD l w (1+(aI l 2 (aI l 2 a).2).1);have y:=bU l 2 u;obtain⟨i,-⟩:=yH l (1+(aI l 2 (aI l 2 a).2).1) y (1+(aI l 2 (jE l (aI l 2 (aI l 2 a).2).2 (1+(aI l 2 (aI l 2 a).2).1)).2).1);obtain⟨E,-⟩:=FW (mc:=1+(aI l 2 (jE l (aI l 2 (aI l 2 a).2).2 (1+(aI l 2 (aI l 2 a).2).1)).2).1) 4 0 (⟨by simp,auK _,i⟩:GOk l asP ⟨[nI],[],_⟩);exact E.atI
theorem CJ(l:N_)(asQ a:Nat):∀k,(eM l asQ a k).1.length=k
 |0=>rfl
 |k+1=>by have:=CJ l asQ a k;rw[eM];simp[this]
theorem Wv(f:aH)(lv:Int):(iV f lv).length=if lv=5 then f.asP.length else lvC lv f.asS:=by
 unfold iV;split;simp;rw[auD];exact Zu f lv
structure HE(f:aH):Prop where
 ok:f.Ok
 valid:dR f=true
 asP:l'' f.asP<=9
 lv:∀L:Int,1<=L->L<=4->lvC L f.asS<=8
theorem HE.num{f:aH}(h:HE f){lv:Int}(i:1<=lv)(h5:lv<=5):(iV f lv).length<=9:=by
 rw[Wv];split;exact h.asP;have:=h.lv lv i Om;omega
theorem HE.GL{f:aH}(h:HE f){lv:Int}(i:1<=lv)(h5:lv<=5){c:Nat}(u:1<=c)(w:c<=3):kB f lv c=0:=by
 have y:=h.num i h5;have l:=E0 ⟨(iV f lv).length,by omega⟩ ⟨c,by omega⟩;simp only at l;unfold kB;rw[h.valid,bH i,bH h5,bH (Om:(1:Int)<=(c:Int)),bH (Om:(c:Int)<=3),Bool.and_self,Bool.and_self,Bool.and_self,Bool.and_self,aD rfl,awG,aB];have:=h.asP;omega
theorem HE.all{f:aH}(h:HE f){p:Int}(l:nS f p=true):CD f p=0/\zI f p=lO f (lK f p):=by
 have i:CD f p=0:=by unfold CD;rw[l,aD rfl,aB];have:=h.asP;omega
 exact⟨i,by unfold zI;rw[aD i]⟩
theorem Xw{s:N_}{n top:Nat}(w:l'' s=n)(y:∀x∈s,x<top)(A:s.Pairwise (· < ·)):cp (cR s) n top=true:=by
 unfold cp;rw[iR,w,bH rfl,auV];simp only[auX,avM];intro i hi;have l:i<l'' s:=Om;have g:(cR s).getD i 0=(s[i]:Nat):=by unfold cR;simp[auM,l]
 unfold tV;rw[g];have E:=y _ (auH l);simp only[auI,Bool.or_eq_true,dT_];refine⟨by omega,?_⟩;by_cases c:i=0;exact .inl c;right;have u:i-1<l'' s:=Om;have g2:(cR s).getD (i-1) 0=(s[i-1]:Nat):=by unfold cR;simp[auM,u]
 rw[g2];have:=List.pairwise_iff_getElem.1 A (i-1) i u l Om;omega
theorem abI{f:aH}{p:Int}(i:nS f p=true){set:I_}(h:set∈lO f (lK f p)):Xt f p set=true/\l'' set<=8:=by
 obtain⟨hV,-⟩:=dy i;have l:=hV.atB _ (zr i).1;unfold lO at h;rw[ayM]at h;obtain⟨u,w⟩:=h;obtain⟨s,y,rfl⟩:=auT.1 u;obtain⟨k1,k2,E⟩:=wO _ _ _ _ y;have e:((rO (lK f p)).toNat:Int)=rO (lK f p):=by unfold rO;omega
 have:=Xw k1 (λx A=>(k2 x A).2) E;rw[e]at this;refine⟨by unfold Xt;rw[i,this,w];rfl,?_⟩;rw[iR,k1];unfold rO;omega
theorem HE.more{f:aH}(h:HE f){p:Int}(y:nS f p=true){lv:Int}(l:1<=lv)(h5:lv<=5){c:Nat}(w:1<=c)(F:c<=2)(A:2*c+1<=(iV f lv).length){set:I_}(E:set∈lO f (lK f p)) :
  OH f p set lv c=0/\OH f p set lv ((c+1:Nat):Int)=0/\P2 f p set lv c<=P2 f p set lv ((c+1:Nat):Int):=by
 have s1:=h.GL l h5 w (Om:c<=3);have s2:=h.GL l h5 (Om:1<=c+1) (Om:c+1<=3);obtain⟨u,-⟩:=abI y E;have i:OH f p set lv c=0:=by unfold OH;rw[s1,u];rfl
 have e2:OH f p set lv ((c+1:Nat):Int)=0:=by unfold OH;rw[s2,u];rfl
 refine⟨i,e2,?_⟩;unfold P2 mS;rw[aD i,aD e2,aD s1,aD s2,awG,awG];exact Ul A


theorem Vg(x y:FV):qO x.rf y.rf=UP x y:=by
 obtain⟨i,l,u⟩:=Vu x;obtain⟨g1,g2,g3⟩:=Vu y;unfold qO;rw[i,l,u,g1,g2,g3];rfl
def Sx(x:FV)(z:Int):Prop:=x.2.2≠0/\auF x.2.1 x.2.2=1/\6*sgF x=z*(x.2.2:Nat)
theorem xw(x:FV):(sgF x).natAbs=x.2.1:=by
 unfold sgF;split<;>omega
theorem Sx.le{x:FV}{z:Int}(h:Sx x z):x.2.2<=6/\x.2.1<=z.natAbs:=by
 obtain⟨y,l,u⟩:=h;have i:6*x.2.1=z.natAbs*x.2.2:=by have:=congrArg Int.natAbs u;rw[axO,axO,xw,Int.natAbs_natCast]at this;exact this
 have w:x.2.2 ∣ 6:=by have:x.2.2 ∣ 6*x.2.1:=⟨z.natAbs,by rw[i,avO]⟩;exact Nat.Coprime.dvd_of_dvd_mul_right (by rw[Nat.coprime_iff_gcd_eq_one,Nat.gcd_comm];exact l) this
 have h5:=Nat.le_of_dvd aU w;refine⟨h5,?_⟩;have:6*x.2.1<=6*z.natAbs:=by rw[i,avO 6];exact awZ _ h5
 omega
theorem Sx.valid{x:FV}{z:Int}(h:Sx x z)(u:z.natAbs<1152921504606846976):cK x.2.1 x.2.2=true:=by
 obtain⟨i,l⟩:=h.le;have a1:nl x.2.1<=2:=iA Om;have a2:nl x.2.2<=2:=iA Om;exact fT.2 ⟨h.1,by omega,by omega⟩
variable {D:Nat}
def Sd(D:Nat)(x:FV)(z:Int):Prop:=x.2.2≠0/\auF x.2.1 x.2.2=1/\(D:Int)*sgF x=z*(x.2.2:Nat)
theorem Sd.le(hD:0<D){x:FV}{z:Int}(h:Sd D x z):x.2.2<=D/\x.2.1<=z.natAbs:=by
 obtain⟨y,l,u⟩:=h;have i:D*x.2.1=z.natAbs*x.2.2:=by have:=congrArg Int.natAbs u;rw[axO,axO,xw,Int.natAbs_natCast]at this;exact this
 have w:x.2.2 ∣ D:=by have:x.2.2 ∣ D*x.2.1:=⟨z.natAbs,by rw[i,avO]⟩;exact Nat.Coprime.dvd_of_dvd_mul_right (by rw[Nat.coprime_iff_gcd_eq_one,Nat.gcd_comm];exact l) this
 have h5:=Nat.le_of_dvd hD w;refine⟨h5,?_⟩;have:D*x.2.1<=D*z.natAbs:=by rw[i,avO D];exact awZ _ h5
 exact Nat.le_of_mul_le_mul_left this hD
theorem Sd.valid(hD:0<D)(i:D<=362880){x:FV}{z:Int}(h:Sd D x z)(w:z.natAbs<1152921504606846976):cK x.2.1 x.2.2=true:=by
 obtain⟨l,u⟩:=h.le hD;have a1:nl x.2.1<=2:=iA Om;have a2:nl x.2.2<=2:=iA Om;exact fT.2 ⟨h.1,by omega,by omega⟩
theorem ajT{neg:Bool}{a b:Nat}{z:Int}(hb:b≠0)(h:(D:Int)*(if neg then -(a:Int)else a)=z*(b:Nat)):Sd D (nZ neg a b) z:=by
 have H:0<auF a b:=Nat.gcd_pos_of_pos_right _ Om;obtain⟨i,F⟩:=Nat.gcd_dvd_left a b;obtain⟨b',l⟩:=Nat.gcd_dvd_right a b;have E:a/auF a b=i:=by
  conv=>lhs;arg 1;rw[F]
  exact Nat.mul_div_cancel_left _ H
 have e2:b/auF a b=b':=by
  conv=>lhs;arg 1;rw[l]
  exact Nat.mul_div_cancel_left _ H
 have w:auF i b'=1:=by rw[<-E,<-e2];exact Nat.gcd_div_gcd_div_gcd_of_pos_right Om
 unfold nZ;rw[E,e2];refine⟨λu=>hb (by rw[l];simp only at u;rw[u,Nat.mul_zero]),w,?_⟩;have K:sgF (neg&&decide (i≠0),i,b')=if neg then -(i:Int)else i:=by
  unfold sgF;by_cases u:i=0
  ·rw[u];cases neg<;>rfl
  ·cases neg<;>simp[u]
 rw[K];have y:((auF a b:Nat):Int)≠0:=Om;refine Int.eq_of_mul_eq_mul_right y ?_;have A:(a:Int)=(auF a b:Nat)*(i:Nat):=by have:=congrArg (Nat.cast (R:=Int)) F;rw[ayL]at this;exact this
 have J:(b:Int)=(auF a b:Nat)*(b':Nat):=by have:=congrArg (Nat.cast (R:=Int)) l;rw[ayL]at this;exact this
 generalize M:((auF a b:Nat):Int)=G at *
 rw[J]at h;rw[axD z,axW (b':Int),<-h];cases neg
 ·rw[aB aU,aB aU,A,axW G,axD]
 ·rw[aD rfl,aD rfl,A,axW G,axD,Int.neg_mul]
theorem XP(hD:0<D)(i:D<=362880){neg:Bool}{a b:Nat}{z:Int}(hb:b≠0)(h:(D:Int)*(if neg then -(a:Int)else a)=z*(b:Nat))(y:z.natAbs<1152921504606846976):∃r,iU neg a b=.ok r/\Sd D r z:=by
 have l:=ajT hb h;have A:=l.valid hD i y;refine⟨_,?_,l⟩;obtain⟨u,w⟩:=l.le hD;unfold nZ at u w;simp only at u w;have a1:nl (a/auF a b)<=2:=iA Om;have a2:nl (b/auF a b)<=2:=iA Om;have b1:=(kC (a/auF a b) 128).2 Om;have b2:=(kC (b/auF a b) 128).2 Om;unfold iU;rw[aB Om];rfl
theorem ajB(hD:0<D)(i:D<=362880){x y:FV}{z w:Int}(H:Sd D x z)(J:Sd D y w)(U:z.natAbs<1152921504606846976)(V:w.natAbs<1152921504606846976)(W:(z+w).natAbs<1152921504606846976):∃r,gY x y=.ok r/\Sd D r (z+w):=by
 have K:=H.valid hD i U;have M:=J.valid hD i V;obtain⟨E,a1,b1⟩:=x;obtain⟨F,a2,b2⟩:=y;obtain⟨N,-,O⟩:=H;obtain⟨Q,-,S⟩:=J;simp only at K M N Q O S;have hb:b1*b2≠0:=Nat.mul_ne_zero N Q;have u:∀(neg:Bool)(A:Nat),(if neg then -(A:Int)else A)=sgF (E,a1,b1)*(b2:Nat)+sgF (F,a2,b2)*(b1:Nat)->∃r,iU neg A (b1*b2)=.ok r/\Sd D r (z+w):=by intro neg A e;refine XP hD i hb ?_ W;rw[e,Int.mul_add,<-axD,<-axD,O,S,ayL,Int.add_mul];congr 1;rw[axD];rw[axD,axW (b2:Int)]
 simp only[gY,K,M,Bool.and_self,if_true];split;rename_i e;subst e;refine u _ _ ?_;unfold sgF;cases E;simp[Int.natCast_add];simp[Int.natCast_add,Int.neg_add,Int.neg_mul];rename_i e;split;rename_i l;refine u _ _ ?_;unfold sgF;cases E<;>cases F<;>simp only[awQ,not_true_eq_false,if_true,if_false]at e ⊢;rw[Int.ofNat_sub l,ayL,ayL,Int.neg_mul];omega;rw[Int.ofNat_sub l,ayL,ayL,Int.neg_mul];omega;rename_i l;refine u _ _ ?_;unfold sgF;cases E<;>cases F<;>simp only[awQ,not_true_eq_false,if_true,if_false]at e ⊢;rw[Int.ofNat_sub Om,ayL,ayL,Int.neg_mul];omega;rw[Int.ofNat_sub Om,ayL,ayL,Int.neg_mul];omega
theorem p5(n:Nat):Sd D (false,n,1) (D*n):=⟨Nat.one_ne_zero,Nat.gcd_one_right n,by show(D:Int)*(n:Int)=D*n*((1:Nat):Int);simp⟩
theorem ajW(hD:0<D)(i:D<=362880){x:FV}{z:Int}(w:Sd D x z)(n:Nat)(E:z.natAbs<1152921504606846976)(N:n<192153584101141162)(F:(z*n).natAbs<1152921504606846976):Sd D (yI x (false,n,1)).got (z*n):=by
 have y:=w.valid hD i E;have K:cK n 1=true:=(p5 (D:=1) n).valid aU aU Om;obtain⟨l,a1,b1⟩:=x;obtain⟨M,-,A⟩:=w;simp only at y M A;have u:∃r,iU (l != false) (a1*n) (b1*1)=.ok r/\Sd D r (z*n):=by
  refine XP hD i Om ?_ F;rw[Nat.mul_one];have e:(if(l != false)=true then -((a1*n:Nat):Int)else((a1*n:Nat):Int))=sgF (l,a1,b1)*(n:Nat):=by unfold sgF;cases l<;>simp[Int.neg_mul]
  rw[e,<-axD,A,axD,axD,axW (b1:Int)]
 obtain⟨r,H,J⟩:=u;simp only[yI,y,K,Bool.and_self,if_true];rw[H];exact J
theorem ahC(hD:0<D)(i:D<=362880){s x:FV}{z w:Int}(J:Sd D s z)(K:Sd D x w)(n:Nat)(u:z.natAbs<1152921504606846976)(y:w.natAbs<1152921504606846976)(E:n<192153584101141162)(l:(w*n).natAbs<1152921504606846976)(A:(z+w*n).natAbs<1152921504606846976):Sd D (yP s x n) (z+w*n):=by
 obtain⟨r,H,F⟩:=ajB hD i J (ajW hD i K n y E l) u l A;unfold yP;rw[H];exact F
theorem akD(hD:0<D){x y:FV}{z w:Int}(l:Sd D x z)(u:Sd D y w):UP x y<0↔z<w:=by
 rw[(agX l.1 u.1).1];obtain⟨N,-,J⟩:=l;obtain⟨O,-,K⟩:=u;have E:0<(x.2.2:Int):=Om;have F:0<(y.2.2:Int):=Om;have M:(D:Int)*(sgF x*(y.2.2:Nat))=z*((x.2.2:Nat)*(y.2.2:Nat)):=by rw[<-axD,J,axD]
 have e2:(D:Int)*(sgF y*(x.2.2:Nat))=w*((x.2.2:Nat)*(y.2.2:Nat)):=by rw[<-axD,K,axD,axW (y.2.2:Int)]
 have H:0<(x.2.2:Int)*(y.2.2:Nat):=Int.mul_pos E F;generalize(x.2.2:Int)*(y.2.2:Nat)=P at *
 generalize sgF x*(y.2.2:Int)=A at *
 generalize sgF y*(x.2.2:Int)=B at *
 have i:0<(D:Int):=Om;constructor;intro h;refine Int.lt_of_mul_lt_mul_right (a:=P) ?_ Om;have:=Int.mul_lt_mul_of_pos_left h i;omega;intro h;have:=Int.mul_lt_mul_of_pos_right h H;exact Int.lt_of_mul_lt_mul_left (a:=(D:Int)) Om Om
end Go.PM
namespace Go.PM
open Go Go.Na
structure Sr(C:Ctx):Prop extends Ny C where
 r342:bJ C 342 WM
 r343:bJ C 343 iD
 r344:bJ C 344 tp
 r345:bJ C 345 WN
structure jz(P:Bool->Lin)(N:Nat)(b:Nat->Nat):Prop where
 jA:(P true).Good b
 CE:(P true).oN b
 stop:∀j,¬(P true).Ent N b j
 art:∃i,i<(P true).m/\N<=b i/\(P true).right b i≠0
structure lG(P:Bool->Lin)(N:Nat)(b:Nat->Nat):Prop where
 jA:(P false).Good b
 CE:(P false).oN b
 red:(P false).Red N b
 stop:∀j,¬(P false).Ent N b j
def mkX(n d:Int):FV:=(iU (decide (n<0) != decide (d<0)) n.natAbs d.natAbs).got
theorem oi{n:Int}{D:Nat}(hD:0<D)(i:D<=362880)(y:n.natAbs<1152921504606846976):vQ n (D:Int)=.tup [.agg (mkX n D).rf.cells,.j 0]/\Sd D (mkX n D) n/\(mkX n D).rf.Ok:=by
 have e:((D:Nat):Int).natAbs=D:=Int.natAbs_natCast D;have e2:decide (((D:Nat):Int)<0)=false:=bT Om;have w:(if(decide (n<0) != false)=true then -(n.natAbs:Int)else(n.natAbs:Int))=n:=by by_cases c:n<0;simp only[c,decide_true];rw[aD aU];omega;simp only[c,decide_false];rw[aB aU];omega
 obtain⟨r,u,A⟩:=XP hD i (neg:=decide (n<0) != false) (a:=n.natAbs) (b:=D) (z:=n) Om (by rw[w];exact axW _ _) y;have l:mkX n D=r:=by unfold mkX;rw[e,e2,u];rfl
 refine⟨?_,by rw[l];exact A,by rw[l];exact(rI u).2⟩;unfold vQ;rw[aB Om,ER,e,e2,u,l];rfl
def dpX(dm rl:I_)(al:Nat->L2_)(lo:Nat->I_->Int)(b:Nat->Nat):List RF:=(iB dm dm.length).map λk=>if 0<=k then(mkX ((PB dm rl al lo false).eF b k.toNat) ((PB dm rl al lo false).den b)).rf else FV.rf (false,0,1)
def rpX(dm rl:I_)(al:Nat->L2_)(lo:Nat->I_->Int)(b:Nat->Nat):List RF:=(auE rl.length).map λd=>(mkX ((PB dm rl al lo false).eF b ((dE dm dm.length).length+d)) ((PB dm rl al lo false).den b)).rf
theorem aQ.aqD{H:PH}{B:List BX}{o:Nat}{x:aW}(h:aQ H B [])(u:H o=some x)(i:∀b∈B,b.1≠o):aQ H ((o,x)::B) []:=by
 refine⟨λb hb=>?_,λz w=>(by cases w),?_⟩;rcases auQ.1 hb with rfl|hb
 exact u;exact h.box b hb;have:=h.nd;rw[show fG ([]:List LI)=[]from rfl,awD]at this ⊢;rw[show fN ((o,x)::B)=o::fN B from rfl,List.nodup_cons];refine⟨λl=>?_,this⟩;obtain⟨b,hb,e⟩:=auT.1 l;exact i b hb e
theorem Rl.cast{P Q:Lin}{N:Nat}{b:Nat->Nat}{D:XDy}(h:P.Rl N b D)(u:P.m=Q.m)(e2:P.col=Q.col)(w:P.rhs=Q.rhs):Q.Rl N b D:=by
 obtain⟨m,col,rhs,cost⟩:=P;obtain⟨A,l,y,i⟩:=Q;simp only at u e2 w;subst u e2 w;exact⟨⟨h.jA.ne,h.jA.cram⟩,h.den,h.inv,h.right,h.bas,h.rng⟩
def Nx(f:aH)(rm dm rl:I_)(al:Nat->L2_)(lo:Nat->I_->Int)(e:Int)(r:PV):Prop:=
 (e≠0/\r=.tup [.agg nC,.int .i64 e])\/(e=0/\∃b,jz (PB dm rl al lo) (stB dm rl al lo).cols.length b/\r=.tup [.agg nC,.int .i64 12]) \/
 (e=0/\∃b,lG (PB dm rl al lo) (stB dm rl al lo).cols.length b/\∃i,PV.one i=true/\r=.tup [.agg ([i,frs (dpX dm rl al lo b),frs (rpX dm rl al lo b)]++(rS f rm (dpX dm rl al lo b) (rpX dm rl al lo b)).rf.cells),.int .i64 0])
variable{C:Ctx}
set_option maxHeartbeats 4000000 in
theorem Xc(c:Sr C)(f:aH)(a1 a2:Int)(rm dm rl:I_)(sc:L2_)(e:Int)(al:Nat->L2_)(ae:Nat->Int)(lo:Nat->I_->Int)(L:aiY C f (.agg [.j a1,.j a2]) rm dm rl sc e al ae lo)
  (hB:jC dm rl al lo) (hd0:0<l'' dm) (hr0:0<l'' rl) (S':l'' f.asT=l'' dm) (p':l'' f.asP=l'' rl) (O':∀p,p<=l'' dm->(jZ dm al lo p).length<=1000000)
  (bnd:∀b,lG (PB dm rl al lo) (stB dm rl al lo).cols.length b->aG C 328 [.agg f.cells,ints rm,frs (dpX dm rl al lo b),frs (rpX dm rl al lo b)] .nil (aJ (.tup [.agg (rS f rm (dpX dm rl al lo b) (rpX dm rl al lo b)).rf.cells,.j 0]))) (num:aG C 336 [.j 0] .nil (aJ (.agg (FV.rf (false,0,1)).cells))) (fr:∀n d:Int,n.natAbs<1152921504606846976->0<d->d<=362880->aG C 115 [.j n,.j d] .nil (aJ (vQ n d))) :
  cc.wp C (aX eN.res (λr H'=>Nx f rm dm rl al lo e r/\H'=.nil)) (g_ [.agg f.cells,.agg [.j a1,.j a2],ints rm]) .nil:=by
 have Z:=hB.cl;have hX:=Z.adP;have hT:=hB.VO;have hm9:=Z.m;simp only[go_sem,cc,Bs,eN];refine(aQ.nil (H:=h_)).zM λo6 H1 h1=>?_;simp only[go_sem,Bu];refine aA L.GL Sq ?_;simp only[go_sem,Bv];by_cases he:e=0
 ·subst he;have N':aG C 342 [.agg f.cells,.agg [.j a1,.j a2],ints rm] .nil (λr H'=>∃I,r=xp I/\XV I (stB dm rl al lo) (d0B dm rl al lo) H'):=c.r342.go (W6 f a1 a2 rm dm rl sc _ al ae lo L hB.n (by have:=hB.m;omega) hd0 hr0 S' p' O' (by have:=hB.num;have:=hB.m;omega)) rfl;have Γ:=h1.at 0 rfl;simp only[go_sem,bne_self_eq_false,By];refine fD N' Sq a_ ?_;rintro r H2 ⟨I,rfl,t'⟩ K';have s':H2 o6=none:=by
   cases hx:H2 o6 with
   |none=>rfl
   |some x =>have:=K' o6 x hx rfl;rw[Γ]at this;cases this
  obtain⟨ο,hnq⟩:=t'.fresh s';have Δ:(H1.over .nil H2) o6=some (.rows 6 [nC]):=by rw[iL,s'];exact Γ
  have X':XV I (stB dm rl al lo) (d0B dm rl al lo) (H1.over .nil H2):=t'.le λo x hx=>by rw[iL,hx]
  generalize H1.over .nil H2=H3 at *
  clear h1 Γ t' K' s' H1 H2;have Lx:=λI=>c.toNy.lib I Z (rhB dm rl) hT;obtain⟨hR0,hF0⟩:=hB.rl0 true;simp only[go_sem,Bz];refine fD (c.r343.go (bu I (stB dm rl al lo) (cE (stB dm rl al lo) (clB dm rl al lo)) (rhB dm rl) (cO (clB dm rl al lo)) (Lx I) true hX (hT true) (b0B dm rl al lo) (d0B dm rl al lo) hR0 hF0 (λ_=>True) trivial (λ_ _ _ _ _ _ _ _=>trivial) X') rfl) Sq b_ ?_;rintro r H4 ⟨b1,D1,μ,E',-,hE1,Y',k4⟩ -;have o':(H3.over H3 H4) o6=some (.rows 6 [nC]):=kL _ _ (k4 _ _ Δ ο);have u':=Y'.le (kL (H:=H3));generalize H3.over H3 H4=H5 at *
  clear X' Y' k4 Δ H3 H4;simp only[go_sem,B0];refine fD (c.r344.go (acM I (stB dm rl al lo) D1 (by have:=Z.m;omega) u') rfl) Sq b_ ?_;rintro r H6 ⟨⟨t,rfl,ht⟩,rfl⟩ -;rw[PH.over_self _ b_];have g':∀i,i<(stB dm rl al lo).m->(D1.B i<0↔(stB dm rl al lo).cols.length<=b1 i):=λi hi=>by have h1:=μ.bas i hi;have h2:=μ.rng i hi;rw[h1];unfold ixX;split<;>omega
  cases t with
  |false=>
   simp only[go_sem,B5,o'];have ο:∃i,i<(PB dm rl al lo true).m/\(stB dm rl al lo).cols.length<=b1 i/\(PB dm rl al lo true).right b1 i≠0:=Classical.byContradiction λhh=>by have:=ht.2 λi hi hB=>Classical.byContradiction λhr=>hh ⟨i,hi,(g' i hi).1 hB,λh0=>hr ((μ.right i hi).trans h0)⟩;cases this
   exact aY (.inr rfl) .nil (vs:=[.agg nC,.j 12]) Sq a_ ⟨.inr (.inl ⟨rfl,b1,⟨μ.jA,E',hE1,ο⟩,rfl⟩),rfl⟩
  |true=>
   have hz:∀i,i<(stB dm rl al lo).m->(stB dm rl al lo).cols.length<=b1 i->(PB dm rl al lo false).right b1 i=0:=λi hi hge=>by have:=ht.1 rfl i hi ((g' i hi).2 hge);rw[μ.right i hi]at this;exact this
   have G':(PB dm rl al lo false).Rl (stB dm rl al lo).cols.length b1 D1:=Rl.cast μ rfl rfl rfl;have F':(PB dm rl al lo false).oN b1:=E';simp only[go_sem,B6];refine fD (c.r345.go (W7 I (stB dm rl al lo) (cE (stB dm rl al lo) (clB dm rl al lo)) (PB dm rl al lo) (Lx I) false rfl (by have:=Z.m;omega) hX.num (λj hj=>by obtain⟨x,y,e,-⟩:=hX.at' j hj;exact⟨x,y,_,e⟩) b1 D1 G' F' hz u') rfl) Sq b_ ?_;rintro r H7 ⟨b2,D2,hR2,hF2,m',Z',k7⟩ -;have Δ:(H6.over H6 H7) o6=some (.rows 6 [nC]):=kL _ _ (k7 _ _ o' ο);have hv8:=Z'.le (kL (H:=H6));generalize H6.over H6 H7=H8 at *
   clear u' Z' k7 o' H6 H7;simp only[go_sem,B7];refine fD (c.r343.go (bu I (stB dm rl al lo) (cE (stB dm rl al lo) (clB dm rl al lo)) (rhB dm rl) (cO (clB dm rl al lo)) (Lx I) false hX (hT false) b2 D2 hR2 hF2 (λb=>(PB dm rl al lo false).Red (stB dm rl al lo).cols.length b) m' (λb i j g f h hj hl=>h.step g f hj hl) hv8) rfl) Sq b_ ?_;rintro r H9 ⟨u,Y,χ,hF3,n',hE3,hv9,k9⟩ -;have M':(H8.over H8 H9) o6=some (.rows 6 [nC]):=kL _ _ (k9 _ _ Δ ο);have j':=hv9.le (kL (H:=H8));generalize H8.over H8 H9=k' at *
   clear hv8 hv9 k9 Δ H8 H9;have i':lG (PB dm rl al lo) (stB dm rl al lo).cols.length u:=⟨χ.jA,hF3,n',hE3⟩;obtain⟨Bx,I',hX2,J'⟩:=j'.boxes;have hBx:∀b∈Bx,b.1≠o6:=λb hb he=>(hX2 b hb).elim (λh=>ο (he ▸ h)) λh=>hnq (he ▸ h);have h6:aQ k' ((o6,.rows 6 [nC])::Bx) []:=I'.aqD M' hBx;simp only[go_sem,ug];refine aS λw h'=>?_;have h7:=((((h6.new h' (.rows 6 [nC])).perm (B':=(w,.rows 6 [nC])::(o6,.rows 6 [nC])::Bx) (List.perm_append_singleton _ _) (axF.refl _)).lJ 5).lJ 3).lJ 3;generalize k'.set w _=N at *
   have view:∀{H:PH}{a b:BX}{l:List LI},aQ H (a::b::Bx) l->XV I (stB dm rl al lo) Y H:=λh=>J' _ λb hb=>h.box b (by simp[hb]);have M:=view h7;have J:=M.box;simp only[go_sem,uh,J,XSt.cells];refine wp_loop (α:=T3_) (λt=>((((((((n_.set 2 (ints rm)).set 3 (.bQ f.cells)).set 6 (.ptr o6 6 0 0)).set 10 (xp I)).set 11 (.ptr w 6 0 0)).set 51 (.osl I.qb 1 0 (stB dm rl al lo).m)).set 52 (.j ((stB dm rl al lo).m:Nat))).set 53 (.j t.1))) (λt=>t.2.2) (λt=>t.1<=(stB dm rl al lo).m/\∃rows:P2_,l'' rows<=t.1/\aQ t.2.2 ((w,.rows 6 [[t.2.1,.aE,.aE,.bool false,.aE,.aE]])::(o6,.rows 6 [nC])::Bx) [(t.2.1,5,rows),(.aE,3,[]),(.aE,3,[])]) (λt=>(stB dm rl al lo).m-t.1) (0,.aE,N) ⟨auK _,[],auG _,h7⟩ Lq b_ ?_;clear j' M J h7 h6 I' M' h' N k';rintro⟨k,cv,N⟩ ⟨hk,rows,hrl,h7⟩;simp only at hk h7 hrl ⊢;have M:=view h7;have J:=M.box;obtain⟨rb,b1',b2'⟩:=M.basis;obtain⟨rr,v',r2'⟩:=M.right;simp only[go_sem,uc,ui];by_cases ε:k<(stB dm rl al lo).m
   ·have U:(k:Int)<((stB dm rl al lo).m:Nat):=Om;have b3':=b2' k ε;have w':=r2' k ε;simp only[go_sem,U,uj,b1',b3',uk];have hrng:=χ.rng k ε;have hlen:=Z.IV;by_cases c1:Y.B k<0
    ·simp only[go_sem,c1,zH,wZz k];exact aF (k+1,cv,N) ⟨ε,rows,by omega,h7⟩ sO_ Lq b_
    ·obtain⟨j,hj⟩:∃j:Nat,Y.B k=j:=⟨(Y.B k).toNat,by omega⟩;have R':j<(clB dm rl al lo).length:=Om;obtain⟨ν,-,-,-⟩:=Z.at' R';have d':(j:Int)<((stB dm rl al lo).cols.length:Nat):=Om;have l':¬(j:Int)<0:=Om;by_cases c2:(clB dm rl al lo)[j].1<0
     ·simp only[go_sem,l',J,XSt.cells,hj,d',ν,c2,zH,wZz k];exact aF (k+1,cv,N) ⟨ε,rows,by omega,h7⟩ sO_ Lq b_
     ·by_cases c3:Y.R k=0
      ·simp only[go_sem,l',J,XSt.cells,hj,d',ν,c2,v',w',U,c3,beq_self_eq_true,zH,wZz k];exact aF (k+1,cv,N) ⟨ε,rows,by omega,h7⟩ sO_ Lq b_
      ·have F:(PB dm rl al lo false).Rl (stB dm rl al lo).cols.length u Y:=χ;have hbd:XBd (stB dm rl al lo).m Y:=F.bd (hT false);have ξ:=F.jA.pos;have hRk:=hbd.r k ε;have β:=(hT false).den u;rw[<-F.den]at ξ β;obtain⟨Dn,κ⟩:∃Dn:Nat,Y.den=Dn:=⟨Y.den.toNat,by omega⟩;obtain⟨Ω,-,mk3⟩:=oi (n:=Y.R k) (D:=Dn) Om Om Om;have γ:=fr (Y.R k) Y.den Om ξ Om;rw[κ,Ω]at γ;simp only[go_sem,l',J,XSt.cells,hj,d',ν,c2,v',w',U,show(Y.R k==0)=false from by simp[c3]];generalize(mkX (Y.R k) Dn).rf=y at *
       refine bV .nil (cyS (.tup [.agg y.cells,.j 0])) a_ ?_;simp only[go_sem,ul,J,XSt.cells,v',w',U,κ];refine cB rfl γ Sq a_ ?_;simp only[go_sem];refine aS λQ Ξ=>?_;have h8:=(h7.new Ξ (.rows 3 [[.bool false,.aE,.aE]])).xF (.rows 3 [y.cells]);rw[PH.set_set]at h8;simp only[go_sem];refine⟨a_,?_⟩;rw[show(aW.rows 3 [y.cells])=.rows 3 [[PV.bool y.neg,aL y.num,aL y.den]]from rfl]at h8;generalize N.set Q _=E at *
       have K:=(view (h8.sub (B':=(w,.rows 6 [[cv,.aE,.aE,.bool false,.aE,.aE]])::(o6,.rows 6 [nC])::Bx) (ayD _ _) (avU.refl _))).box;simp only[go_sem,um,K,XSt.cells,d',ν];have n1:¬Q=w:=λe=>by rw[e,h7.at 0 rfl]at Ξ;cases Ξ
       refine aS λS δ=>?_;have n2:¬S=w:=λe=>by rw[e,h8.at 0 rfl]at δ;cases δ
       have n3:¬S=Q:=λe=>by rw[e,h8.uZ]at δ;cases δ
       have h9:=(h8.new δ (.rows 3 [[.j 0,.aE,.j 0]])).xF (.rows 3 [[.j (clB dm rl al lo)[j].1,ints (clB dm rl al lo)[j].2.1,.j (cO (clB dm rl al lo) j)]]);rw[PH.set_set]at h9;simp only[go_sem];have atY:(clB dm rl al lo)[j].2.1.length<=19:=Z.len _ (auH R');generalize E.set S _=ζ at *
       have V:=h9.lJ 1;have ι:=V.at 0 rfl;have A':ζ S=some (.rows 3 [[.j (clB dm rl al lo)[j].1,ints (clB dm rl al lo)[j].2.1,.j (cO (clB dm rl al lo) j)]]):=h9.uZ;have g14:ζ Q=some (.rows 3 [[PV.bool y.neg,aL y.num,aL y.den]]):=V.box (Q,_) bC;refine bV (((h_.set w (.rows 6 [[cv,.aE,.aE,.bool false,.aE,.aE]])).set Q (.rows 3 [[PV.bool y.neg,aL y.num,aL y.den]])).set S (.rows 3 [[.j (clB dm rl al lo)[j].1,ints (clB dm rl al lo)[j].2.1,.j (cO (clB dm rl al lo) j)]])) dY (c_ (c_ (c_ a_ ι) g14) A') ?_;have ρ:¬w=Q:=λe=>n1 e.symm;have n2':¬w=S:=λe=>n2 e.symm;have n3':¬Q=S:=λe=>n3 e.symm;simp only[go_sem,uo,ι,A',n1,n2,n3,ρ,n2',n3'];refine V.append 3 rfl (by simp only[go_sem];rfl) (by unfold roomFor;simp only[maxLen,auD,avS];omega) λsv c' A _=>?_;have f':c' Q=some (.rows 3 [[PV.bool y.neg,aL y.num,aL y.den]]):=A.box (Q,_) bC;have C':c' S=some (.rows 3 [[.j (clB dm rl al lo)[j].1,ints (clB dm rl al lo)[j].2.1,.j (cO (clB dm rl al lo) j)]]):=A.box (S,_) bC;refine⟨c_ (c_ (c_ a_ (A.at 0 rfl)) f') C',?_⟩;have osv:sv=.aE\/∃q k,sv=.osl q 1 0 k:=by
        rcases A.own 3 rfl with⟨-,e⟩|⟨q,rs,e,-⟩
        ·exact .inl e
        ·exact .inr ⟨q,_,e⟩
       rcases osv with rfl|⟨q,kk,rfl⟩
       all_goals
        simp only[go_sem,f',n1,n2,n3,ρ,n2',n3',avN,forall_eq,show(5:Nat)*1<=16777216 from by decide];refine A.append 0 rfl (by simp only[go_sem];rfl) (by unfold roomFor;simp only[maxLen,avG,avS];omega) λy' x' O hq=>?_;refine⟨c_ (c_ (c_ a_ (O.at 0 rfl)) (O.box (Q,_) bC)) (O.box (S,_) bC),?_⟩;obtain⟨qc,U'⟩:=hq bC;rw[auJ,auS]at U';subst U';have D':=O.set 0 rfl (.rows 6 [[.osl qc 5 0 (l'' rows+1),.aE,.aE,.bool false,.aE,.aE]]);have g15:=O.at 0 rfl;refine bV .nil dY a_ ?_;simp only[go_sem,uq,g15,avN,forall_eq];refine⟨a_,?_⟩;simp only[go_sem,zH,wZz k];simp only[axX,axI,avQ,ayI]at D';refine aF (k+1,.osl qc 5 0 (l'' rows+1),_) ⟨ε,rows++[_],by simp only[auJ,auS];omega,D'.sub (avU.cons_cons _ (avU.cons_cons _ ((ayD _ _).trans (ayD _ _)))) (avU.cons_cons _ (avU.cons_cons _ (avU.cons_cons _ (List.nil_sublist _))))⟩ sO_ Lq b_
   ·have U:¬(k:Int)<((stB dm rl al lo).m:Nat):=Om;have F:(PB dm rl al lo false).Rl (stB dm rl al lo).cols.length u Y:=χ;have hmm:(stB dm rl al lo).m=(dE dm dm.length).length+l'' rl:=rfl;simp only[go_sem,U,ut];refine sH ((Lx I).duals u Y false N χ M) Sq λyv E hy=>?_;obtain⟨qy,V',rfl,rfl⟩:∃qy,N qy=none/\yv=.osl qy 1 0 (stB dm rl al lo).m/\E=N.set qy (.rows 1 (aR (fl (stB dm rl al lo).m ((PB dm rl al lo false).eF u)))):=by
     rcases hy with⟨h,-,-⟩|⟨q,h0,h1,h2⟩
     ·have:=congrArg List.length h;rw[yD,avS]at this;omega
     ·rw[yD]at h1;exact⟨q,h0,h1,h2⟩
    have h8:=(h7.new V' (.rows 1 (aR (fl (stB dm rl al lo).m ((PB dm rl al lo false).eF u))))).perm (B':=(w,.rows 6 [[cv,.aE,.aE,.bool false,.aE,.aE]])::(o6,.rows 6 [nC])::(qy,.rows 1 (aR (fl (stB dm rl al lo).m ((PB dm rl al lo false).eF u))))::Bx) (axF.cons _ (axF.cons _ (List.perm_append_singleton _ _))) (axF.refl _);generalize N.set qy _=E at *
    have W:∀{H:PH}{a b c:BX}{l:List LI},aQ H (a::b::c::Bx) l->XV I (stB dm rl al lo) Y H:=λh=>J' _ λb hb=>h.box b (by simp[hb]);have K:=(W h8).box;have W':(stB dm rl al lo).row.length=l'' dm:=iC ..;simp only[go_sem,uu,K,XSt.cells,auD,W'];refine wp_loop (α:=T3_) (λt=>(((((((((n_.set 2 (ints rm)).set 3 (.bQ f.cells)).set 6 (.ptr o6 6 0 0)).set 10 (xp I)).set 11 (.ptr w 6 0 0)).set 17 (.osl qy 1 0 (stB dm rl al lo).m)).set 121 (ints (stB dm rl al lo).row)).set 122 (.j (l'' dm:Nat))).set 123 (.j t.1))) (λt=>t.2.2) (λt=>t.1<=l'' dm/\aQ t.2.2 ((w,.rows 6 [[cv,t.2.1,.aE,.bool false,.aE,.aE]])::(o6,.rows 6 [nC])::(qy,.rows 1 (aR (fl (stB dm rl al lo).m ((PB dm rl al lo false).eF u))))::Bx) [(cv,5,rows),(t.2.1,3,((dpX dm rl al lo u).take t.1).map RF.cells),(.aE,3,[])]) (λt=>l'' dm-t.1) (0,.aE,E) ⟨auK _,h8⟩ Lq b_ ?_;clear h8 K hy V' h7 M J E;rintro⟨p,dv,E⟩ ⟨hp,h8⟩;simp only at hp h8 ⊢;have K:=(W h8).box;have hdl:(dpX dm rl al lo u).length=l'' dm:=by unfold dpX;rw[auD,iC]
    have hdn:=hB.n;simp only[go_sem,ud,uv];by_cases a':p<l'' dm
    ·have b':(p:Int)<(l'' dm:Nat):=Om;have ν:((stB dm rl al lo).row.map λn=>[PV.int .i64 n])[p]?=some [.j ((iB dm dm.length).getD p 0)]:=by
      rw[show(stB dm rl al lo).row=iB dm dm.length from rfl];have:p<(iB dm dm.length).length:=by rw[iC];exact a'
      simp[auM,this]
     simp only[go_sem,b',uw,ν,ux];obtain⟨z0,hz0⟩:∃z,z=FV.rf (false,0,1):=⟨_,rfl⟩;rw[<-hz0]at num;refine aA num Sq ?_;simp only[go_sem];refine aS λσ Φ=>?_;have h9:=(h8.new Φ (.rows 3 [[.bool false,.aE,.aE]])).xF (.rows 3 [[.bool z0.neg,aL z0.num,aL z0.den]]);rw[PH.set_set]at h9;simp only[go_sem];generalize E.set σ _=ζ at *
     obtain⟨z,hz⟩:∃z,z=if 0<=(iB dm dm.length).getD p 0 then(mkX ((PB dm rl al lo false).eF u ((iB dm dm.length).getD p 0).toNat) ((PB dm rl al lo false).den u)).rf else z0:=⟨_,rfl⟩
     refine wp_cut (a:=.seq (.region EC) (.cond (.tmp 129) (.draw RA) .skip)) (c:=.region RB) (α:=PH) (λ_=>((((((((((n_.set 2 (ints rm)).set 3 (.bQ f.cells)).set 6 (.ptr o6 6 0 0)).set 10 (xp I)).set 11 (.ptr w 6 0 0)).set 17 (.osl qy 1 0 (stB dm rl al lo).m)).set 20 (.ptr σ 3 0 0)).set 121 (ints (stB dm rl al lo).row)).set 122 (.j (l'' dm:Nat))).set 123 (.j p))) (λH=>H) (λH=>aQ H (((w,.rows 6 [[cv,dv,.aE,.bool false,.aE,.aE]])::(o6,.rows 6 [nC])::(qy,.rows 1 (aR (fl (stB dm rl al lo).m ((PB dm rl al lo false).eF u))))::Bx)++[(σ,.rows 3 [[.bool z.neg,aL z.num,aL z.den]])]) [(cv,5,rows),(dv,3,((dpX dm rl al lo u).take p).map RF.cells),(.aE,3,[])]) ?_ ?_
     ·by_cases c5:0<=(iB dm dm.length).getD p 0
      ·rw[aD c5]at hz;simp only[go_sem,EC,show(iB dm dm.length).getD p 0>=0 from c5];obtain⟨kk,q'⟩:∃kk:Nat,(iB dm dm.length).getD p 0=kk:=⟨((iB dm dm.length).getD p 0).toNat,by omega⟩;have r':kk<(stB dm rl al lo).m:=by
        have h1:=IA dm a';rw[q']at h1;by_cases d0:0<dm.getD p 0
        ·rw[aD d0]at h1;have:=tD dm a' (auG _) d0;omega
        ·rw[aB d0]at h1;omega
       have Λ:(kk:Int)<((stB dm rl al lo).m:Nat):=Om;rw[q',awG]at hz;have ξ:=F.jA.pos;have β:=(hT false).den u;have hdu:=(hT false).eF u kk;obtain⟨Dn,κ⟩:∃Dn:Nat,(PB dm rl al lo false).den u=Dn:=⟨((PB dm rl al lo false).den u).toNat,by omega⟩;have Θ:=F.den;rw[κ]at hz ξ β Θ;obtain⟨Ω,-,-⟩:=oi (n:=(PB dm rl al lo false).eF u kk) (D:=Dn) Om Om Om;have γ:=fr ((PB dm rl al lo false).eF u kk) Dn Om Om Om;rw[Ω,<-hz]at γ;have gy:ζ qy=some (.rows 1 (aR (fl (stB dm rl al lo).m ((PB dm rl al lo false).eF u)))):=h9.at 2 rfl;have ω:=CW ((PB dm rl al lo false).eF u) r';have L':=(W (h9.sub (B':=(w,.rows 6 [[cv,dv,.aE,.bool false,.aE,.aE]])::(o6,.rows 6 [nC])::(qy,.rows 1 (aR (fl (stB dm rl al lo).m ((PB dm rl al lo false).eF u))))::Bx) (ayD _ _) (avU.refl _))).box;have φ:=h9.uZ;have V:=h9.xF (.rows 3 [[.bool z.neg,aL z.num,aL z.den]]);refine bV .nil (cyS (.tup [.agg z.cells,.j 0])) a_ ?_;simp only[go_sem,RA,q',gy,ω,Λ,L',XSt.cells,Θ];refine cB rfl γ Sq a_ ?_;simp only[go_sem,φ];refine⟨a_,_,V,?_,rfl⟩;exact Lq
      ·rw[aB c5]at hz;subst hz;simp only[go_sem,EC,show ¬(iB dm dm.length).getD p 0>=0 from c5];refine⟨ζ,h9,?_,rfl⟩;exact Lq
     ·intro c' V;have n1:¬σ=w:=λe=>by rw[e,h8.at 0 rfl]at Φ;cases Φ
      have ρ:¬w=σ:=λe=>n1 e.symm;have ι:=V.at 0 rfl;have φ:c' σ=some (.rows 3 [[.bool z.neg,aL z.num,aL z.den]]):=V.uZ;have θ:(dpX dm rl al lo u).take (p+1)=(dpX dm rl al lo u).take p++[z]:=by
       have T':p<(iB dm dm.length).length:=by rw[iC];exact a'
       have hgd:(iB dm dm.length).getD p 0=(iB dm dm.length)[p]:=by simp[auM,T']
       have ψ:(dpX dm rl al lo u)[p]?=some z:=by unfold dpX;rw[avC,auP T',avB,hz,hz0,hgd]
       rw[List.take_add_one,ψ];rfl
      simp only[go_sem,RB,ι,φ,n1,ρ,avN,forall_eq,show(3:Nat)*1<=16777216 from by decide];refine V.append 1 rfl (by simp only[go_sem];rfl) (by unfold roomFor;rw[auD,auU];simp only[maxLen,avG,avS];omega) λdv' x' A hq=>?_;obtain⟨q,η⟩:=hq bC;simp only[axX,axI,avQ,ayI]at A;rw[show((dpX dm rl al lo u).take p).map RF.cells++[[PV.bool z.neg,aL z.num,aL z.den]]=((dpX dm rl al lo u).take (p+1)).map RF.cells by rw[θ,avD];rfl]at A η;rw[auD]at η;subst η;have υ:=A.at 0 rfl;have O:=A.set 0 rfl (.rows 6 [[cv,.osl q 3 0 ((dpX dm rl al lo u).take (p+1)).length,.aE,.bool false,.aE,.aE]]);simp only[avQ]at O;simp only[go_sem,υ,avN,forall_eq,uy,wZz p];refine aF (p+1,.osl q 3 0 ((dpX dm rl al lo u).take (p+1)).length,_) ⟨a',O.sub ?_ (avU.refl _)⟩ sO_ Lq b_;exact avU.cons_cons _ (avU.cons_cons _ (avU.cons_cons _ (ayD _ _)))
    ·have b':¬(p:Int)<(l'' dm:Nat):=Om;have:p=l'' dm:=Om;subst this;rw[<-hdl,avI]at h8;simp only[go_sem,b',uz,auD,p'];refine wp_loop (α:=T3_) (λt=>((((((((n_.set 2 (ints rm)).set 3 (.bQ f.cells)).set 6 (.ptr o6 6 0 0)).set 10 (xp I)).set 11 (.ptr w 6 0 0)).set 17 (.osl qy 1 0 (stB dm rl al lo).m)).set 151 (.j (l'' rl:Nat))).set 152 (.j t.1))) (λt=>t.2.2) (λt=>t.1<=l'' rl/\aQ t.2.2 ((w,.rows 6 [[cv,dv,t.2.1,.bool false,.aE,.aE]])::(o6,.rows 6 [nC])::(qy,.rows 1 (aR (fl (stB dm rl al lo).m ((PB dm rl al lo false).eF u))))::Bx) [(cv,5,rows),(dv,3,(dpX dm rl al lo u).map RF.cells),(t.2.1,3,((rpX dm rl al lo u).take t.1).map RF.cells)]) (λt=>l'' rl-t.1) (0,.aE,E) ⟨auK _,h8⟩ Lq b_ ?_;clear h8 K E;rintro⟨d,rv,E⟩ ⟨hd,h8⟩;simp only at hd h8 ⊢;have K:=(W h8).box;have hrlen:(rpX dm rl al lo u).length=l'' rl:=by unfold rpX;rw[auD,List.length_range]
     simp only[go_sem,ue,u0];by_cases z':d<l'' rl
     ·have τ:(d:Int)<(l'' rl:Nat):=Om;obtain⟨z,hz⟩:∃z,z=(mkX ((PB dm rl al lo false).eF u ((dE dm dm.length).length+d)) ((PB dm rl al lo false).den u)).rf:=⟨_,rfl⟩;have r':(dE dm dm.length).length+d<(stB dm rl al lo).m:=Om;have Q':i_.wrap (i_.wrap (((stB dm rl al lo).m:Nat)-(l'' rl:Nat))+(d:Nat))=(((dE dm dm.length).length+d:Nat):Int):=by rw[wrap_i64 (show -9223372036854775808<=(((stB dm rl al lo).m:Nat):Int)-(l'' rl:Nat) by omega) Om,wrap_i64 Om Om];omega
      have Λ:(((dE dm dm.length).length+d:Nat):Int)<((stB dm rl al lo).m:Nat):=Om;have θ:(rpX dm rl al lo u).take (d+1)=(rpX dm rl al lo u).take d++[z]:=by
       have ψ:(rpX dm rl al lo u)[d]?=some z:=by unfold rpX;rw[avC,List.getElem?_range z',avB,hz]
       rw[List.take_add_one,ψ];rfl
      have ξ:=F.jA.pos;have β:=(hT false).den u;have hdu:=(hT false).eF u ((dE dm dm.length).length+d);obtain⟨Dn,κ⟩:∃Dn:Nat,(PB dm rl al lo false).den u=Dn:=⟨((PB dm rl al lo false).den u).toNat,by omega⟩;have Θ:=F.den;rw[κ]at hz ξ β Θ;have gy:E qy=some (.rows 1 (aR (fl (stB dm rl al lo).m ((PB dm rl al lo false).eF u)))):=h8.at 2 rfl;have ω:=CW ((PB dm rl al lo false).eF u) r';generalize(dE dm dm.length).length+d=kk at *
      obtain⟨Ω,-,-⟩:=oi (n:=(PB dm rl al lo false).eF u kk) (D:=Dn) Om Om Om;have γ:=fr ((PB dm rl al lo false).eF u kk) Dn Om Om Om;rw[Ω,<-hz]at γ;simp only[go_sem,τ,u5];refine bV .nil (cyS (.tup [.agg z.cells,.j 0])) a_ ?_;simp only[go_sem,u6,gy,K,XSt.cells,Θ,auD,p',Q',ω,Λ];refine cB rfl γ Sq a_ ?_;simp only[go_sem];refine aS λe' Ψ=>?_;have h9:=(h8.new Ψ (.rows 3 [[.bool false,.aE,.aE]])).xF (.rows 3 [[.bool z.neg,aL z.num,aL z.den]]);rw[PH.set_set]at h9;simp only[go_sem];refine⟨a_,?_⟩;have n1:¬e'=w:=λe=>by rw[e,h8.at 0 rfl]at Ψ;cases Ψ
      have ρ:¬w=e':=λe=>n1 e.symm;generalize E.set e' _=ζ at *
      have ι:=h9.at 0 rfl;have φ:ζ e'=some (.rows 3 [[.bool z.neg,aL z.num,aL z.den]]):=h9.uZ;simp only[go_sem,u7,ι,φ,n1,ρ,avN,forall_eq,show(3:Nat)*1<=16777216 from by decide];refine h9.append 2 rfl (by simp only[go_sem];rfl) (by unfold roomFor;rw[auD,auU];simp only[maxLen,avG,avS];omega) λrv' x' A hq=>?_;obtain⟨q,η⟩:=hq bC;simp only[axX,axI,avQ,ayI]at A;rw[show((rpX dm rl al lo u).take d).map RF.cells++[[PV.bool z.neg,aL z.num,aL z.den]]=((rpX dm rl al lo u).take (d+1)).map RF.cells by rw[θ,avD];rfl]at A η;rw[auD]at η;subst η;have υ:=A.at 0 rfl;have O:=A.set 0 rfl (.rows 6 [[cv,dv,.osl q 3 0 ((rpX dm rl al lo u).take (d+1)).length,.bool false,.aE,.aE]]);simp only[avQ]at O;simp only[go_sem,υ,avN,forall_eq,u9,wZz d];refine aF (d+1,.osl q 3 0 ((rpX dm rl al lo u).take (d+1)).length,_) ⟨z',O.sub ?_ (avU.refl _)⟩ sO_ Lq b_;exact avU.cons_cons _ (avU.cons_cons _ (avU.cons_cons _ (ayD _ _)))
     ·have τ:¬(d:Int)<(l'' rl:Nat):=Om;have P':d=(rpX dm rl al lo u).length:=Om;rw[P',avI]at h8;simp only[go_sem,τ];exact Sf f rm _ _ _ (bnd u i') (λr H'=>Nx f rm dm rl al lo 0 r/\H'=.nil) _ _ _ _ _ _ _ _ _ Lq h8 Om Om λy' hcv=>⟨.inr (.inr ⟨rfl,u,i',y',hcv,rfl⟩),rfl⟩
 ·have Γ:=h1.at 0 rfl;simp only[go_sem,show(e != 0)=true from by simp[he],Bw,Γ];exact aY (.inr rfl) .nil (vs:=[.agg nC,.j e]) Sq a_ ⟨.inl ⟨he,rfl⟩,rfl⟩
section
variable {dm rl rl':I_} {al:Nat->L2_} {lo:Nat->I_->Int} {t:Int} {y:Nat->Nat->Int}
theorem vL.more(h:vL dm rl al t y)(w:l'' rl'=l'' rl)(i:∀d,d<l'' rl->rl.getD d 0<=rl'.getD d 0)(l:0<=t):vL dm rl' al t y:=
 ⟨h.nn,h.dem,h.none,λd u=>Int.le_trans (h.room d Om) (ayX (i d Om) l)⟩
def HQ(n:Int)(q:Nat)(y:Nat->Nat->Int)(p i:Nat):Int:=if p=q then(n-1)*y p i else n*y p i
theorem vL.less{q:Nat}{n:Int}(h:vL dm rl al t y)(O:q<l'' dm)(J:dm.getD q 0=n)(K:0<n)(E:∀p,p<l'' dm->∀s∈al p,0<=lo p s) :
  vL (dm.set q (n-1)) rl al (n*t) (HQ n q y)/\HI al lo dm.length (HQ n q y)<=n*HI al lo dm.length y:=by
 have w:∀p i,p<l'' dm->i<(al p).length->0<=HQ n q y p i/\HQ n q y p i<=n*y p i:=λp i hp hi=>by
  have F:=h.nn p i hp hi;have M:0<=(n-1)*y p i:=Int.mul_nonneg Om F;have N:(n-1)*y p i=n*y p i-y p i:=by rw[Int.sub_mul,Int.one_mul]
  unfold HQ;split<;>omega
 have u:∀p,p<l'' dm->(dm.set q (n-1)).getD p 0=if p=q then n-1 else dm.getD p 0:=λp hp=>by rw[auM,ayG,auM];by_cases e:q=p;subst e;simp[hp];rw[aB e,aB (λh=>e h.symm)]
 have A:∀p i d,0<=cnY al p i d:=λp i d=>Int.natCast_nonneg _;refine⟨⟨λp i hp hi=>?_,λp hp l=>?_,λp i hp l hi=>?_,λd H=>?_⟩,?_⟩;rw[avT]at hp;exact(w p i hp hi).1;rw[avT]at hp;rw[u p hp]at l ⊢;by_cases e:p=q;subst e;rw[aD rfl]at l ⊢;rw[bM (f:=HQ n p y p) (g:=λi=>(n-1)*y p i) (λi _=>aD rfl),dD,h.dem p hp Om,J]
 grind
 rw[aB e]at l ⊢;rw[bM (f:=HQ n q y p) (g:=λi=>n*y p i) (λi _=>aB e),dD,h.dem p hp l]
 grind
 rw[avT]at hp;rw[u p hp]at l;unfold HQ;by_cases e:p=q;subst e;rw[aD rfl]at l ⊢;rw[show n-1=0 by omega,awV];rw[aB e]at l ⊢;rw[h.none p i hp l hi,axE];rw[avT];refine Int.le_trans (b:=bB (λp=>n*bB (λi=>y p i*cnY al p i d) (al p).length) dm.length) ?_ ?_;refine Lin.sF λp hp=>?_;rw[<-dD];refine Lin.sF λi hi=>?_;rw[<-axD];exact Int.mul_le_mul_of_nonneg_right (w p i hp hi).2 (A p i d);rw[dD,axD];exact ayX (h.room d H) Om;unfold HI;rw[<-dD];refine Lin.sF λp hp=>?_;rw[<-dD];refine Lin.sF λi hi=>?_;rw[<-axD];refine Int.mul_le_mul_of_nonneg_right (w p i hp hi).2 (E p hp _ ?_);rw[auM,auP hi];exact auH hi
theorem Nb{P:Lin}{N:Nat}{b:Nat->Nat}(h:∀j,¬P.Ent N b j):∀j,j<N->0<=P.rc b j:=by
 intro j
 induction j using Nat.strongRecOn with
 |ind j A =>intro i;refine Int.not_lt.1 λw=>h j ⟨i,w,λl u=>A l u Om⟩
theorem lG.sJ{N:Nat}{b:Nat->Nat}(l:N=(stB dm rl al lo).cols.length)(hB:jC dm rl al lo)(s:lG (PB dm rl al lo) N b):vL dm rl al ((PB dm rl al lo false).den b) (yB dm rl al lo b)/\HI al lo dm.length (yB dm rl al lo b)=(PB dm rl al lo false).obj b:=by
 subst l;exact ptY hB s.jA s.CE λi hi=>(s.red i hi).imp id λh=>h.1
theorem lG.QX{b:Nat->Nat}(hB:jC dm rl al lo)(s:lG (PB dm rl al lo) (stB dm rl al lo).cols.length b)(h:vL dm rl al t y) :
  t*(PB dm rl al lo false).obj b<=(PB dm rl al lo false).den b*HI al lo dm.length y:=
 adO hB (Nb s.stop) h
theorem jz.no{b:Nat->Nat}(hB:jC dm rl al lo)(s:jz (PB dm rl al lo) (stB dm rl al lo).cols.length b)(H:0<t)(h:vL dm rl al t y):False:=by
 have A:=adO hB (Nb s.stop) h;have J:bB (λp=>bB (λi=>y p i*cY al lo true p i) (al p).length) dm.length=0:=gV λp _=>gV λi _=>axE _;rw[J,axE]at A;obtain⟨i,hi,K,N⟩:=s.art;have l:∀k,(PB dm rl al lo true).cost (b k)=if b k<(stB dm rl al lo).cols.length then 0 else 1:=λk=>rfl
 have u:0<(PB dm rl al lo true).obj b:=by
  have M:=s.CE i hi;have E:1<=(PB dm rl al lo true).cost (b i)*(PB dm rl al lo true).right b i:=by rw[l,aB Om];omega
  have F:bB (λk=>if k=i then 1 else 0) (PB dm rl al lo true).m<=(PB dm rl al lo true).obj b:=by unfold Lin.obj;refine Lin.sF λk w=>?_;by_cases e:k=i;subst e;rw[aD rfl];exact E;rw[aB e];refine Int.mul_nonneg ?_ (s.CE k w);rw[l];split<;>decide
  rw[jW hi λk _ w=>aB w,aD rfl]at F;omega
 have:=Int.mul_pos H u;omega
theorem L4{D:Nat}(hD:0<D)(u:D<=362880){xs:List FV}{ns:N_}{s:FV}{z:Int}{g:Nat->Int}(A:l'' xs=l'' ns)(H:Sd D s z)(J:∀i (h:i<l'' xs),Sd D xs[i] (g i)/\(g i).natAbs<=100000000000)(F:∀n∈ns,n<=200)(E:l'' xs<=1000)(V:z.natAbs<=100000000000000000) :
  Sd D (mN s xs ns) (z+bB (λi=>g i*(ns.getD i 0:Nat)) xs.length):=by
 have w:∀k,k<=l'' xs->Sd D (mN s (xs.take k) (ns.take k)) (z+bB (λi=>g i*(ns.getD i 0:Nat)) k)/\(bB (λi=>g i*(ns.getD i 0:Nat)) k).natAbs<=k*(100000000000*200):=by
  intro k
  induction k with
  |zero =>intro _;refine⟨?_,by simp[bB]⟩;show Sd D s (z+0);rw[Int.add_zero];exact H
  |succ k M=>
   intro U;obtain⟨K,W⟩:=M Om;obtain⟨N,O⟩:=J k Om;have l:k<l'' ns:=Om;have Q:=F _ (auH l);have e:ns.getD k 0=ns[k]:=by simp[auM,l]
   rw[yx s Om l,bB,e];generalize bB (λi=>g i*(ns.getD i 0:Nat)) k=S at *
   have Y:(g k*(ns[k]:Nat)).natAbs<=100000000000*200:=by rw[axO,Int.natAbs_natCast];exact awY O Q
   have Z:k*(100000000000*200)<=1000*(100000000000*200):=avL _ Om;rw[axB];refine⟨?_,by omega⟩;rw[<-Int.add_assoc];exact ahC hD u K N _ Om Om Om Om Om
 have h:=(w xs.length (auG _)).1;rw[avI,A,avI]at h;rw[A];exact h
theorem PQ(hB:jC dm rl al lo){b:Nat->Nat}(g:(PB dm rl al lo false).Good b)(k:Nat) :
  Sd ((PB dm rl al lo false).den b).toNat (mkX ((PB dm rl al lo false).eF b k) ((PB dm rl al lo false).den b)) ((PB dm rl al lo false).eF b k)/\(mkX ((PB dm rl al lo false).eF b k) ((PB dm rl al lo false).den b)).rf.Ok/\((PB dm rl al lo false).eF b k).natAbs<=100000000000:=by
 have hp:=g.pos;have i:=(hB.VO false).den b;have l:=(hB.VO false).eF b k;obtain⟨D,hD⟩:∃D:Nat,(PB dm rl al lo false).den b=D:=⟨((PB dm rl al lo false).den b).toNat,by omega⟩;rw[hD]at hp i ⊢;obtain⟨-,u,w⟩:=oi (n:=(PB dm rl al lo false).eF b k) (D:=D) Om Om Om;exact⟨u,w,l⟩
theorem Xz{f:aH}{rm:I_}(K:eX f=dm)(O:mR f rm=rl)(hB:jC dm rl al lo)(M:l'' rl<=1000){b:Nat->Nat}(g:(PB dm rl al lo false).Good b) :
  Sd ((PB dm rl al lo false).den b).toNat (rS f rm (dpX dm rl al lo b) (rpX dm rl al lo b)) ((PB dm rl al lo false).obj b)/\((PB dm rl al lo false).obj b).natAbs<=1000000000000000:=by
 have hp:=g.pos;have Y:=(hB.VO false).den b;have u:(dpX dm rl al lo b).length=l'' dm:=by unfold dpX;rw[auD,iC]
 have l:(rpX dm rl al lo b).length=l'' rl:=by unfold rpX;rw[auD,List.length_range]
 have E:=hB.n;have F:∀n∈dm.map awC,n<=200:=λn E=>by obtain⟨x,Q,rfl⟩:=auT.1 E;have:=hB.dem x Q;omega
 have A:∀n∈rl.map awC,n<=200:=λn E=>by obtain⟨x,Q,rfl⟩:=auT.1 E;have:=hB.room x Q;omega
 have V:0<((PB dm rl al lo false).den b).toNat:=Om;have W:((PB dm rl al lo false).den b).toNat<=362880:=Om;have p4:((PB dm rl al lo false).obj b).natAbs<=1000000000000000:=by
  have H:=wP (f:=λi=>(PB dm rl al lo false).cost (b i)*(PB dm rl al lo false).right b i) (B:=10000*1000000000) (n:=(PB dm rl al lo false).m) λi hi=>by rw[axO];refine awY ?_ ((hB.VO false).right b hi);have:=(hB.VO false).cost (b i);omega
  have h2:=(hB.VO false).m;have h3:(PB dm rl al lo false).m*(10000*1000000000)<=9*(10000*1000000000):=avL _ h2;unfold Lin.obj;omega
 refine⟨?_,p4⟩;have u1:∀p,p<l'' dm->0<dm.getD p 0->(iB dm dm.length).getD p 0=(rwK dm p:Nat):=λp hp h0=>by rw[IA dm hp,aD h0];rfl
 have s1:=L4 V W (xs:=(dpX dm rl al lo b).map RF.v) (ns:=dm.map awC) (s:=(false,0,1)) (z:=0) (g:=λp=>uY dm rl al lo false b p) (by rw[auD,auD,u]) (by have:=p5 (D:=((PB dm rl al lo false).den b).toNat) 0;simpa using this) (λi hi=>by
  have w:i<l'' dm:=by rw[auD,u]at hi;exact hi
  have e:((dpX dm rl al lo b).map RF.v)[i]=if 0<dm.getD i 0 then mkX ((PB dm rl al lo false).eF b (rwK dm i)) ((PB dm rl al lo false).den b)else(false,0,1):=by
   simp only[dpX,awA];have hr:(iB dm dm.length)[i]'(by rw[iC];exact w)=(iB dm dm.length).getD i 0:=by simp[auM,iC,w]
   rw[hr];by_cases c:0<dm.getD i 0;rw[u1 i w c,aD (Int.natCast_nonneg _),aD c,awG,FV.QA];rw[IA dm w,aB c,aB aU,aB c,FV.QA]
  rw[e];unfold uY;by_cases c:0<dm.getD i 0;rw[aD c,aD c];have:=PQ hB g (rwK dm i);exact⟨this.1,this.2.2⟩;rw[aB c,aB c];refine⟨?_,by decide⟩;have:=p5 (D:=((PB dm rl al lo false).den b).toNat) 0;simpa using this) F (by rw[auD,u];exact E) aU
 rw[auD,u,Int.zero_add]at s1;have Z:bB (λi=>uY dm rl al lo false b i*((dm.map awC).getD i 0:Nat)) dm.length=bB (λp=>uY dm rl al lo false b p*dm.getD p 0) dm.length:=bM λp hp=>by
  have:(((dm.map awC).getD p 0:Nat):Int)=max (dm.getD p 0) 0:=by simp[auM,hp]
  rw[this];unfold uY;by_cases c:0<dm.getD p 0;rw[aD c,Int.max_eq_left Om];rw[aB c,awV,awV]
 rw[Z]at s1;have hu:(bB (λp=>uY dm rl al lo false b p*dm.getD p 0) dm.length).natAbs<=1000*(100000000000*200):=by
  have H:=wP (f:=λp=>uY dm rl al lo false b p*dm.getD p 0) (B:=100000000000*200) (n:=l'' dm) λp hp=>by
   unfold uY;by_cases c:0<dm.getD p 0;rw[aD c,axO];refine awY (PQ hB g _).2.2 ?_;have N:dm.getD p 0∈dm:=by rw[auM,auP hp];exact auH hp
   have:=hB.dem _ N;omega;rw[aB c,awV];decide
  exact avJ H (avL _ E)
 have S:∀i (h:i<((rpX dm rl al lo b).map RF.v).length),Sd ((PB dm rl al lo false).den b).toNat ((rpX dm rl al lo b).map RF.v)[i] (vY dm rl al lo false b i)/\(vY dm rl al lo false b i).natAbs<=100000000000:=λi hi=>by
  have e:((rpX dm rl al lo b).map RF.v)[i]=mkX ((PB dm rl al lo false).eF b (nnK dm+i)) ((PB dm rl al lo false).den b):=by simp only[rpX,awA,List.getElem_range,FV.QA];rfl
  rw[e];have:=PQ hB g (nnK dm+i);exact⟨this.1,this.2.2⟩
 have U:(bB (λp=>uY dm rl al lo false b p*dm.getD p 0) dm.length).natAbs<=100000000000000000:=Om;have s2:=L4 V W (xs:=(rpX dm rl al lo b).map RF.v) (ns:=rl.map awC) (g:=λd=>vY dm rl al lo false b d) (by rw[auD,auD,l]) s1 S A (by rw[auD,l];exact M) U;rw[auD,l]at s2;have e2:bB (λi=>vY dm rl al lo false b i*((rl.map awC).getD i 0:Nat)) rl.length=bB (λd=>vY dm rl al lo false b d*rl.getD d 0) rl.length:=bM λd J=>by
  have N:rl.getD d 0∈rl:=by rw[auM,auP J];exact auH J
  have H:=(hB.room _ N).1;have:(((rl.map awC).getD d 0:Nat):Int)=rl.getD d 0:=by simp[auM,J]at H ⊢;omega
  rw[this]
 rw[e2,<-U4]at s2;unfold rS;rw[K,O];exact s2
end
end Go.PM
