/-Lemmas for the law. No condition.-/
import Derived.Test.YtmjecabkffiabaaGreatDoorRM2
import Derived.Lib.ItoaNum
set_option linter.unusedSimpArgs false
set_option linter.unusedVariables false
open Nat renaming reduceEqDiff->γ,reduceAdd->δ,reduceSub->ε,reduceMul->ζ,reduceLT->η,reduceLeDiff->θ,reduceBEq->τ
open Int renaming reduceLT->ι,reduceLE->κ,reduceEq->μ,reduceToNat->ν,reduceAdd->ξ,reduceNeg->ο,reduceBEq->ρ,reduceBNe->σ
open List renaming reduceReplicate->υ
open List renaming length_map->auD,range->auE,getElem_mem->auH,length_append->auJ,replicate->auL,getD_eq_getElem?_getD->auM,getElem?_eq_getElem->auP,mem_cons->auQ,length_singleton->auS,mem_map->auT,length_take->auU,all_eq_true->auX,take_of_length_le->auZ,getElem?_map->avC,map_append->avD,not_mem_nil->avE,length_cons->avG,map_cons->avH,take_length->avI,mem_range->avM,getElem?_eq_some_iff->avP,set_cons_zero->avQ,drop_zero->avR,length_nil->avS,length_set->avT,Sublist->avU,append_assoc->avW,map_nil->avY,getElem?_eq_none->avZ,getElem_map->awA,append_nil->awD,take_succ_eq_append_getElem->awE,getElem_of_mem->awI,length_drop->awM,getElem?_append_left->awR,drop_eq_getElem_cons->awS,mem_of_getElem?->awW,Perm->axF,nil_append->axI,ext_getElem->axK,all_cons->axP,map_take->axQ,set_append_right->axS,cons_append->axX,take_append_drop->axY,sublist_append_left->ayD,map_drop->ayH,countP_append->ayR,drop_of_length_le->ayS,mem_of_mem_take->ayW
open Nat renaming gcd->auF,le_refl->auG,zero_le->auK,mul_add->auW,zero_add->avA,lt_or_ge->avF,le_trans->avJ,mul_assoc->avK,mul_le_mul_right->avL,mul_comm->avO,add_mul->avV,mod_eq_of_lt->awF,mod_lt->awJ,pow_succ->awL,sub_self->awU,add_zero->awX,mul_le_mul->awY,mul_le_mul_left->awZ,add_assoc->axG,min_eq_left->axH,pos_of_ne_zero->axJ,eq_zero_or_pos->axN,div_le_self->axT,pow_pos->axU,div_lt_iff_lt_mul->ayB,pow_le_pow_right->ayJ,div_add_mod->ayN,div_eq_of_lt->ayO
open Bool renaming and_eq_true->auI,false_and->auN,not_true->auO,true_and->auV,not_false->auY,and_false->awB,and_true->awP,false_eq_true->awQ,and_assoc->ayC
open Option renaming map_eq_some_iff->auR,map_some->avB,some->awN,getD_some->axC
open Int renaming toNat_natCast->awG
open List renaming length->l''
set_option maxRecDepth 100000
set_option maxHeartbeats 800000
open Go.IntKind renaming i64->i_,u64->u_
open Go.PM.PF renaming nil->n_,args->g_
open Go.PM.PH renaming nil->h_
noncomputable section
namespace Go.PM
open Go Go.Na
theorem yS(R:List Bool)(i:Nat)(row:List RF):∀k,(dH R i row k).length=l'' R
 |0=>rfl
 |k+1=>by simp only[dH,avT,yS R i row k]
theorem Iy(l:cT)(R:List Bool)(i:Nat):(nM l R i).length=l'' R:=by
 unfold nM;rw[yS,avT]
theorem uL(l:cT)(R:List Bool):∀i,(dT l R i).length=l'' R
 |0=>rfl
 |i+1=>by simp only[dT,Iy,uL l R i]
theorem uK(l:cT):∀r,(dV l r).length=l'' l.exit
 |0=>by simp[dV]
 |r+1=>by simp only[dV,uL,uK l r]
theorem vX{R:List Bool}{i:Nat}(h:i<l'' R):(eK R)[i]?=some [.bool (R.getD i false)]:=by
 unfold eK;rw[avC,auP h,auM,auP h];rfl
theorem HG(R:List Bool):(eK R).length=l'' R:=by simp[eK]
def XK(l:cT)(o r:Nat):PF:=(((n_.set 1 (.bQ l.cells)).set 3 (.osl o 1 0 l.exit.length)).set 4 (.int .i64 r))
def NI(l:cT)(o r i:Nat):PF:=(((((n_.set 1 (.bQ l.cells)).set 3 (.osl o 1 0 l.exit.length)).set 4 (.int .i64 r)).set 19 (.int .i64 (l'' l.exit:Nat))).set 20 (.int .i64 i))
def yA(l:cT)(o r i:Nat)(row:List RF)(k:Nat):PF:=(((((((((n_.set 1 (.bQ l.cells)).set 3 (.osl o 1 0 l.exit.length)).set 4 (.int .i64 r)).set 19 (.int .i64 (l'' l.exit:Nat))).set 20 (.int .i64 i)).set 5 (.int .i64 i)).set 42 (frs row)).set 43 (.int .i64 (l'' row:Nat))).set 44 (.int .i64 k))
def kE(o:Nat)(R:List Bool):PH:=h_.set o (.rows 1 (eK R))
variable{C:Ctx}
theorem Ko(L:xL C)(l:cT)(o r i:Nat)(row:List RF)(Q:mG row)(β:l'' row=l'' l.exit)(hi:i<l'' l.exit)(hn:l'' l.exit<=4)(u:List Bool)(hR:l'' u=l'' l.exit)(K:cH)(F:PF)(H:PH)
  (V:(yA l o r i row 0).le F) (S:(kE o u).le H)
  (Z:∀F H,(yA l o r i row row.length).le F->(kE o (dH u i row row.length)).le H->K .normal F H) :
  aK.wp C (.block 4 (.loop HO)) K F H:=by
 simp only[go_sem];refine wp_loop (α:=Nat) (λk=>yA l o r i row k) (λk=>kE o (dH u i row k)) (λk=>k<=l'' row) (λk=>l'' row-k) 0 (auK _) V S ?_;intro k hk;simp only[go_sem,HO,yA,kE];have W:=yS u i row k;by_cases hlt:k<l'' row
 ·have w:(k:Int)<(l'' row:Nat):=Om;have hr:(row.map RF.cells)[k]?=some (row[k]).cells:=by simp[hlt]
  simp only[go_sem,w,hr];refine aS λo7 O=>?_;have U:o≠o7:=by rintro rfl;simp only[aT,if_true]at O;cases O
  have E:(i:Int)<(l'' l.exit:Nat):=Om;have N:(k:Int)<(l'' l.exit:Nat):=Om;have y:=vX (R:=dH u i row k) (i:=i) Om;have J:=vX (R:=dH u i row k) (i:=k) Om;have M:dH u i row (k+1)=(dH u i row k).set i ((dH u i row k).getD i false||bW row[k]&&(dH u i row k).getD k false):=by simp only[dH,auM,avC,auP hlt,avB,axC]
  have fin:∀(b:Bool)(F:PF)(H:PH),b=((dH u i row k).getD i false||bW row[k]&&(dH u i row k).getD k false)->(yA l o r i row (k+1)).le F->H o=some (.rows 1 ((eK (dH u i row k)).set i [.bool b])) ->
    iF (λk=>yA l o r i row k) (λk=>kE o (dH u i row k)) (λk=>k<=l'' row) (λk=>l'' row-k) (l'' row-k) (fX 4 K) .normal F H:=by
   intro b F H hb V S;refine aF (k+1) hlt Om V ?_;rw[mU,hb,<-M]at S;exact c_ a_ S
  unfold yA kE at fin;generalize hb:(dH u i row k).getD i false=b at *
  generalize hc:(dH u i row k).getD k false=c at *
  generalize Y:bW row[k]=A at *
  cases b with
  |true =>simp only[go_sem,U,E,avA,y,wZz k];exact fin true _ _ bC Lq Sq
  |false=>
   simp only[go_sem,U,E,avA,y];refine aA (L.AI _ (Q.all _ (auH hlt))) rfl ?_;rw[Y];cases A with
   |false =>simp only[go_sem,E,N,U,avA,y,J,wZz k];exact fin false _ _ bC Lq Sq
   |true =>simp only[go_sem,E,N,U,avA,y,J,wZz k];exact fin c _ _ bC Lq Sq
 have w:¬(k:Int)<(l'' row:Nat):=Om;simp only[go_sem,w];have:k=l'' row:=Om;subst this;exact Z _ _ (by unfold yA;exact Lq) (b_)
structure HA(l:cT):Prop where
 n:l'' l.exit<=4
 asU:l'' l.asU=l'' l.exit
 row:∀r∈l.asU,l'' r=l'' l.exit
theorem Kp(L:xL C)(l:cT)(Z:l.Ok)(W:HA l)(o r:Nat)(R:List Bool)(hR:l'' R=l'' l.exit)(K:cH)(F:PF)(H:PH)
  (A:(NI l o r 0).le F) (U:(kE o R).le H)
  (hK:∀F H,(XK l o r).le F->(kE o (dT l R l.exit.length)).le H->K .normal F H) :
  aK.wp C (.block 2 (.loop HP)) K F H:=by
 simp only[go_sem];refine wp_loop (α:=Nat) (λi=>NI l o r i) (λi=>kE o (dT l R i)) (λi=>i<=l'' l.exit) (λi=>l'' l.exit-i) 0 (auK _) A U ?_;intro i hi;have β:=uL l R i;have hn:=W.n;by_cases hlt:i<l'' l.exit
 ·have u:(i:Int)<(l'' l.exit:Nat):=Om;have y:i<l'' l.asU:=by rw[W.asU];exact hlt
  have E:=vX (R:=dT l R i) (i:=i) Om;have hx:(l.exit.map RF.cells)[i]?=some (l.exit[i]).cells:=by simp[hlt]
  have O:(l.asU.map λr=>[frs r])[i]?=some [frs l.asU[i]]:=by simp[y]
  have Y:(l.asU[i]).length=l'' l.exit:=W.row _ (auH y);generalize w:(dT l R i).set i ((dT l R i).getD i false||bW l.exit[i])=Q;have N:l'' Q=l'' l.exit:=by rw[<-w,avT];omega
  have J:dT l R (i+1)=dH Q i l.asU[i] (l.asU[i]).length:=by
   simp only[dT,nM];have e1:(l.exit.map bW).getD i false=bW l.exit[i]:=by simp[auM,hlt]
   have e2:l.asU.getD i []=l.asU[i]:=by simp[auM,y]
   rw[e1,e2,w]
  have rest:∀(F:PF)(H:PH),(((((((n_.set 1 (.bQ l.cells)).set 3 (.osl o 1 0 l.exit.length)).set 4 (.j r)).set 19 (.j (l'' l.exit:Nat))).set 20 (.j i)).set 5 (.j i)):PF).le F->H o=some (.rows 1 (eK Q)) ->
    aK.wp C (.seq (.region dg) (.block 4 (.loop HO))) (fX 3 (jB C (aK.wp C (.region TS)) (iF (λi=>NI l o r i) (λi=>kE o (dT l R i)) (λi=>i<=l'' l.exit) (λi=>l'' l.exit-i) (l'' l.exit-i) (fX 2 K)))) F H:=by
   intro F H A U;have f1:F 1=some (.bQ l.cells):=A 1 _ rfl;have f3:F 3=some (.osl o 1 0 l.exit.length):=A 3 _ rfl;have f4:F 4=some (.j r):=A 4 _ rfl;have γ:F 19=some (.j (l'' l.exit:Nat)):=A 19 _ rfl;have δ:F 20=some (.j i):=A 20 _ rfl;have f5:F 5=some (.j i):=A 5 _ rfl;rw[x8];simp only[go_sem,dg,f1,f5,O,auD];have inner:=Ko L l o r i l.asU[i] (Z.row _ (auH y)) Y hlt hn Q N;simp only[aK.wp,go_sem]at inner;refine inner _ _ _ ?_ (c_ a_ U) ?_;unfold yA;exact Lq;intro F' H' M V;have S:F' 20=some (.j i):=M 20 _ (by unfold yA;simp only[go_sem]);simp only[go_sem,TS,S,wZz i];refine aF (i+1) hlt Om ?_ (by rw[J];exact V);have g:=λ(q:Nat) v h=>M q v h;unfold NI;unfold yA at g;refine d_ (d_ (d_ (d_ (d_ e_ ?_) ?_) ?_) ?_) ?_;simp only[go_sem];exact g 1 _ rfl;simp only[go_sem];exact g 3 _ rfl;simp only[go_sem];exact g 4 _ rfl;simp only[go_sem];exact g 19 _ rfl;simp only[go_sem]
  simp only[aK.wp,go_sem]at rest;simp only[go_sem,HP,NI,kE,u];generalize hb:(dT l R i).getD i false=b at *
  cases b with
  |true =>simp only[go_sem,u,avA,E];refine rest _ _ Lq ?_;rw[<-w];simp only[go_sem,mU,Bool.true_or]
  |false =>simp only[go_sem,u,avA,E,hx];refine aA (L.AI _ (Z.exit.all _ (auH hlt))) rfl ?_;simp only[go_sem,u,avA,E];refine rest _ _ Lq ?_;rw[<-w];simp only[go_sem,mU,Bool.false_or]
 have u:¬(i:Int)<(l'' l.exit:Nat):=Om;simp only[go_sem,HP,NI,kE,u];have:i=l'' l.exit:=Om;subst this;exact hK _ _ (by unfold XK;exact Lq) b_
theorem Y7(L:xL C)(l:cT)(M:l.Ok)(H:HA l):mw.wp C (aX nY.res (cN (.bool (sN l)))) (g_ [.agg l.cells]) .nil:=by
 have N:=H.n;have E:(l'' l.exit:Int)*((1:Nat):Int)<=140737488355328:=Om;have F:(l'' l.exit:Int)<=9223372036854775807:=Om;simp only[go_sem,mw,nY,auD,E,F];refine aS λo O=>?_;simp only[go_sem];refine wp_loop (α:=Nat) (λr=>XK l o r) (λr=>kE o (dV l r)) (λr=>r<=l'' l.exit+1) (λr=>l'' l.exit+1-r) 0 (auK _) ?_ ?_ ?_;unfold XK;exact Lq;refine c_ a_ ?_;simp only[go_sem,dV];simp[eK];intro r Q;have u:=uK l r;simp only[go_sem,XK,kE];by_cases hlt:r<=l'' l.exit;have i:(r:Int)<=(l'' l.exit:Nat):=Om;simp only[go_sem,i];have inner:=Kp L l M H o r (dV l r) u;simp only[aK.wp,go_sem]at inner;refine inner _ _ _ ?_ b_ ?_;unfold NI;exact Lq;intro J H' y A;have g:=λ(q:Nat) v h=>y q v h;unfold XK at g;have g4:J 4=some (.j r):=g 4 _ rfl;simp only[go_sem,g4,wZz r];refine aF (r+1) Om Om ?_ A;refine d_ (d_ (d_ e_ ?_) ?_) ?_;simp only[go_sem];exact g 1 _ rfl;simp only[go_sem];exact g 3 _ rfl;simp only[go_sem];have i:¬(r:Int)<=(l'' l.exit:Nat):=Om;have:r=l'' l.exit+1:=Om;subst this;simp only[go_sem,i];have w:=L.allb id 103 (dV l (l'' l.exit+1)) (Om:(dV l (l'' l.exit+1)).length<=_) λx _=>L.ends1 x;have K:(eK (dV l (l'' l.exit+1))).length=l'' l.exit:=by rw[HG,u]
 refine vI w (rs:=eK (dV l (l'' l.exit+1))) (o:=o) (s:=1) Sq ?_ ?_;simp only[go_sem,zS (show l.exit.length<=(eK (dV l (l'' l.exit+1))).length by omega),auZ (show(eK (dV l (l'' l.exit+1))).length<=l.exit.length by omega)];simp only[go_sem];exact bL rfl rfl
structure jl(C:Ctx):Prop extends D8 C where
 ends:∀l:cT,l.Ok->HA l->aG C 102 [.agg l.cells] .nil (aJ (.bool (sN l)))
def wJ(l:cT)(i:Nat):Bool:=decide ((l.asU.getD i []).length=l'' l.start)&&(l.asU.getD i []).all dQ&&!((l.asU.getD i []).map bW).getD i false
def AF(l:cT):Bool:=match qS (l.start.map RF.v)with
 | .ok (n,a,b)=>decide (rJ n a b false 1 1=0)
 | .error _=>false
theorem Mi(l:cT):mW l=(within l.start.length 1 4&&decide (l'' l.exit=l'' l.start)&&decide (l'' l.asU=l'' l.start)&&l.start.all dQ&&l.exit.all dQ&&(auE l.asU.length).all (wJ l)&&AF l&&sN l):=rfl
theorem Jm{l:List FV}{e:Int}(h:qS l=.error e):e≠0:=by
 have:∀(l:List FV)(b:FV)(e:Int),l.foldlM gY b=.error e->e≠0:=by
  intro l
  induction l with
  |nil=>intro b e h;cases h
  |cons x t w=>
   intro b e h;rw[List.foldlM_cons]at h;cases i:gY b x with
   |error u=>
    rw[i]at h;have:u=e:=by injection h
    subst this;obtain⟨A,a1,b1⟩:=b;obtain⟨E,a2,b2⟩:=x;simp only[gY]at i;split at i;split at i;rw[OI i];decide;split at i;rw[OI i];decide;rw[OI i];decide;injection i with i;subst i;decide
   |ok y=>rw[i]at h;exact w y e h
 exact this l _ e h
theorem Nc{l:List FV}{r:FV}(h:qS l=.ok r):r.rf.Ok:=by
 have:∀(l:List FV)(b r:FV),b.rf.Ok->l.foldlM gY b=.ok r->r.rf.Ok:=by
  intro l
  induction l with
  |nil=>intro b r hb h;injection h with h;subst h;exact hb
  |cons x t u=>
   intro b r hb h;rw[List.foldlM_cons]at h;cases i:gY b x with
   |error w=>rw[i]at h;cases h
   |ok y=>rw[i]at h;exact u y r (WY i) h
 refine this l _ r ⟨bA _,bA _,?_,?_⟩ h;show(aM 0).length<=_;rw[gL];simp;show(aM 1).length<=_;rw[sB aU aU];simp
theorem OJ{neg:Bool}{a b:Nat}{r:FV}(hb:b≠0)(h:iU neg a b=.ok r):cK r.2.1 r.2.2=true:=by
 unfold iU at h;split at h;cases h;rename_i w;injection h with h
 subst h;have i:auF a b ∣ b:=Nat.gcd_dvd_right _ _;have l:b/auF a b≠0:=by have:=Nat.div_pos (Nat.le_of_dvd (axJ hb) i) (axJ λh=>hb (Nat.gcd_eq_zero_iff.1 h).2);omega
 have u:=@mT (b/auF a b);simp only[cK,auI,dT_];omega
theorem Nz{x y r:FV}(h:gY x y=.ok r):cK r.2.1 r.2.2=true:=by
 obtain⟨u,a1,b1⟩:=x;obtain⟨w,a2,b2⟩:=y;simp only[gY]at h;split at h;rename_i l;rw[auI]at l;have i:b1*b2≠0:=Nat.mul_ne_zero (fT.1 l.1).1 (fT.1 l.2).1;split at h;exact OJ i h;split at h;exact OJ i h;exact OJ i h;cases h
theorem Ry:cK 0 1=true:=by
 have:dC 1=1:=by rw[tB aU,lZ]
 simp[cK,this,lZ]
theorem q9{l:List FV}{r:FV}(h:qS l=.ok r):cK r.2.1 r.2.2=true:=by
 have:∀(l:List FV)(b r:FV),cK b.2.1 b.2.2=true->l.foldlM gY b=.ok r->cK r.2.1 r.2.2=true:=by
  intro l
  induction l with
  |nil=>intro b r hb h;injection h with h;subst h;exact hb
  |cons x t u=>
   intro b r hb h;rw[List.foldlM_cons]at h;cases i:gY b x with
   |error w=>rw[i]at h;cases h
   |ok y=>rw[i]at h;exact u y r (Nz i) h
 exact this l _ r Ry h
theorem Yv:(⟨false,[],[]⟩:RF).Ok:=⟨λ_ h=>absurd h (avE),λ_ h=>absurd h (avE),show 0<=35184372087808 by decide,show 0<=35184372087808 by decide⟩
def Zm(l:cT)(k:Nat):PF:=(((((n_.set 1 (.bQ l.cells)).set 3 (.int .i64 (l'' l.start:Nat))).set 45 (Q4 l.asU)).set 46 (.int .i64 (l'' l.asU:Nat))).set 47 (.int .i64 k))
theorem T9(L:jl C)(l:cT)(H:l.Ok)(N:HA l)(F:PF)(E:F 1=some (.bQ l.cells)) :
  aK.wp C (.seq (.region dh) (.seq (.region NS) (.seq (.region NT) (.seq (.region zT) .ret)))) (aX [.tmp 2] (cN (.bool (AF l&&sN l)))) F .nil:=by
 simp only[go_sem,dh,E];refine aA (L.tot l.start H.start) rfl ?_;obtain⟨J,x,y,e,V⟩:=zQ (qS (l.start.map RF.v));have go:∀(z:RF)(e:Int),z.Ok->(e=0->(CV z.neg (val z.num) (val z.den) false 1 1=.tup [.j (rJ z.neg (val z.num) (val z.den) false 1 1),.j 0])/\AF l=decide (rJ z.neg (val z.num) (val z.den) false 1 1=0))->(e≠0->AF l=false) ->
   frV (qS (l.start.map RF.v))=.tup [.agg z.cells,.j e] ->
   wpOps C [⟨(some 69),.mv (.tmp 72),none⟩,⟨(some 73),.extract (.tmp 69) 0,none⟩,⟨(some 74),.extract (.tmp 69) 1,none⟩,⟨(some 6),.alloc [(.bool false),.aE,.aE],none⟩,⟨none,.store 3 (.tmp 6) (.tmp 73),none⟩,⟨(some 7),.mv (.tmp 74),none⟩]
    (aK.wp C (.seq (.region NS) (.seq (.region NT) (.seq (.region zT) .ret))) (aX [.tmp 2] (cN (.bool (AF l&&sN l))))) ((((F.set 70 (.bQ [frs l.start,Q4 l.asU,frs l.exit])).set 71 (frs l.start))).set 72 (.tup [.agg z.cells,.j e])) .nil:=by
  intro z e S K M _;simp only[go_sem];refine aS λo6 O=>?_;simp only[go_sem,NS];refine aA (L.sJ 1 1 aU aU) rfl ?_;rw[Gw];simp only[go_sem,frV];refine aS λo8 u=>?_;have U:o6≠o8:=by rintro rfl;simp only[aT,if_true]at u;cases u
  simp only[go_sem,NT,U];refine aA (L.ord z (FV.rf (false,1,1)) S Vb) rfl ?_;rw[show val (FV.rf (false,1,1)).num=1 from aV 1,show val (FV.rf (false,1,1)).den=1 from aV 1,show(FV.rf (false,1,1)).neg=false from rfl];by_cases c:e=0;obtain⟨g1,g2⟩:=K c;rw[g1,g2];by_cases d:rJ z.neg (val z.num) (val z.den) false 1 1=0;simp only[go_sem,zT,cI c,cI d,E];refine aA (L.ends l H N) rfl ?_;simp only[go_sem];exact bL rfl (by rw[bH d,auV]);simp only[go_sem,zT,cI c,bP d];exact bL rfl (by rw[bT d,auN]);rw[M c];have:∃v w,CV z.neg (val z.num) (val z.den) false 1 1=.tup [.j v,.j w]:=by unfold CV;split;exact⟨_,_,rfl⟩;exact⟨_,_,rfl⟩
  obtain⟨v,w,A⟩:=this;rw[A];simp only[go_sem,zT,bP c];exact bL rfl rfl
 cases i:qS (l.start.map RF.v)with
 |error e =>rw[i]at go;exact go ⟨false,[],[]⟩ e Yv (λh=>absurd h (Jm i)) (λ_=>by rw[AF,i]) rfl
 |ok r =>obtain⟨n,a,b⟩:=r;rw[i]at go;have Q:=Nc i;refine go (FV.rf (n,a,b)) 0 Q (λ_=>?_) (λh=>absurd rfl h) rfl;rw[show val (FV.rf (n,a,b)).num=a from aV a,show val (FV.rf (n,a,b)).den=b from aV b,show(FV.rf (n,a,b)).neg=n from rfl];refine⟨?_,by rw[AF,i]⟩;have A:cK a b=true:=q9 i;rw[CV,A,Bm];rfl
theorem afC(L:jl C)(l:cT)(H:l.Ok):zg.wp C (aX tF.res (cN (.bool (mW l)))) (g_ [.agg l.cells]) .nil:=by
 rw[Mi];simp only[go_sem,zg,tF,auD];refine aA (L.inn l.start.length 1 4) rfl ?_;cases V:within l.start.length 1 4 with
 |false =>simp only[go_sem,auY];exact bL rfl (by simp only[auN])
 |true=>
  obtain⟨n1,n2⟩:=within_iff.1 V;by_cases M:l'' l.exit=l'' l.start;rw[bH M];by_cases N:l'' l.asU=l'' l.start
  ·rw[bH N];simp only[go_sem,auO,auD,dM (Om:(l'' l.exit:Int)=(l'' l.start:Nat)),dM (Om:(l'' l.asU:Int)=(l'' l.start:Nat))];refine aA (L.Zr l.start H.start) rfl ?_;cases Z:l.start.all dQ with
   |false =>simp only[go_sem,auY];exact bL rfl (by simp only[auN])
   |true=>
    simp only[go_sem,auO];refine aA (L.Zr l.exit H.exit) rfl ?_;cases c5:l.exit.all dQ with
    |false =>simp only[go_sem,auY];exact bL rfl (by simp only[auN])
    |true=>
     simp only[go_sem,auO,auD];have F:∀k (h:k<l'' l.asU),wJ l k=(decide ((l.asU[k]).length=l'' l.start)&&(l.asU[k]).all dQ&&!((l.asU[k]).map bW).getD k false):=by
      intro k h;have:l.asU.getD k []=l.asU[k]:=by simp[auM,h]
      rw[wJ,this]
     refine wp_loop (α:=Nat) (λk=>Zm l k) (λ_=>.nil) (λk=>k<=l'' l.asU/\vK (wJ l) k) (λk=>l'' l.asU-k) 0 ⟨auK _,.zero⟩ ?_ a_ ?_;unfold Zm;exact lM;rintro k ⟨hk,U⟩;simp only[go_sem,Zm];by_cases hlt:k<l'' l.asU;have w:(k:Int)<(l'' l.asU:Nat):=Om;have K:(l.asU.map λr=>[frs r])[k]?=some [frs l.asU[k]]:=by simp[hlt]
     have u:=F k hlt;have A:=H.row l.asU[k] (auH hlt);simp only[go_sem,w,K,auD];by_cases O:(l.asU[k]).length=l'' l.start
     ·rw[bH O,auV]at u;simp only[go_sem,dM (show(((l.asU[k]).length:Nat):Int)=(l'' l.start:Nat) by omega)];refine aA (L.Zr _ A) rfl ?_;cases Q:(l.asU[k]).all dQ with
      |false =>rw[Q,auN]at u;simp only[go_sem,auY];refine bL (b:=false) rfl ?_;have:(auE l.asU.length).all (wJ l)=false:=gI hlt u;rw[this];simp only[auN,awB]
      |true=>
       have E:k<(l.asU[k]).length:=Om;have Y:((l.asU[k]).map RF.cells)[k]?=some ((l.asU[k])[k]).cells:=by simp[E]
       have J:((l.asU[k]).map bW).getD k false=bW (l.asU[k])[k]:=by simp[auM,E]
       rw[Q,auV,J]at u;simp only[go_sem,auO,Y];refine aA (L.AI _ (A.all _ (auH E))) rfl ?_;cases S:bW (l.asU[k])[k]with
       |true =>rw[S]at u;simp only[go_sem];refine bL (b:=false) rfl ?_;have:(auE l.asU.length).all (wJ l)=false:=gI hlt u;rw[this];simp only[auN,awB]
       |false =>rw[S]at u;simp only[go_sem,wZz k];refine aF (k+1) ⟨hlt,U.step u⟩ Om ?_ a_;exact Lq
     simp only[bT O,auN]at u;simp only[go_sem,eZ (show(((l.asU[k]).length:Nat):Int)≠(l'' l.start:Nat) by omega)];refine bL (b:=false) rfl ?_;have:(auE l.asU.length).all (wJ l)=false:=gI hlt u;rw[this];simp only[auN,awB];have w:¬(k:Int)<(l'' l.asU:Nat):=Om;have:k=l'' l.asU:=Om;subst this;have y:(auE l.asU.length).all (wJ l)=true:=U;have W:HA l:=⟨by omega,by omega,λr K=>by obtain⟨i,hi,rfl⟩:=awI K;have:=auX.1 y i (avM.2 hi);rw[F i hi]at this;simp only[auI,dT_]at this;omega⟩
     have tail:=T9 L l H W;simp only[aK.wp,go_sem]at tail;rw[y];simp only[go_sem,w,auV,awP];exact tail _ rfl
  simp only[go_sem,auO,auD,dM (Om:(l'' l.exit:Int)=(l'' l.start:Nat)),eZ (Om:(l'' l.asU:Int)≠(l'' l.start:Nat))];exact bL rfl (by rw[bT N];simp only[auN,awB]);simp only[go_sem,auO,auD,eZ (Om:(l'' l.exit:Int)≠(l'' l.start:Nat))];exact bL rfl (by rw[bT M];simp only[auN,awB])
structure nO(C:Ctx):Prop extends jl C where
 law:∀l:cT,l.Ok->aG C 95 [.agg l.cells] .nil (aJ (.bool (mW l)))
 pol:∀(p:cJ)(n:Nat),p.Ok->n<=4->aG C 112 [.agg p.cells,.int .i64 n] .nil (aJ (.bool (lL n p)))
 asY:∀f:aH,f.Ok->aG C 111 [.agg f.cells] .nil (aJ (.bool (rE f)))
abbrev gM(l:List (List UInt8)):P2_:=l.map λs=>[PV.str s]
theorem BU(l:List (List UInt8)){k:Nat}(h:k<l'' l):gM (l.take k)++[[.str l[k]]]=gM (l.take (k+1)):=by
 unfold gM;rw[awE h,avD];rfl
theorem xI{l:List (List UInt8)}(h:l'' l<=1000):roomFor (gM l).length 1 16:=by
 unfold roomFor gM;simp only[auD,maxLen];omega
def kV{α:Type}(l:List α)(p:α->Bool)(k:Nat):Bool:=(l.take k).all p
theorem xT{α:Type}(l:List α)(p:α->Bool):kV l p 0=true:=rfl
theorem xS{α:Type}(l:List α)(p:α->Bool){k:Nat}(h:k<l'' l):kV l p (k+1)=(kV l p k&&p l[k]):=by
 unfold kV;rw[awE h,List.all_append];simp
theorem BC{α:Type}(l:List α)(p:α->Bool):kV l p l.length=l.all p:=by unfold kV;rw[avI]
def lD(f:aH)(i l u w y:PV)(ok:Bool):PF:=(((((((n_.set 1 (.bQ f.cells)).set 3 (i)).set 4 (l)).set 5 (u)).set 6 (w)).set 7 (y)).set 8 (.bool ok))
structure nU(F:PF)(f:aH)(w3 w4 w5 w6 w7:PV)(ok:Bool):Prop where
 a1:F 1=some (.bQ f.cells)
 a3:F 3=some w3
 a4:F 4=some w4
 a5:F 5=some w5
 a6:F 6=some w6
 a7:F 7=some w7
 a8:F 8=some (.bool ok)
theorem Pj(L:nO C)(f:aH)(Y:f.Ok)(hs:l'' f.asW<=4)(O Q S U:PV)(K:cH)(F:PF)(H:PH)(w:nU F f .aE O Q S U true)
  (J:F 67=some (.sl 4 (f.asW.map cT.cells))) (M:F 68=some (.j (l'' f.asW:Nat))) (N:F 69=some (.j 0))
  (W:∀v V H',nU V f v O Q S U (f.asW.all mW)->cF H' 1 v (gM (f.asW.map cT.name))->K (.exit 0) V H') :
  aK.wp C (.loop NW) K F H:=by
 refine wp_loop (α:=T3_) (λt=>(((lD f t.2.1 O Q S U (kV f.asW mW t.1)).set 67 (.sl 4 (f.asW.map cT.cells))).set 68 (.j (l'' f.asW:Nat))).set 69 (.j t.1)) (λt=>t.2.2)
  (λt=>t.1<=l'' f.asW/\cF t.2.2 1 t.2.1 (gM ((f.asW.map cT.name).take t.1))) (λt=>l'' f.asW-t.1) (0,.aE,.nil) ⟨auK _,.nil⟩ ?_ a_ ?_
 unfold lD
 (repeat' (first|exact e_|refine d_ ?_ ?_))<;>first|(simp only[go_sem,w.a1,w.a3,w.a4,w.a5,w.a6,w.a7,w.a8,J,M,N,xT]<;>rfl)|rfl
 rintro⟨k,v,H0⟩ ⟨Z,E⟩;simp only at Z E ⊢;simp only[go_sem,NW,lD];by_cases hlt:k<l'' f.asW
 ·have l:(k:Int)<(l'' f.asW:Nat):=Om;have hr:(f.asW.map cT.cells)[k]?=some (f.asW[k]).cells:=by simp[hlt]
  have A:=BU (f.asW.map cT.name) (k:=k) (by simpa using hlt);rw[awA]at A;simp only[go_sem,l,hr];refine aS λo ho=>?_;simp only[go_sem];refine qH E ho (xI (by simp;omega)) λv' H' u y=>?_;rw[A]at u;have i:=xS f.asW mW hlt;cases hb:kV f.asW mW k with
  |false =>rw[hb,auN]at i;simp only[go_sem,y,wZz k];refine aF (k+1,v',H') ⟨hlt,u⟩ sO_ ?_ b_;simp only[i];exact Lq
  |true =>rw[hb,auV]at i;simp only[go_sem,y];refine aA (L.law _ (Y.law _ (auH hlt))) Ev ?_;simp only[go_sem,wZz k];refine aF (k+1,v',H') ⟨hlt,u⟩ sO_ ?_ b_;simp only[i];exact Lq
 have l:¬(k:Int)<(l'' f.asW:Nat):=Om;have:k=l'' f.asW:=Om;subst this;rw[auZ bC]at E;rw[BC];simp only[go_sem,l];exact W v _ _ ⟨s_,s_,s_,s_,s_,s_,s_⟩ E
theorem IN{n:Nat}(h:n<=1000):i_.wrap ((n:Int)-1)=(n:Int)-1:=wrap_i64 Om Om
theorem Pk(L:nO C)(f:aH)(hs:l'' f.asQ<=4)(hl:l'' f.asW<=4)(A:Bool)(N O Q S:PV)(K:cH)(F:PF)(H:PH)(w:nU F f N .aE O Q S A)
  (W:F 85=some (.sl 4 (f.asQ.map dN.cells))) (Y:F 86=some (.j (l'' f.asQ:Nat))) (Z:F 87=some (.j 0))
  (hK:∀v y H',nU y f N v O Q S (A&&f.asQ.all (mX f))->cF H' 1 v (gM (f.asQ.map dN.name))->K (.exit 2) y H') :
  aK.wp C (.loop NX) K F H:=by
 refine wp_loop (α:=T3_) (λt=>(((lD f N t.2.1 O Q S (A&&kV f.asQ (mX f) t.1)).set 85 (.sl 4 (f.asQ.map dN.cells))).set 86 (.j (l'' f.asQ:Nat))).set 87 (.j t.1)) (λt=>t.2.2)
  (λt=>t.1<=l'' f.asQ/\cF t.2.2 1 t.2.1 (gM ((f.asQ.map dN.name).take t.1))) (λt=>l'' f.asQ-t.1) (0,.aE,.nil) ⟨auK _,.nil⟩ ?_ a_ ?_
 unfold lD
 (repeat' (first|exact e_|refine d_ ?_ ?_))<;>first|(simp only[go_sem,w.a1,w.a3,w.a4,w.a5,w.a6,w.a7,w.a8,W,Y,Z,xT,awP]<;>rfl)|rfl
 rintro⟨k,v,H0⟩ ⟨hk,U⟩;simp only at hk U ⊢;simp only[go_sem,NX,lD];by_cases hlt:k<l'' f.asQ
 ·have i:(k:Int)<(l'' f.asQ:Nat):=Om;have hr:(f.asQ.map dN.cells)[k]?=some (f.asQ[k]).cells:=by simp[hlt]
  have M:=BU (f.asQ.map dN.name) (k:=k) (by simpa using hlt);rw[awA]at M;simp only[go_sem,i,hr];refine aS λo ho=>?_;simp only[go_sem];refine qH U ho (xI (by simp;omega)) λv' H' E l=>?_;rw[M]at E;have u:=xS f.asQ (mX f) hlt;have fin:∀(c:Bool)(y:PF),c=(A&&kV f.asQ (mX f) (k+1))->((((lD f N v' O Q S c).set 85 (.sl 4 (f.asQ.map dN.cells))).set 86 (.j (l'' f.asQ:Nat))).set 87 (.j (k+1:Nat))).le y ->
    iF (λ(t:T3_)=>(((lD f N t.2.1 O Q S (A&&kV f.asQ (mX f) t.1)).set 85 (.sl 4 (f.asQ.map dN.cells))).set 86 (.j (l'' f.asQ:Nat))).set 87 (.j t.1)) (λ(t:T3_)=>t.2.2)  (λ(t:T3_)=>t.1<=l'' f.asQ/\cF t.2.2 1 t.2.1 (gM ((f.asQ.map dN.name).take t.1))) (λ(t:T3_)=>l'' f.asQ-t.1) (l'' f.asQ-k) K .normal y H':=by
   intro c y hc J;refine aF (α:=T3_) (k+1,v',H') ⟨hlt,E⟩ sO_ ?_ b_;rw[hc]at J;exact J
  unfold lD at fin;rw[u,<-ayC]at fin;have hm:mX f f.asQ[k]=(within (f.asQ[k]).atF 1 16&&within (f.asQ[k]).port 1 64&&within (f.asQ[k]).law 0 ((l'' f.asW:Int)-1)):=rfl;cases hb:(A&&kV f.asQ (mX f) k)with
  |false =>rw[hb,auN]at fin;simp only[go_sem,l,wZz k];refine fin false _ rfl ?_;exact Lq
  |true=>
   rw[hb,auV]at fin;simp only[go_sem,l];refine aA (L.inn _ 1 16) Ev ?_;cases V:within (f.asQ[k]).atF 1 16 with
   |false =>simp only[go_sem,wZz k];refine fin false _ (by rw[hm,V];simp only[auN]) ?_;exact Lq
   |true=>
    simp only[go_sem,l];refine aA (L.inn _ 1 64) Ev ?_;cases e2:within (f.asQ[k]).port 1 64 with
    |false =>simp only[go_sem,wZz k];refine fin false _ (by rw[hm,V,e2];simp only[auN,awB]) ?_;exact Lq
    |true =>simp only[go_sem,l,auD,IN (Om:l'' f.asW<=1000)];refine aA (L.inn _ 0 _) Ev ?_;simp only[go_sem,wZz k];refine fin (within (f.asQ[k]).law 0 ((l'' f.asW:Int)-1)) _ (by rw[hm,V,e2];simp only[auV]) ?_;exact Lq
 have i:¬(k:Int)<(l'' f.asQ:Nat):=Om;have:k=l'' f.asQ:=Om;subst this;rw[auZ bC]at U;rw[BC];simp only[go_sem,i];exact hK v _ _ ⟨s_,s_,s_,s_,s_,s_,s_⟩ U
theorem Pl(L:nO C)(f:aH)(t:List cQ)(hs:l'' t<=40)(A:Bool)(N O Q S:PV)(K:cH)(F:PF)(H:PH)(l:nU F f N O .aE Q S A)
  (E:F 119=some (.sl 7 (t.map cQ.cells))) (J:F 120=some (.j (l'' t:Nat))) (M:F 121=some (.j 0))
  (V:∀v U H',nU U f N O v Q S A->cF H' 1 v (gM (t.map cQ.name))->K (.exit 4) U H') :
  aK.wp C (.loop NY) K F H:=by
 refine wp_loop (α:=T3_) (λa=>(((lD f N O a.2.1 Q S A).set 119 (.sl 7 (t.map cQ.cells))).set 120 (.j (l'' t:Nat))).set 121 (.j a.1)) (λa=>a.2.2)
  (λa=>a.1<=l'' t/\cF a.2.2 1 a.2.1 (gM ((t.map cQ.name).take a.1))) (λa=>l'' t-a.1) (0,.aE,.nil) ⟨auK _,.nil⟩ ?_ a_ ?_
 unfold lD
 (repeat' (first|exact e_|refine d_ ?_ ?_))<;>first|(simp only[go_sem,l.a1,l.a3,l.a4,l.a5,l.a6,l.a7,l.a8,E,J,M]<;>rfl)|rfl
 rintro⟨k,v,H0⟩ ⟨W,y⟩;simp only at W y ⊢;simp only[go_sem,NY,lD];by_cases hlt:k<l'' t;have i:(k:Int)<(l'' t:Nat):=Om;have hr:(t.map cQ.cells)[k]?=some (t[k]).cells:=by simp[hlt]
 have w:=BU (t.map cQ.name) (k:=k) (by simpa using hlt);rw[awA]at w;simp only[go_sem,i,hr];refine aS λo Y=>?_;simp only[go_sem];refine qH y Y (xI (by simp;omega)) λv' H' u Z=>?_;rw[w]at u;simp only[go_sem,wZz k];refine aF (k+1,v',H') ⟨hlt,u⟩ sO_ ?_ b_;exact Lq;have i:¬(k:Int)<(l'' t:Nat):=Om;have:k=l'' t:=Om;subst this;rw[auZ bC]at y;simp only[go_sem,i];exact V v _ _ ⟨s_,s_,s_,s_,s_,s_,s_⟩ y
theorem Pm(L:nO C)(f:aH)(i:List (List UInt8))(hn:l'' i<=40)(hs:l'' f.asP<=24)(hm:l'' f.asQ<=4)(hd:l'' f.asS<=40)(J:Bool)(Q S v0 U V:PV)(K:cH)(F:PF)(H:PH)(A:nU F f Q S v0 U V J)
  (h0:cF H 1 v0 (gM i))
  (β:F 132=some (.sl 3 (f.asP.map eE.cells))) (γ:F 133=some (.j (l'' f.asP:Nat))) (δ:F 134=some (.j 0))
  (hK:∀v E H',nU E f Q S v U V (J&&f.asP.all (kT f))->cF H' 1 v (gM (i++f.asP.map eE.name))->K (.exit 6) E H') :
  aK.wp C (.loop NZ) K F H:=by
 refine wp_loop (α:=T3_) (λt=>(((lD f Q S t.2.1 U V (J&&kV f.asP (kT f) t.1)).set 132 (.sl 3 (f.asP.map eE.cells))).set 133 (.j (l'' f.asP:Nat))).set 134 (.j t.1)) (λt=>t.2.2)
  (λt=>t.1<=l'' f.asP/\cF t.2.2 1 t.2.1 (gM (i++(f.asP.map eE.name).take t.1))) (λt=>l'' f.asP-t.1) (0,v0,H) ⟨auK _,by rw[List.take_zero,awD];exact h0⟩ ?_ b_ ?_
 unfold lD
 (repeat' (first|exact e_|refine d_ ?_ ?_))<;>first|(simp only[go_sem,A.a1,A.a3,A.a4,A.a5,A.a6,A.a7,A.a8,β,γ,δ,xT,awP]<;>rfl)|rfl
 rintro⟨k,v,H0⟩ ⟨hk,Z⟩;simp only at hk Z ⊢;simp only[go_sem,NZ,lD];by_cases hlt:k<l'' f.asP
 ·have l:(k:Int)<(l'' f.asP:Nat):=Om;have hr:(f.asP.map eE.cells)[k]?=some (f.asP[k]).cells:=by simp[hlt]
  have ζ:gM (i++(f.asP.map eE.name).take k)++[[.str (f.asP[k]).name]]=gM (i++(f.asP.map eE.name).take (k+1)):=by rw[awE (by simpa using hlt),<-avW,awA];unfold gM;simp only[avD,avH,avY]
  simp only[go_sem,l,hr];refine aS λo ho=>?_;simp only[go_sem];refine qH Z ho (xI (by simp;omega)) λv' H' M w=>?_;rw[ζ]at M;have y:=xS f.asP (kT f) hlt;have fin:∀(c:Bool)(E:PF),c=(J&&kV f.asP (kT f) (k+1))->((((lD f Q S v' U V c).set 132 (.sl 3 (f.asP.map eE.cells))).set 133 (.j (l'' f.asP:Nat))).set 134 (.j (k+1:Nat))).le E ->
    iF (λ(t:T3_)=>(((lD f Q S t.2.1 U V (J&&kV f.asP (kT f) t.1)).set 132 (.sl 3 (f.asP.map eE.cells))).set 133 (.j (l'' f.asP:Nat))).set 134 (.j t.1)) (λ(t:T3_)=>t.2.2)  (λ(t:T3_)=>t.1<=l'' f.asP/\cF t.2.2 1 t.2.1 (gM (i++(f.asP.map eE.name).take t.1))) (λ(t:T3_)=>l'' f.asP-t.1) (l'' f.asP-k) K .normal E H':=by
   intro c E hc N;refine aF (α:=T3_) (k+1,v',H') ⟨hlt,M⟩ sO_ ?_ b_;rw[hc]at N;exact N
  unfold lD at fin;rw[y,<-ayC]at fin;have u:kT f f.asP[k]=(within (f.asP[k]).model 0 ((l'' f.asQ:Int)-1)&&within (f.asP[k]).machine 0 ((l'' f.asS:Int)-1)&&decide ((f.asS.map cQ.level).getD (f.asP[k]).machine.toNat 0=4)):=rfl;cases hb:(J&&kV f.asP (kT f) k)with
  |false =>rw[hb,auN]at fin;simp only[go_sem,w,wZz k];refine fin false _ rfl ?_;exact Lq
  |true=>
   rw[hb,auV]at fin;simp only[go_sem,w,auD,IN (Om:l'' f.asQ<=1000)];refine aA (L.inn _ 0 _) Ev ?_;cases W:within (f.asP[k]).model 0 ((l'' f.asQ:Int)-1)with
   |false =>simp only[go_sem,wZz k];refine fin false _ (by rw[u,W];simp only[auN]) ?_;exact Lq
   |true=>
    simp only[go_sem,w,auD,IN (Om:l'' f.asS<=1000)];refine aA (L.inn _ 0 _) Ev ?_;cases e2:within (f.asP[k]).machine 0 ((l'' f.asS:Int)-1)with
    |false =>simp only[go_sem,wZz k];refine fin false _ (by rw[u,W,e2];simp only[auN,awB]) ?_;exact Lq
    |true=>
     obtain⟨i1,i2⟩:=within_iff.1 e2;have i3:(f.asP[k]).machine.toNat<l'' f.asS:=Om;have O:(f.asS.map cQ.cells)[(f.asP[k]).machine.toNat]?=some (f.asS[(f.asP[k]).machine.toNat]).cells:=by simp[i3]
     have ε:(f.asS.map cQ.level).getD (f.asP[k]).machine.toNat 0=(f.asS[(f.asP[k]).machine.toNat]).level:=by simp[i3]
     rw[ε]at u;by_cases Y:(f.asS[(f.asP[k]).machine.toNat]).level=4;simp only[go_sem,w,i1,O,cI Y,wZz k];refine fin true _ (by rw[u,W,e2,bH Y];rfl) ?_;exact Lq;simp only[go_sem,w,i1,O,bP Y,wZz k];refine fin false _ (by rw[u,W,e2,bT Y];rfl) ?_;exact Lq
 have l:¬(k:Int)<(l'' f.asP:Nat):=Om;have:k=l'' f.asP:=Om;subst this;rw[auZ bC]at Z;rw[BC];simp only[go_sem,l];exact hK v _ _ ⟨s_,s_,s_,s_,s_,s_,s_⟩ Z
theorem Pn(L:nO C)(f:aH)(hf:f.Ok)(hs:l'' f.asT<=4)(hm:l'' f.asQ<=4)(y:Bool)(N O Q S:PV)(K:cH)(F:PF)(H:PH)(u:nU F f N O Q .aE S y)
  (V:F 174=some (.sl 17 (f.asT.map cJ.cells))) (W:F 175=some (.j (l'' f.asT:Nat))) (Y:F 176=some (.j 0))
  (Z:∀v w H',nU w f N O Q v S (y&&f.asT.all (lL f.asQ.length))->cF H' 1 v (gM (f.asT.map cJ.name))->K (.exit 8) w H') :
  aK.wp C (.loop OA) K F H:=by
 refine wp_loop (α:=T3_) (λt=>(((lD f N O Q t.2.1 S (y&&kV f.asT (lL f.asQ.length) t.1)).set 174 (.sl 17 (f.asT.map cJ.cells))).set 175 (.j (l'' f.asT:Nat))).set 176 (.j t.1)) (λt=>t.2.2)
  (λt=>t.1<=l'' f.asT/\cF t.2.2 1 t.2.1 (gM ((f.asT.map cJ.name).take t.1))) (λt=>l'' f.asT-t.1) (0,.aE,.nil) ⟨auK _,.nil⟩ ?_ a_ ?_
 unfold lD
 (repeat' (first|exact e_|refine d_ ?_ ?_))<;>first|(simp only[go_sem,u.a1,u.a3,u.a4,u.a5,u.a6,u.a7,u.a8,V,W,Y,xT,awP]<;>rfl)|rfl
 rintro⟨k,v,H0⟩ ⟨hk,U⟩;simp only at hk U ⊢;simp only[go_sem,OA,lD];by_cases hlt:k<l'' f.asT
 ·have i:(k:Int)<(l'' f.asT:Nat):=Om;have hr:(f.asT.map cJ.cells)[k]?=some (f.asT[k]).cells:=by simp[hlt]
  have M:=BU (f.asT.map cJ.name) (k:=k) (by simpa using hlt);rw[awA]at M;simp only[go_sem,i,hr];refine aS λo ho=>?_;simp only[go_sem];refine qH U ho (xI (by simp;omega)) λv' H' A J=>?_;rw[M]at A;have l:=xS f.asT (lL f.asQ.length) hlt;have fin:∀(c:Bool)(w:PF),c=(y&&kV f.asT (lL f.asQ.length) (k+1))->((((lD f N O Q v' S c).set 174 (.sl 17 (f.asT.map cJ.cells))).set 175 (.j (l'' f.asT:Nat))).set 176 (.j (k+1:Nat))).le w ->
    iF (λ(t:T3_)=>(((lD f N O Q t.2.1 S (y&&kV f.asT (lL f.asQ.length) t.1)).set 174 (.sl 17 (f.asT.map cJ.cells))).set 175 (.j (l'' f.asT:Nat))).set 176 (.j t.1)) (λ(t:T3_)=>t.2.2)  (λ(t:T3_)=>t.1<=l'' f.asT/\cF t.2.2 1 t.2.1 (gM ((f.asT.map cJ.name).take t.1))) (λ(t:T3_)=>l'' f.asT-t.1) (l'' f.asT-k) K .normal w H':=by
   intro c w hc E;refine aF (α:=T3_) (k+1,v',H') ⟨hlt,A⟩ sO_ ?_ b_;rw[hc]at E;exact E
  unfold lD at fin;rw[l,<-ayC]at fin;cases hb:(y&&kV f.asT (lL f.asQ.length) k)with
  |false =>rw[hb,auN]at fin;simp only[go_sem,J,wZz k];refine fin false _ rfl ?_;exact Lq
  |true =>rw[hb,auV]at fin;simp only[go_sem,J,auD];refine aA (L.pol _ _ (hf.atB _ (auH hlt)) hm) Ev ?_;simp only[go_sem,wZz k];refine fin _ _ rfl ?_;exact Lq
 have i:¬(k:Int)<(l'' f.asT:Nat):=Om;have:k=l'' f.asT:=Om;subst this;rw[auZ bC]at U;rw[BC];simp only[go_sem,i];exact Z v _ _ ⟨s_,s_,s_,s_,s_,s_,s_⟩ U
theorem Po(L:nO C)(f:aH)(hs:l'' f.asR<=12)(hl:l'' f.asT<=4)(y:Bool)(N O Q S:PV)(K:cH)(F:PF)(H:PH)(u:nU F f N O Q S .aE y)
  (V:F 195=some (.sl 2 (f.asR.map dW.cells))) (W:F 196=some (.j (l'' f.asR:Nat))) (Y:F 197=some (.j 0))
  (Z:∀v w H',nU w f N O Q S v (y&&f.asR.all (rR f))->cF H' 1 v (gM (f.asR.map dW.name))->K (.exit 10) w H') :
  aK.wp C (.loop OB) K F H:=by
 refine wp_loop (α:=T3_) (λt=>(((lD f N O Q S t.2.1 (y&&kV f.asR (rR f) t.1)).set 195 (.sl 2 (f.asR.map dW.cells))).set 196 (.j (l'' f.asR:Nat))).set 197 (.j t.1)) (λt=>t.2.2)
  (λt=>t.1<=l'' f.asR/\cF t.2.2 1 t.2.1 (gM ((f.asR.map dW.name).take t.1))) (λt=>l'' f.asR-t.1) (0,.aE,.nil) ⟨auK _,.nil⟩ ?_ a_ ?_
 unfold lD
 (repeat' (first|exact e_|refine d_ ?_ ?_))<;>first|(simp only[go_sem,u.a1,u.a3,u.a4,u.a5,u.a6,u.a7,u.a8,V,W,Y,xT,awP]<;>rfl)|rfl
 rintro⟨k,v,H0⟩ ⟨hk,U⟩;simp only at hk U ⊢;simp only[go_sem,OB,lD];by_cases hlt:k<l'' f.asR
 ·have i:(k:Int)<(l'' f.asR:Nat):=Om;have hr:(f.asR.map dW.cells)[k]?=some (f.asR[k]).cells:=by simp[hlt]
  have M:=BU (f.asR.map dW.name) (k:=k) (by simpa using hlt);rw[awA]at M;simp only[go_sem,i,hr];refine aS λo ho=>?_;simp only[go_sem];refine qH U ho (xI (by simp;omega)) λv' H' A J=>?_;rw[M]at A;have l:=xS f.asR (rR f) hlt;have fin:∀(c:Bool)(w:PF),c=(y&&kV f.asR (rR f) (k+1))->((((lD f N O Q S v' c).set 195 (.sl 2 (f.asR.map dW.cells))).set 196 (.j (l'' f.asR:Nat))).set 197 (.j (k+1:Nat))).le w ->
    iF (λ(t:T3_)=>(((lD f N O Q S t.2.1 (y&&kV f.asR (rR f) t.1)).set 195 (.sl 2 (f.asR.map dW.cells))).set 196 (.j (l'' f.asR:Nat))).set 197 (.j t.1)) (λ(t:T3_)=>t.2.2)  (λ(t:T3_)=>t.1<=l'' f.asR/\cF t.2.2 1 t.2.1 (gM ((f.asR.map dW.name).take t.1))) (λ(t:T3_)=>l'' f.asR-t.1) (l'' f.asR-k) K .normal w H':=by
   intro c w hc E;refine aF (α:=T3_) (k+1,v',H') ⟨hlt,A⟩ sO_ ?_ b_;rw[hc]at E;exact E
  unfold lD at fin;rw[l,<-ayC]at fin;have hm:rR f f.asR[k]=within (f.asR[k]).atB 0 ((l'' f.asT:Int)-1):=rfl;cases hb:(y&&kV f.asR (rR f) k)with
  |false =>rw[hb,auN]at fin;simp only[go_sem,J,wZz k];refine fin false _ rfl ?_;exact Lq
  |true =>rw[hb,auV,hm]at fin;simp only[go_sem,J,auD,IN (Om:l'' f.asT<=1000)];refine aA (L.inn _ 0 _) Ev ?_;simp only[go_sem,wZz k];refine fin _ _ rfl ?_;exact Lq
 have i:¬(k:Int)<(l'' f.asR:Nat):=Om;have:k=l'' f.asR:=Om;subst this;rw[auZ bC]at U;rw[BC];simp only[go_sem,i];exact Z v _ _ ⟨s_,s_,s_,s_,s_,s_,s_⟩ U
theorem qR{f:aH}(h:¬(l'' f.asW<=4/\l'' f.asQ<=4/\l'' f.asS<=40/\l'' f.asP<=24/\l'' f.asT<=4/\l'' f.asR<=12)):pV f=false:=by
 rw[<-Bool.not_eq_true];intro i;simp only[pV,auI,dT_]at i;omega
theorem K8{f:aH}(h:l'' f.asW<=4/\l'' f.asQ<=4/\l'' f.asS<=40/\l'' f.asP<=24/\l'' f.asT<=4/\l'' f.asR<=12):pV f=within f.atV 1 4:=by
 obtain⟨i,l,u,w,h5,y⟩:=h;simp[pV,i,l,u,w,h5,y]
theorem tM{t:Nat}{n m:Int}{F:PF}{H:PH}(h:F t=some (.j n))(e:n=m):aX [.tmp t] (cN (.j m)) .ret F H:=by
 subst e;exact aY (.inr rfl) .nil (vs:=[.j n]) (by rw[kM,nF,h,oM]) a_ ⟨.refl _,rfl⟩
def sL(f:aH):Int:=if dR f then 0 else 1
theorem so{f:aH}(h:dR f=false):sL f=1:=by rw[sL,h];rfl
theorem zG{F:PF}{H:PH}{name t s:Nat}{v r:PV}{rows:P2_}{d:O_}{K:K_}(h:aG C name [.sl s rows] .nil (aJ r))(E:cF H s v rows)(y:F t=some v)
  (w:∀(l:PF)(A:PH),(∀i u,F i=some u->Pure u->l i=some u)->K (l.put d r) A):iW C name [.tmp t] [] d K F H:=by
 rcases E with⟨rfl,rfl⟩|⟨q,rs,rfl,h1,h2,h3⟩
 refine aA (h.Q8 (.inl ⟨rfl,rfl⟩)) (by rw[wA,KT,y,EL]) ?_;exact w F H λi u hi _=>hi;rw[<-h3]at h;refine uQ (k:=l'' rows) h y h1 h2 (w _ _ λi u hi hp=>?_);rw[rT,hi,avB,hp q s rs]
theorem Seen.pure{s:Nat}{v:PV}{rows:P2_}(h:Seen s v rows):Pure v:=by
 rcases h with⟨_,rfl⟩|rfl
 exact λ_ _ _=>rfl;exact λ_ _ _=>rfl
def bI(b:Bool):Int:=if b then 0 else 1
abbrev XS(f:aH):List (List UInt8):=(f.asS.drop 1).map cQ.name++f.asP.map eE.name
def AY(f:aH):Bool:=distinct (f.asW.map cT.name)&&distinct (f.asQ.map dN.name)&&distinct (XS f)&&distinct (f.asT.map cJ.name)&&distinct (f.asR.map dW.name)
structure Small(f:aH):Prop where
 asW:l'' f.asW<=4
 asQ:l'' f.asQ<=4
 asS:l'' f.asS<=40
 asP:l'' f.asP<=24
 asT:l'' f.asT<=4
 asR:l'' f.asR<=12
theorem IE(L:nO C){v:PV}{l:List (List UInt8)}(h:Seen 1 v (gM l))(i:l'' l<=1000):aG C 110 [v] .nil (aJ (.bool (distinct l))):=
 (L.uniq l (Om:l'' l<=9223372036854775807)).Q8 h
theorem Zf(L:nO C)(f:aH)(N:Small f)(l u w y A:PV)(ok:Bool)(F:PF)(H:PH)(i:nU F f l u w y A ok)
  (J:Seen 1 l (gM (f.asW.map cT.name))) (K:Seen 1 u (gM (f.asQ.map dN.name))) (h5:Seen 1 w (gM (XS f))) (M:Seen 1 y (gM (f.asT.map cJ.name))) (h7:cF H 1 A (gM (f.asR.map dW.name))) :
  aK.wp C (.seq (.seq (.region FZ) (.cond (.tmp 243) (.seq (.region rH) .ret) .skip)) (.seq (.region OC) .ret)) (aX [.tmp 2] (cN (.j (bI (ok&&AY f))))) F H:=by
 obtain⟨s1,s2,s3,s4,s5,s6⟩:=N;have O:(f.asW.map cT.name).length<=1000:=by simp;omega
 have Q:(f.asQ.map dN.name).length<=1000:=by simp;omega
 have S:(XS f).length<=1000:=by simp;omega
 have U:(f.asT.map cJ.name).length<=1000:=by simp;omega
 have V:(f.asR.map dW.name).length<=9223372036854775807:=by simp;omega
 cases ok with
 |false =>simp only[go_sem,FZ,i.a8,rH];exact tM rfl rfl
 |true=>
  simp only[go_sem,FZ,i.a8,i.a3];refine aA (IE L J O) rfl ?_;unfold AY;cases Y:distinct (f.asW.map cT.name)with
  |false =>simp only[go_sem,rH,auY];exact tM rfl rfl
  |true=>
   simp only[go_sem,i.a4,auO];refine aA (IE L K Q) rfl ?_;cases Z:distinct (f.asQ.map dN.name)with
   |false =>simp only[go_sem,rH,auY];exact tM rfl rfl
   |true=>
    simp only[go_sem,i.a5,auO];refine aA (IE L h5 S) rfl ?_;cases c3:distinct (XS f)with
    |false =>simp only[go_sem,rH,auY];exact tM rfl rfl
    |true=>
     simp only[go_sem,i.a6,auO];refine aA (IE L M U) rfl ?_;cases c4:distinct (f.asT.map cJ.name)with
     |false =>simp only[go_sem,rH,auY];exact tM rfl rfl
     |true=>
      simp only[go_sem,i.a7,auO];refine zG (L.uniq _ V) h7 rfl λE W hp=>?_;have g:E 239=some (.bool false):=hp 239 _ rfl λ_ _ _=>rfl;cases c5:distinct (f.asR.map dW.name)with
      |false =>simp only[go_sem,rH,auY,g];exact tM rfl rfl
      |true =>simp only[go_sem,OC,auO,g];exact tM rfl rfl
abbrev x5(b:Bool):cH:=aX [.tmp 2] (cN (.int .i64 (bI b)))
def Du:aK:=.seq (.seq (.region dw) (.block 10 (.loop OB))) (.seq (.seq (.region FZ) (.cond (.tmp 243) (.seq (.region rH) .ret) .skip)) (.seq (.region OC) .ret))
def Dt:aK:=.seq (.seq (.region du) (.block 8 (.loop OA))) Du
def Ds:aK:=.seq (.seq (.region dt) (.block 6 (.loop NZ))) Dt
def Dr:aK:=.seq (.seq (.region dp) (.block 4 (.loop NY))) Ds
def Dp:aK:=.seq (.seq (.region dl) (.block 2 (.loop NX))) Dr
def Rx:aK:=.seq (.seq (.region wb) (.block 0 (.loop NW))) Dp
theorem afR(L:nO C)(f:aH)(y:Small f)(l u w N:PV)(ok:Bool)(F:PF)(H:PH)(i:nU F f l u w N .aE ok)
  (J:Seen 1 l (gM (f.asW.map cT.name))) (K:Seen 1 u (gM (f.asQ.map dN.name))) (h5:Seen 1 w (gM (XS f))) (U:cF H 1 N (gM (f.asT.map cJ.name))) :
  aK.wp C Du (x5 (ok&&f.asR.all (rR f)&&AY f)) F H:=by
 unfold Du;simp only[go_sem,dw,i.a1,auD];refine uR U λM E Q S W hp=>?_;refine Po L f y.asR y.asT ok l u w M _ Q S ⟨hp 1 _ (by simp only[go_sem,i.a1]) λ_ _ _=>rfl,hp 3 _ (by simp only[go_sem,i.a3]) J.pure,hp 4 _ (by simp only[go_sem,i.a4]) K.pure,hp 5 _ (by simp only[go_sem,i.a5]) h5.pure,W 6 (by simp only[go_sem,i.a6]),hp 7 _ (by simp only[go_sem,i.a7]) λ_ _ _=>rfl,hp 8 _ (by simp only[go_sem,i.a8]) λ_ _ _=>rfl⟩
  (hp 195 _ rfl λ_ _ _=>rfl) (hp 196 _ rfl λ_ _ _=>rfl) (hp 197 _ rfl λ_ _ _=>rfl) λv O H' A V=>?_
 have e:=Zf L f y l u w M v _ O H' A J K h5 E V;simp only[aK.wp,go_sem]at e;simp only[go_sem];exact e
theorem afQ(L:nO C)(f:aH)(U:f.Ok)(w:Small f)(l u M:PV)(ok:Bool)(F:PF)(H:PH)(i:nU F f l u M .aE .aE ok)
  (E:Seen 1 l (gM (f.asW.map cT.name))) (J:Seen 1 u (gM (f.asQ.map dN.name))) (h5:cF H 1 M (gM (XS f))) :
  aK.wp C Dt (x5 (ok&&f.asT.all (lL f.asQ.length)&&f.asR.all (rR f)&&AY f)) F H:=by
 unfold Dt;simp only[go_sem,du,i.a1,auD];refine uR h5 λK A O Q V hp=>?_;refine Pn L f U w.asT w.asQ ok l u K .aE _ O Q ⟨hp 1 _ (by simp only[go_sem,i.a1]) λ_ _ _=>rfl,hp 3 _ (by simp only[go_sem,i.a3]) E.pure,hp 4 _ (by simp only[go_sem,i.a4]) J.pure,V 5 (by simp only[go_sem,i.a5]),hp 6 _ (by simp only[go_sem,i.a6]) λ_ _ _=>rfl,hp 7 _ (by simp only[go_sem,i.a7]) λ_ _ _=>rfl,hp 8 _ (by simp only[go_sem,i.a8]) λ_ _ _=>rfl⟩
  (hp 174 _ rfl λ_ _ _=>rfl) (hp 175 _ rfl λ_ _ _=>rfl) (hp 176 _ rfl λ_ _ _=>rfl) λv N H' y S=>?_
 simp only[go_sem];exact afR L f w l u K v _ N H' y E J A S
theorem afP(L:nO C)(f:aH)(N:f.Ok)(l:Small f)(u w A:PV)(ok:Bool)(F:PF)(H:PH)(i:nU F f u w A .aE .aE ok)
  (J:Seen 1 u (gM (f.asW.map cT.name))) (K:Seen 1 w (gM (f.asQ.map dN.name))) (h5:cF H 1 A (gM ((f.asS.drop 1).map cQ.name))) :
  aK.wp C Ds (x5 (ok&&f.asP.all (kT f)&&f.asT.all (lL f.asQ.length)&&f.asR.all (rR f)&&AY f)) F H:=by
 unfold Ds;simp only[go_sem,dt,i.a1,auD];refine Pm L f ((f.asS.drop 1).map cQ.name) (by have:=l.asS;simp;omega) l.asP l.asQ l.asS ok u w A .aE .aE _ _ H ⟨by simp only[go_sem,i.a1],by simp only[go_sem,i.a3],by simp only[go_sem,i.a4],by simp only[go_sem,i.a5],by simp only[go_sem,i.a6],by simp only[go_sem,i.a7],by simp only[go_sem,i.a8]⟩ h5
  rfl rfl rfl λv E H' y M=>?_
 simp only[go_sem];exact afQ L f N l u w v _ E H' y J K M
theorem afO(L:nO C)(f:aH)(V:f.Ok)(J:Small f)(Z:0<l'' f.asS)(u M:PV)(ok:Bool)(F:PF)(H:PH)(i:nU F f u M .aE .aE .aE ok)
  (E:Seen 1 u (gM (f.asW.map cT.name))) (S:cF H 1 M (gM (f.asQ.map dN.name))) :
  aK.wp C Dr (x5 (ok&&f.asP.all (kT f)&&f.asT.all (lL f.asQ.length)&&f.asR.all (rR f)&&AY f)) F H:=by
 unfold Dr;have w:(1:Int)<=(l'' f.asS:Nat):=Om;have W:=J.asS;have l:((f.asS.map cQ.cells).take f.asS.length).drop 1=(f.asS.drop 1).map cQ.cells:=by rw[auZ bC,ayH]
 simp only[go_sem,dp,i.a1,auD,w,awG,l];refine uR S λK A O Q Y hp=>?_;refine Pl L f (f.asS.drop 1) (by simp;omega) ok u K .aE .aE _ O Q ⟨hp 1 _ (by simp only[go_sem,i.a1]) λ_ _ _=>rfl,hp 3 _ (by simp only[go_sem,i.a3]) E.pure,Y 4 (by simp only[go_sem,i.a4]),hp 5 _ (by simp only[go_sem,i.a5]) λ_ _ _=>rfl,hp 6 _ (by simp only[go_sem,i.a6]) λ_ _ _=>rfl,hp 7 _ (by simp only[go_sem,i.a7]) λ_ _ _=>rfl,hp 8 _ (by simp only[go_sem,i.a8]) λ_ _ _=>rfl⟩
  (hp 119 _ rfl λ_ _ _=>rfl) (hp 120 _ rfl λ_ _ _=>rfl) (hp 121 _ rfl λ_ _ _=>rfl) λv N H' y U=>?_
 simp only[go_sem];exact afP L f V J u K v _ N H' y E A U
theorem afN(L:nO C)(f:aH)(Q:f.Ok)(l:Small f)(O:0<l'' f.asS)(A:PV)(ok:Bool)(F:PF)(H:PH)(i:nU F f A .aE .aE .aE .aE ok)
  (M:cF H 1 A (gM (f.asW.map cT.name))) :
  aK.wp C Dp (x5 (ok&&f.asQ.all (mX f)&&f.asP.all (kT f)&&f.asT.all (lL f.asQ.length)&&f.asR.all (rR f)&&AY f)) F H:=by
 unfold Dp;simp only[go_sem,dl,i.a1,auD];refine uR M λy w J K S hp=>?_;refine Pk L f l.asQ l.asW ok y .aE .aE .aE _ J K ⟨hp 1 _ (by simp only[go_sem,i.a1]) λ_ _ _=>rfl,S 3 (by simp only[go_sem,i.a3]),hp 4 _ (by simp only[go_sem,i.a4]) λ_ _ _=>rfl,hp 5 _ (by simp only[go_sem,i.a5]) λ_ _ _=>rfl,hp 6 _ (by simp only[go_sem,i.a6]) λ_ _ _=>rfl,hp 7 _ (by simp only[go_sem,i.a7]) λ_ _ _=>rfl,hp 8 _ (by simp only[go_sem,i.a8]) λ_ _ _=>rfl⟩
  (hp 85 _ rfl λ_ _ _=>rfl) (hp 86 _ rfl λ_ _ _=>rfl) (hp 87 _ rfl λ_ _ _=>rfl) λv E H' u N=>?_
 simp only[go_sem];exact afO L f Q l O y v _ E H' u w N
theorem afM(L:nO C)(f:aH)(u:f.Ok)(w:Small f)(E:0<l'' f.asS)(F:PF)(H:PH)(i:nU F f .aE .aE .aE .aE .aE true) :
  aK.wp C Rx (x5 (f.asW.all mW&&f.asQ.all (mX f)&&f.asP.all (kT f)&&f.asT.all (lL f.asQ.length)&&f.asR.all (rR f)&&AY f)) F H:=by
 unfold Rx;simp only[go_sem,wb,i.a1,auD];refine Pj L f u w.asW .aE .aE .aE .aE _ _ H ⟨by simp only[go_sem,i.a1],by simp only[go_sem,i.a3],by simp only[go_sem,i.a4],by simp only[go_sem,i.a5],by simp only[go_sem,i.a6],by simp only[go_sem,i.a7],by simp only[go_sem,i.a8]⟩ rfl rfl rfl λv y H' l A=>?_;simp only[go_sem];exact afN L f u w E v _ y H' l A
theorem afL(L:nO C)(f:aH)(O:f.Ok):zm.wp C (aX gC.res (cN (.j (sL f)))) (g_ [.agg f.cells]) .nil:=by
 have A:dR f=(pV f&&rE f&&(f.asW.all mW&&f.asQ.all (mX f)&&f.asP.all (kT f)&&f.asT.all (lL f.asQ.length)&&f.asR.all (rR f))&&AY f):=rfl;simp only[go_sem,zm,gC];refine aA (L.inn f.atV 1 4) rfl ?_;have i:∀(F:PF)(H:PH),dR f=false->F 2=some (.j 1)->aX [.tmp 2] (cN (.j (sL f))) .ret F H:=λF H U V=>tM V (so U).symm;cases N:within f.atV 1 4 with
 |false=>
  have:pV f=false:=by simp[pV,N]
  simp only[go_sem,auY];exact i _ _ (by rw[A,this];simp only[auN]) rfl
 |true=>
  by_cases s1:l'' f.asW<=4;have l:¬(l'' f.asW:Int)>4:=Om;by_cases s2:l'' f.asQ<=4;have u:¬(l'' f.asQ:Int)>4:=Om;by_cases s3:l'' f.asS<=40;have w:¬(l'' f.asS:Int)>40:=Om;by_cases s4:l'' f.asP<=24;have y:¬(l'' f.asP:Int)>24:=Om;by_cases Q:l'' f.asT<=4;have E:¬(l'' f.asT:Int)>4:=Om;by_cases S:l'' f.asR<=12
  ·have J:¬(l'' f.asR:Int)>12:=Om;have K:=K8 ⟨s1,s2,s3,s4,Q,S⟩;rw[N]at K;simp only[go_sem,auO,auD,l,u,w,y,E,J];refine aA (L.asY f O) rfl ?_;cases M:rE f with
   |false =>simp only[go_sem,auY];exact i _ _ (by rw[A,M];simp only[awB,auN]) rfl
   |true=>
    have W:0<l'' f.asS:=by
     rcases axN f.asS.length with h|h
     have:f.asS=[]:=List.eq_nil_of_length_eq_zero h;rw[rE,this]at M;cases M;exact h
    have Z:sL f=bI (f.asW.all mW&&f.asQ.all (mX f)&&f.asP.all (kT f)&&f.asT.all (lL f.asQ.length)&&f.asR.all (rR f)&&AY f):=by rw[sL,A,K,M];rfl
    rw[Z];simp only[go_sem,auO];have e:=λF H Y=>afM L f O ⟨s1,s2,s3,s4,Q,S⟩ W F H Y;simp only[Rx,Dp,Dr,Ds,Dt,Du,aK.wp,go_sem]at e;exact e _ _ ⟨s_,s_,s_,s_,s_,s_,s_⟩
  have J:(l'' f.asR:Int)>12:=Om;simp only[go_sem,auO,auD,l,u,w,y,E,J];exact i _ _ (by rw[A,qR Om];simp only[auN]) rfl;have E:(l'' f.asT:Int)>4:=Om;simp only[go_sem,auO,auD,l,u,w,y,E];exact i _ _ (by rw[A,qR Om];simp only[auN]) rfl;have y:(l'' f.asP:Int)>24:=Om;simp only[go_sem,auO,auD,l,u,w,y];exact i _ _ (by rw[A,qR Om];simp only[auN]) rfl;have w:(l'' f.asS:Int)>40:=Om;simp only[go_sem,auO,auD,l,u,w];exact i _ _ (by rw[A,qR Om];simp only[auN]) rfl;have u:(l'' f.asQ:Int)>4:=Om;simp only[go_sem,auO,auD,l,u];exact i _ _ (by rw[A,qR Om];simp only[auN]) rfl;have l:(l'' f.asW:Int)>4:=Om;simp only[go_sem,auO,auD,l];exact i _ _ (by rw[A,qR Om];simp only[auN]) rfl
def lvl(f:aH)(i:Nat):Int:=(f.asS.map cQ.level).getD i 0
def par(f:aH)(i:Nat):Int:=(f.asS.map cQ.parent).getD i 0
def PJ(f:aH)(i:Nat):Nat:=(par f i).toNat
def eT(f:aH)(d:Nat):Nat:=((f.asP.map eE.machine).getD d 0).toNat
def mdl(f:aH)(d:Nat):Nat:=((f.asP.map eE.model).getD d 0).toNat
def ext(f:aH)(d:Nat):Int:=(f.asQ.map dN.atF).getD (mdl f d) 0
def zZ(f:aH)(v:Nat):Nat:=((f.asR.map dW.atB).getD v 0).toNat
def DN:cJ:=⟨[],0,0,0,0,0,0,0,0,[],[],⟨false,[],[]⟩,⟨false,[],[]⟩⟩
def PP(f:aH)(v:Nat):cJ:=f.asT.getD (zZ f v) DN
def upN(f:aH):Nat->Nat->Nat
 |0,i=>i
 |k+1,i=>PJ f (upN f k i)
theorem getD_at{α β:Type}{l:List α}{g:α->β}{i:Nat}{b:β}(h:i<l'' l):(l.map g).getD i b=g l[i]:=by
 simp[auM,h]
structure VF(f:aH):Prop where
 small:Small f
 root:0<l'' f.asS/\lvl f 0=0/\par f 0=-1
 dom:∀i,0<i->i<l'' f.asS->0<=par f i/\PJ f i<i/\lvl f (PJ f i)=lvl f i-1/\1<=lvl f i/\lvl f i<=4
 drive:∀d (h:d<l'' f.asP),0<=(f.asP[d]).model/\mdl f d<l'' f.asQ/\0<=(f.asP[d]).machine/\eT f d<l'' f.asS/\lvl f (eT f d)=4
 atB:∀p∈f.asT,1<=p.k/\p.k<=6/\0<=p.m/\p.m<=4/\p.k+p.m<=8/\p.s0=0/\(∀l,0<=p.spread l/\p.spread l<=8)/\∀m∈p.asQ,0<=m/\m<l'' f.asQ
 volume:∀v (h:v<l'' f.asR),0<=(f.asR[v]).atB/\zZ f v<l'' f.asT
 model:∀m∈f.asQ,1<=m.atF/\m.atF<=16
theorem ahD{p:cJ}{n:Nat}(h:lL n p=true):∀m∈p.asQ,0<=m/\m<n:=by
 intro m u;simp only[lL,auI]at h;obtain⟨i,hi,rfl⟩:=awI u;have:=auX.1 h.2 i (avM.2 hi);rw[auI]at this;have l:=within_iff.1 this.1;simp only[auM,auP hi,axC]at l;omega
theorem ti{x:Int}(i:1<=x)(l:x<=4):i_.wrap (x-1)=x-1:=wrap_i64 Om Om
theorem VF.of{f:aH}(h:dR f=true):VF f:=by
 simp only[dR,auI]at h;obtain⟨⟨⟨V,w⟩,⟨⟨⟨S,F⟩,E⟩,H⟩,J⟩,-⟩:=h;simp only[pV,auI,dT_]at V;obtain⟨⟨⟨⟨⟨⟨s0,s1⟩,s2⟩,s3⟩,s4⟩,s5⟩,s6⟩:=V;cases u:f.asS with
 |nil=>rw[rE,u]at w;cases w
 |cons r t=>
  rw[rE,u]at w;simp only[HM,auI,dT_]at w;obtain⟨⟨⟨⟨⟨⟨r1,r2⟩,r3⟩,r4⟩,r5⟩,r6⟩,A⟩:=w;have U:l'' f.asS=l'' t+1:=by rw[u];rfl
  refine⟨⟨s1,s2,s3,s4,s5,s6⟩,⟨by omega,by rw[lvl,u];exact r2,by rw[par,u];exact r3⟩,?_,?_,?_,?_,?_⟩;intro i h0 hi;obtain⟨k,rfl⟩:∃k,i=k+1:=⟨i-1,by omega⟩;have M:k<l'' t:=Om;have:=auX.1 A k (avM.2 M);rw[auP M]at this;simp only[NH,auI,dT_]at this;obtain⟨⟨⟨⟨N,K⟩,O⟩,d4⟩,d5⟩:=this;obtain⟨p0,p1⟩:=within_iff.1 N;obtain⟨Y,Z⟩:=within_iff.1 O;have y:par f (k+1)=(t[k]).parent:=by rw[par,u];simp[auM,M]
  have e2:lvl f (k+1)=(t[k]).level:=by rw[lvl,u];simp[auM,M]
  rw[ti Y Z]at K;have e3:lvl f (t[k]).parent.toNat=(t[k]).level-1:=K;refine⟨by rw[y];exact p0,?_,?_,by rw[e2];exact Y,by rw[e2];exact Z⟩;rw[PJ,y];omega;rw[PJ,y,e2];exact e3;intro d w;have:=auX.1 E _ (auH w);simp only[kT,auI,dT_]at this;obtain⟨⟨N,K⟩,O⟩:=this;have a1:=within_iff.1 N;have a2:=within_iff.1 K;have y:mdl f d=(f.asP[d]).model.toNat:=by rw[mdl,getD_at w]
  have e2:eT f d=(f.asP[d]).machine.toNat:=by rw[eT,getD_at w]
  refine⟨a1.1,by rw[y];omega,a2.1,by rw[e2];omega,by rw[e2];exact O⟩;intro p hp;have Q:=auX.1 H p hp;have h2:=ahD Q;simp only[lL,PA,auI,dT_,axP,List.all_nil,awP]at Q;obtain⟨⟨⟨⟨⟨⟨⟨⟨k1,m1⟩,km⟩,q1⟩,z0⟩,sp⟩,-⟩,-⟩,-⟩:=Q;obtain⟨g0,g1,g2,g3,g4⟩:=sp;have b1:=within_iff.1 k1;have b2:=within_iff.1 m1;have b3:=within_iff.1 g0;have b4:=within_iff.1 g1;have b5:=within_iff.1 g2;have b6:=within_iff.1 g3;have b7:=within_iff.1 g4;refine⟨b1.1,b1.2,b2.1,b2.2,km,z0,λl=>?_,h2⟩;unfold cJ.spread;split<;>omega;intro v W;have:=auX.1 J _ (auH W);have a1:=within_iff.1 this;have y:zZ f v=(f.asR[v]).atB.toNat:=by rw[zZ,getD_at W]
  exact⟨a1.1,by rw[y];omega⟩;intro m hm;have:=auX.1 F m hm;simp only[mX,auI]at this;exact within_iff.1 this.1.1
theorem VW{f:aH}(h:VF f){d:Nat}(i:d<l'' f.asP):∀{k:Nat},k<=4->upN f k (eT f d)<l'' f.asS/\lvl f (upN f k (eT f d))=4-(k:Int)
 |0,_=>⟨(h.drive d i).2.2.2.1,by rw[upN,(h.drive d i).2.2.2.2];rfl⟩
 |k+1,A=>by
  obtain⟨w,u⟩:=VW h i (k:=k) Om;have l:0<upN f k (eT f d):=by
   rcases axN (upN f k (eT f d))with e|e
   rw[e,h.root.2.1]at u;omega;exact e
  obtain⟨g1,g2,g3,g4,y⟩:=h.dom _ l w;refine⟨by rw[upN];omega,?_⟩;rw[upN,g3,u];omega
def eJ(f:aH)(d:Nat)(level:Int):Nat:=upN f (4-level.toNat) (eT f d)
def adC(f:aH)(v:Nat):Int:=(PP f v).k+(PP f v).m
def rz:=bR [1] Proofs.Tryz.f84
def av:=bX rz
def QK:=bR [2] Proofs.Tryz.f48
def rp:=bX QK
theorem Wm(h:∀f:aH,f.Ok->aG C 96 [.agg f.cells] .nil (aJ (.j (sL f))))(f:aH)(i:f.Ok) :
  av.wp C (aX rz.res (cN (.bool (dR f)))) (g_ [.agg f.cells]) .nil:=by
 simp only[go_sem,av,rz];refine aA (h f i) Ev ?_;simp only[go_sem];refine bL Ev ?_;unfold sL;cases dR f<;>rfl
theorem wU{f:aH}{d:Nat}(h:d<l'' f.asP):(f.asP.map eE.cells)[d]?=some (f.asP[d]).cells:=by simp[h]
theorem mO{f:aH}{d:Nat}(h:d<l'' f.asS):(f.asS.map cQ.cells)[d]?=some (f.asS[d]).cells:=by simp[h]
theorem ai{f:aH}{d:Nat}(h:d<l'' f.asT):(f.asT.map cJ.cells)[d]?=some (f.asT[d]).cells:=by simp[h]
theorem Ad{f:aH}{d:Nat}(h:d<l'' f.asQ):(f.asQ.map dN.cells)[d]?=some (f.asQ[d]).cells:=by simp[h]
theorem n8{f:aH}{d:Nat}(h:d<l'' f.asS):(f.asS[d]).level=lvl f d:=by rw[lvl,getD_at h]
theorem In{f:aH}{d:Nat}(h:d<l'' f.asS):(f.asS[d]).parent=par f d:=by rw[par,getD_at h]
theorem VF.Mo{f:aH}(h:VF f){d:Nat}(i:d<l'' f.asP):(f.asP[d]).machine=((eT f d:Nat):Int):=by
 have:=(h.drive d i).2.2.1;rw[eT,getD_at i];omega
theorem VF.oe{f:aH}(h:VF f){d:Nat}(i:d<l'' f.asP):(f.asP[d]).model=((mdl f d:Nat):Int):=by
 have:=(h.drive d i).1;rw[mdl,getD_at i];omega
theorem VF.M2{f:aH}(h:VF f){i:Nat}(l:0<i)(hi:i<l'' f.asS):par f i=((PJ f i:Nat):Int):=by
 have:=(h.dom i l hi).1;rw[PJ];omega
theorem aaK{f:aH}(h:VF f){v:Nat}(i:v<l'' f.asR):∃hp:zZ f v<l'' f.asT,f.asT[zZ f v]=PP f v:=by
 have hp:=(h.volume v i).2;exact⟨hp,by simp[PP,auM,hp]⟩
def pick(n:Nat)(p:Nat->Bool):I_:=((auE n).filter p).map λ(i:Nat)=>(i:Int)
theorem Pw(l:I_)(x:Int):aR l++[[.j x]]=aR (l++[x]):=by unfold aR;rw[avD];rfl
theorem bG(l:I_):(aR l).length=l'' l:=by unfold aR;rw[auD]
theorem xm{t:Nat}{H:PH}{v:PV}{l:I_}{F:PF}(h:cF H 1 v (aR l))(i:F t=some v):aX [.tmp t] (cN (ints l)) .ret F H:=DR (.inr rfl) h i
theorem I3{t:Nat}{H:PH}{F:PF}(i:F t=some .aE):aX [.tmp t] (cN (ints [])) .ret F H:=DR (rows:=[]) (.inr rfl) .nil i
def qJ(A:I_)(k:Nat):I_:=A.take k++auL (l'' A-k) 0
theorem Km(A:I_):qJ A 0=auL A.length 0:=by simp[qJ]
theorem O2(A:I_):qJ A A.length=A:=by simp[qJ]
theorem Cd(A:I_){k:Nat}(h:k<=l'' A):(qJ A k).length=l'' A:=by simp[qJ];omega
theorem O3(A:I_){k:Nat}(h:k<l'' A):(qJ A k).set k A[k]=qJ A (k+1):=by
 unfold qJ;rw[axS _ _ (by simp;omega),auU,axH Om,awU,show A.length-k=(l'' A-(k+1))+1 by omega,List.replicate_succ,avQ,
  awE h,avW]
 rfl
theorem wX(l:I_)(i:Nat)(x:Int):(aR l).set i [.j x]=aR (l.set i x):=by unfold aR;rw[List.map_set]
theorem AM(n:Nat):auL n [PV.int .i64 0]=aR (auL n 0):=by simp[aR]
theorem Gl{l:I_}{i:Nat}(h:i<l'' l):(aR l)[i]?=some [.j l[i]]:=by simp[aR,h]
theorem Pv(l:I_):ints l=.sl 1 (aR l):=rfl
def rW(f:aH)(room:I_)(d:Nat):Int:=if room.length=f.asP.length then min (max (room.getD d 0) 0) (ext f d)else ext f d
def dK(f:aH)(room:I_):I_:=(auE f.asP.length).map (rW f room)
def mR(f:aH)(room:I_):I_:=if dR f then dK f room else[]
theorem iZ(f:aH)(room:I_):(dK f room).length=l'' f.asP:=by simp[dK]
theorem ip(f:aH)(room:I_){d:Nat}(h:d<(dK f room).length):(dK f room)[d]=rW f room d:=by simp[dK]
theorem VF.l5{f:aH}(h:VF f){d:Nat}(l:d<l'' f.asP):∃i:mdl f d<l'' f.asQ,(f.asQ[mdl f d]).atF=ext f d:=by
 have i:=(h.drive d l).2.1;exact⟨i,by rw[ext,getD_at i]⟩
def trF(f:aH)(room:I_)(o k:Nat):PF:=(((((n_.set 1 (ints room)).set 2 (.bQ f.cells)).set 5 (.osl o 1 0 f.asP.length)).set 15 (.int .i64 (l'' f.asP:Nat))).set 16 (.int .i64 k))
theorem Ms(a b:Int):(if b<a then b else a)=min a b:=by
 rw[Int.min_def];by_cases h:b<a;rw[aD h,aB Om];rw[aB h,aD Om]
theorem Wl(valid:∀f:aH,f.Ok->aG C 161 [.agg f.cells] .nil (aJ (.bool (dR f))))(f:aH)(V:f.Ok)(room:I_) :
  rp.wp C (aX QK.res (qZ 1 (aR (mR f room)))) (g_ [.agg f.cells,ints room]) .nil:=by
 simp only[go_sem,rp,QK];refine aA (valid f V) Ev ?_;unfold mR;cases Z:dR f with
 |false =>simp only[go_sem,auY];exact LW (.inr rfl) Ev
 |true=>
  have hV:=VF.of Z;have S:=hV.small.asP;have M:(l'' f.asP:Int)*((8:Nat):Int)<=140737488355328:=Om;have N:(l'' f.asP:Int)<=9223372036854775807:=Om;simp only[go_sem,auO,auD,M,N];refine aS λo ho=>?_;simp only[go_sem];have y:=iZ f room;have K:=λd h=>ip f room (d:=d) h;generalize hA:dK f room=A at *
  refine wp_loop (α:=Nat) (λk=>trF f room o k) (λk=>h_.set o (.rows 1 (aR (qJ A k)))) (λk=>k<=l'' f.asP) (λk=>l'' f.asP-k) 0 (auK _) ?_ ?_ ?_;unfold trF;exact Lq;refine c_ a_ ?_;simp only[go_sem];rw[Km,y,AM];intro k hk;simp only[go_sem,trF];by_cases hlt:k<l'' f.asP;have u:(k:Int)<(l'' f.asP:Nat):=Om;obtain⟨Y,U⟩:=hV.l5 hlt;have W:=Cd A (k:=k) Om;have E:k<l'' A:=Om;have hx:=Gl (l:=qJ A k) (i:=k) Om;have w:=O3 A E;rw[K k E]at w;simp only[go_sem,u];refine bV .nil dY a_ ?_;simp only[go_sem,wU hlt,hV.oe hlt,Ad Y,U,u,avA,hx];refine⟨a_,?_⟩
  try simp only[go_sem,auD]
  by_cases c:l'' room=l'' f.asP;have H:((l'' room:Int)==(l'' f.asP:Int))=true:=cI Om;have F:k<l'' room:=Om;have O:(room.map λn=>[PV.int .i64 n])[k]?=some [.j room[k]]:=by simp[F]
  simp only[go_sem,H];refine bV .nil dY a_ ?_;have Q:(aR ((qJ A k).set k (ext f k)))[k]?=some [.j (ext f k)]:=by rw[<-wX,List.getElem?_set_self (by rw[bG];omega)]
  simp only[go_sem,O,u,avA,Q,max_eq,Ms,List.set_set,wX];refine⟨a_,?_⟩;simp only[go_sem,wZz k];refine aF (k+1) hlt Om ?_ ?_;exact Lq;refine c_ a_ ?_;rw[<-w,rW,aD c,auM,auP F,axC];simp only[go_sem];have H:((l'' room:Int)==(l'' f.asP:Int))=false:=bP Om;simp only[go_sem,H,wZz k,wX];refine aF (k+1) hlt Om ?_ ?_;exact Lq;refine c_ a_ ?_;rw[<-w,rW,aB c];simp only[go_sem];have u:¬(k:Int)<(l'' f.asP:Nat):=Om;have:k=l'' f.asP:=Om;subst this;simp only[go_sem,u];have J:qJ A f.asP.length=A:=by rw[<-y,O2]
  rw[J];exact PY (.inr rfl) (v:=.osl o 1 0 f.asP.length) (.inr ⟨o,aR A,by rw[bG,y],s_,auG _,auZ (auG _)⟩) Sq

abbrev lay(l:L2_):PV:=.sl 1 (l.map λr=>[ints r])
def sI(n:Nat)(xs:I_):I_:=(auE n).map λ(d:Nat)=>((xs.count (d:Int):Nat):Int)
theorem zN(n:Nat)(xs:I_):(sI n xs).length=n:=by simp[sI]
theorem X9(n:Nat):sI n []=auL n 0:=by
 refine axK (by simp[sI]) λi l u=>by simp[sI]
theorem XC{n:Nat}(xs:I_){d:Nat}(h:d<n):(sI n xs)[d]'(by rw[zN];exact h)=((xs.count (d:Int):Nat):Int):=by simp[sI]
theorem aeB{n:Nat}(xs:I_){d:Nat}(h:d<n):(sI n xs).set d (((xs.count (d:Int):Nat):Int)+1)=sI n (xs++[(d:Int)]):=by
 refine axK (by simp[sI]) λi l u=>?_;simp only[sI,List.getElem_set,awA,List.getElem_range,List.count_append];by_cases e:d=i;subst e;simp;have:((d:Nat):Int)≠(i:Int):=Om;rw[aB e];simp[List.count_cons,this]
def ajS(f:aH)(l:L2_):I_:=sI f.asP.length l.flatten
structure amI(l:L2_):Prop where
 rows:l'' l<=16777216
 all:l'' l.flatten<=16777216
theorem Tz(l:L2_){i:Nat}(h:i<l'' l):(l.take (i+1)).flatten=(l.take i).flatten++l[i]:=by
 rw[awE h,List.flatten_append];simp only[List.flatten_cons,List.flatten_nil,awD]
structure aiW where
 kind:Int
 vol:Int
 wher:Int
abbrev aiW.cells(x:aiW):V_:=[.int .i64 x.kind,.int .i64 x.vol,.int .i64 x.wher]
section
variable {C:Ctx} {F:PF} {H:PH}
theorem R7{name:Nat}{vs cs:V_}{r:PV}{l:PH}{args:List aP}{d:O_}{K:K_}(h:aG C name (vs++cs) l (λr' H'=>r'=r/\H'=l))(u:aP.evs F args=some vs)(i:l.le H)
  (w:K (F.put d r) H):iW C name args cs d K F H:=by
 refine .inl ⟨vs++cs,l,_,by rw[u];rfl,i,h,?_⟩;rintro r' H' ⟨rfl,rfl⟩ -;rw[PH.over_self _ i];exact w
theorem cF.ne{s s':Nat}{v:PV}{rows:P2_}{o:Nat}{y:P2_}(h:cF H s v rows)(w:H o=some (.rows s' y))(A:s≠s'):∀l,v≠.osl o s 0 l:=by
 intro l e;rcases h with⟨_,i⟩|⟨q,rs,h1,i,_⟩
 rw[i]at e;cases e;rw[h1]at e;injection e with u
 subst u;rw[w]at i;injection i with i
 injection i with i
 exact A i.symm
theorem cF.set{s s':Nat}{v:PV}{rows:P2_}{o:Nat}{y:P2_}{x:aW}(h:cF H s v rows)(w:H o=some (.rows s' y))(A:s≠s'):cF (H.set o x) s v rows:=by
 have u:=h.ne w A;rcases h with⟨i,l⟩|⟨q,rs,i,l,h3,h4⟩
 exact .inl ⟨i,l⟩;refine .inr ⟨q,rs,i,?_,h3,h4⟩;have:q≠o:=by rintro rfl;exact u _ i
 simp only[aT,aB this,l]
def Dis(s:Nat)(v u:PV):Prop:=∀q l i w,v=.osl q s 0 l->u=.osl i s 0 w->q≠i
theorem Dis.nil{s:Nat}:Dis s .aE .aE:=λ_ _ _ _ h=>by cases h
theorem Dis.symm{s:Nat}{v u:PV}(h:Dis s v u):Dis s u v:=λq l A y i w=>(h A y q l w i).symm
end
def DB(f:aH)(i:Nat)(d:Int):Bool:=decide (0<=d)&&decide (eJ f d.toNat (lvl f i)=i)
def gU(f:aH)(xs:I_)(i:Nat):Int:=if i=0 then 0 else((xs.countP (DB f i):Nat):Int)
def pN(f:aH)(xs:I_):I_:=(auE f.asS.length).map (gU f xs)
def qA(f:aH)(xs:I_)(d:Nat)(k:Nat):I_:=(auE f.asS.length).map λi=>if 4-(k:Int)<lvl f i then gU f (xs++[(d:Int)]) i else gU f xs i
theorem Yp(f:aH)(xs:I_)(d k:Nat):(qA f xs d k).length=l'' f.asS:=by simp[qA]
theorem VF.pS{f:aH}(h:VF f){i:Nat}(hi:i<l'' f.asS):0<=lvl f i/\lvl f i<=4/\(lvl f i=0↔i=0):=by
 rcases axN i with e|e
 subst e;rw[h.root.2.1];simp;have:=h.dom i e hi;omega
theorem Tj{f:aH}(h:VF f)(xs:I_)(d:Nat):qA f xs d 0=pN f xs:=by
 refine axK (by simp[qA,pN]) λi u l=>?_;simp only[qA,pN,awA,List.getElem_range];have hi:i<l'' f.asS:=by simpa[pN]using l
 have:=h.pS hi;rw[aB Om]
theorem Ti{f:aH}(h:VF f)(xs:I_)(d:Nat):qA f xs d 4=pN f (xs++[(d:Int)]):=by
 refine axK (by simp[qA,pN]) λi u l=>?_;simp only[qA,pN,awA,List.getElem_range];have hi:i<l'' f.asS:=by simpa[pN]using l
 have:=h.pS hi;by_cases e:i=0;subst e;rw[aB Om];simp[gU];rw[aD Om]
theorem HK(f:aH)(xs:I_)(d:Nat){i:Nat}(hi:i≠0):gU f (xs++[(d:Int)]) i=gU f xs i+if eJ f d (lvl f i)=i then 1 else 0:=by
 unfold gU;rw[aB hi,aB hi,ayR];by_cases h:eJ f d (lvl f i)=i;rw[aD h];simp[DB,h];rw[aB h];simp[DB,h]
theorem aeJ{f:aH}(h:VF f)(xs:I_){d:Nat}(E:d<l'' f.asP){k:Nat}(M:k<4) :
  (qA f xs d k)[upN f k (eT f d)]?=some (gU f xs (upN f k (eT f d))) /\
  (qA f xs d k).set (upN f k (eT f d)) (gU f xs (upN f k (eT f d))+1)=qA f xs d (k+1):=by
 obtain⟨J,y⟩:=VW h E (k:=k) Om;constructor;simp only[qA,avC,List.getElem?_range J,avB];rw[aB Om];refine axK (by simp[qA]) λi K A=>?_;have hi:i<l'' f.asS:=by simpa[qA]using A
 simp only[qA,List.getElem_set,awA,List.getElem_range];have N:=h.pS hi;by_cases e:upN f k (eT f d)=i;rw[aD e];subst e;rw[aD Om];have l:upN f k (eT f d)≠0:=by intro e;rw[e,h.root.2.1]at y;omega
 rw[HK f xs d l,eJ,y];have:4-(4-(k:Int)).toNat=k:=Om;rw[this,aD rfl];rw[aB e];by_cases c:4-(k:Int)<lvl f i;rw[aD c,aD Om];rw[aB c];by_cases u:4-((k+1:Nat):Int)<lvl f i;rw[aD u];have w:lvl f i=4-(k:Int):=Om;have l:i≠0:=by intro e;subst e;rw[h.root.2.1]at w;omega
 rw[HK f xs d l,eJ,w];have:4-(4-(k:Int)).toNat=k:=Om;rw[this,aB e];simp;rw[aB u]
theorem aeI(f:aH)(xs:I_)(i:Nat):0<=gU f xs i/\gU f xs i<=l'' xs:=by
 unfold gU;have:=List.countP_le_length (p:=DB f i) (l:=xs);split<;>omega
structure Obs where
 o5:Nat
 o7:Nat
 o8:Nat
 oD:Nat
 oB:Nat
structure Obs.Ne(o:Obs):Prop where
 a1:o.o5≠o.oD
 a2:o.o5≠o.oB
 a3:o.o7≠o.oD
 a4:o.o7≠o.oB
 a5:o.o8≠o.oD
 a6:o.o8≠o.oB
 a7:o.oD≠o.oB
structure MJ(H:PH)(o:Obs)(v:Nat)(p:cJ)(A:List Bool)(D B:I_):Prop where
 h5:H o.o5=some (.rows 1 [[.int .i64 v]])
 h7:H o.o7=some (.rows 17 [p.cells])
 h8:H o.o8=some (.rows 1 (eK A))
 hD:H o.oD=some (.rows 1 (aR D))
 hB:H o.oB=some (.rows 1 (aR B))
theorem MJ.keep{H H':PH}{o:Obs}{v:Nat}{p:cJ}{A:List Bool}{D B:I_}(h:MJ H o v p A D B)(i:∀q s' z,3≠s'->H q=some (.rows s' z)->H' q=some (.rows s' z)):MJ H' o v p A D B:=
 ⟨i _ _ _ aU h.h5,i _ _ _ aU h.h7,i _ _ _ aU h.h8,i _ _ _ aU h.hD,i _ _ _ aU h.hB⟩
theorem MJ.eU{H:PH}{o:Obs}{v:Nat}{p:cJ}{A:List Bool}{D B:I_}(h:MJ H o v p A D B)(i:o.Ne)(B':I_):MJ (H.set o.oB (.rows 1 (aR B'))) o v p A D B':=
 ⟨by simp only[aT,aB i.a2,h.h5],by simp only[aT,aB i.a4,h.h7],by simp only[aT,aB i.a6,h.h8],by simp only[aT,aB i.a7,h.hD],by simp only[aT,if_true]⟩
theorem MJ.abG{H:PH}{o:Obs}{v:Nat}{p:cJ}{A:List Bool}{D B:I_}(h:MJ H o v p A D B)(i:o.Ne)(l:I_):MJ (H.set o.oD (.rows 1 (aR l))) o v p A l B:=
 ⟨by simp only[aT,aB i.a1,h.h5],by simp only[aT,aB i.a3,h.h7],by simp only[aT,aB i.a5,h.h8],by simp only[aT,if_true],by simp only[aT,aB (Ne.symm i.a7),h.hB]⟩
def home(row:I_)(i:Nat):Bool:=decide (row.getD i 0<0)
def fP(f:aH)(p:cJ)(i:Nat):Int:=p.spread (lvl f i).toNat
theorem SO(n:Nat):auL n [PV.bool false]=eK (marks n []):=by rw[z8];simp[eK]
theorem Xf(f:aH):auL f.asS.length [PV.int .i64 0]=aR (pN f []):=by
 have:pN f []=auL f.asS.length 0:=by refine axK (by simp[pN]) λi l u=>?_;simp[pN,gU]
 rw[this,AM]
def over(f:aH)(l:L2_)(room:I_)(d:Nat):Bool:=decide ((ajS f l).getD d 0>(dK f room).getD d 0)
def fq:=bR [] Proofs.Tryz.f11
def wr:=aC fq 3
def Ac:aK:=(sq (aC fq 0) (iE (aC fq 1) 5 (.region (aC fq 2)) (sq wr .ret)))
def DM:=bR [] Proofs.Tryz.f12
def ft:=aC DM 1
def OW:aK:=(sq (aC DM 0) (.seq (dq (eY DM 0) (.cond (Tm 18) (sq ft .ret) .skip)) (sq (aC DM 2) (dq (eY DM 1) .ret))))
def Dd:=bR [] Proofs.Tryz.f66
def og:=bX Dd
def lC:=bR [45,63,90,95] Proofs.Tryz.f31
def wm:=aC lC 6
def wn:=aC lC 7
def wq:=aC lC 8
def XR:=aC lC 9
def ep:=aC lC 10
def fa:=aC lC 11
def fe:=aC lC 12
def ff:=aC lC 13
def fg:=aC lC 14
def OV:=aC lC 15
def fh:=aC lC 16
def fi:=aC lC 17
def fj:=aC lC 21
def fk:=aC lC 22
def fm:=aC lC 23
def OU:aK:=(fY (aC lC 18) 68 2 fm (sq (aC lC 19) (iE (aC lC 20) 85 (.region fj) (.region fk))))
def fp:=aC lC 24
def Ab:aK:=(sq (aC lC 0) (sq (aC lC 1) (sq (aC lC 2) (sq (aC lC 3) (.seq (eH (aC lC 4) 0 (fY (aC lC 5) 22 0 (aC lC 25) (sq wm (iE wn 29 (.region wq) (sq XR (sq ep (sq fa (sq fe (iE ff 58 (.region fg) (sq OV (sq fh (.seq (eH fi 2 OU) (.region fp))))))))))))) (sq (aC lC 26) .ret))))))
def P8:=bR [16] Proofs.Tryz.f34
def Af:=bX P8
def De:=bR [] Proofs.Tryz.f32
def oj:=bX De
def mQ:=bR [60,81,113] Proofs.Tryz.f33
def UC:=eY mQ 3
def UD:=aC mQ 11
def BP:aK:=(fY (aC mQ 5) 28 0 (aC mQ 12) (iE (aC mQ 6) 32 (iE (aC mQ 7) 39 (dq (eY mQ 0) (.draw (eY mQ 1))) (.exit 1)) (iE (aC mQ 8) 78 .ret (dq (eY mQ 2) (iE (aC mQ 9) 98 (.region (aC mQ 10)) (dq UC (.region UD)))))))
def OT:aK:=(sq (aC mQ 0) (sq (aC mQ 1) (iE (aC mQ 2) 25 (.region (aC mQ 3)) (eH (aC mQ 4) 0 BP))))
def eA:=bR [40,67,148,154,176] Proofs.Tryz.f13
def UB:aK:=(fY (aC eA 4) 29 0 (aC eA 8) (sq (aC eA 5) (sq (aC eA 6) (.region (aC eA 7)))))
def OK:aK:=(fY (aC eA 11) 48 2 (aC eA 12) (dq (eY eA 0) (.draw (eY eA 1))))
def ON:=aC eA 18
def DG:=eY eA 2
def DH:=eY eA 3
def DJ:=aC eA 19
def DK:=aC eA 20
def OO:=aC eA 21
def DF:aK:=(fY (aC eA 22) 119 6 (aC eA 25) (sq (aC eA 23) (.cond (Tm 124) (.region (aC eA 24)) .skip)))
def OP:=aC eA 26
def OQ:=aC eA 27
def OR:=aC eA 28
def OS:=aC eA 29
def DL:=aC eA 30
def OL:aK:=(fY (aC eA 17) 82 4 (aC eA 31) (sq ON (.seq (dq DG (.draw DH)) (sq DJ (sq DK (.seq (eH OO 6 DF) (sq OP (sq OQ (iE OR 143 (.region OS) (.region DL))))))))))
def OM:aK:=(fY (aC eA 34) 163 8 (aC eA 35) (dq (eY eA 4) (.draw (eY eA 5))))
def ZV:aK:=(sq (aC eA 0) (sq (aC eA 1) (sq (aC eA 2) (.seq (eH (aC eA 3) 0 UB) (sq (aC eA 9) (.seq (eH (aC eA 10) 2 OK) (sq (aC eA 13) (sq (aC eA 14) (sq (aC eA 15) (.seq (eH (aC eA 16) 4 OL) (sq (aC eA 32) (.seq (eH (aC eA 33) 8 OM) (sq (aC eA 36) .ret)))))))))))))
def oa:=bR [] Proofs.Tryz.f25
def ZS:=bX oa
def Df:=bR [3,21] Proofs.Tryz.f14
def ot:=bX Df
def IM:=bR [] Proofs.Tryz.f29
def jb:=aC IM 4
def sn:aK:=(sq (aC IM 0) (sq (aC IM 1) (.seq (.block 0 (.loop (.seq (sq (aC IM 2) (.cond (Tm 15) .skip (.exit 0))) (.block 1 (.region (aC IM 3)))))) (sq jb .ret))))
def Do:=bR [8] Proofs.Tryz.f69
def sb:=bX Do
def sa:=bR [] Proofs.Tryz.f131
def aw:=bX sa
def Rm:=bR [] Proofs.Tryz.f65
def Bf:=bX Rm
def eD:=bR [76] Proofs.Tryz.f134
def QL:=aC eD 4
def QM:=aC eD 5
def QN:=aC eD 6
def JN:aK:=(fY (aC eD 7) 36 0 (aC eD 11) (sq (aC eD 8) (sq (aC eD 9) (.region (aC eD 10)))))
def JO:=aC eD 12
def JP:=aC eD 15
def JQ:=aC eD 16
def JR:=aC eD 17
def JS:=aC eD 18
def AV:aK:=(.seq (dq (eY eD 1) (.cond (Tm 146) .skip (.exit 4))) (.block 5 (.region (aC eD 23))))
def JT:=aC eD 24
def JU:=aC eD 25
def AW:aK:=(fY (aC eD 26) 166 6 (aC eD 30) (sq (aC eD 27) (sq (aC eD 28) (.cond (Tm 177) (.region (aC eD 29)) .skip))))
def JV:=aC eD 31
def JW:=aC eD 32
def AX:aK:=(fY (aC eD 19) 105 2 JW (dq (eY eD 0) (sq (aC eD 20) (iE (aC eD 21) 131 (.region (aC eD 22)) (.seq (.block 4 (.loop AV)) (sq JT (.seq (eH JU 6 AW) (.region JV))))))))
def JX:=aC eD 33
def VR:aK:=(sq (aC eD 0) (mM (aC eD 1) 23 (aC eD 2) (iE (aC eD 3) 28 (sq QL (sq QM (.seq (eH QN 0 JN) (sq JO .ret)))) (sq (aC eD 13) (sq (aC eD 14) (sq JP (sq JQ (sq JR (.seq (eH JS 2 AX) (sq JX .ret))))))))))
def udiv:=bR [] Proofs.Tryz.f107
def Bg:=bX udiv
def Rq:=bR [] Proofs.Tryz.f106
def Bh:=bX Rq
def pI:=bR [16] Proofs.Tryz.f68
def QV:=aC pI 6
def QW:=aC pI 7
def EB:=aC pI 8
def WE:aK:=(sq (aC pI 0) (sq (aC pI 1) (mM (aC pI 2) 15 (aC pI 3) (.seq (sq (aC pI 4) (sq (aC pI 5) (.cond (Tm 32) (sq QV (.region QW)) .skip))) (sq EB .ret)))))
def D0:=bR [] Proofs.Tryz.f70
def tc:=bX D0
def sy:=bR [] Proofs.Tryz.f35
def s7:=bX sy
def Rz:=bR [] Proofs.Tryz.f27
def Bn:=bX Rz
def utF(xs:N_)(n:Nat):PF:=((n_.set 0 (aL xs)).set 3 (.int .i64 n))
theorem acB(xs:N_)(Q:Lim xs)(S:l'' xs<=35184372087808):sn.wp C (aX IM.res (qZ 1 (aO (aM (val xs))))) (g_ [aL xs]) .nil:=by
 simp only[go_sem,sn,IM,auD];refine wp_loop (α:=Nat) (λn=>utF xs n) (λ_=>.nil) (λn=>n<=l'' xs/\∀j x,n<=j->xs[j]?=some x->x=0) (λn=>n) xs.length ⟨auG _,λj x A i=>?_⟩ ?_ a_ ?_
 ·rw[avZ A]at i;cases i
 ·unfold utF;exact Lq
 rintro n ⟨N,J⟩;have done:(0<n->∀h:n-1<l'' xs,xs[n-1]≠0)->∀F:PF,(utF xs n).le F->aK.wp C (.seq (.region jb) .ret) (aX [.tmp 2] (qZ 1 (aO (aM (val xs))))) F .nil:=by
  intro h F y;have f0:F 0=some (aL xs):=y 0 _ (by unfold utF;simp only[go_sem]);have K:F 3=some (.j n):=y 3 _ (by unfold utF;simp only[go_sem]);have E:xs.take n=aM (val xs):=QJ Q N J λx u i=>by
   rw[auP Om]at i;injection i with i
   subst i;exact h u Om
  have M:((n:Nat):Int)<=(l'' xs:Nat):=Om;simp only[go_sem,jb,f0,K,auD,M,or_true,avR];refine jJ (rows:=[]) (src:=aO (aM (val xs))) .nil ?_ ?_ λv H' O _=>?_
  ·simp only[go_sem];rw[<-E,<-axQ]
  ·unfold roomFor;rw[cP,<-E,auU];simp only[avS,maxLen];omega
  ·exact PY (.inr rfl) (by simpa using O) rfl
 simp only[aK.wp,go_sem]at done;simp only[go_sem,utF];by_cases u:0<n
 ·have l:((n:Nat):Int)>0:=Om;have hlt:n-1<l'' xs:=Om;have w:=cC xs hlt;have H:i_.wrap ((n:Int)-1)=((n-1:Nat):Int):=CB Om u;simp only[go_sem,l,H,w];by_cases c:xs[n-1]=0
  ·simp only[go_sem,cI (Om:((xs[n-1]:Nat):Int)=0),H];refine aF (n-1) ⟨by omega,λj x A i=>?_⟩ Om ?_ a_
   ·by_cases e:j=n-1
    ·subst e;rw[auP hlt]at i;injection i with i
     omega
    ·exact J j x Om i
   ·exact Lq
  ·simp only[go_sem,bP (Om:((xs[n-1]:Nat):Int)≠0)];exact done (λ_ _=>c) _ (by unfold utF;exact Lq)
 ·have l:¬((n:Nat):Int)>0:=Om;simp only[go_sem,l];exact done (λh=>absurd h u) _ (by unfold utF;exact Lq)
structure tU(C:Ctx):Prop where
 trimM:∀xs,Lim xs->l'' xs<=35184372087808->aG C 38 [aL xs] .nil (qZ 1 (aO (aM (val xs))))
theorem tU.trim(L:tU C)(xs:N_)(l:Lim xs)(i:l'' xs<=35184372087808):aG C 38 [aL xs] .nil (aJ (aL (aM (val xs)))):=(L.trimM xs l i).freeze
theorem abT(L:tU C)(v:Nat)(H:v<18446744073709551616):sb.wp C (aX Do.res (cN (aL (aM v)))) (g_ [.int .u64 v]) .nil:=by
 have A:IntKind.u32.wrap ((v:Nat):Int)=((v%4294967296:Nat):Int):=dJ v;have u:v/4294967296<4294967296:=Om;have E:IntKind.u32.wrap ((v/4294967296:Nat):Int)=((v/4294967296:Nat):Int):=by rw[dJ,awF u]
 have F:Lim [v%4294967296,v/4294967296]:=by
  intro x y;simp only[auQ,List.mem_nil_iff,or_false]at y;rcases y with rfl|rfl
  exact awJ _ aU;exact u
 have i:val [v%4294967296,v/4294967296]=v:=by simp only[val,Nat.mul_zero,awX];exact Nat.mod_add_div v 4294967296
 have l:shift .shr .u64 (v:Int) 32=some (.int .u64 ((v/4294967296:Nat):Int)):=DU;have hb:(2:Nat)*1<=16777216:=by decide
 simp only[go_sem,sb,Do,A,l,E,hb];have w:=L.trim [v%4294967296,v/4294967296] F bC;rw[i]at w;refine aA w rfl ?_;simp only[go_sem];exact aY (.inr rfl) .nil rfl a_ ⟨.refl _,rfl⟩
theorem Wp(L:tU C)(xs:N_)(l:Lim xs)(i:l'' xs<=35184372087808):aw.wp C (aX sa.res (cN (.bool (decide (nl (val xs)>512))))) (g_ [aL xs]) .nil:=by
 simp only[go_sem,aw,sa];refine aA (L.trim xs l i) rfl ?_;simp only[go_sem,auD,bD];refine bL rfl ?_;rw[decide_eq_decide];omega
theorem Oi{a b:Nat}(h:nl a<nl b):eI a b=-1:=by
 have:a<b:=by
  rcases avF a b with h'|h'
  exact h';have:=iX h';omega
 simp[eI,this]
theorem Oh{a b:Nat}(h:nl b<nl a):eI a b=1:=by
 have:b<a:=by
  rcases avF b a with h'|h'
  exact h';have:=iX h';omega
 have i:¬a<b:=Om;simp[eI,this,i]
def Rn(X Y:N_)(i:Int):PF:=(((n_.set 0 (aL X)).set 1 (aL Y)).set 5 (.int .i64 i))
theorem ahS(L:tU C)(xs ys:N_)(F:Lim xs)(H:Lim ys)(lx:l'' xs<=35184372087808)(ly:l'' ys<=35184372087808) :
  Bf.wp C (aX Rm.res (aJ (.j (eI (val xs) (val ys))))) (g_ [aL xs,aL ys]) .nil:=by
 simp only[go_sem,Bf,Rm];refine aA (L.trim xs F lx) Ev ?_;simp only[go_sem];refine aA (L.trim ys H ly) Ev ?_;have bx:=iJ F;have M:=iJ H;simp only[go_sem,auD,bD];by_cases w:nl (val xs)≠nl (val ys);simp only[go_sem,eZ (show((nl (val xs):Nat):Int)≠(nl (val ys):Nat) by omega)];by_cases N:nl (val xs)<nl (val ys);simp only[go_sem,auD,bD,show((nl (val xs):Nat):Int)<(nl (val ys):Nat) by omega];refine fH (.inr rfl) Ev ?_;rw[Oi N];rfl;simp only[go_sem,auD,bD,show ¬((nl (val xs):Nat):Int)<(nl (val ys):Nat) by omega];refine fH (.inr rfl) Ev ?_;rw[Oh Om];rfl;replace w:=Decidable.of_not_not w;simp only[go_sem,dM (show((nl (val xs):Nat):Int)=(nl (val ys):Nat) by omega),auD,bD];have ex:=aV (val xs);have y:=aV (val ys);have J:=bA (val xs);have K:=bA (val ys);generalize U:aM (val xs)=X at *
 generalize V:aM (val ys)=Y at *
 have W:l'' X=nl (val xs):=by rw[<-U];rfl
 have Z:l'' Y=nl (val xs):=by rw[w,<-V];rfl
 refine wp_loop (α:=Nat) (λk=>Rn X Y ((k:Int)-1)) (λ_=>.nil) (λk=>k<=nl (val xs)/\X.drop k=Y.drop k) (λk=>k) (nl (val xs)) ⟨auG _,?_⟩ ?_ a_ ?_;rw[ayS Om,ayS Om];unfold Rn
 (repeat' (first|exact e_|refine d_ ?_ ?_))<;>first|(simp only[go_sem,wrap_i64 (show -9223372036854775808<=((nl (val xs):Nat):Int)-1 by omega) (show((nl (val xs):Nat):Int)-1<=9223372036854775807 by omega)]<;>rfl)|rfl
 rintro k ⟨hk,i⟩;simp only[go_sem,Rn];by_cases h0:0<k;obtain⟨m,rfl⟩:∃m,k=m+1:=⟨k-1,by omega⟩;have E:((m+1:Nat):Int)-1=(m:Int):=Om;have A:(m:Int)>=0:=Om;have l:m<l'' X:=Om;have u:m<l'' Y:=Om;simp only[go_sem,E,A];refine bV .nil dY a_ ?_;simp only[go_sem,cC X l,cC Y u];by_cases O:X[m]<Y[m];simp only[go_sem,show((X[m]:Nat):Int)<(Y[m]:Nat) by omega];refine fH (.inr rfl) Ev ?_;have:=kh J l u i O;rw[ex,y]at this;simp[bO,eI,this];simp only[go_sem,show ¬((X[m]:Nat):Int)<(Y[m]:Nat) by omega];refine bV .nil dY a_ ?_;simp only[go_sem,cC X l,cC Y u];by_cases Q:X[m]>Y[m];simp only[go_sem,show((X[m]:Nat):Int)>(Y[m]:Nat) by omega];refine fH (.inr rfl) Ev ?_;have:=kh K u l i.symm Q;rw[ex,y]at this;have S:¬val xs<val ys:=Om;simp[bO,eI,this,S];simp only[go_sem,show ¬((X[m]:Nat):Int)>(Y[m]:Nat) by omega];refine aF m ⟨by omega,yy l u i Om⟩ Om ?_ a_
 (repeat' (first|exact e_|refine d_ ?_ ?_))<;>first|(simp only[go_sem,wrap_i64 (Om:-9223372036854775808<=(m:Int)-1) (Om:(m:Int)-1<=9223372036854775807)]<;>rfl)|rfl
 have:k=0:=Om;subst this;have E:¬((0:Nat):Int)-1>=0:=by decide
 simp only[go_sem,E];refine fH (.inr rfl) Ev ?_;rw[avR,avR]at i;have:val xs=val ys:=by rw[<-ex,<-y,i]
 simp[bO,eI,this]
theorem II(n:Nat):(((n:Nat):Int)==0)=decide (n=0):=by
 by_cases h:n=0;subst h;rfl;rw[bP Om,bT h]
structure Eg(C:Ctx):Prop extends tU C where
 make:∀v:Nat,v<18446744073709551616->aG C 35 [.int .u64 v] .nil (aJ (aL (aM v)))
 large:∀xs,Lim xs->l'' xs<=35184372087808->aG C 41 [aL xs] .nil (aJ (.bool (decide (nl (val xs)>512))))
 cmp:∀xs ys,Lim xs->Lim ys->l'' xs<=35184372087808->l'' ys<=35184372087808->aG C 32 [aL xs,aL ys] .nil (aJ (.int .i64 (eI (val xs) (val ys))))
def Rr(a b:Nat):PF:=((n_.set 6 (aL (aM a))).set 7 (aL (aM b)))
structure jt(C:Ctx):Prop extends Eg C where
 divide:∀A B:Nat,B≠0->nl A<=512->nl B<=512->aG C 39 [aL (aM A),aL (aM B)] .nil (aJ (uS A B))
def Pc(a b:Nat):PV:=if fJ a b then .tup [aL [],.int .i64 2]else .tup [aL (aM (auF a b)),.int .i64 0]
theorem ahU(L:jt C)(a b:N_)(A:Lim a)(hb:Lim b)(F:l'' a<=35184372087808)(H:l'' b<=35184372087808) :
  Bh.wp C (aX Rq.res (cN (Pc (val a) (val b)))) (g_ [aL a,aL b]) .nil:=by
 unfold Pc;simp only[go_sem,Bh,Rq];refine aA (L.large a A F) rfl ?_;by_cases i:nl (val a)>512;simp only[go_sem,i];rw[aD (by simp[fJ,i])];exact fZ rfl;simp only[go_sem,i];refine aA (L.large b hb H) rfl ?_;by_cases l:nl (val b)>512;simp only[go_sem,l];rw[aD (by simp[fJ,l])];exact fZ rfl;rw[aB (by simp[fJ,i,l])];simp only[go_sem,l];refine aA (L.trim a A F) rfl ?_;simp only[go_sem];refine aA (L.trim b hb H) rfl ?_;simp only[go_sem];refine wp_loop (α:=Nat × Nat) (λt=>Rr t.1 t.2) (λ_=>.nil) (λt=>auF t.1 t.2=auF (val a) (val b)/\nl t.1<=512/\nl t.2<=512) (λt=>t.2) (val a,val b) ⟨rfl,by simp only;omega,by simp only;omega⟩ ?_ a_ ?_;unfold Rr;exact Lq;rintro⟨x,y⟩ ⟨w,J,E⟩;simp only at w J E;simp only[go_sem,Rr,bD];by_cases u:y=0;subst u;have:¬((nl 0:Nat):Int)>0:=by rw[EW];decide
 simp only[go_sem,this];refine aY (vs:=[aL (aM x),.j 0]) (.inr rfl) .nil rfl a_ ⟨?_,rfl⟩;rw[<-w,Nat.gcd_zero_right];exact .refl _;have K:nl y≠0:=λh=>u (kK.1 h);have:((nl y:Nat):Int)>0:=Om;simp only[go_sem,this];refine aA (L.divide x y u Om Om) rfl ?_;simp only[go_sem,uS];have hlt:x%y<y:=awJ _ (axJ u);refine aF (y,x%y) ⟨?_,E,?_⟩ hlt ?_ a_;simp only;rw[<-w,Nat.gcd_comm y,<-Nat.gcd_rec y x,Nat.gcd_comm];have:=iX (Nat.le_of_lt hlt);simp only;omega;exact Lq
theorem ahT(L:jt C)(a b:N_)(y:Lim a)(hb:Lim b)(A:l'' a<=35184372087808)(w:l'' b<=35184372087808) :
  Bg.wp C (aX udiv.res (cN (qC (val a) (val b)))) (g_ [aL a,aL b]) .nil:=by
 unfold qC;simp only[go_sem,Bg,udiv];refine aA (L.large a y A) rfl ?_;by_cases l:nl (val a)>512;simp only[go_sem,l];rw[aD (by simp[fJ,l])];exact wZ rfl;simp only[go_sem,l];refine aA (L.large b hb w) rfl ?_;by_cases u:nl (val b)>512;simp only[go_sem,u];rw[aD (by simp[fJ,u])];exact wZ rfl;rw[aB (by simp[fJ,l,u])];simp only[go_sem,u];refine aA (L.trim b hb w) rfl ?_;simp only[go_sem,auD,bD,II,kK];by_cases i:val b=0;rw[aD i];simp only[go_sem,bH i];exact wZ rfl;rw[aB i];simp only[go_sem,bT i];refine aA (L.trim a y A) rfl ?_;simp only[go_sem];refine aA (L.trim b hb w) rfl ?_;simp only[go_sem];refine aA (L.divide (val a) (val b) i Om Om) rfl ?_;simp only[go_sem,uS];exact aY (.inr rfl) .nil rfl a_ ⟨.refl _,rfl⟩
def nZ(neg:Bool)(a b:Nat):FV:=(neg&&decide (a/auF a b≠0),a/auF a b,b/auF a b)
structure Eh(C:Ctx):Prop extends jt C where
 gcd:∀a b,Lim a->Lim b->l'' a<=35184372087808->l'' b<=35184372087808->aG C 34 [aL a,aL b] .nil (aJ (Pc (val a) (val b)))
 div:∀a b,Lim a->Lim b->l'' a<=35184372087808->l'' b<=35184372087808->aG C 33 [aL a,aL b] .nil (aJ (qC (val a) (val b)))
theorem yK{n:Nat}(h:nl n<=512):(aM n).length<=35184372087808:=by rw[bD];omega
theorem qV:aM 1=[1]:=sB aU aU
theorem np{n:Nat}(h:n≠0):aM n=n%4294967296::aM (n/4294967296):=wY h
theorem FX{n:Nat}(h:n≠0):(nl n>1\/n%4294967296>1)↔n≠1:=by
 constructor;rintro h1 rfl;rcases h1 with h1|h1
 rw[nl,qV]at h1;simp at h1;omega;intro h1;by_cases c:nl n>1;exact .inl c;have:n<4294967296^1:=(kY n 1).1 Om;rw[Nat.pow_one]at this;rw[awF this];exact .inr Om
theorem R2(L:Eh C)(neg:Bool)(a b:N_)(ha:Lim a)(hb:Lim b)(la:l'' a<=35184372087808)(lb:l'' b<=35184372087808)(J:nl (val a)<=512)(A:nl (val b)<=512)(K:val b≠0) :
  WE.wp C (aX pI.res (cN (.agg (nZ neg (val a) (val b)).rf.cells))) (g_ [.bool neg,aL a,aL b]) .nil:=by
 have i:auF (val a) (val b)≠0:=λh=>K (Nat.eq_zero_of_gcd_eq_zero_right h);have O:auF (val a) (val b)<=val b:=Nat.gcd_le_right _ (axJ K);have U:nl (auF (val a) (val b))<=512:=avJ (iX O) A;have Q:fJ (val a) (val b)=false:=kJ J A;simp only[go_sem,WE,pI];refine aS λo ho=>?_;simp only[go_sem];refine aA (L.trim a ha la) rfl ?_;simp only[go_sem];refine aA (L.trim b hb lb) rfl ?_;simp only[go_sem,auD,bD,II,kK];by_cases E:val a=0;simp only[go_sem,bH E];have e:(nZ neg (val a) (val b)).rf=⟨false,[],[1]⟩:=by rw[E];unfold nZ FV.rf;simp[gL,Nat.div_self (axJ K),qV]
 rw[e];refine aY (vs:=[.agg [.bool false,.aE,aL [1]]]) (.inr rfl) .nil ?_ a_ ⟨show Co (.agg _) (.agg _)from CoL.agg (CoL.cons (.refl _) (CoL.cons (.nil 1) (CoL.cons (.refl _) .nil))),rfl⟩;simp only[go_sem];rfl;have l:=L.gcd (aM (val a)) (aM (val b)) (bA _) (bA _) (yK J) (yK A);rw[aV,aV,Pc,Q]at l;simp only[go_sem,bT E];refine aA l rfl ?_;have fin:∀x y:Nat,x=val a/auF (val a) (val b)->y=val b/auF (val a) (val b)->∀(F:PF)(H:PH),F 0=some (.bool neg)->F 1=some (aL (aM x))->F 2=some (aL (aM y))->F 6=some (.ptr o 3 0 0)->H o=some (.rows 3 [[.bool false,.aE,.aE]]) ->
   aK.wp C (.seq (.region EB) .ret) (aX [.cell 6 (some 3)] (cN (.agg (nZ neg (val a) (val b)).rf.cells))) F H:=by
  intro x y S hy F H f0 f1 f2 f6 M;subst S;subst hy;simp only[go_sem,EB,f0,f1,f2,f6,M];have hq:val a/auF (val a) (val b)≠0:=by have:=Nat.div_pos (Nat.gcd_le_left (val b) (axJ E)) (axJ i);omega
  have e:(nZ neg (val a) (val b)).rf=⟨neg,aM (val a/auF (val a) (val b)),aM (val b/auF (val a) (val b))⟩:=by unfold nZ FV.rf;simp only[hq,ne_eq,not_false_eq_true,decide_true,awP]
  rw[e];refine aY (vs:=[.agg (fI neg (aM (val a/auF (val a) (val b))) (aM (val b/auF (val a) (val b))))]) (.inr rfl) .nil ?_ a_ ⟨.refl _,rfl⟩;simp only[go_sem,f6]
 simp only[aK.wp,go_sem]at fin;have N:=λx (S:nl x<=512)=>L.div (aM x) (aM (auF (val a) (val b))) (bA _) (bA _) (yK S) (yK U);simp only[aV,qC]at N;have tail:auF (val a) (val b)≠1->∀(F:PF)(H:PH),F 0=some (.bool neg)->F 1=some (aL (aM (val a)))->F 2=some (aL (aM (val b)))->F 6=some (.ptr o 3 0 0)->F 7=some (aL (aM (auF (val a) (val b))))->H o=some (.rows 3 [[.bool false,.aE,.aE]]) ->
   aK.wp C (.seq (.seq (.region QV) (.region QW)) (.seq (.region EB) .ret)) (aX [.cell 6 (some 3)] (cN (.agg (nZ neg (val a) (val b)).rf.cells))) F H:=by
  intro _ F H f0 f1 f2 f6 f7 M;have Y:=N (val a) J;have Z:=N (val b) A;rw[kJ J U,aB i]at Y;rw[kJ A U,aB i]at Z;simp only[go_sem,QV,f1,f7];refine aA Y rfl ?_;simp only[go_sem,awQ,QW,f2,f7];refine aA Z rfl ?_;simp only[go_sem,awQ];exact fin _ _ rfl rfl _ _ (by simp only[go_sem,f0]) rfl rfl (by simp only[go_sem,f6]) M
 simp only[aK.wp,go_sem]at tail;simp only[go_sem,awQ,auD,bD];by_cases V:nl (auF (val a) (val b))>1;have u:((nl (auF (val a) (val b)):Nat):Int)>1:=Om;simp only[go_sem,u];exact tail ((FX i).1 (.inl V)) _ _ rfl rfl rfl rfl rfl Sq;have u:¬((nl (auF (val a) (val b)):Nat):Int)>1:=Om;simp only[go_sem,u,np i];by_cases W:auF (val a) (val b)%4294967296>1;have w:((auF (val a) (val b)%4294967296:Nat):Int)>1:=Om;simp only[go_sem,w];exact tail ((FX i).1 (.inr W)) _ _ rfl rfl rfl rfl (by simp only[go_sem,np i]) Sq;have w:¬((auF (val a) (val b)%4294967296:Nat):Int)>1:=Om;have h1:auF (val a) (val b)=1:=by
  rcases Decidable.em (auF (val a) (val b)=1)with h|h
  exact h;rcases(FX i).2 h with h|h
  exact absurd h V;exact absurd h W
 simp only[go_sem,w];exact fin (val a) (val b) (by rw[h1,Nat.div_one]) (by rw[h1,Nat.div_one]) _ _ rfl rfl rfl rfl Sq
theorem acJ(v:Int)(u:-9223372036854775808<=v)(w:v<=9223372036854775807) :
  tc.wp C (aX D0.res (aJ (.int .u64 (v.natAbs:Nat)))) (g_ [.j v]) .nil:=by
 simp only[go_sem,tc,D0];by_cases c:v<0;have i:i_.wrap (v+1)=v+1:=wrap_i64 Om Om;have e2:i_.wrap (0-(v+1))=-(v+1):=wO_
 have l:u_.wrap (u_.wrap (-(v+1))+1)=(v.natAbs:Int):=by rw[iY,iY];omega
 simp only[go_sem,c,i,e2,l];refine dA ?_;rfl;have e:u_.wrap v=(v.natAbs:Int):=by rw[iY];omega
 simp only[go_sem,c,e];refine dA ?_;rfl
structure Nv(C:Ctx):Prop extends Eh C where
 lowest:∀neg a b,Lim a->Lim b->l'' a<=35184372087808->l'' b<=35184372087808->nl (val a)<=512->nl (val b)<=512->val b≠0->aG C 58 [.bool neg,aL a,aL b] .nil (aJ (.agg (nZ neg (val a) (val b)).rf.cells))
 size:∀v:Int,dS v->aG C 59 [.int .i64 v] .nil (aJ (.int .u64 (v.natAbs:Nat)))
def mkT(n d:Int):RF:=(nZ (decide (n<0) != decide (d<0)) n.natAbs d.natAbs).rf
def BY(n d:Int):PV:=if d=0 then CY 3 else .tup [.agg (mkT n d).cells,.int .i64 0]
theorem acG(L:Nv C)(n d:Int)(i:dS n)(l:dS d) :
  s7.wp C (aX sy.res (cN (BY n d))) (g_ [.j n,.j d]) .nil:=by
 simp only[go_sem,s7];refine aS λo u=>?_;unfold BY;by_cases c:d=0;subst c;simp only[go_sem];refine iN ?_;simp only[go_sem,sy];rw[aB c];simp only[go_sem,bP c];refine aA (L.size n i) rfl ?_;simp only[go_sem];refine aA (L.make n.natAbs Om) rfl ?_;simp only[go_sem];refine aA (L.size d l) rfl ?_;simp only[go_sem];refine aA (L.make d.natAbs Om) rfl ?_;simp only[go_sem];have w:nl n.natAbs<=2:=iA Om;have y:nl d.natAbs<=2:=iA Om;have low:=L.lowest (decide (n<0) != decide (d<0)) (aM n.natAbs) (aM d.natAbs) (bA _) (bA _) (by rw[bD];omega) (by rw[bD];omega);rw[aV,aV]at low;have low:=low Om Om Om;refine aA low rfl ?_;simp only[go_sem];exact aY (.inr rfl) .nil (vs:=[.agg (mkT n d).cells,.j 0]) (by simp only[go_sem,sy];rfl) a_ ⟨.refl _,rfl⟩
structure ju(C:Ctx):Prop extends Nv C where
 fmk:∀n d:Int,dS n->dS d->aG C 50 [.int .i64 n,.int .i64 d] .nil (aJ (BY n d))
theorem Ni(L:ju C)(n:Int)(u:dS n) :
  Bn.wp C (aX Rz.res (cN (.agg (mkT n 1).cells))) (g_ [.j n]) .nil:=by
 simp only[go_sem,Bn,Rz];refine aS λo w=>?_;simp only[go_sem];refine aA (L.fmk n 1 u (by unfold dS;omega)) rfl ?_;unfold BY;rw[aB aU];simp only[go_sem];refine aS λp hp=>?_;have i:o≠p:=by rintro rfl;simp only[aT,if_true]at hp;cases hp
 have l:p≠o:=λh=>i h.symm;simp only[go_sem,i];refine aY (vs:=[.agg (mkT n 1).cells]) (.inr rfl) .nil ?_ a_ ⟨.refl _,rfl⟩;simp only[go_sem,l]
def aI(l:N_)(n a:Nat):Nat × Nat:=if l.length<=a\/n<2 then(0,a)else(l.getD a 0%n,a+1)
theorem cM(l:N_){n:Nat}(h:0<n)(a:Nat):(aI l n a).1<n:=by
 unfold aI;split;exact h;exact awJ _ h
theorem bU(l:N_)(n:Nat){a:Nat}(h:a<=l'' l):(aI l n a).2<=l'' l:=by
 unfold aI;split;exact h;simp only;omega
def gW(l:N_)(a:Nat):RF × Nat:=
 let x:=aI l 6 a
 let y:=aI l 8 x.2
 (mkT ((1+x.1:Nat):Int) ((1+y.1:Nat):Int),y.2)
abbrev mD:RF:=mkT 0 1
def kW(l:N_)(i j a:Nat):RF × Nat:=
 if j=i+1 then gW l a
 else if j=i then(mD,a)
 else let t:=aI l 3 a
  if t.1=0 then gW l t.2 else(mD,t.2)
def fC(l:N_)(i a:Nat):Nat->List RF × Nat
 |0=>([],a)
 |j+1=>let s:=fC l i a j
  let z:=kW l i j s.2
  (s.1++[z.1],z.2)
structure IP where
 start:List RF
 exit:List RF
 asU:List (List RF)
 left:Nat
 a:Nat
def fA(l:N_)(n i:Nat)(s:IP):Nat × Nat:=if i+1<n then aI l (s.left+1) s.a else(s.left,s.a)
def gJ(l:N_)(n i a:Nat):RF × Nat:=
 let e:=gW l a
 if i+1<n then(let t:=aI l 3 e.2;(if t.1=0 then mD else e.1,t.2))else e
def iT(l:N_)(n a:Nat):Nat->IP
 |0=>⟨[],[],[],8,a⟩
 |i+1=>let s:=iT l n a i
  let k:=fA l n i s
  let e:=gJ l n i k.2
  let r:=fC l i e.2 n
  ⟨s.start++[mkT (k.1:Nat) 8],s.exit++[e.1],s.asU++[r.1],s.left-k.1,r.2⟩
def uT(l:N_)(fP a:Nat):cT × Nat:=
 let t:=aI l fP a
 let s:=iT l (1+t.1) t.2 (1+t.1)
 (⟨[],s.start,s.asU,s.exit⟩,s.a)
def mZ(l:N_)(a:Nat):Nat->List RF × Nat
 |0=>([],a)
 |k+1=>let s:=mZ l a k
  let z:=gW l s.2
  (s.1++[z.1],z.2)
abbrev cL(n:Nat):List UInt8:=Lib.decDigits n
def jE(l:N_)(a:Nat):Nat->List cT × Nat
 |0=>([],a)
 |k+1=>let s:=jE l a k
  let z:=uT l 2 s.2
  (s.1++[{ z.1 with name:=[108,97,119]++cL k }],z.2)
def fR(l:N_)(asW a:Nat):Nat->List dN × Nat
 |0=>([],a)
 |k+1=>let s:=fR l asW a k
  let x:=aI l 4 s.2
  let y:=aI l 8 x.2
  let z:=aI l asW y.2
  (s.1++[⟨[109]++cL k,(1+x.1:Nat),(1+y.1:Nat),(z.1:Nat)⟩],z.2)
structure GS where
 asY:List cQ
 atI:List eE
 a:Nat
def jQ(l:N_)(mc asP u:Nat)(s:GS):Nat->GS
 |0=>s
 |i+1=>let s:=jQ l mc asP u s i
  if s.atI.length<asP then
   let t:=aI l mc s.a
   { s with atI:=s.atI++[⟨[100]++cL s.atI.length,(t.1:Nat),(u:Nat)⟩],a:=t.2 }
  else s
def oL(level:Nat):UInt8:=match level with
 |0=>45
 |1=>115
 |2=>114
 |3=>107
 |_=>109
def pC(l:N_)(level i:Nat)(s:GS):GS:=
 let u:=aI l 16 s.a
 let t:=aI l 3 u.2
 let k:=aI l 6 t.2
 let sh:RF × Nat:=if t.1=0 then(mkT 1 ((2+k.1:Nat):Int),k.2)else(mD,t.2)
 { s with asY:=s.asY++[⟨[oL level]++cL s.asY.length,(level:Nat),(i:Nat),(1+u.1:Nat),sh.1⟩],a:=sh.2 }
def sP(asP:Nat)(s:GS):Bool:=decide (asP<=l'' s.atI)||decide (35<=l'' s.asY)
def gS(l:N_)(level asP u:Nat)(rec:Nat->GS->GS)(s:GS):Nat->GS
 |0=>s
 |i+1=>let s:=gS l level asP u rec s i
  if sP asP s then s else(let s':=pC l level u s;rec (l'' s'.asY-1) s')
def fK(l:N_)(mc asP:Nat):Nat->Nat->GS->GS
 |0,i,s=>let t:=aI l 2 s.a
  jQ l mc asP i { s with a:=t.2 } (1+t.1)
 |k+1,i,s=>let t:=aI l 2 s.a
  gS l (4-k) asP i (fK l mc asP k) { s with a:=t.2 } (if 4-k=2 then 1 else 1+t.1)
def nI:cQ:=⟨[],0,-1,0,mD⟩
def jS(l:N_)(a:Nat):Int × Nat:=
 let t:=aI l 3 a
 let k:=aI l 3 t.2
 if t.1=0 then((1+k.1:Nat),k.2)else(0,t.2)
def pH(l:N_)(asQ i a:Nat):cJ × Nat:=
 let k:=aI l 2 a
 let m:=aI l 3 k.2
 let h:=aI l 4 m.2
 let q:=aI l (m.1+1) h.2
 let r:=mZ l q.2 (max m.1 1)
 let g:=aI l 9 r.2
 let s1:=jS l g.2
 let s2:=jS l s1.2
 let s3:=jS l s2.2
 let s4:=jS l s3.2
 let f:=aI l asQ s4.2
 let b:=aI l 2 f.2
 let ms:I_ × Nat:=if 1<asQ then(if b.1=0 then([(f.1:Int),1-(f.1:Int)],b.2)else([(f.1:Int)],b.2))else([(f.1:Int)],f.2)
 (⟨[112]++cL i,(1+k.1:Nat),(m.1:Nat),(1+k.1+q.1:Nat),0,s1.1,s2.1,s3.1,s4.1,ms.1,r.1,mkT (g.1:Nat) 8,mkT ((1+h.1:Nat):Int) 1⟩,ms.2)
def eM(l:N_)(asQ a:Nat):Nat->List cJ × Nat
 |0=>([],a)
 |k+1=>let s:=eM l asQ a k
  let z:=pH l asQ k s.2
  (s.1++[z.1],z.2)
def fU(l:N_)(pols a:Nat):Nat->List dW × Nat
 |0=>([],a)
 |k+1=>let s:=fU l pols a k
  let z:=aI l pols s.2
  (s.1++[⟨[118]++cL k,(z.1:Nat)⟩],z.2)
def hZ(l:N_)(asP asR a:Nat):aH × Nat:=
 let e:=aI l 2 a
 let u:=aI l 2 e.2
 let asW:=jE l u.2 (1+u.1)
 let i:=aI l 2 asW.2
 let asQ:=fR l (1+u.1) i.2 (1+i.1)
 let g:=fK l (1+i.1) asP 4 0 ⟨[nI],[],asQ.2⟩
 let pl:=aI l 2 g.a
 let pols:=eM l (1+i.1) pl.2 (1+pl.1)
 let w:=aI l (asR+1) pols.2
 let vols:=fU l (1+pl.1) w.2 w.1
 (⟨(1+e.1:Nat),asW.1,asQ.1,g.asY,g.atI,pols.1,vols.1⟩,vols.2)
def pU(l:N_)(a:Nat):Nat->I_ × Nat
 |0=>([],a)
 |k+1=>let s:=pU l a k
  let z:=aI l 7 s.2
  (s.1++[(z.1:Int)-1],z.2)
def sS(l:N_)(f:aH)(a:Nat):I_ × Nat:=
 let t:=aI l 4 a
 if t.1=0 then([],t.2)else pU l t.2 f.asP.length
abbrev iS(l:N_):P2_:=l.map λ(n:Nat)=>[PV.int .u8 (n:Int)]
theorem VZ(l:N_):(iS l).length=l'' l:=by simp
theorem acA(l:N_){i:Nat}(h:i<l'' l):(iS l)[i]?=some [.int .u8 (l[i]:Nat)]:=by simp[h]
abbrev bF(v:PV)(a:Nat):aW:=.rows 2 [[v,.int .i64 a]]
structure Tp(l:N_)(v:PV):Prop where
 seen:Seen 1 v (iS l)
 byte:∀x∈l,x<256
 len:l'' l<=400
def vh(l:N_)(r:PV)(H:PH):Prop:=∃o v,r=.ptr o 2 0 0/\Tp (l.take 400) v/\H=h_.set o (bF v 0)
theorem Cj{t q s:Nat}{rs:P2_}{F:PF}{H H2:PH}{R:R_}{v:PV}{e:lE}(E:e=.normal\/e=.ret)(K:F t=some v)(J:H q=some (.rows s rs))(y:H2.le (H.frz q s rs))(A:R (PV.frz q s rs v) H2):aX [.tmp t] R e F H:=by
 have i:∃vs,dZ.evs F H [.tmp t]=some vs/\∃l w H2,jI (n_.set 0 (bO vs)) H l w/\H2.le w/\∃u,l 0=some u/\R u H2:=by refine⟨[v],by rw[kM,nF,K,oM],_,_,H2,.step q J (.refl _ _),y,PV.frz q s rs v,?_,A⟩;rw[rT,mF,aD rfl,avB];rfl
 rcases E with rfl|rfl<;>exact i
theorem agC(l:N_)(hb:∀x∈l,x<256)(Q:l'' l<=9223372036854775807):Ac.wp C (aX fq.res (vh l)) (g_ [.sl 1 (iS l)]) .nil:=by
 simp only[go_sem,Ac,fq,auD];have fin:∀F:PF,F 0=some (.sl 1 (iS (l.take 400)))->aK.wp C (.seq (.region wr) .ret) (aX [.tmp 2] (vh l)) F .nil:=by
  intro F f0;have A:(l.take 400).length<=400:=by rw[auU];omega
  have y:∀x∈l.take 400,x<256:=λx N=>hb x (ayW N);have E:∀o v,Seen 1 v (iS (l.take 400))->vh l (.ptr o 2 0 0) (h_.set o (bF v 0)):=λo v M=>⟨o,v,rfl,⟨M,y,A⟩,rfl⟩;generalize O:l.take 400=L at *
  simp only[go_sem,wr,f0];refine tP (src:=iS L) rfl ?_ (λh=>?_) λh o K=>?_;unfold roomFor;rw[VZ];simp only[maxLen];omega;simp only[go_sem,auQ,avE,or_false,forall_eq];refine aS λo K=>?_;simp only[go_sem];exact aY (vs:=[.ptr o 2 0 0]) (.inr rfl) (h_.set o (bF .aE 0)) rfl b_ (E o .aE (.inl ⟨h,rfl⟩));simp only[go_sem,auQ,avE,or_false,forall_eq];refine aS λp hp=>?_;have i:¬p=o:=(jL.1 hp).1;have u:¬o=p:=λh=>i h.symm;simp only[go_sem];refine Cj (v:=.ptr p 2 0 0) (q:=o) (s:=1) (rs:=iS L) (H2:=h_.set p (bF (.sl 1 (iS L)) 0)) (.inr rfl) rfl (by simp only[go_sem,u]) (c_ a_ ?_) (E p _ (.inr rfl));have J:(iS L).take L.length=iS L:=auZ (by rw[VZ];exact auG _);simp only[go_sem,i,aW.frz,PV.cZ,auD,J];rfl
 simp only[aK.wp,go_sem]at fin;by_cases c:l'' l>400;have w:(l'' l:Int)>400:=Om;have H:(400:Int)<=(l'' l:Int):=Om;simp only[go_sem,w,auD,H];refine fin _ ?_;rw[mF,aD rfl];simp[iS];have w:¬(l'' l:Int)>400:=Om;simp only[go_sem,w];refine fin _ ?_;rw[auZ Om];simp only[go_sem]
def jp(l:N_)(v:PV)(o n a:Nat)(r:PV)(H:PH):Prop:=r=.int .i64 ((aI l n a).1:Nat)/\H=h_.set o (bF v (aI l n a).2)
theorem Z4{l:N_}{v:PV}(T:Tp l v)(o n a:Nat)(W:n<=1000000)(U:a<=l'' l):OW.wp C (aX DM.res (jp l v o n a)) (g_ [.ptr o 2 0 0,.j n]) (h_.set o (bF v a)):=by
 obtain⟨Q,hb,V⟩:=T;have zero:(l'' l<=a\/n<2)->∀F,aK.wp C (.seq (.region ft) .ret) (aX [.tmp 4] (jp l v o n a)) F (h_.set o (bF v a)):=by
  intro h F;have e:aI l n a=(0,a):=by unfold aI;rw[aD h]
  simp only[go_sem,ft];exact aY (vs:=[.j 0]) (.inr rfl) _ rfl b_ ⟨by rw[e];rfl,by rw[e]⟩
 simp only[aK.wp,go_sem]at zero;rcases Q with⟨N,rfl⟩|rfl
 have S:l'' l=0:=by rw[<-VZ,N];rfl
 have y:(a:Int)>=0:=Om;simp only[go_sem,OW,DM];refine bV .nil dY a_ ?_;simp only[go_sem,y];exact zero (.inl Om) _;simp only[go_sem,OW,DM];refine bV .nil dY a_ ?_;by_cases E:l'' l<=a;have i:(a:Int)>=(l'' l:Nat):=Om;simp only[go_sem,auD,i];exact zero (.inl E) _;have i:¬(a:Int)>=(l'' l:Nat):=Om;simp only[go_sem,auD,i];by_cases H:n<2;have u:(n:Int)<2:=Om;simp only[go_sem,u];exact zero (.inr H) _;have u:¬(n:Int)<2:=Om;have w:a<l'' l:=Om;have e:aI l n a=(l[a]%n,a+1):=by unfold aI;rw[aB Om];simp[auM,w]
 have M:i_.wrap ((a:Int)+1)=((a+1:Nat):Int):=dU Om;have K:i_.wrap (((a+1:Nat):Int)-1)=((a:Nat):Int):=wO_
 have O:=acA l w;have Y:=hb _ (auH w);have J:i_.wrap ((l[a]:Nat):Int)=((l[a]:Nat):Int):=jc Om;have A:¬((n:Nat):Int)=0:=Om;have em:Int.tmod ((l[a]:Nat):Int) ((n:Nat):Int)=((l[a]%n:Nat):Int):=rfl;simp only[go_sem,u,M];refine bV .nil dY a_ ?_;simp only[go_sem,K,O,J,A,em];exact aY (vs:=[.j (l[a]%n:Nat)]) (.inr rfl) _ rfl b_ ⟨by rw[e];rfl,by rw[e]⟩
structure HF(C:Ctx):Prop extends ju C where
 int:∀n:Int,dS n->aG C 47 [.int .i64 n] .nil (aJ (.agg (mkT n 1).cells))
 itoa:∀n:Nat,n<100->aG C 195 [.int .i64 n] .nil (aJ (.str (cL n)))
 next:∀(l:N_)(v:PV),Tp l v->∀(o n a:Nat),n<=1000000->a<=l'' l->aG C 4 [.ptr o 2 0 0,.int .i64 n] (h_.set o (bF v a)) (jp l v o n a)
section
variable {C:Ctx} {F:PF} {H:PH} {l:N_} {v:PV} {o a:Nat}
theorem eG(u:HF C)(T:Tp l v){n:Nat}{args:List aP}{d:O_}{K:K_}(A:n<=1000000)(w:a<=l'' l)(i:aP.evs F args=some [.ptr o 2 0 0,.j n])(E:H o=some (bF v a))
  (y:K (F.put d (.j ((aI l n a).1:Nat))) (H.set o (bF v (aI l n a).2))):iW C 4 args [] d K F H:=
 oK (u.next l v T o n a A w) E i y
end
def acT(l:N_)(v:PV)(o a:Nat)(r:PV)(H:PH):Prop:=r=.agg (gW l a).1.cells/\H=h_.set o (bF v (gW l a).2)
theorem zR(l:N_){a:Nat}(h:a<=l'' l):(gW l a).2<=l'' l:=bU l 8 (bU l 6 h)
theorem Zz(u:HF C){l:N_}{v:PV}(T:Tp l v)(o a:Nat)(A:a<=l'' l):og.wp C (aX Dd.res (acT l v o a)) (g_ [.ptr o 2 0 0]) (h_.set o (bF v a)):=by
 simp only[go_sem,og,Dd];refine aS λp hp=>?_;have J:¬p=o:=(jL.1 hp).1;have i:¬o=p:=λh=>J h.symm;have Q:=cM l (show 0<6 by decide) a;have a1:=bU l 6 A;simp only[go_sem];refine eG u T (o:=o) (n:=6) (a:=a) aU A rfl (by simp only[go_sem,i]) ?_;have N:i_.wrap (1+((aI l 6 a).1:Int))=((1+(aI l 6 a).1:Nat):Int):=wO_
 simp only[go_sem,N];have S:=cM l (show 0<8 by decide) (aI l 6 a).2;refine eG u T (o:=o) (n:=8) (a:=(aI l 6 a).2) aU a1 rfl Sq ?_;have e2:i_.wrap (1+((aI l 8 (aI l 6 a).2).1:Int))=((1+(aI l 8 (aI l 6 a).2).1:Nat):Int):=wO_
 simp only[go_sem,e2];refine aA (u.fmk ((1+(aI l 6 a).1:Nat):Int) ((1+(aI l 8 (aI l 6 a).2).1:Nat):Int) (by unfold dS;omega) (by unfold dS;omega)) rfl ?_;have O:¬((1+(aI l 8 (aI l 6 a).2).1:Nat):Int)=0:=Om;unfold BY;rw[aB O];simp only[go_sem];refine aS λq E=>?_;have K:¬q=o:=(jL.1 E).1;have M:¬q=p:=(jL.1 (jL.1 E).2).1;have y:¬p=q:=λh=>M h.symm;have w:¬o=q:=λh=>K h.symm;simp only[go_sem,J,i,K,M,y];refine aY (vs:=[.agg (gW l a).1.cells]) (.inr rfl) (h_.set o (bF v (gW l a).2)) ?_ (c_ a_ ?_) ⟨rfl,rfl⟩;simp only[go_sem];rfl;simp only[go_sem,i,w];rfl
structure Eb(C:Ctx):Prop extends HF C where
 sJ:∀(l:N_)(v:PV),Tp l v->∀(o a:Nat),a<=l'' l->aG C 1 [.ptr o 2 0 0] (h_.set o (bF v a)) (acT l v o a)
abbrev jD(l:List RF):P2_:=l.map RF.cells
theorem CZ(l:List RF)(x:RF):jD l++[x.cells]=jD (l++[x]):=by simp[jD]
theorem NP(l:List RF):Flat (jD l):=Flat.map l λx c i q s rs=>by
 simp only[RF.cells,fI,auQ,avE,or_false]at i;rcases i with rfl|rfl|rfl<;>rfl
theorem pQ(l:List RF):(jD l).length=l'' l:=by simp[jD]
theorem Tp.frz{l:N_}{v:PV}(T:Tp l v)(q s:Nat)(rs:P2_):PV.cZ q s rs v=v:=by
 rcases T.seen with⟨_,rfl⟩|rfl<;>rfl
theorem LS(l:N_){a:Nat}(h:a<=l'' l):∀k,(mZ l a k).2<=l'' l
 |0=>h
 |k+1=>zR l (LS l h k)
theorem I1(l:N_)(a:Nat):∀k,(mZ l a k).1.length=k
 |0=>rfl
 |k+1=>by simp only[mZ,auJ,auS,I1 l a k]
def aiT(l:N_)(v:PV)(o a k:Nat)(r:PV)(H:PH):Prop:=r=frs (mZ l a k).1/\H=h_.set o (bF v (mZ l a k).2)
def P9(o:Nat)(m:Nat)(w:PV)(i:Nat):PF:=((((n_.set 0 (.ptr o 2 0 0)).set 1 (.int .i64 m)).set 5 (w)).set 6 (.int .i64 i))
theorem agE(Q:Eb C){l:N_}{v:PV}(T:Tp l v)(o a m:Nat)(hm:m<=1000)(V:a<=l'' l):Af.wp C (aX P8.res (aiT l v o a (max m 1))) (g_ [.ptr o 2 0 0,.j m]) (h_.set o (bF v a)):=by
 have A:∀i:Nat,((i:Int)<(if(m:Int)<1 then 1 else(m:Int)))↔i<max m 1:=by intro i;split<;>omega
 simp only[go_sem,Af,P8];have S:aQ (h_.set o (bF v a)) [(o,bF v a)] [(.aE,3,jD [])]:=(aQ.nil.new (H:=h_) rfl (bF v a)).lJ 3;refine wp_loop (α:=T3_) (λt=>P9 o m t.2.1 t.1) (λt=>t.2.2) (λt=>t.1<=max m 1/\aQ t.2.2 [(o,bF v (mZ l a t.1).2)] [(t.2.1,3,jD (mZ l a t.1).1)]) (λt=>max m 1-t.1) (0,.aE,h_.set o (bF v a)) ⟨auK _,S⟩ ?_ b_ ?_;unfold P9;exact Lq;rintro⟨k,w,Z⟩ ⟨W,y⟩;simp only at W y ⊢;simp only[go_sem,P9];have M:=LS l V k;have u:=I1 l a k;by_cases hlt:k<max m 1;have K:=(A k).2 hlt;simp only[go_sem,K];refine oK (Q.sJ l v T o _ M) (y.at 0 rfl) rfl ?_;have J:=y.set 0 rfl (bF v (gW l (mZ l a k).2).2);have E:(1:Nat)*3<=16777216:=by decide
 simp only[go_sem,E];refine J.append 0 (src:=[(gW l (mZ l a k).2).1.cells]) rfl rfl (by unfold roomFor;rw[pQ,u];simp only[auS,maxLen];omega) λY H' O _=>?_;rw[CZ]at O;simp only[go_sem,wZz k];refine aF (k+1,Y,H') ⟨hlt,O⟩ sO_ ?_ b_;exact Lq;have K:¬((k:Int)<(if(m:Int)<1 then 1 else(m:Int))):=λh=>hlt ((A k).1 h);have e:k=max m 1:=Om;subst e;simp only[go_sem,K];have N:jD (mZ l a (max m 1)).1≠[]:=λh=>by have:=congrArg List.length h;rw[pQ,u]at this;simp at this
 rcases y.own 0 rfl with⟨U,_⟩|⟨q,rs,rfl,_⟩
 exact absurd U N;obtain⟨rs,g1,g2,g3,-,g4⟩:=y.frz 0 rfl;refine FA (vs:=[.osl q 3 0 (jD (mZ l a (max m 1)).1).length]) (.inr rfl) rfl (.step g1 (.done (H2:=h_.set o (bF v (mZ l a (max m 1)).2)) ?_ (c_ a_ ?_)));rw[bO,g3];exact⟨rfl,rfl⟩;have:=g4.at 0 rfl;rw[this];simp only[aW.frz,avH,avY,T.frz];rfl
theorem Z3(u:HF C)(s:List UInt8)(n:Nat)(A:l'' s<=100)(w:n<100):oj.wp C (aX De.res (aJ (.str (s++cL n)))) (g_ [.str s,.j n]) .nil:=by
 have y:(cL n).length<=2:=by unfold cL;rw[Lib.decDigits];split;simp;rw[Lib.decDigits,dif_pos Om];simp
 have i:¬(((l'' s+(cL n).length:Nat):Int)>9223372036854775807):=Om;simp only[go_sem,oj,De];refine aA (u.itoa n w) rfl ?_;simp only[go_sem,N8,i];refine dA ?_;rfl
structure xN(C:Ctx):Prop extends Eb C where
 rep:∀(l:N_)(v:PV),Tp l v->∀(o a m:Nat),m<=1000->a<=l'' l->aG C 5 [.ptr o 2 0 0,.int .i64 m] (h_.set o (bF v a)) (aiT l v o a (max m 1))
 name:∀(s:List UInt8)(n:Nat),l'' s<=100->n<100->aG C 29 [.str s,.int .i64 n] .nil (aJ (.str (s++cL n)))
theorem X2(l:N_)(i j:Nat){a:Nat}(h:a<=l'' l):(kW l i j a).2<=l'' l:=by
 unfold kW;split;exact zR l h;split;exact h;simp only;split;exact zR l (bU l 3 h);exact bU l 3 h
theorem xr(l:N_)(i:Nat){a:Nat}(h:a<=l'' l):∀j,(fC l i a j).2<=l'' l
 |0=>h
 |j+1=>X2 l i j (xr l i h j)
theorem iq(l:N_)(i a:Nat):∀j,(fC l i a j).1.length=j
 |0=>rfl
 |j+1=>by simp only[fC,auJ,auS,iq l i a j]
theorem d6(l:N_)(n i:Nat)(s:IP)(h:s.a<=l'' l):(fA l n i s).2<=l'' l/\(fA l n i s).1<=s.left:=by
 unfold fA;split;exact⟨bU l _ h,by have:=cM l (Om:0<s.left+1) s.a;omega⟩;exact⟨h,auG _⟩
theorem Fo(l:N_)(n i:Nat){a:Nat}(h:a<=l'' l):(gJ l n i a).2<=l'' l:=by
 unfold gJ;simp only;split;exact bU l 3 (zR l h);exact zR l h
theorem wj(l:N_)(n:Nat){a:Nat}(h:a<=l'' l):∀i,(iT l n a i).a<=l'' l/\(iT l n a i).left<=8/\(iT l n a i).start.length=i/\(iT l n a i).exit.length=i/\(iT l n a i).asU.length=i
 |0=>⟨h,auG _,rfl,rfl,rfl⟩
 |i+1=>by obtain⟨u,E,w,y,h5⟩:=wj l n h i;have A:=d6 l n i (iT l n a i) u;refine⟨?_,?_,?_,?_,?_⟩;exact xr l i (Fo l n i A.1) n;simp only[iT];omega;simp only[iT,auJ,auS,w];simp only[iT,auJ,auS,y];simp only[iT,auJ,auS,h5]
abbrev AD(l:List (List RF)):P2_:=l.map λr=>[frs r]
theorem A7(l:List (List RF)):Flat (AD l):=Flat.map l λx c i q s rs=>by
 simp only[auQ,avE,or_false]at i;subst i;rfl
abbrev dz(i l u:PV):aW:=.rows 4 [[.str [],i,l,u]]
abbrev Gp:aW:=.rows 4 [[.str [],.aE,.aE,.aE]]
def iG(o o4 o6 n left i:Nat)(w:PV)(j:Nat):PF:=((((((((n_.set 0 (.ptr o 2 0 0)).set 4 (.ptr o4 4 0 0)).set 5 (.int .i64 n)).set 6 (.ptr o6 4 0 0)).set 7 (.int .i64 left)).set 8 (.int .i64 i)).set 13 (w)).set 14 (.int .i64 j))
def dX(o o4 o6 n left i:Nat):PF:=((((((n_.set 0 (.ptr o 2 0 0)).set 4 (.ptr o4 4 0 0)).set 5 (.int .i64 n)).set 6 (.ptr o6 4 0 0)).set 7 (.int .i64 left)).set 8 (.int .i64 i))
theorem el{l:List RF}(h:l'' l<=1000):roomFor (jD l).length 1 56:=by
 unfold roomFor;rw[pQ];simp only[maxLen];omega
theorem Z2(Lb:xN C){l:N_}{v:PV}(T:Tp l v)(o o4 o6 n left i a:Nat)(ha:a<=l'' l)(hn:n<=100)(hi:i<n)(B:List BX)(L:List LI)(K:cH)(F:PF)(H:PH)
  (hF:(iG o o4 o6 n left i .aE 0).le F) (U:aQ H ((o,bF v a)::B) L)
  (hK:∀w A H',(iG o o4 o6 n left i w n).le A->aQ H' ((o,bF v (fC l i a n).2)::B) (L++[(w,3,jD (fC l i a n).1)])->K (.exit 2) A H') :
  aK.wp C (.loop OU) K F H:=by
 refine wp_loop (α:=T3_) (λt=>iG o o4 o6 n left i t.2.1 t.1) (λt=>t.2.2) (λt=>t.1<=n/\aQ t.2.2 ((o,bF v (fC l i a t.1).2)::B) (L++[(t.2.1,3,jD (fC l i a t.1).1)])) (λt=>n-t.1) (0,.aE,H) ⟨auK _,U.lJ 3⟩ hF b_ ?_;rintro⟨j,w,H0⟩ ⟨hj,U⟩;simp only at hj U ⊢;have S:=xr l i ha j;have η:=iq l i a j;have e1:i_.wrap ((i:Int)+1)=((i+1:Nat):Int):=dU Om;simp only[go_sem,OU,iG];by_cases hlt:j<n;have M:(j:Int)<(n:Nat):=Om;simp only[go_sem,M];refine aA (Lb.int 0 (by unfold dS;omega)) rfl ?_;simp only[go_sem];refine aS λp hp=>?_;have E:=U.new hp (.rows 3 [mD.cells]);simp only[go_sem,e1];have fin:∀(A:PF)(H':PH),(iG o o4 o6 n left i w j).le A->A 15=some (.ptr p 3 0 0)->aQ H' ((o,bF v (kW l i j (fC l i a j).2).2)::B++[(p,.rows 3 [(kW l i j (fC l i a j).2).1.cells])]) (L++[(w,3,jD (fC l i a j).1)]) ->
   aK.wp C (.region fk) (fX 3 (jB C (aK.wp C (.region fm)) (iF (λ(t:T3_)=>iG o o4 o6 n left i t.2.1 t.1) (λt=>t.2.2) (λt=>t.1<=n/\aQ t.2.2 ((o,bF v (fC l i a t.1).2)::B) (L++[(t.2.1,3,jD (fC l i a t.1).1)])) (λt=>n-t.1) (n-j) K))) A H':=by
  intro A H' y N V;have f0:A 0=some (.ptr o 2 0 0):=y 0 _ (by unfold iG;simp only[go_sem]);have f4:A 4=some (.ptr o4 4 0 0):=y 4 _ (by unfold iG;simp only[go_sem]);have f5:A 5=some (.j n):=y 5 _ (by unfold iG;simp only[go_sem]);have f6:A 6=some (.ptr o6 4 0 0):=y 6 _ (by unfold iG;simp only[go_sem]);have f7:A 7=some (.j left):=y 7 _ (by unfold iG;simp only[go_sem]);have f8:A 8=some (.j i):=y 8 _ (by unfold iG;simp only[go_sem]);have f13:A 13=some w:=y 13 _ (by unfold iG;simp only[go_sem]);have f14:A 14=some (.j j):=y 14 _ (by unfold iG;simp only[go_sem]);have ε:H' p=some (.rows 3 [(kW l i j (fC l i a j).2).1.cells]):=V.box (p,.rows 3 [(kW l i j (fC l i a j).2).1.cells]) bC;have β:(1:Nat)*3<=16777216:=by decide
  simp only[go_sem,fk,f13,N,ε,β];refine V.append (v:=w) (s:=3) (rows:=jD (fC l i a j).1) L.length (src:=[(kW l i j (fC l i a j).2).1.cells]) bC rfl (el Om) λw' H2 h2 _=>?_;rw[CZ,axS _ _ (auG _),awU]at h2;simp only[go_sem,fm,f14,wZz j];refine aF (α:=T3_) (j+1,w',H2) ⟨hlt,h2.sub (ayD ..) (avU.refl _)⟩ sO_ ?_ b_;unfold iG;exact Lq
 simp only[aK.wp,go_sem]at fin;have Z:∀x:RF,PH.set (PH.set H0 p (.rows 3 [mD.cells])) p (.rows 3 [x.cells])=PH.set H0 p (.rows 3 [x.cells]):=λx=>PH.set_set p _ _;have draw:∀(A:PF)(W:PH)(a1:Nat),a1<=l'' l->(iG o o4 o6 n left i w j).le A->A 15=some (.ptr p 3 0 0)->aQ W ((o,bF v a1)::B++[(p,.rows 3 [mD.cells])]) (L++[(w,3,jD (fC l i a j).1)])->kW l i j (fC l i a j).2=gW l a1->∀K',(∀Q H2,(iG o o4 o6 n left i w j).le Q->Q 15=some (.ptr p 3 0 0)->aQ H2 ((o,bF v (kW l i j (fC l i a j).2).2)::B++[(p,.rows 3 [(kW l i j (fC l i a j).2).1.cells])]) (L++[(w,3,jD (fC l i a j).1)])->K' Q H2) ->
   wpOps C fj K' A W:=by
  intro A W a1 δ y N E O K' γ;have f0:A 0=some (.ptr o 2 0 0):=y 0 _ (by unfold iG;simp only[go_sem]);simp only[go_sem,fj,f0];refine oK (Lb.sJ l v T o a1 δ) (E.at 0 rfl) rfl ?_;have J:aQ (W.set o (bF v (gW l a1).2)) ((o,bF v (gW l a1).2)::B++[(p,.rows 3 [mD.cells])]) (L++[(w,3,jD (fC l i a j).1)]):=E.set 0 rfl _;have ζ:=J.uZ;simp only[go_sem,N,ζ];refine γ _ _ ?_ (by simp only[go_sem,N]) ?_;have g:=λ(q:Nat) u h=>y q u h;unfold iG at g ⊢;refine d_ (d_ (d_ (d_ (d_ (d_ (d_ (d_ e_ ?_) ?_) ?_) ?_) ?_) ?_) ?_) ?_;simp only[go_sem,f0];simp only[go_sem,g 4 _ rfl];simp only[go_sem,g 5 _ rfl];simp only[go_sem,g 6 _ rfl];simp only[go_sem,g 7 _ rfl];simp only[go_sem,g 8 _ rfl];simp only[go_sem,g 13 _ rfl];simp only[go_sem,g 14 _ rfl];rw[O];exact J.xF (.rows 3 [(gW l a1).1.cells])
 by_cases Y:j=i+1;have O:kW l i j (fC l i a j).2=gW l (fC l i a j).2:=by unfold kW;rw[aD Y]
 simp only[go_sem,cI (Om:(j:Int)=((i+1:Nat):Int))];refine draw _ _ _ S (by unfold iG;exact Lq) rfl E O _ ?_;intro Q H2 k1 k2 k3;exact fin Q H2 k1 k2 k3;simp only[go_sem,bP (Om:¬(j:Int)=((i+1:Nat):Int))];by_cases c2:j=i;have O:kW l i j (fC l i a j).2=(mD,(fC l i a j).2):=by unfold kW;rw[aB Y,aD c2]
 simp only[go_sem,dM (Om:(j:Int)=(i:Int))];exact fin _ _ (by unfold iG;exact Lq) rfl (by rw[O];exact E);simp only[go_sem,eZ (Om:¬(j:Int)=(i:Int))];refine eG Lb.toHF T (o:=o) (n:=3) (a:=(fC l i a j).2) aU S rfl (E.at 0 rfl) ?_;have J:aQ _ ((o,bF v (aI l 3 (fC l i a j).2).2)::B++[(p,.rows 3 [mD.cells])]) (L++[(w,3,jD (fC l i a j).1)]):=E.set 0 rfl _;by_cases c3:(aI l 3 (fC l i a j).2).1=0;have O:kW l i j (fC l i a j).2=gW l (aI l 3 (fC l i a j).2).2:=by unfold kW;rw[aB Y,aB c2];simp only[c3,if_true]
 simp only[go_sem,cI (show(((aI l 3 (fC l i a j).2).1:Nat):Int)=0 by omega)];refine draw _ _ _ (bU l 3 S) (by unfold iG;exact Lq) rfl J O _ ?_;intro Q H2 k1 k2 k3;exact fin Q H2 k1 k2 k3;have O:kW l i j (fC l i a j).2=(mD,(aI l 3 (fC l i a j).2).2):=by unfold kW;rw[aB Y,aB c2];simp only[c3,if_false]
 simp only[go_sem,bP (show ¬(((aI l 3 (fC l i a j).2).1:Nat):Int)=0 by omega)];exact fin _ _ (by unfold iG;exact Lq) rfl (by rw[O];exact J);have M:¬(j:Int)<(n:Nat):=Om;have:j=n:=Om;subst this;simp only[go_sem,M];exact hK w _ _ (by unfold iG;exact Lq) U
abbrev vN(o o4 o6:Nat)(v i l u:PV)(a:Nat):List BX:=[(o,bF v a),(o4,Gp),(o6,dz i l u)]
abbrev AN(s:IP)(i l u:PV):List LI:=[(i,3,jD s.start),(l,1,AD s.asU),(u,3,jD s.exit)]
theorem Ut(Q:xN C){l:N_}{v:PV}(T:Tp l v)(o o4 o6 n i:Nat)(s:IP)(O:s.a<=l'' l)(hl:s.left<=8)(hn:n<=100)(hi:i<n)(B:List BX)(L:List LI)(rest:aK)(K:cH)(F:PF)(H:PH)
  (u:(dX o o4 o6 n s.left i).le F) (J:aQ H ((o,bF v s.a)::B) L)
  (y:∀A H',(dX o o4 o6 n (s.left-(fA l n i s).1) i).le A->A 9=some (.j ((fA l n i s).1:Nat))->aQ H' ((o,bF v (fA l n i s).2)::B) L->aK.wp C rest K A H') :
  aK.wp C (.seq (.region wm) (.seq (.seq (.region wn) (.cond (.tmp 29) (.region wq) .skip)) (.seq (.region XR) rest))) K F H:=by
 have f0:F 0=some (.ptr o 2 0 0):=u 0 _ (by unfold dX;simp only[go_sem]);have Y:F 4=some (.ptr o4 4 0 0):=u 4 _ (by unfold dX;simp only[go_sem]);have V:F 5=some (.j n):=u 5 _ (by unfold dX;simp only[go_sem]);have f6:F 6=some (.ptr o6 4 0 0):=u 6 _ (by unfold dX;simp only[go_sem]);have f7:F 7=some (.j s.left):=u 7 _ (by unfold dX;simp only[go_sem]);have W:F 8=some (.j i):=u 8 _ (by unfold dX;simp only[go_sem]);have S:i_.wrap ((i:Int)+1)=((i+1:Nat):Int):=dU Om;have Z:=(d6 l n i s O).2;have w:i_.wrap ((s.left:Int)-((fA l n i s).1:Int))=((s.left-(fA l n i s).1:Nat):Int):=wO_
 simp only[go_sem,wm,f7,wn,W,V,S];by_cases c:i+1<n;have E:((i+1:Nat):Int)<(n:Nat):=Om;have N:fA l n i s=aI l (s.left+1) s.a:=by unfold fA;rw[aD c]
 have U:i_.wrap ((s.left:Int)+1)=((s.left+1:Nat):Int):=dU Om;rw[N]at y w;simp only[go_sem,E,wq,f0,f7,U];refine eG Q.toHF T (o:=o) (n:=s.left+1) (a:=s.a) Om O rfl J.ajE ?_;have M:=J.ahM (bF v (aI l (s.left+1) s.a).2);simp only[go_sem,XR,f7,w];refine y _ _ ?_ rfl M;unfold dX;exact Lq;have E:¬((i+1:Nat):Int)<(n:Nat):=Om;have N:fA l n i s=(s.left,s.a):=by unfold fA;rw[aB c]
 rw[N]at y w;simp only at y w;simp only[go_sem,E,XR,f7,w];refine y _ _ ?_ rfl J;unfold dX;exact Lq
theorem P7(V:xN C){l:N_}{v:PV}(o o4 o6 n i left k a:Nat)(hk:k<=8)(hi:i<n)(hn:n<=100)(s:IP)(hs:l'' s.start=i)(U E J:PV)(B:List BX)(rest:aK)(K:cH)(F:PF)(H:PH)
  (A:(dX o o4 o6 n left i).le F) (W:F 9=some (.j k)) (hH:aQ H (vN o o4 o6 v U E J a++B) (AN s U E J))
  (hK:∀w S H' B',(dX o o4 o6 n left i).le S->aQ H' (vN o o4 o6 v w E J a++B') (AN { s with start:=s.start++[mkT (k:Nat) 8] } w E J)->aK.wp C rest K S H') :
  aK.wp C (.seq (.region ep) (.seq (.region fa) rest)) K F H:=by
 have f0:F 0=some (.ptr o 2 0 0):=A 0 _ (by unfold dX;simp only[go_sem]);have f4:F 4=some (.ptr o4 4 0 0):=A 4 _ (by unfold dX;simp only[go_sem]);have f5:F 5=some (.j n):=A 5 _ (by unfold dX;simp only[go_sem]);have f6:F 6=some (.ptr o6 4 0 0):=A 6 _ (by unfold dX;simp only[go_sem]);have f7:F 7=some (.j left):=A 7 _ (by unfold dX;simp only[go_sem]);have f8:F 8=some (.j i):=A 8 _ (by unfold dX;simp only[go_sem]);simp only[go_sem,ep,W];refine aA (V.fmk (k:Int) 8 (by unfold dS;omega) (by unfold dS;omega)) rfl ?_;unfold BY;rw[aB aU];simp only[go_sem];refine aS λp hp=>?_;have u:=hH.new hp (.rows 3 [(mkT (k:Nat) 8).cells]);have Y:=u.at 2 rfl;have Z:=u.uZ;have N:(1:Nat)*3<=16777216:=by decide
 have α:∀y,PH.set (PH.set H p (.rows 3 [[PV.bool false,PV.aE,PV.aE]])) p y=PH.set H p y:=λy=>PH.set_set p _ _;simp only[go_sem,fa,f6,Y,Z,N];refine u.append 0 (src:=[(mkT (k:Nat) 8).cells]) rfl rfl (el Om) λw H2 O Q=>?_;rw[CZ]at O Q;rw[pQ]at Q;obtain⟨q,rfl⟩:=Q bC;have M:=O.at 2 rfl;simp only[go_sem,M,auQ,avE,or_false,forall_eq];have h3:=O.set 2 rfl (dz (.osl q 3 0 (s.start++[mkT (k:Nat) 8]).length) E J);refine hK _ _ _ (B++[(p,.rows 3 [(mkT (k:Nat) 8).cells])]) ?_ h3;unfold dX;exact Lq
theorem Us(U:xN C){l:N_}{v:PV}(T:Tp l v)(o o4 o6 n i left a:Nat)(ha:a<=l'' l)(hi:i<n)(hn:n<=100)(s:IP)(hs:l'' s.exit=i)(y A Q:PV)(B:List BX)(rest:aK)(K:cH)(F:PF)(H:PH)
  (O:(dX o o4 o6 n left i).le F) (hH:aQ H (vN o o4 o6 v y A Q a++B) (AN s y A Q))
  (hK:∀N u H' B',(dX o o4 o6 n left i).le u->aQ H' (vN o o4 o6 v y A N (gJ l n i a).2++B') (AN { s with exit:=s.exit++[(gJ l n i a).1] } y A N)->aK.wp C rest K u H') :
  aK.wp C (.seq (.region fe) (.seq (.seq (.region ff) (.cond (.tmp 58) (.region fg) .skip)) (.seq (.region OV) rest))) K F H:=by
 have f0:F 0=some (.ptr o 2 0 0):=O 0 _ (by unfold dX;simp only[go_sem]);have f4:F 4=some (.ptr o4 4 0 0):=O 4 _ (by unfold dX;simp only[go_sem]);have f5:F 5=some (.j n):=O 5 _ (by unfold dX;simp only[go_sem]);have f6:F 6=some (.ptr o6 4 0 0):=O 6 _ (by unfold dX;simp only[go_sem]);have f7:F 7=some (.j left):=O 7 _ (by unfold dX;simp only[go_sem]);have f8:F 8=some (.j i):=O 8 _ (by unfold dX;simp only[go_sem]);have e1:i_.wrap ((i:Int)+1)=((i+1:Nat):Int):=dU Om;simp only[go_sem,fe,f0];refine oK (U.sJ l v T o a ha) (hH.at 0 rfl) rfl ?_;have β:=hH.set 0 rfl (bF v (gW l a).2);simp only[go_sem];refine aS λp hp=>?_;have J:=β.new hp (.rows 3 [(gW l a).1.cells]);simp only[go_sem,ff,f8,f5,e1];have fin:∀(u:PF)(H':PH),(dX o o4 o6 n left i).le u->u 12=some (.ptr p 3 0 0)->aQ H' (vN o o4 o6 v y A Q (gJ l n i a).2++B++[(p,.rows 3 [(gJ l n i a).1.cells])]) (AN s y A Q)->wpOps C OV (aK.wp C rest K) u H':=by
  intro u H' w W E;have q0:u 0=some (.ptr o 2 0 0):=w 0 _ (by unfold dX;simp only[go_sem]);have q4:u 4=some (.ptr o4 4 0 0):=w 4 _ (by unfold dX;simp only[go_sem]);have q5:u 5=some (.j n):=w 5 _ (by unfold dX;simp only[go_sem]);have q6:u 6=some (.ptr o6 4 0 0):=w 6 _ (by unfold dX;simp only[go_sem]);have q7:u 7=some (.j left):=w 7 _ (by unfold dX;simp only[go_sem]);have q8:u 8=some (.j i):=w 8 _ (by unfold dX;simp only[go_sem]);have g6:=E.at 2 rfl;have Z:=E.uZ;have α:(1:Nat)*3<=16777216:=by decide
  simp only[go_sem,OV,q6,g6,W,Z,α];refine E.append 2 (src:=[(gJ l n i a).1.cells]) rfl rfl (el Om) λN H2 h2 hw=>?_;rw[CZ]at h2 hw;rw[pQ]at hw;obtain⟨q,rfl⟩:=hw bC;have Y:=h2.at 2 rfl;simp only[go_sem,Y,auQ,avE,or_false,forall_eq];have h3:=h2.set 2 rfl (dz y A (.osl q 3 0 (s.exit++[(gJ l n i a).1]).length));refine hK _ _ _ (B++[(p,.rows 3 [(gJ l n i a).1.cells])]) ?_ h3;unfold dX;exact Lq
 by_cases c:i+1<n;have V:((i+1:Nat):Int)<(n:Nat):=Om;have γ:=zR l ha;simp only[go_sem,V,f0];refine eG U.toHF T (o:=o) (n:=3) (a:=(gW l a).2) aU γ rfl (J.at 0 rfl) ?_;have M:=J.set 0 rfl (bF v (aI l 3 (gW l a).2).2);by_cases c3:(aI l 3 (gW l a).2).1=0;have S:gJ l n i a=(mD,(aI l 3 (gW l a).2).2):=by unfold gJ;simp only[aD c,c3,if_true]
 have Z:=aQ.uZ (B:=vN o o4 o6 v y A Q (aI l 3 (gW l a).2).2++B) M;simp only[go_sem,cI (show(((aI l 3 (gW l a).2).1:Nat):Int)=0 by omega),fg];refine aA (U.int 0 (by unfold dS;omega)) rfl ?_;simp only[go_sem,Z];refine fin _ _ ?_ rfl ?_;unfold dX;exact Lq;rw[S];exact aQ.xF (B:=vN o o4 o6 v y A Q (aI l 3 (gW l a).2).2++B) M (.rows 3 [mD.cells]);have S:gJ l n i a=((gW l a).1,(aI l 3 (gW l a).2).2):=by unfold gJ;simp only[aD c,c3,if_false]
 simp only[go_sem,bP (show ¬(((aI l 3 (gW l a).2).1:Nat):Int)=0 by omega)];refine fin _ _ ?_ rfl ?_;unfold dX;exact Lq;rw[S];exact M;have V:¬((i+1:Nat):Int)<(n:Nat):=Om;have S:gJ l n i a=gW l a:=by unfold gJ;simp only[aB c]
 simp only[go_sem,V];refine fin _ _ ?_ rfl ?_;unfold dX;exact Lq;rw[S];exact J
def Xp(l:N_)(v:PV)(o fP a:Nat)(r:PV)(H:PH):Prop:=r=.agg (uT l fP a).1.cells/\H=h_.set o (bF v (uT l fP a).2)
theorem Vz{l:List (List RF)}(h:l'' l<=1000):roomFor (AD l).length 1 24:=by
 unfold roomFor;simp only[auD,maxLen];omega
theorem V0(l:List (List RF))(x:List RF):AD l++[[frs x]]=AD (l++[x]):=by simp[AD]
theorem P6(Lb:xN C){l:N_}{v:PV}(T:Tp l v)(o o4 o6 n left i a:Nat)(ha:a<=l'' l)(hn:n<=100)(hi:i<n)(s:IP)(hs:l'' s.asU=i)(J U O:PV)(B:List BX)(K:cH)(F:PF)(H:PH)
  (Q:(dX o o4 o6 n left i).le F) (hH:aQ H (vN o o4 o6 v J U O a++B) (AN s J U O))
  (hK:∀N M F' H' B',(dX o o4 o6 n left i).le F'->(∃q,M=.osl q 3 0 n)->aQ H' (vN o o4 o6 v J N O (fC l i a n).2++B') [(J,3,jD s.start),(N,1,AD s.asU++[[M]]),(O,3,jD s.exit),(M,3,jD (fC l i a n).1)]->K .normal F' H') :
  aK.wp C (.seq (.region fh) (.seq (.seq (.region fi) (.block 2 (.loop OU))) (.region fp))) K F H:=by
 have f0:F 0=some (.ptr o 2 0 0):=Q 0 _ (by unfold dX;simp only[go_sem]);have f4:F 4=some (.ptr o4 4 0 0):=Q 4 _ (by unfold dX;simp only[go_sem]);have f5:F 5=some (.j n):=Q 5 _ (by unfold dX;simp only[go_sem]);have f6:F 6=some (.ptr o6 4 0 0):=Q 6 _ (by unfold dX;simp only[go_sem]);have f7:F 7=some (.j left):=Q 7 _ (by unfold dX;simp only[go_sem]);have f8:F 8=some (.j i):=Q 8 _ (by unfold dX;simp only[go_sem]);simp only[go_sem,fh,fi];refine Z2 (C:=C) Lb T o o4 o6 n left i a ha hn hi ([(o4,Gp),(o6,dz J U O)]++B) (AN s J U O) _ _ H ?_ hH ?_;unfold iG;exact lE6 f0 f4 f5 f6 f7 f8;intro w A H1 u E;have y:=iq l i a n;have hw:∃q,w=.osl q 3 0 n:=by
  rcases E.own (v:=w) 3 rfl with⟨S,_⟩|⟨q,rs,S,_⟩
  have:=congrArg List.length S;rw[pQ,y]at this;simp at this;omega;rw[pQ,y]at S;exact⟨q,S⟩
 obtain⟨q,rfl⟩:=hw;have g0:A 0=some (.ptr o 2 0 0):=u 0 _ (by unfold iG;simp only[go_sem]);have g4:A 4=some (.ptr o4 4 0 0):=u 4 _ (by unfold iG;simp only[go_sem]);have g5:A 5=some (.j n):=u 5 _ (by unfold iG;simp only[go_sem]);have g6:A 6=some (.ptr o6 4 0 0):=u 6 _ (by unfold iG;simp only[go_sem]);have g7:A 7=some (.j left):=u 7 _ (by unfold iG;simp only[go_sem]);have g8:A 8=some (.j i):=u 8 _ (by unfold iG;simp only[go_sem]);have W:A 13=some (.osl q 3 0 n):=u 13 _ (by unfold iG;simp only[go_sem]);have b6:=E.at 2 rfl;have Y:(1:Nat)*1<=16777216:=by decide
 simp only[go_sem,fp,g6,b6,W,Y,auQ,avE,or_false,forall_eq];refine E.append 1 (src:=[[.osl q 3 0 n]]) rfl Sq (Vz Om) λN H2 h2 α=>?_;obtain⟨q2,rfl⟩:=α bC;have V:=h2.at 2 rfl;simp only[go_sem,V,auQ,avE,or_false,forall_eq];have h3:=h2.set 2 rfl (dz J (.osl q2 1 0 (AD s.asU++[[PV.osl q 3 0 n]]).length) O);have Z:(AD s.asU++[[(PV.osl q 3 0 n:PV)]]).length=l'' s.asU+1:=by simp
 rw[Z]at h3 ⊢;refine hK (.osl q2 1 0 (l'' s.asU+1)) (.osl q 3 0 n) _ _ B ?_ ⟨q,rfl⟩ h3;unfold dX;exact lE6 g0 g4 g5 g6 g7 g8
theorem agB(Q:xN C){l:N_}{v:PV}(T:Tp l v)(o fP a:Nat)(hm:0<fP)(κ:fP<=50)(ha:a<=l'' l):Ab.wp C (aX lC.res (Xp l v o fP a)) (g_ [.ptr o 2 0 0,.j fP]) (h_.set o (bF v a)):=by
 have h0:aQ (h_.set o (bF v a)) [(o,bF v a)] []:=aQ.nil.new (H:=h_) rfl (bF v a);simp only[go_sem,Ab,lC];refine aS λo4 θ=>?_;have O:=h0.new θ Gp;simp only[go_sem];refine eG Q.toHF T (o:=o) (n:=fP) (a:=a) Om ha Sq (O.at 0 rfl) ?_;have h2:=O.set 0 rfl (bF v (aI l fP a).2);have hN:=cM l hm a;have ζ:=bU l fP ha;have e1:i_.wrap (1+((aI l fP a).1:Int))=((1+(aI l fP a).1:Nat):Int):=wO_
 have η:∀s:IP,s=iT l (1+(aI l fP a).1) (aI l fP a).2 (1+(aI l fP a).1)->uT l fP a=(⟨[],s.start,s.asU,s.exit⟩,s.a):=λs hs=>by rw[hs];rfl
 have ε:∀r H,Xp l v o fP a r H↔r=.agg (uT l fP a).1.cells/\H=h_.set o (bF v (uT l fP a).2):=λ_ _=>Iff.rfl;generalize hn:1+(aI l fP a).1=n at *
 generalize hb:(aI l fP a).2=b at *
 have μ:0<n:=Om;have u:n<=100:=Om;simp only[go_sem,e1];refine aS λo6 ι=>?_;have h3:=((h2.new ι Gp).lJ 3).lJ 1;have h4:=h3.lJ 3;simp only[go_sem];refine wp_loop (α:=Nat × PV × PV × PV × PH) (λt=>dX o o4 o6 n (iT l n b t.1).left t.1) (λt=>t.2.2.2.2)
  (λt=>t.1<=n/\aQ t.2.2.2.2 (vN o o4 o6 v t.2.1 t.2.2.1 t.2.2.2.1 (iT l n b t.1).a) (AN (iT l n b t.1) t.2.1 t.2.2.1 t.2.2.2.1)) (λt=>n-t.1) (0,.aE,.aE,.aE,_) ⟨auK _,h4⟩ ?_ b_ ?_
 unfold dX
 (repeat' (first|exact e_|refine d_ ?_ ?_))<;>first|(simp only[go_sem,iT]<;>rfl)|rfl
 rintro⟨i,w1,S,U,H0⟩ ⟨hi,M⟩;simp only at hi M ⊢;obtain⟨k1,k2,k3,k4,k5⟩:=wj l n ζ i;simp only[go_sem,dX];by_cases hlt:i<n;have J:(i:Int)<(n:Nat):=Om;have K:iT l n b (i+1)=⟨(iT l n b i).start++[mkT ((fA l n i (iT l n b i)).1:Nat) 8],(iT l n b i).exit++[(gJ l n i (fA l n i (iT l n b i)).2).1],(iT l n b i).asU++[(fC l i (gJ l n i (fA l n i (iT l n b i)).2).2 n).1],(iT l n b i).left-(fA l n i (iT l n b i)).1,(fC l i (gJ l n i (fA l n i (iT l n b i)).2).2 n).2⟩:=rfl;have kl:=d6 l n i (iT l n b i) k1;have ke:=Fo l n i kl.1;generalize hs:iT l n b i=s at *
 simp only[go_sem,J];refine Ut (C:=C) Q T o o4 o6 n i s k1 k2 u hlt [(o4,Gp),(o6,dz w1 S U)] (AN s w1 S U) _ _ _ H0 (by unfold dX;exact Lq) M ?_;intro F1 H1 V f9 Z;refine P7 (C:=C) (l:=l) Q o o4 o6 n i _ (fA l n i s).1 (fA l n i s).2 Om hlt u s k3 w1 S U [] _ _ F1 H1 V f9 Z ?_;intro y F2 H2 B2 W β;refine Us (C:=C) Q T o o4 o6 n i _ (fA l n i s).2 kl.1 hlt u { s with start:=s.start++[mkT ((fA l n i s).1:Nat) 8] } k4 y S U B2 _ _ F2 H2 W β ?_;intro A F3 H3 B3 Y γ;refine P6 (C:=C) Q T o o4 o6 n _ i (gJ l n i (fA l n i s).2).2 ke u hlt { s with start:=s.start++[mkT ((fA l n i s).1:Nat) 8],exit:=s.exit++[(gJ l n i (fA l n i s).2).1] } k5 y S A B3 _ F3 H3 Y γ ?_;rintro F ν N H4 B4 E ⟨q,rfl⟩ δ;have g0:N 0=some (.ptr o 2 0 0):=E 0 _ (by unfold dX;simp only[go_sem]);have g4:N 4=some (.ptr o4 4 0 0):=E 4 _ (by unfold dX;simp only[go_sem]);have g5:N 5=some (.j n):=E 5 _ (by unfold dX;simp only[go_sem]);have g6:N 6=some (.ptr o6 4 0 0):=E 6 _ (by unfold dX;simp only[go_sem]);have g7:N 7=some (.j (s.left-(fA l n i s).1:Nat)):=E 7 _ (by unfold dX;simp only[go_sem]);have g8:N 8=some (.j i):=E 8 _ (by unfold dX;simp only[go_sem]);obtain⟨rs,z1,z2,z3,z4,z5⟩:=δ.frz 3 rfl;have y1:=z4 0 _ aU rfl;have y2:=z4 1 _ aU rfl;have y3:=z4 2 _ aU rfl;simp only at y1 y2 y3;have y4:=T.frz q 3 rs;simp only[go_sem,g8,wZz i];refine zx (i+1,y,F,A,H4.frz q 3 rs) z1 ⟨hlt,?_⟩ sO_ ?_ b_;rw[K];have eB:(vN o o4 o6 v y F A (fC l i (gJ l n i (fA l n i s).2).2 n).2).map (λb=>(b.1,b.2.frz q 3 rs))=vN o o4 o6 v y F A (fC l i (gJ l n i (fA l n i s).2).2 n).2:=by simp only[avH,avY,aW.frz,y1,y2,y3,y4];rfl
 have eL:([(y,3,jD (s.start++[mkT ((fA l n i s).1:Nat) 8])),(F,1,AD s.asU++[[.osl q 3 0 n]]),(A,3,jD (s.exit++[(gJ l n i (fA l n i s).2).1]))]:List LI).map (λx=>(x.1,x.2.1,x.2.2.map λr=>r.map (PV.cZ q 3 rs))) =
   AN ⟨s.start++[mkT ((fA l n i s).1:Nat) 8],s.exit++[(gJ l n i (fA l n i s).2).1],s.asU++[(fC l i (gJ l n i (fA l n i s).2).2 n).1],s.left-(fA l n i s).1,(fC l i (gJ l n i (fA l n i s).2).2 n).2⟩ y F A:=by
  have e2:(AD s.asU++[[PV.osl q 3 0 n]]).map (λr=>r.map (PV.cZ q 3 rs))=AD (s.asU++[(fC l i (gJ l n i (fA l n i s).2).2 n).1]):=by rw[avD,A7,avH,avY,avH,avY,z2,V0]
  show([(y,3,(jD (s.start++[mkT ((fA l n i s).1:Nat) 8])).map (λr=>r.map (PV.cZ q 3 rs))),(F,1,(AD s.asU++[[PV.osl q 3 0 n]]).map (λr=>r.map (PV.cZ q 3 rs))),(A,3,(jD (s.exit++[(gJ l n i (fA l n i s).2).1])).map (λr=>r.map (PV.cZ q 3 rs)))]:List LI)=_;rw[NP,e2,NP]
 rw[<-eB,<-eL];exact z5.sub (by rw[avD];exact ayD ..) (avU.refl _);rw[K];exact lE6 g0 g4 g5 g6 g7 g8;have J:¬(i:Int)<(n:Nat):=Om;have:i=n:=Om;subst this;simp only[go_sem,J];have b4:=M.at 1 rfl;have b6:=M.at 2 rfl;have osl:∀{w:PV}{z:Nat}{rows:P2_},l'' rows=i->cF H0 z w rows->∃q,w=.osl q z 0 i:=by
  intro w z rows hr hO;rcases hO with⟨O,_⟩|⟨q,rs,O,_⟩
  rw[O]at hr;simp at hr;omega;exact⟨q,by rw[O,hr]⟩
 obtain⟨q1,rfl⟩:=osl (by rw[pQ,k3]) (M.own 0 rfl);obtain⟨q2,rfl⟩:=osl (by rw[auD,k5]) (M.own 1 rfl);obtain⟨q3,rfl⟩:=osl (by rw[pQ,k4]) (M.own 2 rfl);have hR:=η (iT l i b i) rfl;simp only[go_sem,b6,b4,auQ,avE,or_false,forall_eq,forall_eq_or_imp];have x1:=M.set 1 rfl (dz (.osl q1 3 0 i) (.osl q2 1 0 i) (.osl q3 3 0 i));obtain⟨r1,s1,s2,s3,s4,s5⟩:=x1.frz 0 rfl;have u2:=s4 1 _ aU rfl;have u3:=s4 2 _ aU rfl;simp only at u2 u3;have u4:=T.frz q1 3 r1;obtain⟨r2,t1,t2,t3,t4,t5⟩:=s5.frz 0 rfl;have m3:=t4 1 _ aU rfl;simp only at m3;have m4:=T.frz q2 1 r2;obtain⟨r3,n1,n2,n3,n4,n5⟩:=t5.frz 0 rfl;have n4:=T.frz q3 3 r3;refine FA (vs:=[.agg [.str [],.osl q1 3 0 i,.osl q2 1 0 i,.osl q3 3 0 i]]) (.inr rfl) ?_ (.step s1 (.step t1 (.step n1 (.done (H2:=h_.set o (bF v (iT l i b i).a)) ?_ (c_ a_ ?_)))));simp only[go_sem];rw[ε,hR];refine⟨?_,rfl⟩;simp only[bO,PV.frz,PV.rG,avH,avY,s2,u2,u3,t2,m3,n2];simp only[PV.cZ,NP _ _ _ _,A7 _ _ _ _];have:=n5.at 0 rfl;rw[this];simp only[aW.frz,avH,avY,u4,m4,n4];rfl
structure qG(C:Ctx):Prop extends xN C where
 law:∀(l:N_)(v:PV),Tp l v->∀(o fP a:Nat),0<fP->fP<=50->a<=l'' l->aG C 2 [.ptr o 2 0 0,.int .i64 fP] (h_.set o (bF v a)) (Xp l v o fP a)
structure GOk(l:N_)(asP:Nat)(s:GS):Prop where
 asY:l'' s.asY<=35
 atI:l'' s.atI<=asP
 a:s.a<=l'' l
theorem di{l:N_}{mc asP dom:Nat}{s:GS}(h:GOk l asP s):∀i,GOk l asP (jQ l mc asP dom s i)/\(jQ l mc asP dom s i).asY=s.asY
 |0=>⟨h,rfl⟩
 |i+1=>by obtain⟨⟨u,A,w⟩,y⟩:=di (mc:=mc) (dom:=dom) h i;simp only[jQ];split;exact⟨⟨u,by simp only[auJ,auS];omega,bU l mc w⟩,y⟩;exact⟨⟨u,A,w⟩,y⟩
theorem L9{l:N_}{level dom asP:Nat}{s:GS}(h:GOk l asP s)(i:sP asP s=false):GOk l asP (pC l level dom s)/\∃x:cQ,(pC l level dom s).asY=s.asY++[x]/\x.level=(level:Int)/\x.parent=(dom:Int):=by
 obtain⟨y,u,w⟩:=h;unfold sP at i;rw[Bool.or_eq_false_iff]at i;have A:=of_decide_eq_false i.2;refine⟨⟨?_,u,?_⟩,_,rfl,rfl,rfl⟩;simp only[pC,auJ,auS];omega;have a1:=bU l 3 (bU l 16 w);simp only[pC];split;exact bU l 6 a1;exact a1
theorem dj{l:N_}{level asP dom:Nat}{rec:Nat->GS->GS}(w:∀d t,GOk l asP t->GOk l asP (rec d t)/\∃u,(rec d t).asY=t.asY++u){s:GS}(h:GOk l asP s) :
  ∀i,GOk l asP (gS l level asP dom rec s i)/\∃u,(gS l level asP dom rec s i).asY=s.asY++u
 |0=>⟨h,[],by simp[gS]⟩
 |i+1=>by obtain⟨y,u,A⟩:=dj w h i;simp only[gS];split;exact⟨y,u,A⟩;rename_i E;obtain⟨g1,x,g2,-⟩:=L9 (level:=level) (dom:=dom) y (by simpa using E);obtain⟨k1,J,k2⟩:=w ((pC l level dom (gS l level asP dom rec s i)).asY.length-1) _ g1;exact⟨k1,u++[x]++J,by rw[k2,g2,A];simp⟩
theorem FW{l:N_}{mc asP:Nat}:∀(k dom:Nat){s:GS},GOk l asP s->GOk l asP (fK l mc asP k dom s)/\∃u,(fK l mc asP k dom s).asY=s.asY++u
 |0,dom,s,h=>by have i:GOk l asP { s with a:=(aI l 2 s.a).2 }:=⟨h.asY,h.atI,bU l 2 h.a⟩;obtain⟨w,y⟩:=di (mc:=mc) (dom:=dom) i (1+(aI l 2 s.a).1);exact⟨w,[],by simp only[fK];rw[y];simp⟩
 |k+1,dom,s,h=>by have i:GOk l asP { s with a:=(aI l 2 s.a).2 }:=⟨h.asY,h.atI,bU l 2 h.a⟩;exact dj (level:=4-k) (dom:=dom) (λd t A=>FW k d A) i (if 4-k=2 then 1 else 1+(aI l 2 s.a).1)
theorem Ph {l : N_} {level asP dom : Nat} {rec : Nat -> GS -> GS} {s : GS} {i : Nat} (h : sP asP (gS l level asP dom rec s i) = true) : ∀ n, i <= n -> gS l level asP dom rec s n = gS l level asP dom rec s i := by
  intro n hn
  induction n with
  | zero => have : i = 0 := Om
            subst this; rfl
  | succ n ih =>
    rcases avF n i with h' | h'
    · have : i = n + 1 := Om
      subst this; rfl
    · have e := ih h'
      simp only [gS];rw [e, aD h]
def mkS(l:N_)(v:PV):Spec:=λname vs=>match name,vs with
 |29,[.str s,.int _ i]=>some ([],λ_=>aJ (.str (s++cL i.toNat)))
 |47,[.int _ n]=>some ([],λ_=>aJ (.agg (mkT n 1).cells))
 |4,[.ptr o _ _ _,.int _ n]=>some ([o],λu r H'=>∀a,u o=some (bF v a)->jp l v o n.toNat a r H')
 |_,_=>none
section
variable {C:Ctx} {F:PF} {H Hs:PH} {l:N_} {v:PV} {o a:Nat}
theorem vZ(A:HF C)(T:Tp l v){n:Nat}{st:Bool}{args:List aP}{d:O_}{K:K_}(M:n<=1000000)(E:a<=l'' l)(i:aP.evs F args=some [.ptr o 2 0 0,.j n])(N:H o=some (bF v a))
  (u:Hs.le (H.set o (bF v (aI l n a).2))) (J:K (F.put d (.j ((aI l n a).1:Nat))) (H.set o (bF v (aI l n a).2))):dOp C Hs (mkS l v) st (.call 4 args) d K F H:=by
 refine E8 (x:=bF v a) (y:=bF v (aI l n a).2) (r:=.j ((aI l n a).1:Nat)) (R:=λw r H'=>∀a,w o=some (bF v a)->jp l v o n a r H') rfl N (A.next l v T o n a M E) ?_ ?_ i u J;intro b hb;rw[cA]at hb;injection hb with hb
 injection hb with _ hb
 injection hb with hb _
 injection hb with _ hb
 injection hb with hb _
 injection hb with _ hb
 have:a=b:=Om;subst this;exact⟨rfl,rfl⟩;intro r' H' O;exact O a (by rw[cA])
theorem NF(w:xN C){s:List UInt8}{n:Nat}{st:Bool}{args:List aP}{d:O_}{K:K_}(E:l'' s<=100)(A:n<100)(i:aP.evs F args=some [.str s,.j n])(u:Hs.le H)(y:K (F.put d (.str (s++cL n))) H) :
  dOp C Hs (mkS l v) st (.call 29 args) d K F H:=
 cB (v:=.str (s++cL n)) rfl (w.name s n E A) i u y
theorem aeE(w:HF C){n:Int}{st:Bool}{args:List aP}{d:O_}{K:K_}(A:dS n)(i:aP.evs F args=some [.j n])(u:Hs.le H)(y:K (F.put d (.agg (mkT n 1).cells)) H) :
  dOp C Hs (mkS l v) st (.call 47 args) d K F H:=
 cB (v:=.agg (mkT n 1).cells) rfl (w.int n A) i u y
end
theorem cF.mB{H:PH}{s:Nat}{v:PV}{rows:P2_}(h:cF H s v rows):PV.mB v=some (.j (l'' rows:Nat)):=by
 rcases h with⟨rfl,rfl⟩|⟨q,rs,rfl,_⟩<;>rfl
abbrev mV(l:List cQ):P2_:=l.map cQ.cells
abbrev pO(l:List eE):P2_:=l.map eE.cells
abbrev flB(ext wl l i u wp wv:PV):aW:=.rows 7 [[ext,wl,l,i,u,wp,wv]]
structure GE where
 o:Nat
 fo:Nat
 qm:Nat
 ext:PV
 wl:PV
 wp:PV
 wv:PV
abbrev GE.boxes(G:GE)(v:PV)(mc:Nat)(i l:PV)(a:Nat):List BX:=[(G.o,bF v a),(G.fo,flB G.ext G.wl (.osl G.qm 4 0 mc) i l G.wp G.wv)]
abbrev oZ(s:GS)(i l:PV):List LI:=[(i,7,mV s.asY),(l,3,pO s.atI)]
def gK(G:GE)(dom asP level n i:Nat):PF:=(((((((n_.set 0 (.ptr G.o 2 0 0)).set 1 (.ptr G.fo 7 0 0)).set 2 (.int .i64 dom)).set 3 (.int .i64 asP)).set 8 (.int .i64 level)).set 9 (.int .i64 n)).set 10 (.int .i64 i))
theorem cF.one{H:PH}{s:Nat}{v:PV}{rows:P2_}(h:cF H s v rows)(i:0<l'' rows):∃q,v=.osl q s 0 rows.length:=by
 rcases h with⟨rfl,_⟩|⟨q,rs,rfl,_⟩
 simp at i;exact⟨q,rfl⟩
theorem Hd(Y:qG C){l:N_}{v:PV}(T:Tp l v)(G:GE)(mc asP dom n:Nat)(δ:0<mc)(β:mc<=1000)(γ:asP<=60)(hn:n<=10)(s:GS)(hs:GOk l asP s)(y E:PV)(K:cH)(F:PF)(H:PH)
  (hF:(gK G dom asP 5 n 0).le F) (A:aQ H (G.boxes v mc y E s.a) (oZ s y E))
  (hK:∀Q M F' H',aQ H' (G.boxes v mc Q M (jQ l mc asP dom s n).a) (oZ (jQ l mc asP dom s n) Q M)->K (.exit 0) F' H') :
  aK.wp C (.loop BP) K F H:=by
 refine wp_loop (α:=Nat × PV × PV × PH) (λt=>gK G dom asP 5 n t.1) (λt=>t.2.2.2) (λt=>t.1<=n/\aQ t.2.2.2 (G.boxes v mc t.2.1 t.2.2.1 (jQ l mc asP dom s t.1).a) (oZ (jQ l mc asP dom s t.1) t.2.1 t.2.2.1)) (λt=>n-t.1) (0,y,E,H) ⟨auK _,A⟩ hF b_ ?_;rintro⟨i,y,E,W⟩ ⟨hi,A⟩;simp only at hi A ⊢;obtain⟨U,-⟩:=di (mc:=mc) (dom:=dom) hs i;have u:jQ l mc asP dom s (i+1)=(if(jQ l mc asP dom s i).atI.length<asP then{ jQ l mc asP dom s i with atI:=(jQ l mc asP dom s i).atI++[⟨[100]++cL (jQ l mc asP dom s i).atI.length,((aI l mc (jQ l mc asP dom s i).a).1:Nat),(dom:Nat)⟩],a:=(aI l mc (jQ l mc asP dom s i).a).2 }else jQ l mc asP dom s i):=rfl;simp only[go_sem,BP,gK];by_cases hlt:i<n;have w:(i:Int)<(n:Nat):=Om;generalize hg:jQ l mc asP dom s i=g at *
 have b1:=A.at 1 rfl;have V:=(A.own 1 rfl).mB;rw[auD]at V;have Z:=wZz i;simp only[go_sem,w,show(((5:Nat):Int)==5)=true from rfl,b1,V];by_cases hc:l'' g.atI<asP;have J:(l'' g.atI:Int)<(asP:Nat):=Om;rw[aD hc]at u;simp only[go_sem,J];have O:(h_.set G.fo (flB G.ext G.wl (.osl G.qm 4 0 mc) y E G.wp G.wv)).le W:=c_ a_ b1;refine bV (h_.set G.fo (flB G.ext G.wl (.osl G.qm 4 0 mc) y E G.wp G.wv)) (mkS l v) O ?_;simp only[go_sem,b1,V];refine NF Y.toxN (s:=[100]) (n:=l'' g.atI) aU (by have:=U.atI;omega) rfl O ?_;simp only[go_sem];have ho:=A.at 0 rfl;have h1:=A.set 0 rfl (bF v (aI l mc g.a).2);have S:=h1.at 1 rfl;refine vZ Y.toHF T (o:=G.o) (n:=mc) (a:=g.a) Om U.a rfl ho (c_ a_ S) ?_;have N:(1:Nat)*3<=16777216:=by decide
 simp only[go_sem,N,auQ,avE,or_false,forall_eq,forall_eq_or_imp];refine h1.append 1 (src:=[(⟨[100]++cL g.atI.length,((aI l mc g.a).1:Nat),(dom:Nat)⟩:eE).cells]) rfl rfl (by unfold roomFor;rw[auD];have:=U.atI;simp only[auS,maxLen];omega) λM H2 h2 hw=>?_;obtain⟨q,rfl⟩:=hw bC;have b2:=h2.at 1 rfl;refine⟨c_ a_ b2,?_⟩;refine bV .nil dY a_ ?_;simp only[go_sem,b2,auQ,avE,or_false,forall_eq];have h3:=h2.set 1 rfl (flB G.ext G.wl (.osl G.qm 4 0 mc) y (.osl q 3 0 (pO g.atI++[(⟨[100]++cL g.atI.length,((aI l mc g.a).1:Nat),(dom:Nat)⟩:eE).cells]).length) G.wp G.wv);refine⟨a_,?_⟩;simp only[go_sem,Z];refine aF (i+1,y,.osl q 3 0 (pO g.atI++[(⟨[100]++cL g.atI.length,((aI l mc g.a).1:Nat),(dom:Nat)⟩:eE).cells]).length,_) ⟨hlt,?_⟩ sO_ ?_ b_;rw[u];have e:pO (g.atI++[(⟨[100]++cL g.atI.length,((aI l mc g.a).1:Nat),(dom:Nat)⟩:eE)])=pO g.atI++[(⟨[100]++cL g.atI.length,((aI l mc g.a).1:Nat),(dom:Nat)⟩:eE).cells]:=by simp[pO]
 unfold oZ;simp only;rw[e];exact h3;exact Lq;have J:¬(l'' g.atI:Int)<(asP:Nat):=Om;rw[aB hc]at u;simp only[go_sem,J,Z];refine aF (i+1,y,E,W) ⟨hlt,by rw[u];exact A⟩ sO_ ?_ b_;exact Lq;have w:¬(i:Int)<(n:Nat):=Om;have:i=n:=Om;subst this;simp only[go_sem,w];exact hK y E _ _ A
def Nu(G:GE)(v:PV)(mc:Nat)(s':GS)(r:PV)(B':List BX)(L':List LI):Prop:=r=.tup []/\∃i l,B'=G.boxes v mc i l s'.a/\L'=oZ s' i l
def jn(C:Ctx)(l:N_)(v:PV)(mc asP k:Nat):Prop:=
 ∀(G:GE)(u w:PV)(s:GS)(dom:Nat)(x:cQ),GOk l asP s->s.asY[dom]?=some x->x.level=4-(k:Int)->∀i,aQ i (G.boxes v mc u w s.a) (oZ s u w) ->
  aG C 7 [.ptr G.o 2 0 0,.ptr G.fo 7 0 0,.int .i64 dom,.int .i64 asP] i (λr H'=>∃B' L',Nu G v mc (fK l mc asP k dom s) r B' L'/\aQ H' B' L')
theorem Uh{lv:Nat}(h:lv<=4):([45,115,114,107,109]:List UInt8)[lv]?=some (oL lv):=by
 match lv,h with
 |0,_=>rfl
 |1,_=>rfl
 |2,_=>rfl
 |3,_=>rfl
 |4,_=>rfl
theorem ZW{l:N_}{v:PV}(G:GE)(mc asP dom lv n i k p:Nat)(γ:lv=4-k)(hk:k<4)(A:jn C l v mc asP k)(g:GS)(x:cQ)(a:Nat)(Z:GOk l asP { g with asY:=g.asY++[x],a:=a })(hx:x.level=(lv:Nat))(wd y:PV)(β:asP<=60)(K:cH)(F:PF)(H:PH)
  (u:(gK G dom asP lv n i).le F) (f11:F 11=some (.ptr p 7 0 0)) (N:aQ H (G.boxes v mc wd y a++[(p,.rows 7 [x.cells])]) (oZ g wd y))
  (hK:∀w E W H',(gK G dom asP lv n i).le W->aQ H' (G.boxes v mc w E (fK l mc asP k g.asY.length { g with asY:=g.asY++[x],a:=a }).a) (oZ (fK l mc asP k g.asY.length { g with asY:=g.asY++[x],a:=a }) w E)->K .normal W H') :
  aK.wp C (.draw UC) (jB C (aK.wp C (.region UD)) K) F H:=by
 have f0:F 0=some (.ptr G.o 2 0 0):=u 0 _ (by unfold gK;simp only[go_sem]);have f1:F 1=some (.ptr G.fo 7 0 0):=u 1 _ (by unfold gK;simp only[go_sem]);have f2:F 2=some (.j dom):=u 2 _ (by unfold gK;simp only[go_sem]);have f3:F 3=some (.j asP):=u 3 _ (by unfold gK;simp only[go_sem]);have f8:F 8=some (.j lv):=u 8 _ (by unfold gK;simp only[go_sem]);have f9:F 9=some (.j n):=u 9 _ (by unfold gK;simp only[go_sem]);have α:F 10=some (.j i):=u 10 _ (by unfold gK;simp only[go_sem]);have S:=Z.asY;simp only[auJ,auS]at S;have b1:=N.at 1 rfl;have b2:=N.at 2 rfl;have J:(1:Nat)*7<=16777216:=by decide
 refine bV .nil dY a_ ?_;simp only[go_sem,UC,f1,f11,b1,b2,J,auQ,avE,or_false,forall_eq,forall_eq_or_imp];refine N.append 0 (src:=[x.cells]) rfl rfl (by unfold roomFor;rw[auD];simp only[auS,maxLen];omega) λw H2 M hw=>?_;obtain⟨q,rfl⟩:=hw bC;have hl:(mV g.asY++[x.cells]).length=l'' g.asY+1:=by simp
 rw[hl]at M ⊢;have c1:=M.at 1 rfl;refine⟨a_,?_⟩;simp only[go_sem,c1,auQ,avE,or_false,forall_eq];have Y:=M.set 1 rfl (flB G.ext G.wl (.osl G.qm 4 0 mc) (.osl q 7 0 (l'' g.asY+1)) y G.wp G.wv);have c2:=Y.at 1 rfl;refine⟨a_,?_⟩;have e:mV (g.asY++[x])=mV g.asY++[x.cells]:=by simp[mV]
 have ew:i_.wrap (((l'' g.asY+1:Nat):Int)-1)=(l'' g.asY:Int):=wO_
 simp only[go_sem,UD,f0,f1,f3,ew];have h4:aQ (H2.set G.fo (flB G.ext G.wl (.osl G.qm 4 0 mc) (.osl q 7 0 (l'' g.asY+1)) y G.wp G.wv)) (G.boxes v mc (.osl q 7 0 (l'' g.asY+1)) y a++[(p,.rows 7 [x.cells])]) (oZ { g with asY:=g.asY++[x],a:=a } (.osl q 7 0 (l'' g.asY+1)) y++[]):=by unfold oZ;simp only;rw[e];exact Y
 refine KB h4 (λH0 Q=>A G _ y { g with asY:=g.asY++[x],a:=a } g.asY.length x Z bC (by rw[hx];omega) H0 Q) rfl ?_;rintro r B' L' H' ⟨rfl,U,V,rfl,rfl⟩ O;refine hK U V _ _ ?_ (O.sub (ayD ..) (by rw[awD];exact avU.refl _));unfold gK;exact Lq
theorem RW(Z:qG C){l:N_}{v:PV}(T:Tp l v)(G:GE)(mc asP dom n k:Nat)(hk:k<4)(β:asP<=60)(hn:n<=10)(V:jn C l v mc asP k)(s:GS)(hs:GOk l asP s)(η:0<l'' s.asY)(S U:PV)(K:cH)(F:PF)(H:PH)
  (hF:(gK G dom asP (4-k) n 0).le F) (M:aQ H (G.boxes v mc S U s.a) (oZ s S U))
  (hK:∀e E J A H',(e=.exit 0\/e=.ret)->aQ H' (G.boxes v mc E J (gS l (4-k) asP dom (fK l mc asP k) s n).a) (oZ (gS l (4-k) asP dom (fK l mc asP k) s n) E J)->K e A H') :
  aK.wp C (.loop BP) K F H:=by
 obtain⟨lv,Y⟩:∃lv,lv=4-k:=⟨_,rfl⟩;rw[<-Y]at hF hK;refine wp_loop (α:=Nat × PV × PV × PH) (λt=>gK G dom asP lv n t.1) (λt=>t.2.2.2) (λt=>t.1<=n/\aQ t.2.2.2 (G.boxes v mc t.2.1 t.2.2.1 (gS l lv asP dom (fK l mc asP k) s t.1).a) (oZ (gS l lv asP dom (fK l mc asP k) s t.1) t.2.1 t.2.2.1)) (λt=>n-t.1) (0,S,U,H) ⟨auK _,M⟩ hF b_ ?_;rintro⟨i,S,U,H0⟩ ⟨hi,M⟩;simp only at hi M ⊢;obtain⟨gs,u,gu⟩:=dj (level:=lv) (dom:=dom) (λd t ht=>FW (mc:=mc) k d ht) hs i;have O:=λh=>Ph (l:=l) (level:=lv) (asP:=asP) (dom:=dom) (rec:=fK l mc asP k) (s:=s) (i:=i) h n hi;have y:gS l lv asP dom (fK l mc asP k) s (i+1)=(if sP asP (gS l lv asP dom (fK l mc asP k) s i)then gS l lv asP dom (fK l mc asP k) s i else fK l mc asP k ((pC l lv dom (gS l lv asP dom (fK l mc asP k) s i)).asY.length-1) (pC l lv dom (gS l lv asP dom (fK l mc asP k) s i))):=rfl;simp only[go_sem,BP,gK];by_cases hlt:i<n;have Q:(i:Int)<(n:Nat):=Om;generalize hg:gS l lv asP dom (fK l mc asP k) s i=g at *
 have ζ:0<l'' g.asY:=by rw[gu,auJ];omega
 have b1:=M.at 1 rfl;have lr:=(M.own 1 rfl).mB;have ld:=(M.own 0 rfl).mB;rw[auD]at lr ld;have ei:=wZz i;simp only[go_sem,Q,bP (Om:((lv:Nat):Int)≠5),b1,lr];by_cases c1:asP<=l'' g.atI;have hf:sP asP g=true:=by unfold sP;simp[c1]
 simp only[go_sem,show(l'' g.atI:Int)>=(asP:Nat) by omega];exact hK _ S U _ _ (.inr rfl) (by rw[O hf];exact M);simp only[go_sem,show ¬(l'' g.atI:Int)>=(asP:Nat) by omega,b1,ld];by_cases c2:35<=l'' g.asY;have hf:sP asP g=true:=by unfold sP;simp[c2]
 simp only[go_sem,show(l'' g.asY:Int)>=35 by omega];exact hK _ S U _ _ (.inr rfl) (by rw[O hf];exact M);have hf:sP asP g=false:=by unfold sP;simp[c1,c2]
 rw[aB (by rw[hf];decide)]at y;simp only[go_sem,show ¬(l'' g.asY:Int)>=35 by omega];have ls:=Uh (Om:lv<=4);refine bV .nil (mkS l v) a_ ?_;have δ:iM [[PV.int IntKind.u8 (((oL lv).toNat:Nat):Int)]]=some [oL lv]:=by simp[iM]
 obtain⟨gg,x0,γ,-⟩:=L9 (level:=lv) (dom:=dom) gs hf;have ε:(pC l lv dom g).asY.length-1=l'' g.asY:=by rw[γ];simp
 rw[ε]at y;have h1:=M.set 0 rfl (bF v (aI l 16 g.a).2);have a1:=bU l 16 gs.a;have n1:=cM l (show 0<16 by decide) g.a;have e1:i_.wrap (1+((aI l 16 g.a).1:Int))=((1+(aI l 16 g.a).1:Nat):Int):=wO_
 simp only[go_sem,ls,δ,b1,ld];refine NF Z.toxN (s:=[oL lv]) (n:=l'' g.asY) bC (by have:=gs.asY;omega) rfl a_ ?_;simp only[go_sem];refine vZ Z.toHF T (o:=G.o) (n:=16) (a:=g.a) Om gs.a rfl (M.at 0 rfl) a_ ?_;simp only[go_sem,e1];refine aeE Z.toHF (n:=0) (by unfold dS;omega) rfl a_ ?_;simp only[go_sem,auQ,avE,or_false,forall_eq,forall_eq_or_imp];refine aS λp hp=>?_;have h2:=h1.new hp (.rows 7 [(⟨[oL lv]++cL g.asY.length,(lv:Nat),(dom:Nat),(1+(aI l 16 g.a).1:Nat),mD⟩:cQ).cells]);simp only[go_sem,auQ,avE,or_false,forall_eq,forall_eq_or_imp];refine⟨a_,?_⟩
 try simp only[go_sem]
 refine eG Z.toHF T (o:=G.o) (n:=3) (a:=(aI l 16 g.a).2) aU a1 rfl (h2.at 0 rfl) ?_;have h3:=h2.set 0 rfl (bF v (aI l 3 (aI l 16 g.a).2).2);have a2:=bU l 3 a1;by_cases c3:(aI l 3 (aI l 16 g.a).2).1=0;have hd:pC l lv dom g={ g with asY:=g.asY++[⟨[oL lv]++cL g.asY.length,(lv:Nat),(dom:Nat),(1+(aI l 16 g.a).1:Nat),mkT 1 ((2+(aI l 6 (aI l 3 (aI l 16 g.a).2).2).1:Nat):Int)⟩],a:=(aI l 6 (aI l 3 (aI l 16 g.a).2).2).2 }:=by unfold pC;simp only[c3,if_true]
 rw[hd]at y gg;have n2:=cM l (show 0<6 by decide) (aI l 3 (aI l 16 g.a).2).2;have e2:i_.wrap (2+((aI l 6 (aI l 3 (aI l 16 g.a).2).2).1:Int))=((2+(aI l 6 (aI l 3 (aI l 16 g.a).2).2).1:Nat):Int):=wO_
 simp only[go_sem,cI (show(((aI l 3 (aI l 16 g.a).2).1:Nat):Int)=0 by omega)];refine eG Z.toHF T (o:=G.o) (n:=6) (a:=(aI l 3 (aI l 16 g.a).2).2) aU a2 rfl (h3.at 0 rfl) ?_;have h4:=h3.set 0 rfl (bF v (aI l 6 (aI l 3 (aI l 16 g.a).2).2).2);rw[PH.set_set]at h4;simp only[go_sem,e2];refine aA (Z.fmk 1 ((2+(aI l 6 (aI l 3 (aI l 16 g.a).2).2).1:Nat):Int) (by unfold dS;omega) (by unfold dS;omega)) rfl ?_;unfold BY;rw[aB Om];simp only[go_sem,show ¬p=G.o from h4.ne 2 0 rfl rfl aU];have h5:=h4.set 2 rfl (.rows 7 [(⟨[oL lv]++cL g.asY.length,(lv:Nat),(dom:Nat),(1+(aI l 16 g.a).1:Nat),mkT 1 ((2+(aI l 6 (aI l 3 (aI l 16 g.a).2).2).1:Nat):Int)⟩:cQ).cells])
 try simp only[x8]
 refine ZW G mc asP dom lv n i k p Y hk V g _ _ gg rfl S U β _ _ _ (by unfold gK;exact Lq) rfl h5 ?_;intro E J A H' w N;rw[<-y]at N;have W:A 10=some (.j i):=w 10 _ (by unfold gK;simp only[go_sem]);have g0:A 0=some (.ptr G.o 2 0 0):=w 0 _ (by unfold gK;simp only[go_sem]);have g1:A 1=some (.ptr G.fo 7 0 0):=w 1 _ (by unfold gK;simp only[go_sem]);have g2:A 2=some (.j dom):=w 2 _ (by unfold gK;simp only[go_sem]);have g3:A 3=some (.j asP):=w 3 _ (by unfold gK;simp only[go_sem]);have g8:A 8=some (.j lv):=w 8 _ (by unfold gK;simp only[go_sem]);have g9:A 9=some (.j n):=w 9 _ (by unfold gK;simp only[go_sem]);simp only[go_sem,W,ei];refine aF (i+1,E,J,H') ⟨hlt,N⟩ sO_ ?_ b_;exact Lq;have hd:pC l lv dom g={ g with asY:=g.asY++[⟨[oL lv]++cL g.asY.length,(lv:Nat),(dom:Nat),(1+(aI l 16 g.a).1:Nat),mD⟩],a:=(aI l 3 (aI l 16 g.a).2).2 }:=by unfold pC;simp only[c3,if_false]
 rw[hd]at y gg;simp only[go_sem,bP (show ¬(((aI l 3 (aI l 16 g.a).2).1:Nat):Int)=0 by omega)]
 try simp only[x8]
 refine ZW G mc asP dom lv n i k p Y hk V g _ _ gg rfl S U β _ _ _ (by unfold gK;exact Lq) rfl h3 ?_;intro E J A H' w N;rw[<-y]at N;have W:A 10=some (.j i):=w 10 _ (by unfold gK;simp only[go_sem]);have g0:A 0=some (.ptr G.o 2 0 0):=w 0 _ (by unfold gK;simp only[go_sem]);have g1:A 1=some (.ptr G.fo 7 0 0):=w 1 _ (by unfold gK;simp only[go_sem]);have g2:A 2=some (.j dom):=w 2 _ (by unfold gK;simp only[go_sem]);have g3:A 3=some (.j asP):=w 3 _ (by unfold gK;simp only[go_sem]);have g8:A 8=some (.j lv):=w 8 _ (by unfold gK;simp only[go_sem]);have g9:A 9=some (.j n):=w 9 _ (by unfold gK;simp only[go_sem]);simp only[go_sem,W,ei];refine aF (i+1,E,J,H') ⟨hlt,N⟩ sO_ ?_ b_;exact Lq;have Q:¬(i:Int)<(n:Nat):=Om;have:i=n:=Om;subst this;simp only[go_sem,Q];exact hK _ S U _ _ (.inl rfl) M
theorem He(S:qG C){l:N_}{v:PV}(T:Tp l v)(mc asP k:Nat)(Y:0<mc)(M:mc<=1000)(F:asP<=60)(hk:k<=4)(O:∀k',k=k'+1->jn C l v mc asP k')(G:GE)(wd Q:PV)(s:GS)(dom:Nat)(x:cQ)
  (U:GOk l asP s) (hx:s.asY[dom]?=some x) (hl:x.level=4-(k:Int)) (V:PH) (J:aQ V (G.boxes v mc wd Q s.a) (oZ s wd Q)) :
  OT.wp C (aX mQ.res (λr H'=>∃B' L',Nu G v mc (fK l mc asP k dom s) r B' L'/\aQ H' B' L')) (g_ [.ptr G.o 2 0 0,.ptr G.fo 7 0 0,.j dom,.j asP]) V:=by
 have E:dom<l'' s.asY:=(avP.1 hx).1;have b1:=J.at 1 rfl;have fin:∀(e:lE)(i u:PV)(y:PF)(H':PH),(e=.exit 0\/e=.ret)->aQ H' (G.boxes v mc i u (fK l mc asP k dom s).a) (oZ (fK l mc asP k dom s) i u) ->
   fX 0 (aX mQ.res (λr H'=>∃B' L',Nu G v mc (fK l mc asP k dom s) r B' L'/\aQ H' B' L')) e y H':=by
  intro e i u y H' K w;rcases K with rfl|rfl
  rw[IR,aD rfl];exact aY (vs:=[]) (.inl rfl) H' rfl b_ ⟨_,_,⟨rfl,i,u,rfl,rfl⟩,w⟩;exact aY (vs:=[]) (.inr rfl) H' rfl b_ ⟨_,_,⟨rfl,i,u,rfl,rfl⟩,w⟩
 obtain⟨q,rs,e1,e2,e3,e4⟩:∃q rs,wd=.osl q 7 0 s.asY.length/\V q=some (.rows 7 rs)/\l'' s.asY<=l'' rs/\rs.take s.asY.length=mV s.asY:=by
  rcases J.own 0 rfl with⟨A,_⟩|⟨q,rs,A,h2,h3,h4⟩
  have:=congrArg List.length A;rw[auD]at this;simp at this;rw[this]at E;simp at E;rw[auD]at A h3 h4;exact⟨q,rs,A,h2,h3,h4⟩
 have Z:rs[dom]?=some x.cells:=by
  have:(mV s.asY)[dom]?=some x.cells:=by simp[mV,hx]
  rw[<-e4,List.getElem?_take_of_lt E]at this;exact this
 subst e1;have c1:(dom:Int)<(l'' s.asY:Nat):=Om;have ew:i_.wrap (x.level+1)=((5-k:Nat):Int):=by rw[hl,wrap_i64 Om Om];omega
 have β:=cM l (show 0<2 by decide) s.a;have en:i_.wrap (1+((aI l 2 s.a).1:Int))=((1+(aI l 2 s.a).1:Nat):Int):=wO_
 have A:=J.set 0 rfl (bF v (aI l 2 s.a).2);have H:GOk l asP { s with a:=(aI l 2 s.a).2 }:=⟨U.asY,U.atI,bU l 2 U.a⟩;have α:¬q=G.o:=λh=>J.neL 0 0 rfl rfl rfl h.symm;simp only[go_sem,OT,b1,c1,e2,Z,ew];refine eG S.toHF T (o:=G.o) (n:=2) (a:=s.a) aU U.a (by simp only[go_sem];rfl) (J.at 0 rfl) ?_;simp only[go_sem,en];cases k with
 |zero =>simp only[go_sem,bP (Om:¬((5-0:Nat):Int)=2)];refine Hd (C:=C) S T G mc asP dom (1+(aI l 2 s.a).1) Y M F Om { s with a:=(aI l 2 s.a).2 } H _ Q _ _ _ ?_ A ?_;unfold gK;exact Lq;intro i u y H' w;exact fin _ i u y H' (.inl rfl) w
 |succ k=>
  have N:=O k rfl;by_cases c2:4-k=2;have W:fK l mc asP (k+1) dom s=gS l (4-k) asP dom (fK l mc asP k) { s with a:=(aI l 2 s.a).2 } 1:=by simp only[fK,aD c2]
  simp only[go_sem,cI (show((5-(k+1):Nat):Int)=2 by omega)];refine RW (C:=C) S T G mc asP dom 1 k Om F aU N { s with a:=(aI l 2 s.a).2 } H sO_ _ Q _ _ _ ?_ A ?_;unfold gK
  (repeat' (first|exact e_|refine d_ ?_ ?_))<;>first|(simp only[go_sem,show 4-k=5-(k+1) by omega]<;>rfl)|rfl
  intro e i u y H' K w;rw[<-W]at w;exact fin e i u y H' K w;have W:fK l mc asP (k+1) dom s=gS l (4-k) asP dom (fK l mc asP k) { s with a:=(aI l 2 s.a).2 } (1+(aI l 2 s.a).1):=by simp only[fK,aB c2]
  simp only[go_sem,bP (show ¬((5-(k+1):Nat):Int)=2 by omega)];refine RW (C:=C) S T G mc asP dom (1+(aI l 2 s.a).1) k Om F Om N { s with a:=(aI l 2 s.a).2 } H sO_ _ Q _ _ _ ?_ A ?_;unfold gK
  (repeat' (first|exact e_|refine d_ ?_ ?_))<;>first|(simp only[go_sem,show 4-k=5-(k+1) by omega]<;>rfl)|rfl
  intro e i u y H' K w;rw[<-W]at w;exact fin e i u y H' K w
theorem Gd(A:qG C){l:N_}{v:PV}(T:Tp l v)(mc asP:Nat)(w:0<mc)(i:mc<=1000)(u:asP<=60)
  (E:∀(args:V_)(H:PH)(R:R_),l'' args=4->OT.wp C (aX mQ.res R) (g_ args) H->aG C 7 args H R):∀k,k<=4->jn C l v mc asP k
 |0,h=>λG N O s dom x K M J y F=>E _ _ _ rfl (He A T mc asP 0 w i u h (λ_ e=>by omega) G N O s dom x K M J y F)
 |k+1,h=>λG N O s dom x K M J y F=>E _ _ _ rfl (He A T mc asP (k+1) w i u h (λQ e=>by have:Q=k:=Om;subst this;exact Gd A T mc asP w i u E Q Om) G N O s dom x K M J y F)
theorem afV(l:N_)(fP:Nat){a:Nat}(h:a<=l'' l):(uT l fP a).2<=l'' l:=(wj l (1+(aI l fP a).1) (bU l fP h) (1+(aI l fP a).1)).1
theorem GD(l:N_){a:Nat}(h:a<=l'' l):∀k,(jE l a k).2<=l'' l/\(jE l a k).1.length=k
 |0=>⟨h,rfl⟩
 |k+1=>by obtain⟨i,u⟩:=GD l h k;exact⟨afV l 2 i,by simp only[jE,auJ,auS,u]⟩
theorem yH(l:N_)(asW:Nat){a:Nat}(h:a<=l'' l):∀k,(fR l asW a k).2<=l'' l/\(fR l asW a k).1.length=k
 |0=>⟨h,rfl⟩
 |k+1=>by obtain⟨i,u⟩:=yH l asW h k;exact⟨bU l asW (bU l 8 (bU l 4 i)),by simp only[fR,auJ,auS,u]⟩
structure FE where
 o:Nat
 o6:Nat
 o7:Nat
 asP:Nat
 asR:Nat
abbrev flZ:aW:=flB (.int .i64 0) .aE .aE .aE .aE .aE .aE
abbrev FE.boxes(E:FE)(v ext i l u w y A:PV)(a:Nat):List BX:=[(E.o,bF v a),(E.o7,flB ext i l u w y A),(E.o6,flZ)]
def iQ(E:FE):PF:=(((((n_.set 0 (.ptr E.o 2 0 0)).set 1 (.int .i64 E.asP)).set 2 (.int .i64 E.asR)).set 6 (.ptr E.o6 7 0 0)).set 7 (.ptr E.o7 7 0 0))
abbrev kF(l:List cT):P2_:=l.map cT.cells
abbrev mE(l:List dN):P2_:=l.map dN.cells
theorem XQ{E:FE}{F:PF}(i:F 0=some (.ptr E.o 2 0 0))(l:F 1=some (.j E.asP))(u:F 2=some (.j E.asR))(w:F 6=some (.ptr E.o6 7 0 0))(h7:F 7=some (.ptr E.o7 7 0 0)):(iQ E).le F:=
 d_ (d_ (d_ (d_ (d_ e_ i) l) u) w) h7
theorem Zw(S:qG C){l:N_}{v:PV}(T:Tp l v)(E:FE)(n a:Nat)(hn:n<=10)(ha:a<=l'' l)(ext:PV)(K:cH)(F:PF)(H:PH)
  (Y:(((iQ E).set 8 (.j n)).set 9 (.j 0)).le F) (A:aQ H (E.boxes v ext .aE .aE .aE .aE .aE .aE a) [])
  (Z:∀N Q H',(iQ E).le Q->aQ H' (E.boxes v ext N .aE .aE .aE .aE .aE (jE l a n).2) [(N,4,kF (jE l a n).1)]->K (.exit 0) Q H') :
  aK.wp C (.loop UB) K F H:=by
 refine wp_loop (α:=T3_) (λt=>((iQ E).set 8 (.j n)).set 9 (.j t.1)) (λt=>t.2.2) (λt=>t.1<=n/\aQ t.2.2 (E.boxes v ext t.2.1 .aE .aE .aE .aE .aE (jE l a t.1).2) [(t.2.1,4,kF (jE l a t.1).1)]) (λt=>n-t.1) (0,.aE,H) ⟨auK _,A.lJ 4⟩ Y b_ ?_;rintro⟨i,N,H0⟩ ⟨hi,A⟩;simp only at hi A ⊢;obtain⟨k1,k2⟩:=GD l ha i;have y:jE l a (i+1)=((jE l a i).1++[{ (uT l 2 (jE l a i).2).1 with name:=[108,97,119]++cL i }],(uT l 2 (jE l a i).2).2):=rfl;simp only[go_sem,UB,iQ];by_cases hlt:i<n;have u:(i:Int)<(n:Nat):=Om;generalize hg:jE l a i=g at *
 simp only[go_sem,u];refine oK (S.law l v T E.o 2 g.2 aU aU k1) (A.at 0 rfl) rfl ?_;have V:=A.set 0 rfl (bF v (uT l 2 g.2).2);generalize hz:uT l 2 g.2=z at *
 simp only[go_sem];refine aS λp hp=>?_;have W:=V.new hp (.rows 4 [z.1.cells]);simp only[go_sem,auQ,avE,or_false,forall_eq,forall_eq_or_imp];refine aA (S.name [108,97,119] i aU Om) rfl ?_;have J:=W.set 3 rfl (.rows 4 [({ z.1 with name:=[108,97,119]++cL i }:cT).cells]);rw[PH.set_set]at J;have b1:=J.at 1 rfl;have M:¬E.o7=p:=J.ne 1 3 rfl rfl aU;have w:¬E.o7=E.o:=J.ne 1 0 rfl rfl aU;simp only[aT,aB M,aB w]at b1;have O:(1:Nat)*4<=16777216:=by decide
 simp only[go_sem,M,w,b1,O,auQ,avE,or_false,forall_eq,forall_eq_or_imp];refine J.append 0 (src:=[({ z.1 with name:=[108,97,119]++cL i }:cT).cells]) rfl rfl (by unfold roomFor;rw[auD];simp only[auS,maxLen];omega) λw' H2 U hw=>?_;obtain⟨q,rfl⟩:=hw bC;have b2:=U.at 1 rfl;simp only[go_sem,b2,auQ,avE,or_false,forall_eq];have h5:=U.set 1 rfl (flB ext (.osl q 4 0 (kF g.1++[({ z.1 with name:=[108,97,119]++cL i }:cT).cells]).length) .aE .aE .aE .aE .aE);simp only[go_sem,wZz i];refine aF (i+1,.osl q 4 0 (kF g.1++[({ z.1 with name:=[108,97,119]++cL i }:cT).cells]).length,_) ⟨hlt,?_⟩ sO_ ?_ b_;rw[y];have e:kF (g.1++[{ z.1 with name:=[108,97,119]++cL i }])=kF g.1++[({ z.1 with name:=[108,97,119]++cL i }:cT).cells]:=by simp[kF]
 simp only;rw[e];exact h5.dropLast (B:=E.boxes v ext _ .aE .aE .aE .aE .aE z.2);exact Lq;have u:¬(i:Int)<(n:Nat):=Om;have:i=n:=Om;subst this;simp only[go_sem,u];exact Z N _ _ (XQ rfl rfl rfl rfl rfl) A
theorem P4(V:qG C){l:N_}{v:PV}(T:Tp l v)(E:FE)(n a nl:Nat)(hn:n<=10)(γ:nl<=1000)(ha:a<=l'' l)(ext w:PV)(asW:List cT)(β:l'' asW=nl)(K:cH)(F:PF)(H:PH)
  (hF:(((iQ E).set 11 (.j n)).set 12 (.j 0)).le F) (A:aQ H (E.boxes v ext w .aE .aE .aE .aE .aE a) [(w,4,kF asW)])
  (hK:∀N W H',(iQ E).le W->W 11=some (.j n)->aQ H' (E.boxes v ext w N .aE .aE .aE .aE (fR l nl a n).2) [(w,4,kF asW),(N,4,mE (fR l nl a n).1)]->K (.exit 2) W H') :
  aK.wp C (.loop OK) K F H:=by
 refine wp_loop (α:=T3_) (λt=>((iQ E).set 11 (.j n)).set 12 (.j t.1)) (λt=>t.2.2) (λt=>t.1<=n/\aQ t.2.2 (E.boxes v ext w t.2.1 .aE .aE .aE .aE (fR l nl a t.1).2) [(w,4,kF asW),(t.2.1,4,mE (fR l nl a t.1).1)]) (λt=>n-t.1) (0,.aE,H) ⟨auK _,A.lJ 4⟩ hF b_ ?_;rintro⟨i,N,H0⟩ ⟨hi,A⟩;simp only at hi A ⊢;obtain⟨k1,k2⟩:=yH l nl ha i;have J:fR l nl a (i+1)=((fR l nl a i).1++[⟨[109]++cL i,(1+(aI l 4 (fR l nl a i).2).1:Nat),(1+(aI l 8 (aI l 4 (fR l nl a i).2).2).1:Nat),((aI l nl (aI l 8 (aI l 4 (fR l nl a i).2).2).2).1:Nat)⟩],(aI l nl (aI l 8 (aI l 4 (fR l nl a i).2).2).2).2):=rfl;simp only[go_sem,OK,iQ];by_cases hlt:i<n;have u:(i:Int)<(n:Nat):=Om;generalize hg:fR l nl a i=g at *
 have hx:=cM l (show 0<4 by decide) g.2;have ax:=bU l 4 k1;have hy:=cM l (show 0<8 by decide) (aI l 4 g.2).2;have ay:=bU l 8 ax;have az:=bU l nl ay;have Y:=A.set 0 rfl (bF v (aI l 4 g.2).2);have M:=Y.set 0 rfl (bF v (aI l 8 (aI l 4 g.2).2).2);have h3:=M.set 0 rfl (bF v (aI l nl (aI l 8 (aI l 4 g.2).2).2).2);generalize Q:aI l 4 g.2=x at *
 generalize S:aI l 8 x.2=y at *
 generalize U:aI l nl y.2=z at *
 have b1:=A.at 1 rfl;have lw:=(A.own 0 rfl).mB;rw[auD,β]at lw;have O:(h_.set E.o7 (flB ext w N .aE .aE .aE .aE)).le H0:=c_ a_ b1;have ex:i_.wrap (1+(x.1:Int))=((1+x.1:Nat):Int):=wO_
 have ey:i_.wrap (1+(y.1:Int))=((1+y.1:Nat):Int):=wO_
 simp only[go_sem,u];refine bV (h_.set E.o7 (flB ext w N .aE .aE .aE .aE)) (mkS l v) O ?_;simp only[go_sem];refine NF V.toxN (s:=[109]) (n:=i) aU Om rfl O ?_;simp only[go_sem];refine vZ V.toHF T (o:=E.o) (n:=4) (a:=g.2) aU k1 rfl (A.at 0 rfl) ?_ ?_;rw[Q];exact c_ a_ (Y.at 1 rfl);rw[Q];simp only[go_sem,ex];refine vZ V.toHF T (o:=E.o) (n:=8) (a:=x.2) aU ax rfl (Y.at 0 rfl) ?_ ?_;rw[S];exact c_ a_ (M.at 1 rfl);rw[S];simp only[go_sem,ey,lw];rw[PH.set_set]at M;refine vZ V.toHF T (o:=E.o) (n:=nl) (a:=y.2) Om ay rfl (M.at 0 rfl) ?_ ?_;rw[U];exact c_ a_ ((M.set 0 rfl (bF v z.2)).at 1 rfl);rw[U];have h4:=M.set 0 rfl (bF v z.2);have Z:(1:Nat)*4<=16777216:=by decide
 simp only[go_sem,Z,auQ,avE,or_false,forall_eq,forall_eq_or_imp];rw[PH.set_set]at h4;refine h4.append 1 (src:=[(⟨[109]++cL i,(1+x.1:Nat),(1+y.1:Nat),(z.1:Nat)⟩:dN).cells]) rfl rfl (by unfold roomFor;rw[auD];simp only[auS,maxLen];omega) λw' H2 h5 hw=>?_;obtain⟨q,rfl⟩:=hw bC;have b2:=h5.at 1 rfl;refine⟨c_ a_ b2,?_⟩;refine bV .nil dY a_ ?_;simp only[go_sem,b2,auQ,avE,or_false,forall_eq];have h6:=h5.set 1 rfl (flB ext w (.osl q 4 0 (mE g.1++[(⟨[109]++cL i,(1+x.1:Nat),(1+y.1:Nat),(z.1:Nat)⟩:dN).cells]).length) .aE .aE .aE .aE);refine⟨a_,?_⟩;simp only[go_sem,wZz i];refine aF (i+1,.osl q 4 0 (mE g.1++[(⟨[109]++cL i,(1+x.1:Nat),(1+y.1:Nat),(z.1:Nat)⟩:dN).cells]).length,_) ⟨hlt,?_⟩ sO_ ?_ b_;rw[J];have e:mE (g.1++[⟨[109]++cL i,(1+x.1:Nat),(1+y.1:Nat),(z.1:Nat)⟩])=mE g.1++[(⟨[109]++cL i,(1+x.1:Nat),(1+y.1:Nat),(z.1:Nat)⟩:dN).cells]:=by simp[mE]
 simp only;rw[e];exact h6;exact Lq;have u:¬(i:Int)<(n:Nat):=Om;have:i=n:=Om;subst this;simp only[go_sem,u];exact hK N _ _ (XQ rfl rfl rfl rfl rfl) rfl A
abbrev CI(x:cJ)(w:PV):V_:=[.str x.name,.int .i64 x.k,.int .i64 x.m,.int .i64 x.atO,.int .i64 x.s0,.int .i64 x.s1,.int .i64 x.s2,.int .i64 x.s3,.int .i64 x.s4,w,frs x.repair,
 .bool x.target.neg,aL x.target.num,aL x.target.den,.bool x.asZ.neg,aL x.asZ.num,aL x.asZ.den]
def wk(E:FE)(mc n i:Nat):PF:=(((iQ E).set 11 (.int .i64 mc)).set 13 (.int .i64 n)).set 14 (.int .i64 i)
structure PAt(E:FE)(mc n i:Nat)(F:PF):Prop where
 f0:F 0=some (.ptr E.o 2 0 0)
 f1:F 1=some (.int .i64 E.asP)
 f2:F 2=some (.int .i64 E.asR)
 f6:F 6=some (.ptr E.o6 7 0 0)
 f7:F 7=some (.ptr E.o7 7 0 0)
 f11:F 11=some (.int .i64 mc)
 f13:F 13=some (.int .i64 n)
 f14:F 14=some (.int .i64 i)
def uW(l:N_)(a:Nat):Nat->I_ × Nat
 |0=>([],a)
 |j+1=>let s:=uW l a j
  let t:=jS l s.2
  (s.1++[t.1],t.2)
theorem zA(l:N_){a:Nat}(h:a<=l'' l):(jS l a).2<=l'' l:=by
 unfold jS;simp only;split;exact bU l 3 (bU l 3 h);exact bU l 3 h
theorem xz(l:N_){a:Nat}(h:a<=l'' l):∀j,(uW l a j).2<=l'' l/\(uW l a j).1.length=j
 |0=>⟨h,rfl⟩
 |j+1=>by obtain⟨i,u⟩:=xz l h j;exact⟨zA l i,by simp only[uW,auJ,auS,u]⟩
abbrev uV(pre post:V_)(s:I_):V_:=pre++(s.map λx=>PV.int .i64 x)++auL (4-l'' s) (.int .i64 0)++post
theorem ahP{pre post:V_}{s:I_}(hp:l'' pre=5)(l:l'' s<4)(x:Int):(uV pre post s).set (5+l'' s) (.j x)=uV pre post (s++[x]):=by
 obtain⟨k,i⟩:∃k,4-l'' s=k+1:=⟨3-l'' s,by omega⟩;unfold uV;rw[auJ,auS,show 4-(l'' s+1)=k by omega,i,List.replicate_succ,avD,avH,avY];rw[List.set_append_left _ _ (by simp[hp]),axS _ _ (by simp[hp])];have:5+l'' s-(pre++s.map λx=>PV.int .i64 x).length=0:=by simp[hp]
 rw[this,avQ];simp
theorem abK{pre post:V_}{s:I_}(hp:l'' pre=5)(l:l'' s<4):uV pre post s=uV pre post (s++[0]):=by
 obtain⟨k,i⟩:∃k,4-l'' s=k+1:=⟨3-l'' s,by omega⟩;unfold uV;rw[auJ,auS,show 4-(l'' s+1)=k by omega,i,List.replicate_succ,avD,avH,avY];simp
theorem P5(Lb:qG C){l:N_}{v:PV}(T:Tp l v)(E:FE)(mc n i a p:Nat)(ha:a<=l'' l)(B:List BX)(L:List LI)(pre post:V_)(u:l'' pre=5)(M:l'' post=8)(K:cH)(F:PF)(H:PH)
  (y:PAt E mc n i F) (Y:F 15=some (.ptr p 17 0 0)) (Z:F 16=some (.j 1)) (N:aQ H ((E.o,bF v a)::B++[(p,.rows 17 [uV pre post []])]) L)
  (hK:∀V H',PAt E mc n i V->V 15=some (.ptr p 17 0 0)->aQ H' ((E.o,bF v (uW l a 4).2)::B++[(p,.rows 17 [uV pre post (uW l a 4).1])]) L->K (.exit 6) V H') :
  aK.wp C (.loop DF) K F H:=by
 refine wp_loop (α:=Nat × PH) (λt=>((wk E mc n i).set 15 (.ptr p 17 0 0)).set 16 (.j (t.1+1:Nat))) (λt=>t.2) (λt=>t.1<=4/\aQ t.2 ((E.o,bF v (uW l a t.1).2)::B++[(p,.rows 17 [uV pre post (uW l a t.1).1])]) L) (λt=>4-t.1) (0,H) ⟨auK _,N⟩ ?_ b_ ?_;unfold wk iQ
 (repeat' (first|exact e_|refine d_ ?_ ?_))<;>first|(simp only[go_sem,y.f0,y.f1,y.f2,y.f6,y.f7,y.f11,y.f13,y.f14,Y,Z]<;>rfl)|rfl
 rintro⟨j,H0⟩ ⟨hj,N⟩;simp only at hj N ⊢;obtain⟨k1,k2⟩:=xz l ha j;have w:uW l a (j+1)=((uW l a j).1++[(jS l (uW l a j).2).1],(jS l (uW l a j).2).2):=rfl;simp only[go_sem,DF,wk,iQ];by_cases hlt:j<4;generalize hg:uW l a j=g at *
 have ei:=dU (Om:j+1<9223372036854775807);simp only[go_sem,show((j+1:Nat):Int)<5 by omega];refine eG Lb.toHF T (o:=E.o) (n:=3) (a:=g.2) aU k1 (by simp only[go_sem];rfl) (N.at 0 rfl) ?_;have S:aQ _ ((E.o,bF v (aI l 3 g.2).2)::B++[(p,.rows 17 [uV pre post g.1])]) L:=N.set 0 rfl (bF v (aI l 3 g.2).2);by_cases c:(aI l 3 g.2).1=0;have hs:jS l g.2=(((1+(aI l 3 (aI l 3 g.2).2).1:Nat):Int),(aI l 3 (aI l 3 g.2).2).2):=by unfold jS;simp only[c,if_true]
 have n2:=cM l (show 0<3 by decide) (aI l 3 g.2).2;have e2:i_.wrap (1+((aI l 3 (aI l 3 g.2).2).1:Int))=((1+(aI l 3 (aI l 3 g.2).2).1:Nat):Int):=wO_
 simp only[go_sem,cI (show(((aI l 3 g.2).1:Nat):Int)=0 by omega)];refine eG Lb.toHF T (o:=E.o) (n:=3) (a:=(aI l 3 g.2).2) aU (bU l 3 k1) (by simp only[go_sem];rfl) (S.at 0 rfl) ?_;have U:aQ _ ((E.o,bF v (aI l 3 (aI l 3 g.2).2).2)::B++[(p,.rows 17 [uV pre post g.1])]) L:=S.set 0 rfl (bF v (aI l 3 (aI l 3 g.2).2).2);have W:=U.uZ;rw[PH.set_set]at W U;have Q:¬p=E.o:=λh=>by have δ:=U.ndB;simp[fN,h]at δ
 simp only[aT,aB Q]at W;have γ:((j+1:Nat):Int)<((5:Nat):Int):=Om;have β:(0:Int)<=((j+1:Nat):Int):=Om;have ε:(uV pre post g.1).length=17:=by simp[uV,u,M,k2];omega
 have A:=ahP (pre:=pre) (post:=post) (s:=g.1) u Om ((1+(aI l 3 (aI l 3 g.2).2).1:Nat):Int);rw[k2]at A;have O:4+(j+1)*1=5+j:=Om;have J:5+j+1<=17:=Om;simp only[go_sem,e2,γ,β,O,Q,W,J,auQ,avE,or_false,forall_eq,A,ei];refine aF (j+1,_) ⟨hlt,?_⟩ sO_ ?_ b_;rw[w,hs];exact U.xF _;exact Lq;have hs:jS l g.2=(0,(aI l 3 g.2).2):=by unfold jS;simp only[c,if_false]
 simp only[go_sem,bP (show ¬(((aI l 3 g.2).1:Nat):Int)=0 by omega),ei];refine aF (j+1,_) ⟨hlt,?_⟩ sO_ ?_ b_;rw[abK (pre:=pre) (post:=post) (s:=g.1) u Om]at S;rw[w,hs];exact S;exact Lq;have:j=4:=Om;subst this;simp only[go_sem,show ¬((4+1:Nat):Int)<5 by decide];exact hK _ _ ⟨s_,s_,s_,s_,s_,s_,s_,s_⟩ Sq N
theorem aQ.tC{E:FE}{v ext i l u w y A:PV}{a:Nat}{H:PH}{B:List BX}{L:List LI}(h:aQ H (E.boxes v ext i l u w y A a++B) L)(b:Nat):aQ (H.set E.o (bF v b)) (E.boxes v ext i l u w y A b++B) L:=h.set 0 rfl _
abbrev ib(s:List UInt8)(k m q:Int)(w r i l u:PV)(h:RF):V_:=[.str s,.int .i64 k,.int .i64 m,.int .i64 q,.int .i64 0,.int .i64 0,.int .i64 0,.int .i64 0,.int .i64 0,w,r,i,l,u,.bool h.neg,aL h.num,aL h.den]
theorem Zx {C : Ctx} (Lb : qG C) {l : N_} {v : PV} (T : Tp l v) (E : FE) (mc n i a : Nat) (ha : a <= l.length) (hi : i < 50) (ext w1 w2 w3 w4 w5 w6 : PV) (L : List LI) (rest : aK) (K : cH) (F : PF) (H : PH)
    (hF : PAt E mc n i F) (hH : aQ H (E.boxes v ext w1 w2 w3 w4 w5 w6 a) L)
    (hK : ∀ p F' H', PAt E mc n i F' -> F' 15 = some (.ptr p 17 0 0) ->
      (let k := aI l 2 a; let m := aI l 3 k.2; let h := aI l 4 m.2; let q := aI l (m.1 + 1) h.2; let r := mZ l q.2 (max m.1 1); let g := aI l 9 r.2
       aQ H' (E.boxes v ext w1 w2 w3 w4 w5 w6 g.2 ++ [(p, .rows 17 [uV [.str ([112] ++ cL i), .j (1 + k.1 : Nat), .j (m.1 : Nat), .j (1 + k.1 + q.1 : Nat), .j 0]
        ([.aE, frs r.1] ++ (mkT (g.1 : Nat) 8).cells ++ (mkT ((1 + h.1 : Nat) : Int) 1).cells) []])]) L) -> aK.wp C rest K F' H') :
    aK.wp C (.seq (.region ON) (.seq (.seq (.draw DG) (.draw DH)) (.seq (.region DJ) (.seq (.region DK) rest)))) K F H := by
  obtain ⟨f0, f1, f2, f6, f7, f11, f13, f14⟩ := hF;have nk := cM l (show 0 < 2 by decide) a;have ak := bU l 2 ha;have nm := cM l (show 0 < 3 by decide) (aI l 2 a).2;have am := bU l 3 ak;simp only at hK;generalize hk : aI l 2 a = k at *
  generalize hm : aI l 3 k.2 = m at *
  have nh := cM l (show 0 < 4 by decide) m.2;have ah := bU l 4 am;generalize hh : aI l 4 m.2 = h at *
  have nq := cM l (Om : 0 < m.1 + 1) h.2;have aq := bU l (m.1 + 1) ah;generalize hq : aI l (m.1 + 1) h.2 = q at *
  have ar := LS l aq (max m.1 1);generalize hr : mZ l q.2 (max m.1 1) = r at *
  have ng := cM l (show 0 < 9 by decide) r.2;have ag := bU l 9 ar;generalize hg : aI l 9 r.2 = g at *
  have ek : i_.wrap (1 + (k.1 : Int)) = ((1 + k.1 : Nat) : Int) := by rw [wrap_i64 Om Om]; omega
  have eh : i_.wrap (1 + (h.1 : Int)) = ((1 + h.1 : Nat) : Int) := by rw [wrap_i64 Om Om]; omega
  have em : i_.wrap ((m.1 : Int) + 1) = ((m.1 + 1 : Nat) : Int) := dU Om;have eq' : i_.wrap (((1 + k.1 : Nat) : Int) + (q.1 : Int)) = ((1 + k.1 + q.1 : Nat) : Int) := by rw [wrap_i64 Om Om]; omega
  have h0 : aQ H (E.boxes v ext w1 w2 w3 w4 w5 w6 a ++ []) L := by rw [awD]; exact hH
  simp only[go_sem,ON,f14];refine aA (Lb.name [112] i aU Om) rfl ?_;simp only[go_sem,f0];refine eG Lb.toHF T (o := E.o) (n := 2) (a := a) aU ha rfl (h0.at 0 rfl) ?_;have g1 := h0.tC k.2;rw [hk];simp only[go_sem,ek,f0];refine eG Lb.toHF T (o := E.o) (n := 3) (a := k.2) aU ak rfl (g1.at 0 rfl) ?_;have g2 := g1.tC m.2;rw [hm];rw [PH.set_set] at g2;simp only[go_sem,f0];refine eG Lb.toHF T (o := E.o) (n := 4) (a := m.2) aU am rfl (g2.at 0 rfl) ?_;have g3 := g2.tC h.2;rw [hh];rw [PH.set_set] at g3;simp only[go_sem,eh];refine aA (Lb.int ((1 + h.1 : Nat) : Int) (by unfold dS; omega)) rfl ?_;simp only[go_sem,auQ,avE,or_false,forall_eq,forall_eq_or_imp];refine aS fun p hp => ?_;have g4 := g3.new hp (.rows 17 [ib ([112] ++ cL i) (1 + k.1 : Nat) (m.1 : Nat) 0 .aE .aE (.bool false) .aE .aE (mkT ((1 + h.1 : Nat) : Int) 1)]);have hpo : ¬ p = E.o := g4.ne 3 0 rfl rfl aU;have hop : ¬ E.o = p := fun e => hpo e.symm;have q2 : ∀ (F2 : PF) (H2 : PH), PAt E mc n i F2 -> F2 15 = some (.ptr p 17 0 0) -> aQ H2 (E.boxes v ext w1 w2 w3 w4 w5 w6 h.2 ++ [(p, .rows 17 [ib ([112] ++ cL i) (1 + k.1 : Nat) (m.1 : Nat) 0 .aE .aE (.bool false) .aE .aE (mkT ((1 + h.1 : Nat) : Int) 1)])]) L ->
      aK.wp C (.seq (.seq (.draw DG) (.draw DH)) (.seq (.region DJ) (.seq (.region DK) rest))) K F2 H2 := by
    intro F2 H2 hF2 f15 hH2;obtain ⟨f0, f1, f2, f6, f7, f11, f13, f14⟩ := hF2;have bp := hH2.at 3 rfl;have hHs : (h_.set p (.rows 17 [ib ([112] ++ cL i) (1 + k.1 : Nat) (m.1 : Nat) 0 .aE .aE (.bool false) .aE .aE (mkT ((1 + h.1 : Nat) : Int) 1)])).le H2 := c_ a_ bp;simp only[go_sem];refine bV _ (mkS l v) hHs ?_;simp only[go_sem,DG,f15,bp,em,f0];refine vZ Lb.toHF T (o := E.o) (n := m.1 + 1) (a := h.2) Om ah rfl (hH2.at 0 rfl) ?_ ?_
    · rw [hq]; exact c_ a_ ((hH2.tC q.2).at 3 rfl)
    rw [hq];have g5 := hH2.tC q.2;simp only[go_sem,eq',f15];refine bV .nil dY a_ ?_;simp only[go_sem,DH,hpo,bp];refine ⟨a_, ?_⟩;have g6 : aQ _ (E.boxes v ext w1 w2 w3 w4 w5 w6 q.2 ++ [(p, .rows 17 [ib ([112] ++ cL i) (1 + k.1 : Nat) (m.1 : Nat) (1 + k.1 + q.1 : Nat) .aE .aE (.bool false) .aE .aE (mkT ((1 + h.1 : Nat) : Int) 1)])]) L := g5.set 3 rfl (.rows 17 [ib ([112] ++ cL i) (1 + k.1 : Nat) (m.1 : Nat) (1 + k.1 + q.1 : Nat) .aE .aE (.bool false) .aE .aE (mkT ((1 + h.1 : Nat) : Int) 1)]);have bq := g6.at 3 rfl;simp only[go_sem,DJ,f0,f15];refine oK (Lb.rep l v T E.o q.2 m.1 Om aq) (g6.at 0 rfl) rfl ?_;have g7 := g6.tC r.2;rw [hr];simp only[go_sem,hpo,f15];have g8 : aQ _ (E.boxes v ext w1 w2 w3 w4 w5 w6 r.2 ++ [(p, .rows 17 [ib ([112] ++ cL i) (1 + k.1 : Nat) (m.1 : Nat) (1 + k.1 + q.1 : Nat) .aE (frs r.1) (.bool false) .aE .aE (mkT ((1 + h.1 : Nat) : Int) 1)])]) L := g7.set 3 rfl (.rows 17 [ib ([112] ++ cL i) (1 + k.1 : Nat) (m.1 : Nat) (1 + k.1 + q.1 : Nat) .aE (frs r.1) (.bool false) .aE .aE (mkT ((1 + h.1 : Nat) : Int) 1)]);simp only[go_sem,DK,f0];refine eG Lb.toHF T (o := E.o) (n := 9) (a := r.2) aU ar rfl (g8.at 0 rfl) ?_;have g9 := g8.tC g.2;rw [hg];simp only[go_sem];refine aA (Lb.fmk (g.1 : Int) 8 (by unfold dS; omega) (by unfold dS; omega)) rfl ?_;unfold BY;rw [aB aU];simp only[go_sem,f15,hpo];have g10 := g9.set 3 rfl (.rows 17 [uV [.str ([112] ++ cL i), .j (1 + k.1 : Nat), .j (m.1 : Nat), .j (1 + k.1 + q.1 : Nat), .j 0]
        ([.aE, frs r.1] ++ (mkT (g.1 : Nat) 8).cells ++ (mkT ((1 + h.1 : Nat) : Int) 1).cells) []])
    refine hK p _ _ ⟨by simp only[go_sem,f0], by simp only[go_sem,f1], by simp only[go_sem,f2], by simp only[go_sem,f6], by simp only[go_sem,f7], by simp only[go_sem,f11], by simp only[go_sem,f13], by simp only[go_sem,f14]⟩ (by simp only[go_sem,f15]) g10
  simp only [aK.wp, go_sem] at q2;simp only[go_sem,auQ,avE,or_false,forall_eq,forall_eq_or_imp];exact q2 _ _ ⟨by simp only[go_sem,f0], by simp only[go_sem,f1], by simp only[go_sem,f2], by simp only[go_sem,f6], by simp only[go_sem,f7], by simp only[go_sem,f11], by simp only[go_sem,f13], by simp only[go_sem,f14]⟩ rfl g4
abbrev FE.lists(y A E F H:PV)(l:List cT)(u:List dN)(dm:List cQ)(i:List eE)(w:P2_):List LI:=[(y,4,kF l),(A,4,mE u),(E,7,mV dm),(F,3,pO i),(H,17,w)]
theorem Zy(Lb:qG C){l:N_}{v:PV}(T:Tp l v)(E:FE)(mc n i a:Nat)(ha:a<=l'' l)(κ:0<mc)(ο:mc<=50)(ext J M N O w5:PV)(lw:List cT)(md:List dN)(dm:List cQ)(dv:List eE)(pr:P2_)(υ:l'' pr<=50)
  (s:List UInt8) (k m q:Int) (r t h:RF) (rl:List RF) (p:Nat) (K:cH) (F:PF) (H:PH)
  (hF:PAt E mc n i F) (y:F 15=some (.ptr p 17 0 0))
  (hH:aQ H (E.boxes v ext J M N O w5 .aE a++[(p,.rows 17 [uV [.str s,.j k,.j m,.j q,.j 0] ([.aE,frs rl]++t.cells++h.cells) []])]) (FE.lists J M N O w5 lw md dm dv pr))
  (Z:(let Q:=uW l a 4;let f:=aI l mc Q.2;let b:=aI l 2 f.2
   let ms:I_ × Nat:=if 1<mc then(if b.1=0 then([(f.1:Int),1-(f.1:Int)],b.2)else([(f.1:Int)],b.2))else([(f.1:Int)],f.2)
   ∀(w u:PV)(F':PF)(H':PH)(B':List BX),PAt E mc n i F'->(∃o,w=.osl o 1 0 ms.1.length)->aQ H' (E.boxes v ext J M N O u .aE ms.2++B')
    (FE.lists J M N O u lw md dm dv (pr++[CI ⟨s,k,m,q,0,(Q.1.getD 0 0),(Q.1.getD 1 0),(Q.1.getD 2 0),(Q.1.getD 3 0),ms.1,rl,t,h⟩ w])++[(w,1,aR ms.1)])->K .normal F' H')) :
  aK.wp C (.seq (.seq (.region OO) (.block 6 (.loop DF))) (.seq (.region OP) (.seq (.region OQ) (.seq (.seq (.region OR) (.cond (.tmp 143) (.region OS) .skip)) (.region DL))))) K F H:=by
 obtain⟨f0,f1,f2,f6,f7,f11,f13,f14⟩:=hF;simp only[go_sem,OO];refine P5 (C:=C) Lb T E mc n i a p ha [(E.o7,flB ext J M N O w5 .aE),(E.o6,flZ)] _ _ _ rfl rfl _ _ H ⟨by simp only[go_sem,f0],by simp only[go_sem,f1],by simp only[go_sem,f2],by simp only[go_sem,f6],by simp only[go_sem,f7],by simp only[go_sem,f11],by simp only[go_sem,f13],by simp only[go_sem,f14]⟩ (by simp only[go_sem,y]) rfl hH ?_;clear f0 f1 f2 f6 f7 f11 f13 f14 y hH;intro F1 H1 θ y A;obtain⟨f0,f1,f2,f6,f7,f11,f13,f14⟩:=θ;obtain⟨δ,ls⟩:=xz l ha 4;have ν:∃S U V W,(uW l a 4).1=[S,U,V,W]:=⟨_,_,_,_,rfl⟩;simp only at Z;generalize ρ:uW l a 4=Q at *
 obtain⟨S,U,V,W,hx⟩:=ν;rw[hx]at Z A;replace A:aQ H1 (E.boxes v ext J M N O w5 .aE Q.2++[(p,.rows 17 [CI ⟨s,k,m,q,0,S,U,V,W,[],rl,t,h⟩ .aE])]) (FE.lists J M N O w5 lw md dm dv pr):=A;have nf:=cM l κ Q.2;have af:=bU l mc δ;generalize hf:aI l mc Q.2=f at *
 have ab:=bU l 2 af;generalize hb:aI l 2 f.2=b at *
 have γ:¬p=E.o:=A.ne 3 0 rfl rfl aU;have μ:¬p=E.o7:=A.ne 3 1 rfl rfl aU;have τ:¬E.o7=p:=λe=>μ e.symm;have σ:¬E.o7=E.o:=A.ne 1 0 rfl rfl aU;simp only[go_sem,OP,f0,f11];refine eG Lb.toHF T (o:=E.o) (n:=mc) (a:=Q.2) Om δ rfl (A.at 0 rfl) ?_;have h2:=A.set 0 rfl (bF v f.2);rw[hf];simp only[go_sem,OQ];refine aS λo ho=>?_;have h3:=h2.Qi (s:=1) (rows:=aR [(f.1:Int)]) ho;have b3:=h3.at 3 rfl;have ob:¬p=o:=h3.neL 3 5 rfl rfl rfl;have φ:¬E.o7=o:=h3.neL 1 5 rfl rfl rfl;have χ:¬E.o=o:=h3.neL 0 5 rfl rfl rfl;simp only[aT,aB ob,aB γ]at b3;simp only[go_sem,y,ob,γ,b3,auQ,avE,or_false,forall_eq];have h4:=h3.set 3 rfl (.rows 17 [CI ⟨s,k,m,q,0,S,U,V,W,[],rl,t,h⟩ (.osl o 1 0 1)]);have fin:∀(w:PV)(ms:I_)(a':Nat)(F':PF)(H':PH),PAt E mc n i F'->F' 15=some (.ptr p 17 0 0)->(∃o,w=.osl o 1 0 ms.length) ->
   aQ H' (E.boxes v ext J M N O w5 .aE a'++[(p,.rows 17 [CI ⟨s,k,m,q,0,S,U,V,W,ms,rl,t,h⟩ w])]) (FE.lists J M N O w5 lw md dm dv pr++[(w,1,aR ms)]) ->
   (∀(u:PV)(Y:PF)(H2:PH),PAt E mc n i Y->aQ H2 (E.boxes v ext J M N O u .aE a'++[(p,.rows 17 [CI ⟨s,k,m,q,0,S,U,V,W,ms,rl,t,h⟩ w])]) (FE.lists J M N O u lw md dm dv (pr++[CI ⟨s,k,m,q,0,S,U,V,W,ms,rl,t,h⟩ w])++[(w,1,aR ms)])->K .normal Y H2) ->
   wpOps C DL (K .normal) F' H':=by
  intro w ms a' F' H' η y hw β ι;obtain⟨wo,rfl⟩:=hw;obtain⟨f0,f1,f2,f6,f7,f11,f13,f14⟩:=η;have c1:=β.at 1 rfl;have c3:=β.at 3 rfl;have ζ:(1:Nat)*17<=16777216:=by decide
  simp only[go_sem,DL,f7,y,c1,c3,ζ,auQ,avE,or_false,forall_eq,forall_eq_or_imp];refine β.append 4 (src:=[CI ⟨s,k,m,q,0,S,U,V,W,ms,rl,t,h⟩ (.osl wo 1 0 ms.length)]) rfl rfl (by unfold roomFor;simp only[auS,maxLen];omega) λu H2 h5 ξ=>?_;obtain⟨q5,rfl⟩:=ξ bC;have c2:=h5.at 1 rfl;simp only[go_sem,c2,auQ,avE,or_false,forall_eq];exact ι _ _ _ ⟨by simp only[go_sem,f0],by simp only[go_sem,f1],by simp only[go_sem,f2],by simp only[go_sem,f6],by simp only[go_sem,f7],by simp only[go_sem,f11],by simp only[go_sem,f13],by simp only[go_sem,f14]⟩ (h5.set 1 rfl (flB ext J M N O _ .aE))
 simp only[go_sem,OR,f11];by_cases c:1<mc;have c':(mc:Int)>1:=Om;simp only[go_sem,c',f0];refine eG Lb.toHF T (o:=E.o) (n:=2) (a:=f.2) aU af rfl (h4.at 0 rfl) ?_;have h5:=h4.set 0 rfl (bF v b.2);rw[hb];by_cases c2:b.1=0;have α:(b.1:Int)=0:=Om;rw[aD c,aD c2]at Z;have e1:i_.wrap (1-(f.1:Int))=1-(f.1:Int):=wrap_i64 Om Om;have c3:=h5.at 3 rfl;have ε:(1:Nat)*1<=16777216:=by decide
 simp only[go_sem,cI α,OS,y,γ,e1,ε];refine h5.append 5 (src:=[[.j (1-(f.1:Int))]]) rfl rfl (by unfold roomFor;simp only[aR,auD,auS,maxLen];omega) λw' H2 h6 hw=>?_;obtain⟨q2,rfl⟩:=hw bC;have c4:=h6.at 3 rfl;simp only[go_sem,c4,y,auQ,avE,or_false,forall_eq];have h7:=h6.set 3 rfl (.rows 17 [CI ⟨s,k,m,q,0,S,U,V,W,[(f.1:Int),1-(f.1:Int)],rl,t,h⟩ (.osl q2 1 0 2)]);exact fin (.osl q2 1 0 2) [(f.1:Int),1-(f.1:Int)] b.2 _ _ ⟨by simp only[go_sem,f0],by simp only[go_sem,f1],by simp only[go_sem,f2],by simp only[go_sem,f6],by simp only[go_sem,f7],by simp only[go_sem,f11],by simp only[go_sem,f13],by simp only[go_sem,f14]⟩ (by simp only[go_sem,y]) ⟨q2,rfl⟩ h7 (λu Y H2 g1 g2=>Z _ u Y H2 _ g1 ⟨q2,rfl⟩ g2);have α:¬(b.1:Int)=0:=Om;rw[aD c,aB c2]at Z;simp only[go_sem,bP α];exact fin (.osl o 1 0 1) [(f.1:Int)] b.2 _ _ ⟨by simp only[go_sem,f0],by simp only[go_sem,f1],by simp only[go_sem,f2],by simp only[go_sem,f6],by simp only[go_sem,f7],by simp only[go_sem,f11],by simp only[go_sem,f13],by simp only[go_sem,f14]⟩ (by simp only[go_sem,y]) ⟨o,rfl⟩ h5 (λu Y H2 g1 g2=>Z _ u Y H2 _ g1 ⟨o,rfl⟩ g2);have c':¬(mc:Int)>1:=Om;rw[aB c]at Z;simp only[go_sem,c'];exact fin (.osl o 1 0 1) [(f.1:Int)] f.2 _ _ ⟨by simp only[go_sem,f0],by simp only[go_sem,f1],by simp only[go_sem,f2],by simp only[go_sem,f6],by simp only[go_sem,f7],by simp only[go_sem,f11],by simp only[go_sem,f13],by simp only[go_sem,f14]⟩ (by simp only[go_sem,y]) ⟨o,rfl⟩ h4 (λu Y H2 g1 g2=>Z _ u Y H2 _ g1 ⟨o,rfl⟩ g2)
abbrev pA(l:List cJ):P2_:=l.map cJ.cells
abbrev rZ(l:List dW):P2_:=l.map dW.cells
theorem uJ{rows:P2_}(h:∀r∈rows,∀c∈r,c.oid=none):Flat rows:=Flat.of λr l c i q s rs=>mf (h r l c i) q s rs
theorem Mn(l:List cT):Flat (kF l):=uJ λr u c i=>by
 obtain⟨x,_,rfl⟩:=auT.1 u;simp only[cT.cells,auQ,avE,or_false]at i;rcases i with rfl|rfl|rfl|rfl<;>rfl
theorem Mr(l:List dN):Flat (mE l):=uJ λr u c i=>by
 obtain⟨x,_,rfl⟩:=auT.1 u;simp only[dN.cells,auQ,avE,or_false]at i;rcases i with rfl|rfl|rfl|rfl<;>rfl
theorem L8(l:List cQ):Flat (mV l):=uJ λr u c i=>by
 obtain⟨x,_,rfl⟩:=auT.1 u;simp only[cQ.cells,auQ,avE,or_false]at i;rcases i with rfl|rfl|rfl|rfl|rfl|rfl|rfl<;>rfl
theorem Ma(l:List eE):Flat (pO l):=uJ λr u c i=>by
 obtain⟨x,_,rfl⟩:=auT.1 u;simp only[eE.cells,auQ,avE,or_false]at i;rcases i with rfl|rfl|rfl<;>rfl
theorem aiA(l:List dW):Flat (rZ l):=uJ λr u c i=>by
 obtain⟨x,_,rfl⟩:=auT.1 u;simp only[dW.cells,auQ,avE,or_false]at i;rcases i with rfl|rfl<;>rfl
theorem M3(l:List cJ):Flat (pA l):=uJ λr u c i=>by
 obtain⟨x,_,rfl⟩:=auT.1 u;simp only[cJ.cells,auQ,avE,or_false]at i;rcases i with rfl|rfl|rfl|rfl|rfl|rfl|rfl|rfl|rfl|rfl|rfl|rfl|rfl|rfl|rfl|rfl|rfl<;>rfl
theorem Qw(l:N_)(mc i:Nat){a:Nat}(h:a<=l'' l):(pH l mc i a).2<=l'' l:=by
 have w:=bU l 9 (LS l (bU l ((aI l 3 (aI l 2 a).2).1+1) (bU l 4 (bU l 3 (bU l 2 h)))) (max (aI l 3 (aI l 2 a).2).1 1));have u:=bU l mc (zA l (zA l (zA l (zA l w))));unfold pH;simp only;split;split;exact bU l 2 u;exact bU l 2 u;exact u
theorem yQ(l:N_)(mc:Nat){a:Nat}(h:a<=l'' l):∀k,(eM l mc a k).2<=l'' l/\(eM l mc a k).1.length=k
 |0=>⟨h,rfl⟩
 |k+1=>by obtain⟨i,u⟩:=yQ l mc h k;exact⟨Qw l mc k i,by simp only[eM,auJ,auS,u]⟩
theorem JY(l:N_)(pc:Nat){a:Nat}(h:a<=l'' l):∀k,(fU l pc a k).2<=l'' l/\(fU l pc a k).1.length=k
 |0=>⟨h,rfl⟩
 |k+1=>by obtain⟨i,u⟩:=JY l pc h k;exact⟨bU l pc i,by simp only[fU,auJ,auS,u]⟩
theorem Hc(Lb:qG C){l:N_}{v:PV}(T:Tp l v)(E:FE)(mc n a:Nat)(hn:n<=10)(μ:0<mc)(δ:mc<=50)(ha:a<=l'' l)(U:Int)(y A J M:PV)(W:List cT)(Y:List dN)(dm:List cQ)(V:List eE)(K:cH)(F:PF)(H:PH)
  (Q:PAt E mc n 0 F) (hH:aQ H (E.boxes v (.j U) y A J M .aE .aE a) [(y,4,kF W),(A,4,mE Y),(J,7,mV dm),(M,3,pO V)])
  (hK:∀Z F' H',(iQ E).le F'->aQ H' (E.boxes v (.j U) y A J M Z .aE (eM l mc a n).2) (FE.lists y A J M Z W Y dm V (pA (eM l mc a n).1))->K (.exit 4) F' H') :
  aK.wp C (.loop OL) K F H:=by
 refine wp_loop (α:=T3_) (λt=>wk E mc n t.1) (λt=>t.2.2) (λt=>t.1<=n/\aQ t.2.2 (E.boxes v (.j U) y A J M t.2.1 .aE (eM l mc a t.1).2) (FE.lists y A J M t.2.1 W Y dm V (pA (eM l mc a t.1).1))) (λt=>n-t.1) (0,.aE,H) ⟨auK _,hH.lJ 17⟩ ?_ b_ ?_;unfold wk iQ
 (repeat' (first|exact e_|refine d_ ?_ ?_))<;>first|(simp only[go_sem,Q.f0,Q.f1,Q.f2,Q.f6,Q.f7,Q.f11,Q.f13,Q.f14]<;>rfl)|rfl
 rintro⟨i,Z,H0⟩ ⟨hi,hH⟩;simp only at hi hH ⊢;obtain⟨k1,k2⟩:=yQ l mc ha i;have O:eM l mc a (i+1)=((eM l mc a i).1++[(pH l mc i (eM l mc a i).2).1],(pH l mc i (eM l mc a i).2).2):=rfl;simp only[go_sem,OL,wk,iQ];by_cases hlt:i<n;have N:(i:Int)<(n:Nat):=Om;generalize hg:eM l mc a i=g at *
 simp only[go_sem,N];refine Zx (C:=C) Lb T E mc n i g.2 k1 Om (.j U) y A J M Z .aE _ _ _ _ H0 ⟨s_,s_,s_,s_,s_,s_,s_,s_⟩ hH ?_;intro p F1 H1 ζ ε β;simp only at β;have ν:pH l mc i g.2=_:=rfl;have γ:=bU l 9 (LS l (bU l ((aI l 3 (aI l 2 g.2).2).1+1) (bU l 4 (bU l 3 (bU l 2 k1)))) (max (aI l 3 (aI l 2 g.2).2).1 1));refine Zy (C:=C) Lb T E mc n i _ γ μ δ (.j U) y A J M Z W Y dm V _ (by rw[auD,k2];omega) _ _ _ _ (mkT 0 1) _ _ _ p _ F1 H1 ζ ε β ?_;intro S f b ms w u F2 H2 B' η hw θ;obtain⟨o,rfl⟩:=hw;have hP:pH l mc i g.2=(⟨[112]++cL i,(1+(aI l 2 g.2).1:Nat),((aI l 3 (aI l 2 g.2).2).1:Nat),(1+(aI l 2 g.2).1+(aI l ((aI l 3 (aI l 2 g.2).2).1+1) (aI l 4 (aI l 3 (aI l 2 g.2).2).2).2).1:Nat),0,S.1.getD 0 0,S.1.getD 1 0,S.1.getD 2 0,S.1.getD 3 0,ms.1,(mZ l (aI l ((aI l 3 (aI l 2 g.2).2).1+1) (aI l 4 (aI l 3 (aI l 2 g.2).2).2).2).2 (max (aI l 3 (aI l 2 g.2).2).1 1)).1,mkT ((aI l 9 (mZ l (aI l ((aI l 3 (aI l 2 g.2).2).1+1) (aI l 4 (aI l 3 (aI l 2 g.2).2).2).2).2 (max (aI l 3 (aI l 2 g.2).2).1 1)).2).1:Nat) 8,mkT ((1+(aI l 4 (aI l 3 (aI l 2 g.2).2).2).1:Nat):Int) 1⟩,ms.2):=rfl;rw[hP]at O;generalize ι:(⟨[112]++cL i,(1+(aI l 2 g.2).1:Nat),((aI l 3 (aI l 2 g.2).2).1:Nat),(1+(aI l 2 g.2).1+(aI l ((aI l 3 (aI l 2 g.2).2).1+1) (aI l 4 (aI l 3 (aI l 2 g.2).2).2).2).1:Nat),0,S.1.getD 0 0,S.1.getD 1 0,S.1.getD 2 0,S.1.getD 3 0,ms.1,(mZ l (aI l ((aI l 3 (aI l 2 g.2).2).1+1) (aI l 4 (aI l 3 (aI l 2 g.2).2).2).2).2 (max (aI l 3 (aI l 2 g.2).2).1 1)).1,mkT ((aI l 9 (mZ l (aI l ((aI l 3 (aI l 2 g.2).2).1+1) (aI l 4 (aI l 3 (aI l 2 g.2).2).2).2).2 (max (aI l 3 (aI l 2 g.2).2).1 1)).2).1:Nat) 8,mkT ((1+(aI l 4 (aI l 3 (aI l 2 g.2).2).2).1:Nat):Int) 1⟩:cJ)=P at *
 have κ:P.asQ=ms.1:=by rw[<-ι]
 obtain⟨rs,z1,z2,z3,z4,z5⟩:=θ.frz 5 rfl;have y1:=z4 0 _ aU rfl;have y2:=z4 1 _ aU rfl;have y3:=z4 2 _ aU rfl;have y4:=z4 3 _ aU rfl;have y5:=z4 4 _ aU rfl;simp only at y1 y2 y3 y4 y5;have y0:=T.frz o 1 rs;obtain⟨f0,f1,f2,f6,f7,f11,f13,f14⟩:=η;simp only[go_sem,f14,wZz i];refine zx (i+1,u,H2.frz o 1 rs) z1 ⟨hlt,?_⟩ sO_ ?_ b_;rw[O];have eB:(E.boxes v (.j U) y A J M u .aE ms.2).map (λb=>(b.1,b.2.frz o 1 rs))=E.boxes v (.j U) y A J M u .aE ms.2:=by show[(E.o,aW.rows 2 [[PV.cZ o 1 rs v,.j ms.2]]),(E.o7,aW.rows 7 [[.j U,PV.cZ o 1 rs y,PV.cZ o 1 rs A,PV.cZ o 1 rs J,PV.cZ o 1 rs M,PV.cZ o 1 rs u,.aE]]),(E.o6,flZ)]=_;rw[y0,y1,y2,y3,y4,y5]
 have e5:(pA g.1++[CI P (.osl o 1 0 ms.1.length)]).map (λr=>r.map (PV.cZ o 1 rs))=pA (g.1++[P]):=by
  rw[avD,M3];have:([CI P (.osl o 1 0 ms.1.length)]:P2_).map (λr=>r.map (PV.cZ o 1 rs))=[P.cells]:=by show[[PV.str P.name,.j P.k,.j P.m,.j P.atO,.j P.s0,.j P.s1,.j P.s2,.j P.s3,.j P.s4,PV.cZ o 1 rs (.osl o 1 0 ms.1.length),frs P.repair,.bool P.target.neg,aL P.target.num,aL P.target.den,.bool P.asZ.neg,aL P.asZ.num,aL P.asZ.den]]=_;rw[z2,<-κ];rfl
  rw[this];simp[pA]
 have eL:(FE.lists y A J M u W Y dm V (pA g.1++[CI P (.osl o 1 0 ms.1.length)])).map (λx=>(x.1,x.2.1,x.2.2.map λr=>r.map (PV.cZ o 1 rs)))=FE.lists y A J M u W Y dm V (pA (g.1++[P])):=by show[(y,4,(kF W).map _),(A,4,(mE Y).map _),(J,7,(mV dm).map _),(M,3,(pO V).map _),(u,17,(pA g.1++[CI P (.osl o 1 0 ms.1.length)]).map _)]=_;rw[Mn,Mr,L8,Ma,e5]
 rw[<-eB,<-eL];exact z5.sub (by rw[avD];exact ayD ..) (avU.refl _);exact lE7 f0 f1 f2 f6 f7 f11 f13;have N:¬(i:Int)<(n:Nat):=Om;have:i=n:=Om;subst this;simp only[go_sem,N];exact hK Z _ _ (XQ Sq Sq Sq Sq Sq) hH
theorem Kv(Lb:qG C){l:N_}{v:PV}(T:Tp l v)(E:FE)(pc n a:Nat)(hn:n<=60)(β:pc<=50)(ha:a<=l'' l)(ext N O Q S u:PV)(M:List cJ)(Y:l'' M=pc)(L:List LI)(K:cH)(F:PF)(H:PH)
  (hF:(((iQ E).set 18 (.j n)).set 19 (.j 0)).le F) (A:aQ H (E.boxes v ext N O Q S u .aE a) ((u,17,pA M)::L))
  (hK:∀y Z H',(iQ E).le Z->aQ H' (E.boxes v ext N O Q S u y (fU l pc a n).2) ((u,17,pA M)::L++[(y,2,rZ (fU l pc a n).1)])->K (.exit 8) Z H') :
  aK.wp C (.loop OM) K F H:=by
 refine wp_loop (α:=T3_) (λt=>((iQ E).set 18 (.j n)).set 19 (.j t.1)) (λt=>t.2.2) (λt=>t.1<=n/\aQ t.2.2 (E.boxes v ext N O Q S u t.2.1 (fU l pc a t.1).2) ((u,17,pA M)::L++[(t.2.1,2,rZ (fU l pc a t.1).1)])) (λt=>n-t.1) (0,.aE,H) ⟨auK _,A.lJ 2⟩ hF b_ ?_;rintro⟨i,y,H0⟩ ⟨hi,A⟩;simp only at hi A ⊢;obtain⟨k1,k2⟩:=JY l pc ha i;have J:fU l pc a (i+1)=((fU l pc a i).1++[⟨[118]++cL i,((aI l pc (fU l pc a i).2).1:Nat)⟩],(aI l pc (fU l pc a i).2).2):=rfl;simp only[go_sem,OM,iQ];by_cases hlt:i<n;have w:(i:Int)<(n:Nat):=Om;generalize hg:fU l pc a i=g at *
 have h1:=A.set 0 rfl (bF v (aI l pc g.2).2);generalize V:aI l pc g.2=z at *
 have b1:=A.at 1 rfl;have lw:=(A.own 0 rfl).mB;rw[auD,Y]at lw;have U:(h_.set E.o7 (flB ext N O Q S u y)).le H0:=c_ a_ b1;simp only[go_sem,w];refine bV (h_.set E.o7 (flB ext N O Q S u y)) (mkS l v) U ?_;simp only[go_sem];refine NF Lb.toxN (s:=[118]) (n:=i) aU Om rfl U ?_;simp only[go_sem,lw];refine vZ Lb.toHF T (o:=E.o) (n:=pc) (a:=g.2) Om k1 rfl (A.at 0 rfl) ?_ ?_;rw[V];exact c_ a_ (h1.at 1 rfl);rw[V];have W:(1:Nat)*2<=16777216:=by decide
 simp only[go_sem,W,auQ,avE,or_false,forall_eq,forall_eq_or_imp];refine h1.append (v:=y) (s:=2) (rows:=rZ g.1) (l'' L+1) (src:=[(⟨[118]++cL i,(z.1:Nat)⟩:dW).cells]) bC rfl (by unfold roomFor;rw[auD];simp only[auS,maxLen];omega) λw' H2 h5 hw=>?_;obtain⟨q,rfl⟩:=hw bC;rw[show((u,17,pA M)::L++[(y,2,rZ g.1)])=((u,17,pA M)::L)++[(y,2,rZ g.1)]from rfl,axS _ _ bC,show L.length+1-((u,17,pA M)::L).length=0 by simp]at h5;have b2:=h5.at 1 rfl;refine⟨c_ a_ b2,?_⟩;refine bV .nil dY a_ ?_;simp only[go_sem,b2,auQ,avE,or_false,forall_eq];have h6:=h5.set 1 rfl (flB ext N O Q S u (.osl q 2 0 (rZ g.1++[(⟨[118]++cL i,(z.1:Nat)⟩:dW).cells]).length));refine⟨a_,?_⟩;simp only[go_sem,wZz i];refine aF (i+1,.osl q 2 0 (rZ g.1++[(⟨[118]++cL i,(z.1:Nat)⟩:dW).cells]).length,_) ⟨hlt,?_⟩ sO_ ?_ b_;rw[J];have e:rZ (g.1++[⟨[118]++cL i,(z.1:Nat)⟩])=rZ g.1++[(⟨[118]++cL i,(z.1:Nat)⟩:dW).cells]:=by simp[rZ]
 simp only;rw[e];exact h6;exact Lq;have w:¬(i:Int)<(n:Nat):=Om;have:i=n:=Om;subst this;simp only[go_sem,w];exact hK y _ _ (XQ rfl rfl rfl rfl rfl) A
def SE(l:N_)(v:PV)(o asP asR a:Nat)(r:PV)(H:PH):Prop:=Co r (.agg (hZ l asP asR a).1.cells)/\H=h_.set o (bF v (hZ l asP asR a).2)
structure Ec(C:Ctx):Prop extends qG C where
 grow:∀(l:N_)(v:PV),Tp l v->∀(mc asP:Nat),0<mc->mc<=1000->asP<=60->jn C l v mc asP 4
theorem Ur(U:Ec C){l:N_}{v:PV}(T:Tp l v)(o asP asR a:Nat)(Λ:asP<=60)(a':asR<=50)(ha:a<=l'' l) :
  ZV.wp C (aX eA.res (SE l v o asP asR a)) (g_ [.ptr o 2 0 0,.j asP,.j asR]) (h_.set o (bF v a)):=by
 have hT:hZ l asP asR a=hZ l asP asR a:=rfl
 conv at hT=>rhs;unfold hZ
 dsimp only at hT;have hR:∀r H,SE l v o asP asR a r H↔Co r (.agg (hZ l asP asR a).1.cells)/\H=h_.set o (bF v (hZ l asP asR a).2):=λ_ _=>Iff.rfl;have ne:=cM l (show 0<2 by decide) a;have ae:=bU l 2 ha;generalize he:aI l 2 a=e at *
 have b':=cM l (show 0<2 by decide) e.2;have θ:=bU l 2 ae;generalize Ξ:aI l 2 e.2=S at *
 obtain⟨V,ζ⟩:=GD l θ (1+S.1);generalize γ:jE l S.2 (1+S.1)=asW at *
 have c':=cM l (show 0<2 by decide) asW.2;have ι:=bU l 2 V;generalize Φ:aI l 2 asW.2=u at *
 obtain⟨W,β⟩:=yH l (1+S.1) ι (1+u.1);generalize Z:fR l (1+S.1) u.2 (1+u.1)=asQ at *
 have ν:GOk l asP ⟨[nI],[],asQ.2⟩:=⟨by simp,auK _,W⟩;obtain⟨hG,-⟩:=FW (mc:=1+u.1) 4 0 ν;generalize hg:fK l (1+u.1) asP 4 0 ⟨[nI],[],asQ.2⟩=g at *
 have d':=cM l (show 0<2 by decide) g.a;have κ:=bU l 2 hG.a;generalize Ω:aI l 2 g.a=pl at *
 obtain⟨Y,η⟩:=yQ l (1+u.1) κ (1+pl.1);generalize δ:eM l (1+u.1) pl.2 (1+pl.1)=pols at *
 have e':=cM l (Om:0<asR+1) pols.2;have υ:=bU l (asR+1) Y;generalize σ:aI l (asR+1) pols.2=vo at *
 generalize ε:fU l (1+pl.1) vo.2 vo.1=vols at *
 have ee:i_.wrap (1+(e.1:Int))=((1+e.1:Nat):Int):=wO_
 have χ:i_.wrap (1+(S.1:Int))=((1+S.1:Nat):Int):=wO_
 have ψ:i_.wrap (1+(u.1:Int))=((1+u.1:Nat):Int):=wO_
 have ω:i_.wrap (1+(pl.1:Int))=((1+pl.1:Nat):Int):=wO_
 have Γ:i_.wrap ((asR:Int)+1)=((asR+1:Nat):Int):=dU Om;have h0:aQ (h_.set o (bF v a)) [(o,bF v a)] []:=aQ.nil.new (H:=h_) rfl (bF v a);simp only[go_sem,ZV,eA];refine aS λo6 ξ=>?_;have w:=h0.new ξ flZ;simp only[go_sem];refine eG U.toHF T (o:=o) (n:=2) (a:=a) aU ha rfl (w.at 0 rfl) ?_;have A:=w.set 0 rfl (bF v e.2);rw[he];simp only[go_sem,ee];refine aS λo7 ο=>?_;have M:=A.new ο (flB (.j (1+e.1:Nat)) .aE .aE .aE .aE .aE .aE);simp only[go_sem,auQ,avE,or_false,forall_eq,forall_eq_or_imp];refine eG U.toHF T (o:=o) (n:=2) (a:=e.2) aU ae rfl (M.at 0 rfl) ?_;have h4:=M.set 0 rfl (bF v S.2);rw[Ξ];have h5:=h4.perm (B':=FE.boxes ⟨o,o6,o7,asP,asR⟩ v (.j (1+e.1:Nat)) .aE .aE .aE .aE .aE .aE S.2) (L':=[]) (axF.cons _ (axF.swap _ _ _)) (axF.refl _);obtain⟨E,i⟩:∃E:FE,E=⟨o,o6,o7,asP,asR⟩:=⟨_,rfl⟩;rw[<-i]at h5;simp only[go_sem,χ];refine Zw (C:=C) U.toqG T E (1+S.1) S.2 Om θ _ _ _ _ ?_ h5 ?_
 ·rw[i];unfold iQ;exact Lq
 clear h5 h4 M A w h0 ξ ο;intro y F1 H1 N w;rw[γ]at w;have f0:F1 0=some (.ptr o 2 0 0):=N 0 _ (by rw[i];unfold iQ;simp only[go_sem]);have f1:F1 1=some (.j asP):=N 1 _ (by rw[i];unfold iQ;simp only[go_sem]);have f2:F1 2=some (.j asR):=N 2 _ (by rw[i];unfold iQ;simp only[go_sem]);have f6:F1 6=some (.ptr o6 7 0 0):=N 6 _ (by rw[i];unfold iQ;simp only[go_sem]);have f7:F1 7=some (.ptr o7 7 0 0):=N 7 _ (by rw[i];unfold iQ;simp only[go_sem]);have q0:=w.at 0 rfl;rw[i]at q0;simp only[go_sem,f0];refine eG U.toHF T (o:=o) (n:=2) (a:=asW.2) aU V rfl q0 ?_;have A:=w.set 0 rfl (bF v u.2);rw[Φ];simp only[go_sem,ψ];refine P4 (C:=C) U.toqG T E (1+u.1) u.2 (1+S.1) Om Om ι (.j (1+e.1:Nat)) y asW.1 ζ _ _ _ ?_ (by rw[i]at A ⊢;exact A) ?_
 ·rw[i];unfold iQ;exact Lq
 clear q0 A w f0 f1 f2 f6 f7 N;intro w2 F2 H2 O f11 A;rw[Z]at A;have f0:F2 0=some (.ptr o 2 0 0):=O 0 _ (by rw[i];unfold iQ;simp only[go_sem]);have f1:F2 1=some (.j asP):=O 1 _ (by rw[i];unfold iQ;simp only[go_sem]);have f2:F2 2=some (.j asR):=O 2 _ (by rw[i];unfold iQ;simp only[go_sem]);have f6:F2 6=some (.ptr o6 7 0 0):=O 6 _ (by rw[i];unfold iQ;simp only[go_sem]);have f7:F2 7=some (.ptr o7 7 0 0):=O 7 _ (by rw[i];unfold iQ;simp only[go_sem]);obtain⟨qm,ρ⟩:=(A.own 1 rfl).one (by rw[auD];omega);rw[auD,β]at ρ;subst ρ;have Δ:(1:Nat)*7<=16777216:=by decide
 simp only[go_sem];refine aA (U.int 0 (by unfold dS;omega)) rfl ?_;simp only[go_sem,auQ,avE,or_false,forall_eq,forall_eq_or_imp,Δ];refine aS λod Ψ=>?_;have M:=A.Qi (s:=7) (rows:=mV [nI]) Ψ;have b7:=A.at 1 rfl;rw[i]at b7;have n7:¬o7=od:=by have:=M.neL 1 2 rfl rfl rfl;rw[i]at this;exact this
 simp only[go_sem,f7,b7,n7,auQ,avE,or_false,forall_eq];have h4:=(M.set 1 rfl (flB (.j (1+e.1:Nat)) y (.osl qm 4 0 (1+u.1)) (.osl od 7 0 1) .aE .aE .aE)).lJ 3;rw[i]at h4;have h5:=h4.perm (B':=(GE.mk o o7 qm (.j (1+e.1:Nat)) y .aE .aE).boxes v (1+u.1) (.osl od 7 0 1) .aE asQ.2++[(o6,flZ)]) (L':=oZ ⟨[nI],[],asQ.2⟩ (.osl od 7 0 1) .aE++[(y,4,kF asW.1),(.osl qm 4 0 (1+u.1),4,mE asQ.1)]) (axF.refl _)
  (List.perm_append_comm (l₁:=[(y,4,kF asW.1),(.osl qm 4 0 (1+u.1),4,mE asQ.1)]) (l₂:=oZ ⟨[nI],[],asQ.2⟩ (.osl od 7 0 1) .aE))
 simp only[go_sem,f0,f1,f7];refine KB h5 (λH0 Θ=>U.grow l v T (1+u.1) asP Om Om Λ (GE.mk o o7 qm (.j (1+e.1:Nat)) y .aE .aE) (.osl od 7 0 1) .aE ⟨[nI],[],asQ.2⟩ 0 nI ν rfl rfl H0 Θ) (by simp only[go_sem,f0,f1,f7];rfl) ?_;rintro r B' L' H3 ⟨rfl,J,K,rfl,rfl⟩ h6;rw[hg]at h6;have h7:=h6.perm (B':=E.boxes v (.j (1+e.1:Nat)) y (.osl qm 4 0 (1+u.1)) J K .aE .aE g.a) (L':=[(y,4,kF asW.1),(.osl qm 4 0 (1+u.1),4,mE asQ.1),(J,7,mV g.asY),(K,3,pO g.atI)]) (by rw[i];exact axF.refl _)
  (List.perm_append_comm (l₁:=oZ g J K) (l₂:=[(y,4,kF asW.1),(.osl qm 4 0 (1+u.1),4,mE asQ.1)]))
 have q0:=h7.at 0 rfl;rw[i]at q0;simp only[go_sem,f0];refine eG U.toHF T (o:=o) (n:=2) (a:=g.a) aU hG.a rfl q0 ?_;have h8:=h7.set 0 rfl (bF v pl.2);rw[Ω];simp only[go_sem,ω];refine Hc (C:=C) U.toqG T E (1+u.1) (1+pl.1) pl.2 Om Om Om κ ((1+e.1:Nat):Int) y (.osl qm 4 0 (1+u.1)) J K asW.1 asQ.1 g.asY g.atI _ _ _ (by rw[i];exact⟨by simp only[go_sem,f0],by simp only[go_sem,f1],by simp only[go_sem,f2],by simp only[go_sem,f6],by simp only[go_sem,f7],by simp only[go_sem,f11],s_,by simp only[go_sem];rfl⟩) (by rw[i]at h8 ⊢;exact h8) ?_;clear h8 h7 h6 h5 h4 M A q0 b7 f0 f1 f2 f6 f7 O;intro w5 F4 H4 Q w;rw[δ]at w;have f0:F4 0=some (.ptr o 2 0 0):=Q 0 _ (by rw[i];unfold iQ;simp only[go_sem]);have f1:F4 1=some (.j asP):=Q 1 _ (by rw[i];unfold iQ;simp only[go_sem]);have f2:F4 2=some (.j asR):=Q 2 _ (by rw[i];unfold iQ;simp only[go_sem]);have f6:F4 6=some (.ptr o6 7 0 0):=Q 6 _ (by rw[i];unfold iQ;simp only[go_sem]);have f7:F4 7=some (.ptr o7 7 0 0):=Q 7 _ (by rw[i];unfold iQ;simp only[go_sem]);have q0:=w.at 0 rfl;rw[i]at q0;simp only[go_sem,f0,f2,Γ];refine eG U.toHF T (o:=o) (n:=asR+1) (a:=pols.2) Om Y rfl q0 ?_;have A:=w.set 0 rfl (bF v vo.2);rw[σ];have M:=A.perm (B':=E.boxes v (.j (1+e.1:Nat)) y (.osl qm 4 0 (1+u.1)) J K w5 .aE vo.2) (L':=(w5,17,pA pols.1)::[(y,4,kF asW.1),(.osl qm 4 0 (1+u.1),4,mE asQ.1),(J,7,mV g.asY),(K,3,pO g.atI)]) (axF.refl _)
  (List.perm_append_comm (l₁:=[(y,4,kF asW.1),(.osl qm 4 0 (1+u.1),4,mE asQ.1),(J,7,mV g.asY),(K,3,pO g.atI)]) (l₂:=[(w5,17,pA pols.1)]))
 simp only[go_sem];refine Kv (C:=C) U.toqG T E (1+pl.1) vo.1 vo.2 Om Om υ _ _ _ _ _ w5 pols.1 η _ _ _ _ ?_ (by rw[i]at M ⊢;exact M) ?_
 ·rw[i];unfold iQ;exact Lq
 clear M A w q0 f0 f1 f2 f6 f7 Q;intro w6 F5 H5 μ w;rw[ε]at w;have f6:F5 6=some (.ptr o6 7 0 0):=μ 6 _ (by rw[i];unfold iQ;simp only[go_sem]);have f7:F5 7=some (.ptr o7 7 0 0):=μ 7 _ (by rw[i];unfold iQ;simp only[go_sem]);rw[i]at w;have b7:=w.at 1 rfl;have b6:=w.at 2 rfl;have one:∀(x:PV),x∈[y,J,K,w5,w6]->(∃q s n,x=.osl q s 0 n)\/x=.aE:=by
  intro x hx;have α:∀{s:Nat}{rows:P2_},cF H5 s x rows->(∃q s n,x=.osl q s 0 n)\/x=.aE:=by
   rintro s rows (⟨_,h⟩|⟨q,rs,h,_⟩)
   ·exact .inr h
   ·exact .inl ⟨q,s,_,h⟩
  simp only[auQ,avE,or_false]at hx;rcases hx with rfl|rfl|rfl|rfl|rfl
  ·exact α (w.own 1 rfl)
  ·exact α (w.own 3 rfl)
  ·exact α (w.own 4 rfl)
  ·exact α (w.own 0 rfl)
  ·exact α (w.own 5 rfl)
 have F:∀(x:PV),x∈[y,J,K,w5,w6]->PV.one x=true:=λx hx=>by rcases one x hx with⟨q,s,n,rfl⟩|rfl<;>rfl
 have o1:=F y bC;have o3:=F J bC;have o4:=F K bC;have o5:=F w5 bC;have τ:=F w6 bC;simp only[PV.one]at o1 o3 o4 o5 τ;simp only[go_sem,f6,f7,b7,b6,auQ,avE,or_false,forall_eq,forall_eq_or_imp,o1,o3,o4,o5,τ];have A:=w.set 2 rfl (flB (.j (1+e.1:Nat)) y (.osl qm 4 0 (1+u.1)) J K w5 w6);have M:=A.sub (B':=[(o,bF v vols.2)]) (avU.cons_cons _ (List.nil_sublist _)) (avU.refl _);obtain⟨φ,H6,k1,k2,k3,k4⟩:=aQ.giveUp _ M (λx hx=>by
  simp only[axX,axI,auQ,avE,or_false]at hx;rcases hx with rfl|rfl|rfl|rfl|rfl|rfl
  ·exact M3 _
  ·exact Mn _
  ·exact Mr _
  ·exact L8 _
  ·exact Ma _
  ·exact aiA _) (λb hb q s rs=>by
  simp only[auQ,avE,or_false]at hb;subst hb;simp only[aW.frz,avH,avY,T.frz];rfl)
 refine FA (vs:=[.agg [.j (1+e.1:Nat),y,.osl qm 4 0 (1+u.1),J,K,w5,w6]]) (.inr rfl) (by simp only[go_sem,f6]) (k4 _ _ (.done (H2:=h_.set o (bF v vols.2)) ?_ (c_ a_ (k3.at 0 rfl))));rw[hR,hT];refine⟨CoL.agg ?_,rfl⟩;have s5:=k1 (w5,17,pA pols.1) bC;have s1:=k1 (y,4,kF asW.1) bC;have s2:=k1 (.osl qm 4 0 (1+u.1),4,mE asQ.1) bC;have s3:=k1 (J,7,mV g.asY) bC;have s4:=k1 (K,3,pO g.atI) bC;have s6:=k1 (w6,2,rZ vols.1) bC;have s0:φ (.j (1+e.1:Nat))=.j (1+e.1:Nat):=k2 _ rfl;show CoL [φ (.j (1+e.1:Nat)),φ y,φ (.osl qm 4 0 (1+u.1)),φ J,φ K,φ w5,φ w6] _;rw[s0];exact CoL.cons (.refl _) (CoL.cons s1.co (CoL.cons s2.co (CoL.cons s3.co (CoL.cons s4.co (CoL.cons s5.co (CoL.cons s6.co .nil))))))
structure So(C:Ctx):Prop extends Ec C where
 new:∀(l:N_),(∀x∈l,x<256)->l'' l<=9223372036854775807->aG C 28 [.sl 1 (iS l)] .nil (vh l)
 fleet:∀(l:N_)(v:PV),Tp l v->∀(o asP asR a:Nat),asP<=60->asR<=50->a<=l'' l ->
  aG C 0 [.ptr o 2 0 0,.int .i64 asP,.int .i64 asR] (h_.set o (bF v a)) (λr H=>r=.agg (hZ l asP asR a).1.cells/\H=h_.set o (bF v (hZ l asP asR a).2))
theorem SE.exact{name:Nat}{args:V_}{H:PH}{l:N_}{v:PV}{o asP asR a:Nat}(h:aG C name args H (SE l v o asP asR a)):aG C name args H (λr H=>r=.agg (hZ l asP asR a).1.cells/\H=h_.set o (bF v (hZ l asP asR a).2)):=
 h.post λr H' i=>⟨_,i.1,rfl,i.2⟩
theorem Uo(y:So C)(l:N_)(hb:∀x∈l,x<256)(E:l'' l<=9223372036854775807)(asP asR:Nat)(i:asP<=60)(w:asR<=50) :
  ZS.wp C (aX oa.res (cN (.agg (hZ (l.take 400) asP asR 0).1.cells))) (g_ [.sl 1 (iS l),.j asP,.j asR]) .nil:=by
 simp only[go_sem,ZS,oa];refine aS λo6 F=>?_;simp only[go_sem];refine fD (y.new l hb E) rfl a_ ?_;rintro r H' ⟨o,v,rfl,T,rfl⟩ A;have u:¬o6=o:=by intro e;subst e;have:=A o6 (bF v 0) (by rw[aT,aD rfl]) rfl;rw[aT,aD rfl]at this;cases this
 rw[PH.oV];simp only[go_sem];refine oK (y.fleet _ v T o asP asR 0 i w (auK _)) (by rw[aT,aD rfl]) rfl ?_;simp only[go_sem,u];exact aY (vs:=[.agg (hZ (l.take 400) asP asR 0).1.cells]) (.inr rfl) .nil Sq a_ ⟨.refl _,rfl⟩
theorem CoL.arE:CoL [] []:=⟨rfl,λj p q h=>by simp at h⟩
theorem CoL.Oj{p q:PV}{ps l:V_}(h:Co p q)(i:CoL ps l):CoL (p::ps) (q::l):=by
 refine⟨by simp[i.len],λj x y a b=>?_⟩;cases j with
 |zero =>simp only[List.getElem?_cons_zero,awN.injEq]at a b;subst a;subst b;exact h
 |succ j=>exact i.at_ j x y (by simpa using a) (by simpa using b)
theorem aG.seen{name:Nat}{args:V_}{H:PH}{v:PV}(h:aG C name args H (cN v)):aG C name args H (aJ v):=
 h.post λr H' i=>⟨v,i.1,rfl,i.2⟩
def YB(x:RF):Bool:=(x.num.all (λn=>decide (n<4294967296))&&x.den.all λn=>decide (n<4294967296))&&(decide (l'' x.num<=9)&&decide (l'' x.den<=9))
theorem PZ{x:RF}(h:YB x=true):x.Ok:=by
 simp only[YB,auI,auX,dT_]at h;exact⟨h.1.1,h.1.2,by omega,by omega⟩
def LX(l:List RF):Bool:=decide (l'' l<=9)&&l.all YB
theorem HZ{l:List RF}(h:LX l=true):mG l:=by
 simp only[LX,auI,auX,dT_]at h;exact⟨by unfold Fits;omega,λx i=>PZ (h.2 x i)⟩
def Gn(x:cT):Bool:=(LX x.start&&LX x.exit)&&(decide (l'' x.asU<=9)&&x.asU.all LX)
theorem Ud{x:cT}(h:Gn x=true):x.Ok:=by
 simp only[Gn,auI,auX,dT_]at h;exact⟨HZ h.1.1,HZ h.1.2,by unfold Fits;omega,λr i=>HZ (h.2.2 r i)⟩
def Ir(x:cJ):Bool:=(decide (dS x.k/\dS x.m/\dS x.atO)&&(decide (l'' x.asQ<=9)&&x.asQ.all λm=>decide (dS m)))&&(LX x.repair&&(YB x.target&&YB x.asZ))
theorem Vj{x:cJ}(h:Ir x=true):x.Ok:=by
 simp only[Ir,auI,auX,dT_]at h;exact⟨h.1.1.1,h.1.1.2.1,h.1.1.2.2,by unfold Fits;omega,h.1.2.2,HZ h.2.1,PZ h.2.2.1,PZ h.2.2.2⟩
def okB(f:aH):Bool:=(decide (l'' f.asW<=99/\l'' f.asQ<=99/\l'' f.asS<=99/\l'' f.asP<=99/\l'' f.asT<=99/\l'' f.asR<=99)&&(f.asW.all Gn&&f.asT.all Ir)) &&
 (f.asS.all (λx=>YB x.atE&&decide (dS x.level/\dS x.parent))&&(f.asP.all (λx=>decide (dS x.model/\dS x.machine))&&f.asR.all λx=>decide (dS x.atB)))
theorem akB{f:aH}(h:okB f=true):f.Ok:=by
 simp only[okB,auI,auX,dT_]at h;obtain⟨⟨⟨A,E,F,H,J,K⟩,u,w⟩,l,y,h5⟩:=h;exact⟨by unfold Fits;omega,by unfold Fits;omega,by unfold Fits;omega,by unfold Fits;omega,by unfold Fits;omega,by unfold Fits;omega,λx i=>Ud (u x i),λx i=>⟨PZ (l x i).1,(l x i).2⟩,y,λx i=>Vj (w x i),h5⟩
def lS:=bR [43] Proofs.Tryz.f159
def VU:=aC lS 8
def VV:=aC lS 9
def QO:=aC lS 10
def QP:=aC lS 11
def QQ:=aC lS 12
def DY:=aC lS 13
def DZ:=aC lS 14
def ba:aK:=(sq (aC lS 0) (sq (aC lS 1) (sq (aC lS 2) (.seq (eH (aC lS 3) 0 (fY (aC lS 4) 13 0 DZ (sq (aC lS 5) (iE (aC lS 6) 20 (.region (aC lS 7)) (sq VU (sq VV (iE QO 35 (sq QP (.region QQ)) (.region DY)))))))) (sq (aC lS 15) .ret)))))
def pX:=bR [51] Proofs.Tryz.f161
def i8:=aC pX 5
def i9:=aC pX 6
def ja:=aC pX 7
def QR:=aC pX 8
def QS:=aC pX 9
def IJ:=aC pX 10
def IK:=aC pX 11
def IL:=aC pX 12
def VY:=aC pX 13
def sm:aK:=(sq (aC pX 0) (sq (aC pX 1) (sq (aC pX 2) (.seq (eH (aC pX 3) 0 (fY (aC pX 4) 22 0 IL (sq i8 (iE i9 29 (.region ja) (iE QR 40 (.region QS) (sq IJ (.region IK))))))) (sq VY .ret)))))
def nB:=bR [] Proofs.Tryz.f132
def WA:=aC nB 4
def WB:=aC nB 5
def QT:aK:=(fY (aC nB 6) 25 2 (aC nB 9) (dq (eY nB 0) (sq (aC nB 7) (.region (aC nB 8)))))
def QU:=aC nB 10
def bc:aK:=(sq (aC nB 0) (sq (aC nB 1) (.seq (eH (aC nB 2) 0 (fY (aC nB 3) 19 0 (aC nB 11) (sq WA (.seq (eH WB 2 QT) (.region QU))))) (sq (aC nB 12) .ret))))
def Rk:=bR [] Proofs.Tryz.f136
def Be:=bX Rk
def Rv:=bR [] Proofs.Tryz.f138
def Bk:=bX Rv
def Rs:=bR [] Proofs.Tryz.f104
def Bi:=bX Rs
def Dm:=bR [] Proofs.Tryz.f157
def r8:=bX Dm
def uup:=bR [35,42] Proofs.Tryz.f158
def J4:=bX uup
def rQ:=bR [47] Proofs.Tryz.f160
def i6:=aC rQ 9
def VT:=aC rQ 10
def r9:aK:=(sq (aC rQ 0) (mM (aC rQ 1) 12 (aC rQ 2) (sq (aC rQ 3) (.seq (eH (aC rQ 4) 0 (fY (aC rQ 5) 18 0 VT (sq (aC rQ 6) (iE (aC rQ 7) 30 (.region (aC rQ 8)) (.region i6))))) (sq (aC rQ 11) .ret)))))
def te:=bR [1] Proofs.Tryz.f8
def bi:=bX te
def sw:=bR [1] Proofs.Tryz.f162
def be:=bX sw
def Dv:=bR [1] Proofs.Tryz.f137
def sr:=bX Dv
def YJ:=bR [1] Proofs.Tryz.f75
def WF:=bX YJ
def td:=bR [] Proofs.Tryz.f64
def bg:=bX td
def s8:=bR [2,3] Proofs.Tryz.f30
def bf:=bX s8
def Dw:=bR [2,3] Proofs.Tryz.f9
def sx:=bX Dw
def Dy:=bR [2,3] Proofs.Tryz.f26
def s9:=bX Dy
def Dz:=bR [1] Proofs.Tryz.f10
def ta:=bX Dz
def J5:=bR [2,3] Proofs.Tryz.f110
def WC:=bX J5
def AH:=bR [] Proofs.Tryz.f74
def Nk:=aC AH 0
def Nl:=aC AH 1
def Nm:=aC AH 2
def Nn:=aC AH 3
def No:=eY AH 0
def x7:=aC AH 4
def Np:=aC AH 5
def Nq:=aC AH 6
def Nr:=aC AH 7
def Nj:aK:=(fY Nn 12 0 Nr (dq No (mM x7 25 Np (.region Nq))))
def J9:=aC AH 8
def Bo:aK:=(sq Nk (sq Nl (.seq (eH Nm 0 Nj) (sq J9 .ret))))
def ID:=bR [] Proofs.Tryz.f76
def uN:=bX ID
def YM:=bR [] Proofs.Tryz.f108
def WK:=bX YM
def tg:=bR [] Proofs.Tryz.f135
def bj:=bX tg
def YK:=bR [] Proofs.Tryz.f109
def WI:=bX YK
def YL:=bR [] Proofs.Tryz.f71
def WJ:=bX YL
theorem uH(P:N_)(v:Nat):aO P++[[.int .u32 (v:Int)]]=aO (P++[v]):=by simp[aO]
theorem uG{P:N_}(h:l'' P<=35184372087808):roomFor (aO P).length 1 4:=by
 unfold roomFor;rw[cP];simp only[maxLen];omega
def YH(a b:N_)(v:PV)(c i:Nat):PF:=(((((n_.set 0 (aL a)).set 1 (aL b)).set 5 (v)).set 6 (.int .u64 c)).set 7 (.int .i64 i))
theorem Ws(L:tU C)(a b:N_)(ha:Lim a)(hb:Lim b)(η:val b<=val a)(hl:l'' b<=l'' a)(h1:l'' a<=35184372087808) :
  ba.wp C (aX lS.res (cN (aL (aM (val a-val b))))) (g_ [aL a,aL b]) .nil:=by
 simp only[go_sem,ba,lS];refine wp_loop (α:=N_ × T3_) (λs=>YH a b s.2.2.1 s.2.1 s.1.length) (λs=>s.2.2.2)
  (λs=>s.1.length<=l'' a/\Lim s.1/\s.2.1<=1/\val (a.take s.1.length)+4294967296^s.1.length*s.2.1=val s.1+val (b.take s.1.length)/\cF s.2.2.2 1 s.2.2.1 (aO s.1)) (λs=>l'' a-s.1.length) ([],0,.aE,.nil) ⟨by simp,by simp[Lim],by simp,by simp[val],.nil⟩ ?_ a_ ?_
 unfold YH;exact Lq;rintro⟨P,c,v,H0⟩ ⟨hP,i,hc,E,W⟩;simp only at hP i hc E W ⊢;simp only[go_sem,YH];by_cases Y:l'' P<l'' a;have H:(l'' P:Int)<(l'' a:Nat):=Om;have ε:=ha _ (auH Y);have δ:=cV a Y;have β:(aO a)[l'' P]?=some [.int .u32 ((a[l'' P]:Nat):Int)]:=cC a Y;generalize hx:a[l'' P]=x at *
 have ex:u_.wrap ((x:Nat):Int)=((x:Nat):Int):=bN Om;have fin:∀(t:Nat)(F:PF),t<4294967296->val (b.take (l'' P+1))=val (b.take P.length)+4294967296^P.length*t ->
   F 0=some (aL a)->F 1=some (aL b)->F 5=some v->F 8=some (.int .u64 (c+t:Nat))->F 7=some (.j P.length) ->
   ∀K:cH,(∀A l v' V H2,l'' A=l'' P+1->Lim A->l<=1->val (a.take (l'' P+1))+4294967296^A.length*l=val A+val (b.take (l'' P+1))->(YH a b v' l A.length).le V->cF H2 1 v' (aO A)->K .normal V H2) ->
   aK.wp C (.seq (.region VU) (.seq (.region VV) (.seq (.seq (.region QO) (.cond (.tmp 35) (.seq (.region QP) (.region QQ)) .skip)) (.region DY)))) (fX 1 (jB C (aK.wp C (.region DZ)) K)) F H0:=by
  intro t F ht w g0 g1 g5 g8 g7 K hK;have step:∀(d l:Nat),d<4294967296->l<=1->x+4294967296*l=d+(c+t)->val (a.take (l'' P+1))+4294967296^(l'' P+1)*l=val (P++[d])+val (b.take (l'' P+1)):=by
   intro d l hd ζ he;have h2:4294967296^P.length*(x+4294967296*l)=4294967296^P.length*(d+(c+t)):=by rw[he]
   rw[auW,auW,auW]at h2;rw[lT,awL,avK,δ,w];omega
  simp only[go_sem,VU,g0,g7,β,ex,VV,QO,g8];by_cases c2:x<c+t;have J:((x:Nat):Int)<((c+t:Nat):Int):=Om;have Q:u_.wrap ((x:Int)+4294967296)=((x+4294967296:Nat):Int):=by rw[show(x:Int)+4294967296=((x+4294967296:Nat):Int) by omega];exact bN Om
  have e2:u_.wrap (((x+4294967296:Nat):Int)-((c+t:Nat):Int))=((x+4294967296-(c+t):Nat):Int):=by rw[show((x+4294967296:Nat):Int)-((c+t:Nat):Int)=((x+4294967296-(c+t):Nat):Int) by omega];exact bN Om
  have N:IntKind.u32.wrap ((x+4294967296-(c+t):Nat):Int)=((x+4294967296-(c+t):Nat):Int):=by rw[dJ,awF Om]
  have O:(1:Nat)*1<=16777216:=by decide
  simp only[go_sem,J,QP,Q,QQ,DY,g5,g8,e2,N,O];refine jJ (src:=[[.int .u32 ((x+4294967296-(c+t):Nat):Int)]]) W rfl (uG Om) λv' H' u _=>?_;rw[uH]at u;simp only[go_sem,DZ,g7,dU (Om:l'' P<9223372036854775807)];refine hK _ 1 v' _ H' bC (i.app λy U=>by simp at U;subst U;omega) (auG _) ?_ ?_ u;rw[auJ,auS];exact step _ 1 Om (auG _) Om;unfold YH;rw[auJ,auS];exact Lq;have J:¬((x:Nat):Int)<((c+t:Nat):Int):=Om;have e2:u_.wrap (((x:Nat):Int)-((c+t:Nat):Int))=((x-(c+t):Nat):Int):=by rw[show((x:Nat):Int)-((c+t:Nat):Int)=((x-(c+t):Nat):Int) by omega];exact bN Om
  have N:IntKind.u32.wrap ((x-(c+t):Nat):Int)=((x-(c+t):Nat):Int):=by rw[dJ,awF Om]
  have O:(1:Nat)*1<=16777216:=by decide
  simp only[go_sem,J,DY,g5,g8,e2,N,O];refine jJ (src:=[[.int .u32 ((x-(c+t):Nat):Int)]]) W rfl (uG Om) λv' H' u _=>?_;rw[uH]at u;simp only[go_sem,DZ,g7,dU (Om:l'' P<9223372036854775807)];refine hK _ 0 v' _ H' bC (i.app λy U=>by simp at U;subst U;omega) aU ?_ ?_ u;rw[auJ,auS];exact step _ 0 Om aU Om;unfold YH;rw[auJ,auS];exact Lq
 simp only[aK.wp,go_sem]at fin;simp only[go_sem,H];by_cases Z:l'' P<l'' b;have M:(l'' P:Int)<(l'' b:Nat):=Om;have γ:=hb _ (auH Z);have w:=cV b Z;have eb:u_.wrap ((b[l'' P]:Nat):Int)=((b[l'' P]:Nat):Int):=bN Om;have es:u_.wrap ((c:Int)+(b[l'' P]:Int))=((c+b[l'' P]:Nat):Int):=gP Om;simp only[go_sem,M,cC b Z,eb,es];refine fin b[l'' P] _ γ w rfl rfl rfl rfl rfl _ ?_;intro A l v' V H2 Q e2 N S e5 e6;rw[<-Q]at S;exact aF (α:=N_ × T3_) (A,l,v',H2) ⟨by simp only;omega,e2,N,S,e6⟩ sO_ e5 b_;have M:¬(l'' P:Int)<(l'' b:Nat):=Om;have w:val (b.take (l'' P+1))=val (b.take P.length)+4294967296^P.length*0:=by rw[auZ Om,auZ Om];simp
 simp only[go_sem,M];refine fin 0 _ aU w rfl rfl rfl rfl rfl _ ?_;intro A l v' V H2 Q e2 N S e5 e6;rw[<-Q]at S;exact aF (α:=N_ × T3_) (A,l,v',H2) ⟨by simp only;omega,e2,N,S,e6⟩ sO_ e5 b_;have e:l'' P=l'' a:=Om;have H:¬(l'' P:Int)<(l'' a:Nat):=Om;have hV:val P=val a-val b:=by
  rw[e,avI,auZ hl]at E;have hlt:=gO i;rw[e]at hlt;rcases axN c with h|h
  subst h;omega;have:c=1:=Om;subst this;omega
 simp only[go_sem,H];have hs:=L.trim _ i Om;rw[hV]at hs;refine zG hs W rfl λF1 H1 _=>?_;simp only[go_sem];exact aY (.inr rfl) .nil rfl a_ ⟨.refl _,rfl⟩
def wQ(a b:N_)(o i:Nat):PF:=((((n_.set 0 (aL a)).set 1 (aL b)).set 5 (.osl o 1 0 (l'' a+l'' b))).set 6 (.int .i64 i))
def utG(a b:N_)(o i c j:Nat):PF:=((((((n_.set 0 (aL a)).set 1 (aL b)).set 5 (.osl o 1 0 (l'' a+l'' b))).set 6 (.int .i64 i)).set 7 (.int .u64 c)).set 8 (.int .i64 j))
theorem Rw(a b:N_)(ha:Lim a)(hb:Lim b)(h1:l'' a<=35184372087808)(h2:l'' b<=35184372087808)(L:N_)(i:Nat)(hi:i<l'' a)(U:KI a b L i)(q:Nat)(K:cH)(F:PF)(H:PH)(S:(wQ a b q i).le F)(hH:H q=some (.rows 1 (aO L)))
  (hK:∀L' F' H',KI a b L' (i+1)->(wQ a b q i).le F'->H' q=some (.rows 1 (aO L'))->K .normal F' H') :
  aK.wp C (.block 1 (.seq (.region WA) (.seq (.seq (.region WB) (.block 2 (.loop QT))) (.region QU)))) K F H:=by
 have f0:=S 0 _ (by unfold wQ;simp only[go_sem];rfl);have f1:=S 1 _ (by unfold wQ;simp only[go_sem];rfl);have f5:=S 5 _ (by unfold wQ;simp only[go_sem];rfl);have f6:=S 6 _ (by unfold wQ;simp only[go_sem];rfl);have hx:=ha _ (auH hi);have δ:=cV a hi;generalize ζ:a[i]=x at *
 have β:(aO a)[i]?=some [.int .u32 ((x:Nat):Int)]:=by rw[cC a hi,ζ]
 simp only[go_sem,WA,WB];refine wp_loop (α:=N_ × Nat × Nat) (λt=>utG a b q i t.2.1 t.2.2) (λt=>h_.set q (.rows 1 (aO t.1)))
  (λt=>t.2.2<=l'' b/\t.1.length=l'' a+l'' b/\Lim t.1/\t.2.1<4294967296/\val t.1+4294967296^(i+t.2.2)*t.2.1=val (a.take i)*val b+4294967296^i*(x*val (b.take t.2.2))/\∀j y,i+l'' b<=j->t.1[j]?=some y->y=0) (λt=>l'' b-t.2.2) (L,0,0)
  ⟨by simp,U.len,U.lim,by simp,by simp[val,U.v],U.z⟩ ?_ (c_ a_ hH) ?_
 unfold utG;exact Lq;rintro⟨M,c,j⟩ ⟨hj,hM,u,hc,E,W⟩;simp only at hj hM u hc E W;simp only[go_sem,QT,utG];by_cases Y:j<l'' b;have J:(j:Int)<(l'' b:Nat):=Om;have V:=hb _ (auH Y);have ε:=cV b Y;generalize η:b[j]=y at *
 have γ:(aO b)[j]?=some [.int .u32 ((y:Nat):Int)]:=by rw[cC b Y,η]
 have l:i+j<l'' M:=Om;have Q:=u _ (auH l);have A:=MA l;generalize θ:M[i+j]=z at *
 have O:(aO M)[i+j]?=some [.int .u32 ((z:Nat):Int)]:=by rw[cC M l,θ]
 have ex:u_.wrap ((x:Nat):Int)=((x:Nat):Int):=bN Om;have ey:u_.wrap ((y:Nat):Int)=((y:Nat):Int):=bN Om;have ez:u_.wrap ((z:Nat):Int)=((z:Nat):Int):=bN Om;have em:=Mu hx V;have κ:x*y<=4294967295*4294967295:=awY Om Om;have e1:u_.wrap (((x*y:Nat):Int)+(z:Int))=((x*y+z:Nat):Int):=gP Om;have e2:u_.wrap (((x*y+z:Nat):Int)+(c:Int))=((x*y+z+c:Nat):Int):=gP Om;have N:i_.wrap ((i:Int)+(j:Int))=((i+j:Nat):Int):=jN Om;have hlt:((i+j:Nat):Int)<((l'' a+l'' b:Nat):Int):=Om;generalize ht:x*y+z+c=t at *
 have ι:t<4294967296*4294967296:=Om;have w:(aO M).set (i+j) [.int .u32 ((t%4294967296:Nat):Int)]=aO (M.set (i+j) (t%4294967296)):=iK M (i+j) _;simp only[go_sem,J];refine bV .nil dY a_ ?_;simp only[go_sem,β,γ,ex,ey,em,N,hlt,O,ez,e1,e2,dJ,w,DU,wZz j];refine aF (M.set (i+j) (t%4294967296),t/4294967296,j+1) ⟨by simp only;omega,by simp only[avT];exact hM,u.set _ (awJ _ aU),by simp only;omega,?_,va W _ _ Om⟩ sO_ ?_ (c_ a_ Sq);simp only;have Z:=A (t%4294967296);have h4:4294967296^(i+(j+1))*(t/4294967296)+4294967296^(i+j)*(t%4294967296)=4294967296^(i+j)*t:=by rw[<-axG,awL,avK,<-auW,ayN]
 have h5:4294967296^(i+j)*t=4294967296^(i+j)*(x*y)+4294967296^(i+j)*z+4294967296^(i+j)*c:=by rw[<-ht,auW,auW]
 have h6:4294967296^i*(x*val (b.take (j+1)))=4294967296^i*(x*val (b.take j))+4294967296^(i+j)*(x*y):=by rw[ε,auW,auW,Nat.pow_add];congr 1;rw[Nat.mul_left_comm x,avK]
 omega;exact Lq;have he:j=l'' b:=Om;have J:¬(j:Int)<(l'' b:Nat):=Om;subst he;have l:i+l'' b<l'' M:=Om;have Q:M[i+l'' b]=0:=W _ _ (auG _) (auP l);have A:=MA l;have O:(aO M)[i+l'' b]?=some [.int .u32 ((0:Nat):Int)]:=by rw[cC M l,Q]
 have N:i_.wrap ((i:Int)+(l'' b:Int))=((i+l'' b:Nat):Int):=jN Om;have hlt:((i+l'' b:Nat):Int)<((l'' a+l'' b:Nat):Int):=Om;have w:(aO M).set (i+l'' b) [.int .u32 ((c%4294967296:Nat):Int)]=aO (M.set (i+l'' b) c):=by rw[awF hc];exact iK M _ _
 simp only[go_sem,J,QU,N,dJ,hlt,O,w];refine hK (M.set (i+l'' b) c) _ _ ⟨by rw[avT];exact hM,u.set _ hc,?_,λj y hj V=>?_⟩ (by unfold wQ;exact Lq) Sq;have Z:=A c;rw[Q,Nat.mul_zero,awX]at Z;rw[Z,E,avI,δ,avV,avK];rw[List.getElem?_set_ne Om]at V;exact W j y Om V
theorem Ww(L:tU C)(a b:N_)(S:Lim a)(hb:Lim b)(Z:l'' a<=8388608)(h2:l'' b<=8388608) :
  bc.wp C (aX nB.res (cN (aL (aM (val a*val b))))) (g_ [aL a,aL b]) .nil:=by
 have y:i_.wrap ((l'' a:Int)+(l'' b:Int))=((l'' a+l'' b:Nat):Int):=jN Om;have H:((l'' a+l'' b:Nat):Int)*((4:Nat):Int)<=140737488355328:=Om;have J:((l'' a+l'' b:Nat):Int)<=9223372036854775807:=Om;have V:auL (l'' a+l'' b) [PV.int .u32 0]=aO (auL (l'' a+l'' b) 0):=by simp[aO]
 simp only[go_sem,bc,nB,auD,y,H,J,V];refine aS λo ho=>?_;simp only[go_sem];refine wp_loop (α:=N_ × Nat) (λt=>wQ a b o t.2) (λt=>h_.set o (.rows 1 (aO t.1))) (λt=>t.2<=l'' a/\KI a b t.1 t.2) (λt=>l'' a-t.2) (auL (l'' a+l'' b) 0,0)
  ⟨by simp,by simp,BN _,by simp[val,xJ],λj x _ N=>by rw[List.getElem?_replicate]at N;split at N<;>simp_all⟩ ?_ (c_ a_ Sq) ?_
 unfold wQ;exact Lq;rintro⟨M,i⟩ ⟨hi,u⟩;simp only at hi u;simp only[go_sem,wQ];by_cases O:i<l'' a;have w:(i:Int)<(l'' a:Nat):=Om;have A:=Rw (C:=C) a b S hb Om Om M i O u o;simp only[go_sem]at A;simp only[go_sem,w];refine A _ _ _ (by unfold wQ;exact Lq) Sq ?_;intro L' W H' F l E;have Q:=l 6 _ (by unfold wQ;simp only[go_sem];rfl);have g0:=l 0 _ (by unfold wQ;simp only[go_sem];rfl);have g1:=l 1 _ (by unfold wQ;simp only[go_sem];rfl);have Y:=l 5 _ (by unfold wQ;simp only[go_sem];rfl);simp only[go_sem,Q,wZz i];refine aF (L',i+1) ⟨by simp only;omega,F⟩ sO_ ?_ (c_ a_ E);exact Lq;have U:i=l'' a:=Om;subst U;have w:¬(l'' a:Int)<(l'' a:Nat):=Om;have hV:val M=val a*val b:=by rw[u.v,avI]
 simp only[go_sem];have K:=L.trim _ u.lim (by rw[u.len];omega);rw[hV]at K;refine uQ (o:=o) (s:=1) (k:=l'' a+l'' b) (rs:=aO M) (v:=aL (aM (val a*val b))) ?_ rfl Sq (by rw[cP,u.len];exact auG _) ?_;rw[auZ (by rw[cP,u.len];exact auG _)];exact K;simp only[go_sem];exact aY (.inr rfl) .nil rfl a_ ⟨.refl _,rfl⟩
structure Ei(C:Ctx):Prop extends Eg C where
 minus:∀a b,Lim a->Lim b->val b<=val a->l'' b<=l'' a->l'' a<=35184372087808->aG C 42 [aL a,aL b] .nil (aJ (aL (aM (val a-val b))))
 times:∀a b,Lim a->Lim b->l'' a<=8388608->l'' b<=8388608->aG C 44 [aL a,aL b] .nil (aJ (aL (aM (val a*val b))))
theorem ahV(L:Ei C)(a b:N_)(w:Lim a)(hb:Lim b)(E:l'' a<=35184372087808)(F:l'' b<=35184372087808) :
  Bi.wp C (aX Rs.res (cN (opV (fJ (val a) (val b)) (val a*val b)))) (g_ [aL a,aL b]) .nil:=by
 unfold opV;simp only[go_sem,Bi,Rs];refine aA (L.large a w E) rfl ?_;by_cases l:nl (val a)>512;simp only[go_sem,l];rw[aD (by simp[fJ,l])];exact fZ rfl;simp only[go_sem,l];refine aA (L.large b hb F) rfl ?_;by_cases u:nl (val b)>512;simp only[go_sem,u];rw[aD (by simp[fJ,u])];exact fZ rfl;rw[aB (by simp[fJ,l,u])];simp only[go_sem,u];refine aA (L.trim a w E) rfl ?_;simp only[go_sem];refine aA (L.trim b hb F) rfl ?_;simp only[go_sem];have A:=L.times (aM (val a)) (aM (val b)) (bA _) (bA _) (by rw[bD];omega) (by rw[bD];omega);rw[aV,aV]at A;refine aA A rfl ?_;have H:=mY (a:=val a) (b:=val b) (m:=512) (n:=512) Om Om;have y:=L.large (aM (val a*val b)) (bA _) (by rw[bD];omega);rw[aV]at y;simp only[go_sem];refine aA y rfl ?_;unfold szV szL szE;by_cases i:nl (val a*val b)>512;rw[aD i,aD i];simp only[go_sem,i];exact fZ rfl;rw[aB i,aB i];simp only[go_sem,i];exact aY (.inr rfl) .nil rfl a_ ⟨.refl _,rfl⟩
def CQ(a:N_)(i:Nat):Nat:=a.getD i 0
theorem Fb{a:N_}(h:Lim a)(i:Nat):CQ a i<4294967296:=by
 unfold CQ;rw[auM];rcases avF i a.length with h1|h1
 rw[auP h1];exact h _ (auH h1);rw[avZ h1];decide
theorem cx{a:N_}{i:Nat}(h:i<l'' a):CQ a i=a[i]:=by simp[CQ,auM,h]
theorem TH{a:N_}{i:Nat}(h:¬i<l'' a):CQ a i=0:=by simp[CQ,auM,h]
theorem WD(a:N_)(i:Nat):val (a.take (i+1))=val (a.take i)+4294967296^i*CQ a i:=by
 rcases avF i a.length with h|h
 rw[cx h];exact cV a h;rw[TH Om,auZ Om,auZ Om];simp
def zD(a b:N_)(v:PV)(c i:Nat):PF:=(((((n_.set 0 (aL a)).set 1 (aL b)).set 5 (v)).set 6 (.int .u64 c)).set 7 (.int .i64 i))
theorem abZ(L:tU C)(a b:N_)(ha:Lim a)(hb:Lim b)(h1:l'' a<=8388608)(h2:l'' b<=8388608) :
  sm.wp C (aX pX.res (cN (aL (aM (val a+val b))))) (g_ [aL a,aL b]) .nil:=by
 simp only[go_sem,sm,pX];refine wp_loop (α:=N_ × T3_) (λs=>zD a b s.2.2.1 s.2.1 s.1.length) (λs=>s.2.2.2)
  (λs=>s.1.length<=max a.length b.length+1/\(s.1.length<=max a.length b.length\/s.2.1=0)/\Lim s.1/\s.2.1<=1/\val s.1+4294967296^s.1.length*s.2.1=val (a.take s.1.length)+val (b.take s.1.length)/\cF s.2.2.2 1 s.2.2.1 (aO s.1)) (λs=>max a.length b.length+1-s.1.length) ([],0,.aE,.nil)
  ⟨by simp,by simp,by simp[Lim],by simp,by simp[val],.nil⟩ ?_ a_ ?_
 unfold zD;exact Lq;rintro⟨P,c,v,H0⟩ ⟨hP,η,w,hc,N,hO⟩;simp only at hP η w hc N hO ⊢;have ν:=Fb ha P.length;have ξ:=Fb hb P.length;have κ:=WD a P.length;have μ:=WD b P.length;generalize hx:CQ a P.length=x at *
 generalize hy:CQ b P.length=y at *
 have ex:u_.wrap ((x:Nat):Int)=((x:Nat):Int):=bN Om;have ey:u_.wrap ((y:Nat):Int)=((y:Nat):Int):=bN Om;have U:u_.wrap ((c:Int)+(x:Int))=((c+x:Nat):Int):=gP Om;have e2:u_.wrap (((c+x:Nat):Int)+(y:Int))=((c+x+y:Nat):Int):=gP Om;have ι:l'' P<l'' a->(aO a)[l'' P]?=some [.int .u32 ((x:Nat):Int)]:=λh=>by rw[cC a h,<-hx,cx h]
 have γ:l'' P<l'' b->(aO b)[l'' P]?=some [.int .u32 ((y:Nat):Int)]:=λh=>by rw[cC b h,<-hy,cx h]
 have δ:¬l'' P<l'' a->x=0:=λh=>by rw[<-hx,TH h]
 have V:¬l'' P<l'' b->y=0:=λh=>by rw[<-hy,TH h]
 have body:(l'' P<=max a.length b.length)->∀K:cH,(∀u E v' W H2,l'' u=l'' P+1->Lim u->E<=1->(l'' P+1<=max a.length b.length\/E=0)->val u+4294967296^u.length*E=val (a.take (l'' P+1))+val (b.take (l'' P+1))->(zD a b v' E u.length).le W->cF H2 1 v' (aO u)->K .normal W H2) ->
   ∀F:PF,(zD a b v c P.length).le F->aK.wp C (.seq (.block 1 (.seq (.region i8) (.seq (.seq (.region i9) (.cond (.tmp 29) (.region ja) .skip)) (.seq (.seq (.region QR) (.cond (.tmp 40) (.region QS) .skip)) (.seq (.region IJ) (.region IK)))))) (.region IL)) K F H0:=by
  intro ο K hK F hF;have g0:F 0=some (aL a):=hF 0 _ (by unfold zD;simp only[go_sem]);have g1:F 1=some (aL b):=hF 1 _ (by unfold zD;simp only[go_sem]);have g5:F 5=some v:=hF 5 _ (by unfold zD;simp only[go_sem]);have g6:F 6=some (.int .u64 c):=hF 6 _ (by unfold zD;simp only[go_sem]);have H:F 7=some (.j P.length):=hF 7 _ (by unfold zD;simp only[go_sem]);have fin:∀O:PF,O 0=some (aL a)->O 1=some (aL b)->O 5=some v->O 7=some (.j P.length)->O 8=some (.int .u64 (c+x+y:Nat)) ->
    aK.wp C (.seq (.region IJ) (.region IK)) (fX 1 (jB C (aK.wp C (.region IL)) K)) O H0:=by
   intro O q0 q1 q5 q7 q8;have θ:(1:Nat)*1<=16777216:=by decide
   generalize ht:c+x+y=t at *
   have ρ:t<2*4294967296:=Om;simp only[go_sem,IJ,q5,q8,θ,dJ];refine jJ (src:=[[.int .u32 ((t%4294967296:Nat):Int)]]) hO rfl (uG Om) λv' H' β _=>?_;rw[uH]at β;simp only[go_sem,IK,q8,DU,IL,q7,dU (Om:l'' P<9223372036854775807)];refine hK (P++[t%4294967296]) (t/4294967296) v' _ H' bC (w.app λy hy=>by simp at hy;subst hy;omega) Om ?_ ?_ ?_ β;rcases avF P.length (max a.length b.length)with h|h
   exact .inl h;right;have h1:=δ Om;have h2:=V Om;omega;rw[lT,auJ,auS,κ,μ,awL,avK,axG,<-auW];rw[show t%4294967296+4294967296*(t/4294967296)=t from Nat.mod_add_div t 4294967296];have h3:4294967296^P.length*t=4294967296^P.length*c+4294967296^P.length*x+4294967296^P.length*y:=by rw[<-ht,auW,auW]
   omega;unfold zD;rw[auJ,auS];exact Lq
  simp only[aK.wp,go_sem]at fin;simp only[go_sem,i8,g6,i9,H,g0];by_cases c1:l'' P<l'' a;have l:(l'' P:Int)<(l'' a:Nat):=Om;simp only[go_sem,l,ja,g0,H,ι c1,ex,U,QR,g1];by_cases Q:l'' P<l'' b;have i:(l'' P:Int)<(l'' b:Nat):=Om;simp only[go_sem,i,QS,g1,H,γ Q,ey,e2];exact fin _ (by simp only[go_sem,g0]) (by simp only[go_sem,g1]) (by simp only[go_sem,g5]) (by simp only[go_sem,H]) rfl;have i:¬(l'' P:Int)<(l'' b:Nat):=Om;have h0:=V Q;simp only[go_sem,i];exact fin _ (by simp only[go_sem,g0]) (by simp only[go_sem,g1]) (by simp only[go_sem,g5]) (by simp only[go_sem,H]) (by simp only[go_sem,h0]);have l:¬(l'' P:Int)<(l'' a:Nat):=Om;have h0:=δ c1;simp only[go_sem,l,QR,g1,H];by_cases Q:l'' P<l'' b;have i:(l'' P:Int)<(l'' b:Nat):=Om;have ε:u_.wrap ((c:Int)+(y:Int))=((c+x+y:Nat):Int):=by rw[h0];exact gP Om
  simp only[go_sem,i,QS,g1,H,γ Q,ey,ε];exact fin _ (by simp only[go_sem,g0]) (by simp only[go_sem,g1]) (by simp only[go_sem,g5]) (by simp only[go_sem,H]) rfl;have i:¬(l'' P:Int)<(l'' b:Nat):=Om;have ζ:=V Q;simp only[go_sem,i];exact fin _ (by simp only[go_sem,g0]) (by simp only[go_sem,g1]) (by simp only[go_sem,g5]) (by simp only[go_sem,H]) (by simp only[go_sem,h0,ζ])
 simp only[aK.wp,go_sem]at body;have A:¬l'' P<l'' a->¬l'' P<l'' b->c=0->∀F:PF,F 5=some v->aK.wp C (.seq (.region VY) .ret) (aX [.tmp 4] (cN (aL (aM (val a+val b))))) F H0:=by
  intro n1 n2 n3 F f5;have hV:val P=val a+val b:=by rw[n3,auZ Om,auZ Om]at N;omega
  have hs:=L.trim _ w Om;rw[hV]at hs;simp only[go_sem,VY,f5];refine zG hs hO rfl λF1 H1 _=>?_;simp only[go_sem];exact aY (.inr rfl) .nil rfl a_ ⟨.refl _,rfl⟩
 simp only[aK.wp,go_sem]at A;simp only[go_sem,zD];by_cases c1:l'' P<l'' a;have l:(l'' P:Int)<(l'' a:Nat):=Om;simp only[go_sem,l];refine body Om _ ?_ _ (by unfold zD;exact Lq);intro u E v' W H2 U e2 Y J M Z e7;rw[<-U]at M J;exact aF (α:=N_ × T3_) (u,E,v',H2) ⟨by simp only;omega,J,e2,Y,M,e7⟩ sO_ Z b_;have l:¬(l'' P:Int)<(l'' a:Nat):=Om;simp only[go_sem,l];by_cases Q:l'' P<l'' b;have i:(l'' P:Int)<(l'' b:Nat):=Om;simp only[go_sem,i];refine body Om _ ?_ _ (by unfold zD;exact Lq);intro u E v' W H2 U e2 Y J M Z e7;rw[<-U]at M J;exact aF (α:=N_ × T3_) (u,E,v',H2) ⟨by simp only;omega,J,e2,Y,M,e7⟩ sO_ Z b_;have i:¬(l'' P:Int)<(l'' b:Nat):=Om;simp only[go_sem,i];by_cases c3:c=0;have S:¬(c:Int)>0:=Om;simp only[go_sem,S];exact A c1 Q c3 _ rfl;have S:(c:Int)>0:=Om;simp only[go_sem,S];refine body Om _ ?_ _ (by unfold zD;exact Lq);intro u E v' W H2 U e2 Y J M Z e7;rw[<-U]at M J;exact aF (α:=N_ × T3_) (u,E,v',H2) ⟨by simp only;omega,J,e2,Y,M,e7⟩ sO_ Z b_
structure jv(C:Ctx):Prop extends Ei C where
 plus:∀a b,Lim a->Lim b->l'' a<=8388608->l'' b<=8388608->aG C 43 [aL a,aL b] .nil (aJ (aL (aM (val a+val b))))
theorem ahR(L:jv C)(a b:N_)(w:Lim a)(hb:Lim b)(E:l'' a<=35184372087808)(F:l'' b<=35184372087808) :
  Be.wp C (aX Rk.res (cN (opV (fJ (val a) (val b)) (val a+val b)))) (g_ [aL a,aL b]) .nil:=by
 unfold opV;simp only[go_sem,Be,Rk];refine aA (L.large a w E) rfl ?_;by_cases l:nl (val a)>512;simp only[go_sem,l];rw[aD (by simp[fJ,l])];exact fZ rfl;simp only[go_sem,l];refine aA (L.large b hb F) rfl ?_;by_cases u:nl (val b)>512;simp only[go_sem,u];rw[aD (by simp[fJ,u])];exact fZ rfl;rw[aB (by simp[fJ,l,u])];simp only[go_sem,u];refine aA (L.trim a w E) rfl ?_;simp only[go_sem];refine aA (L.trim b hb F) rfl ?_;simp only[go_sem];have A:=L.plus (aM (val a)) (aM (val b)) (bA _) (bA _) (by rw[bD];omega) (by rw[bD];omega);rw[aV,aV]at A;refine aA A rfl ?_;have H:=Hq (a:=val a) (b:=val b) (m:=512) Om Om;have y:=L.large (aM (val a+val b)) (bA _) (by rw[bD];omega);rw[aV]at y;simp only[go_sem];refine aA y rfl ?_;unfold szV szL szE;by_cases i:nl (val a+val b)>512;rw[aD i,aD i];simp only[go_sem,i];exact fZ rfl;rw[aB i,aB i];simp only[go_sem,i];exact aY (.inr rfl) .nil rfl a_ ⟨.refl _,rfl⟩
theorem ahY(L:jv C)(a b:N_)(w:Lim a)(hb:Lim b)(y:l'' a<=35184372087808)(A:l'' b<=35184372087808) :
  Bk.wp C (aX Rv.res (cN (wN (val a) (val b)))) (g_ [aL a,aL b]) .nil:=by
 unfold wN;simp only[go_sem,Bk,Rv];refine aA (L.large a w y) rfl ?_;by_cases i:nl (val a)>512;simp only[go_sem,i];rw[aD (by simp[fJ,i])];exact fZ rfl;simp only[go_sem,i];refine aA (L.large b hb A) rfl ?_;by_cases l:nl (val b)>512;simp only[go_sem,l];rw[aD (by simp[fJ,l])];exact fZ rfl;rw[aB (by simp[fJ,i,l])];simp only[go_sem,l];refine aA (L.cmp a b w hb y A) rfl ?_;by_cases u:val a<val b;have:eI (val a) (val b)=-1:=by simp[eI,u]
 rw[aD u];simp only[go_sem,this,show((-1:Int)<0) by decide];exact fZ rfl;have:¬eI (val a) (val b)<0:=by unfold eI;rw[aB u];split<;>decide
 rw[aB u];have H:=iX (Nat.sub_le (val a) (val b));have F:=iX (Om:val b<=val a);simp only[go_sem,this];refine aA (L.trim a w y) rfl ?_;simp only[go_sem];refine aA (L.trim b hb A) rfl ?_;simp only[go_sem];have E:=L.minus (aM (val a)) (aM (val b)) (bA _) (bA _) (by rw[aV,aV];omega) (by rw[bD,bD];exact F) (by rw[bD];omega);rw[aV,aV]at E;refine aA E rfl ?_;rw[GO Om];simp only[go_sem];exact aY (.inr rfl) .nil rfl a_ ⟨.refl _,rfl⟩
def Jx(k:Nat)(v:Nat):PF:=((n_.set 3 (.int .i64 k)).set 4 (.int .u32 v))
theorem abP(L:tU C)(xs:N_)(Q:Lim xs)(Y:l'' xs<=35184372087808) :
  r8.wp C (aX Dm.res (aJ (.j (dC (val xs):Nat)))) (g_ [aL xs]) .nil:=by
 simp only[go_sem,r8,Dm];refine aA (L.trim xs Q Y) rfl ?_;have Z:=iJ Q;simp only[go_sem,auD,bD,II];by_cases F:nl (val xs)=0
 ·simp only[go_sem,bH F];refine dA ?_;have:val xs=0:=kK.1 F;simp[bO,this,lZ]
 obtain⟨n,V⟩:∃n,nl (val xs)=n+1:=⟨nl (val xs)-1,by omega⟩;obtain⟨t,E,J⟩:=Jw (xs:=aM (val xs)) (bA _) (by rw[aV];exact V);have y:t<4294967296:=bA _ t (awW E);have W:val xs=val ((aM (val xs)).take n)+4294967296^n*t:=by
  have:=aV (val xs);have u:n<(aM (val xs)).length:=by rw[bD];omega
  have U:(aM (val xs))[n]=t:=by rw[auP u]at E;exact awN.inj E
  conv=>lhs;rw[<-this,<-auZ (l:=aM (val xs)) (i:=n+1) (by rw[bD];omega)]
  rw[cV _ u,U]
 have hb:dC (val xs)=32*n+dC t:=by have N:=gO ((bA (val xs)).take n);rw[auU,bD,axH Om]at N;have A:=Ex (lo:=val ((aM (val xs)).take n)) (k:=32*n) (hi:=t) (by rw[Nat.pow_mul];exact N) J;rw[<-A,Nat.pow_mul];exact congrArg dC W
 have w:(aO (aM (val xs)))[n]?=some [.int .u32 (t:Nat)]:=by simp[aO,E]
 have S:i_.wrap (((nl (val xs):Nat):Int)-1)=(n:Int):=wO_
 have e2:i_.wrap (32*(n:Int))=((32*n:Nat):Int):=wO_
 simp only[go_sem,bT F,auD,bD,S,e2,w];refine wp_loop (α:=Nat × Nat) (λa=>Jx a.1 a.2) (λ_=>.nil) (λa=>a.1+dC a.2=32*n+dC t/\a.2<4294967296) (λa=>a.2) (32*n,t) ⟨rfl,y⟩ ?_ a_ ?_
 ·unfold Jx;exact Lq
 rintro⟨k,v⟩ ⟨A,hlt⟩;simp only at A hlt;have O:dC t<=32:=(pG t 32).2 y;simp only[go_sem,Jx];by_cases M:(v:Int)>0
 ·have K:v≠0:=Om;have H:IntKind.u32.wrap (Int.tdiv (v:Int) 2)=((v/2:Nat):Int):=by rw[show Int.tdiv (v:Int) 2=((v/2:Nat):Int)from Int.ofNat_tdiv v 2,dJ,awF Om]
  simp only[go_sem,M,H,wZz k];refine aF (k+1,v/2) ⟨?_,?_⟩ (Nat.div_lt_self Om aU) ?_ a_
  ·have:=tB K;simp only;omega
  ·simp only;omega
  ·exact Lq
 ·have:v=0:=Om;subst this;simp only[go_sem,M];refine dA ?_;rw[lZ]at A;simp only[bO,PV.int.injEq,true_and];omega
theorem Ax(n:Nat):4294967296^(n/32)*2^(n%32)=2^n:=by
 rw[show(4294967296:Nat)=2^32 by decide,<-Nat.pow_mul,<-Nat.pow_add];congr 1;omega
theorem Wh(n:Nat):i_.wrap (Int.tdiv (n:Int) 32)=i_.wrap ((n/32:Nat):Int):=by
 rw[show Int.tdiv (n:Int) 32=((n/32:Nat):Int)from Int.ofNat_tdiv n 32]
theorem Wk(n:Nat):Int.tmod (n:Int) 32=((n%32:Nat):Int):=Int.ofNat_tmod n 32
def acC(a:N_)(n:Nat)(v:PV)(c i:Nat):PF:=(((((n_.set 0 (aL a)).set 1 (.int .i64 n)).set 5 (v)).set 6 (.int .u64 c)).set 7 (.int .i64 i))
theorem alE(L:tU C)(a:N_)(n:Nat)(ha:Lim a)(h1:l'' a<=8388608)(hn:n<=8388608)(h0:l'' a=0->val a=0) :
  J4.wp C (aX uup.res (qZ 1 (aO (aM (val a*2^n))))) (g_ [aL a,.j n]) .nil:=by
 simp only[go_sem,J4,uup,auD,II];by_cases J:l'' a=0;simp only[go_sem,bH J];rw[h0 J,Nat.zero_mul,gL];exact LW (.inr rfl) rfl;have ez:i_.wrap (Int.tdiv (n:Int) 32)=((n/32:Nat):Int):=by rw[Wh,jc Om]
 have em:=Wk n;have eu:u_.wrap ((n%32:Nat):Int)=((n%32:Nat):Int):=bN Om;have Z:=Ax n;have Y:n%32<32:=awJ _ aU;have hz:n/32<=8388608:=Om;generalize θ:n/32=z at *
 generalize ζ:n%32=s at *
 have V:((z:Nat):Int)*((4:Nat):Int)<=140737488355328:=Om;have W:((z:Nat):Int)<=9223372036854775807:=Om;have γ:auL z [PV.int .u32 0]=aO (auL z 0):=by simp[aO]
 have O:2^s<=2147483648:=ayJ (show 0<2 by decide) (Om:s<=31);have F:0<2^s:=axU aU;simp only[go_sem,bT J,ez,V,W,γ];refine aS λo ho=>?_;simp only[go_sem];refine wp_loop (α:=N_ × Nat × T3_) (λt=>acC a n t.2.2.2.1 t.2.1 t.2.2.1) (λt=>t.2.2.2.2)
  (λt=>t.2.2.1<=l'' a/\t.1.length=z+t.2.2.1/\Lim t.1/\t.2.1<2^s/\val t.1+4294967296^t.1.length*t.2.1=val (a.take t.2.2.1)*2^n/\cF t.2.2.2.2 1 t.2.2.2.1 (aO t.1)) (λt=>l'' a-t.2.2.1) (auL z 0,0,0,.osl o 1 0 z,h_.set o (.rows 1 (aO (auL z 0))))
  ⟨by simp,by simp,BN _,F,by simp[val,xJ],.inr ⟨o,aO (auL z 0),by rw[cP,List.length_replicate],s_,by rw[cP];exact auG _,avI⟩⟩ ?_ b_ ?_
 unfold acC;exact Lq;rintro⟨P,c,i,v,H0⟩ ⟨hi,hP,l,hc,w,S⟩;simp only at hi hP l hc w S ⊢;simp only[go_sem,acC];by_cases K:i<l'' a;have A:(i:Int)<(l'' a:Nat):=Om;have ε:=ha _ (auH K);have β:=cV a K;have U:=cC a K;generalize hx:a[i]=x at *
 have η:x*2^s<=4294967295*2147483648:=awY Om O;have ex:u_.wrap ((x:Nat):Int)=((x:Nat):Int):=bN Om;have δ:2^s*x=x*2^s:=avO _ _;have N:shift .shl .u64 (x:Int) (s:Int)=some (.int .u64 ((2^s*x:Nat):Int)):=QE Om Om;have M:=orI (a:=2^s*x) (b:=c) (n:=c+2^s*x) Om Om (by rw[Nat.or_comm];exact Ih hc Om) Om;have H:(c+2^s*x)/4294967296<2^s:=by rw[ayB aU];have:2^s*(x+1)<=2^s*4294967296:=awZ _ Om;rw[auW,Nat.mul_one]at this;omega
 have E:(1:Nat)*1<=16777216:=by decide
 simp only[go_sem,A,U,ex,em,eu,N,M,dJ,E];refine jJ (src:=[[.int .u32 (((c+2^s*x)%4294967296:Nat):Int)]]) S rfl (uG Om) λv' H' u _=>?_;rw[uH]at u;simp only[go_sem,DU,wZz i];refine aF (P++[(c+2^s*x)%4294967296],(c+2^s*x)/4294967296,i+1,v',H') ⟨by simp only;omega,by simp;omega,l.app λy hy=>by simp at hy;subst hy;exact awJ _ aU,H,?_,u⟩ sO_ ?_ b_;simp only;have hp:4294967296^P.length*(2^s*x)=4294967296^i*x*2^n:=by rw[hP,Nat.pow_add,<-Z];rw[avK,Nat.mul_left_comm (4294967296^i),<-avK (4294967296^z),avO (4294967296^z*2^s),avK,avO x]
 rw[lT,auJ,auS,awL,avK,axG,<-auW,Nat.mod_add_div,β,auW,avV,<-axG,w,hp];exact Lq;have e:i=l'' a:=Om;subst e;have A:¬(l'' a:Int)<(l'' a:Nat):=Om;have E:(1:Nat)*1<=16777216:=by decide
 have hV:val (P++[c])=val a*2^n:=by rw[lT,w,avI]
 have Q:Lim (P++[c]):=l.app λx hx=>by simp at hx;omega
 have ec:IntKind.u32.wrap ((c:Nat):Int)=((c:Nat):Int):=by rw[dJ,awF Om]
 simp only[go_sem,A,ec,E];refine jJ (src:=[[.int .u32 ((c:Nat):Int)]]) S rfl (uG Om) λv' H' u _=>?_;rw[uH]at u;have Y:=L.trimM _ Q (by simp;omega);rw[hV]at Y;refine Cs Y u rfl λF1 H1 _ r H2 hr _=>?_;simp only[go_sem];exact Vt (.inr rfl) hr rfl
def VS(a:N_)(n:Nat)(v:PV)(i:Nat):PF:=((((n_.set 0 (aL a)).set 1 (.int .i64 n)).set 5 (v)).set 6 (.int .i64 i))
theorem abS(L:tU C)(a:N_)(n:Nat)(O:Lim a)(h1:l'' a<=8388608)(hn:n<=1000000000) :
  r9.wp C (aX rQ.res (cN (aL (aM (val a/2^n))))) (g_ [aL a,.j n]) .nil:=by
 have ez:i_.wrap (Int.tdiv (n:Int) 32)=((n/32:Nat):Int):=by rw[Wh,jc Om]
 have em:=Wk n;have eu:u_.wrap ((n%32:Nat):Int)=((n%32:Nat):Int):=bN Om;have S:=Ax n;have W:n%32<32:=awJ _ aU;have hz:n/32<=1000000000:=Om;generalize κ:n/32=z at *
 generalize ι:n%32=s at *
 simp only[go_sem,r9,rQ,auD,ez];by_cases c0:l'' a<=z;have w:((z:Nat):Int)>=(l'' a:Nat):=Om;have hq:val a/2^n=0:=by refine ayO (Nat.lt_of_lt_of_le (gO O) ?_);rw[<-S];exact avJ (ayJ aU c0) (Nat.le_mul_of_pos_right _ (axU aU))
 simp only[go_sem,w];rw[hq,gL];exact aY (vs:=[.aE]) (.inr rfl) .nil rfl a_ ⟨.nil 1,rfl⟩;have w:¬((z:Nat):Int)>=(l'' a:Nat):=Om;have hR:val a/2^n=val (a.drop z)/2^s:=by rw[AG O Om,<-S,Nat.div_div_eq_div_mul]
 have M:Lim (a.drop z):=O.drop z;simp only[go_sem,w,ez];refine wp_loop (α:=N_ × PV × PH) (λt=>VS a n t.2.1 (z+t.1.length)) (λt=>t.2.2)
  (λt=>z+t.1.length<=l'' a/\t.1=fF t.1.length (val (a.drop z)/2^s)/\cF t.2.2 1 t.2.1 (aO t.1)) (λt=>l'' a-t.1.length) ([],.aE,.nil)
  ⟨by simp;omega,rfl,.nil⟩ ?_ a_ ?_
 unfold VS
 (repeat' (first|exact e_|refine d_ ?_ ?_))<;>first|(simp only[go_sem,avS]<;>rfl)|rfl
 rintro⟨P,v,H0⟩ ⟨hP,hD,hO⟩;simp only at hP hD hO ⊢;simp only[go_sem,VS];have J:Lim P:=by rw[hD];exact pZ _ _
 by_cases Y:z+l'' P<l'' a;have A:((z+l'' P:Nat):Int)<(l'' a:Nat):=Om;have θ:=O _ (auH Y);have γ:=cC a Y;have ε:l'' P<=(a.drop z).length:=by rw[awM];omega
 have U:=AG M ε;have u:(a.drop z).drop P.length=a[z+l'' P]::a.drop (z+l'' P+1):=by rw[List.drop_drop,awS Y]
 generalize hx:a[z+l'' P]=x at *
 have ex:u_.wrap ((x:Nat):Int)=((x:Nat):Int):=bN Om;have δ:(1:Nat)*1<=16777216:=by decide
 have ew:i_.wrap (((z+l'' P:Nat):Int)+1)=((z+l'' P+1:Nat):Int):=dU Om;have fin:∀(t:Nat)(F:PF),t<18446744073709551616->val (a.drop z)/4294967296^P.length%(4294967296*4294967296)=t->F 0=some (aL a)->F 1=some (.j n)->F 5=some v->F 6=some (.j (z+l'' P:Nat))->F 7=some (.int .u64 t) ->
   ∀K:cH,(∀v' V H2,(VS a n v' (z+(l'' P+1))).le V->cF H2 1 v' (aO (P++[t/2^s%4294967296]))->(P++[t/2^s%4294967296])=fF (l'' P+1) (val (a.drop z)/2^s)->K .normal V H2) ->
   aK.wp C (.region i6) (fX 1 (jB C (aK.wp C (.region VT)) K)) F H0:=by
  intro t F ht ζ f0 f1 f5 f6 f7 K hK;have H:shift .shr .u64 (t:Int) (s:Int)=some (.int .u64 ((t/2^s:Nat):Int)):=akY Om;simp only[go_sem,i6,f5,f7,f1,em,eu,H,dJ,δ];refine jJ (src:=[[.int .u32 ((t/2^s%4294967296:Nat):Int)]]) hO rfl (uG Om) λv' H' N _=>?_;rw[uH]at N;simp only[go_sem,VT,f6,ew];refine hK v' _ H' ?_ N ?_;unfold VS;exact Lq;rw[BH,<-hD];congr 2;have e:val (a.drop z)/4294967296^P.length=t%4294967296+4294967296*(t/4294967296+4294967296*(val (a.drop z)/4294967296^P.length/(4294967296*4294967296))):=by have:=Nat.mod_add_div (val (a.drop z)/4294967296^P.length) (4294967296*4294967296);rw[ζ]at this;have h2:=Nat.mod_add_div t 4294967296;rw[auW,<-axG,h2,<-avK];exact this.symm
  have:=ao W e;rw[this];congr 2;have h2:=Nat.mod_add_div t 4294967296;omega
 simp only[aK.wp,go_sem]at fin;simp only[go_sem,A,γ,ex,ew];by_cases Z:z+l'' P+1<l'' a;have E:((z+l'' P+1:Nat):Int)<(l'' a:Nat):=Om;have η:=O _ (auH Z);have Q:=cC a Z;rw[awS Z]at u;generalize hy:a[z+l'' P+1]=y at *
 have ey:u_.wrap ((y:Nat):Int)=((y:Nat):Int):=bN Om;have H:shift .shl .u64 (y:Int) ((32:Nat):Int)=some (.int .u64 ((2^32*y:Nat):Int)):=QE aU Om;have β:=orI (a:=x) (b:=2^32*y) (n:=x+2^32*y) Om Om (Ih Om Om) Om;simp only[go_sem,E,ew,Q,ey,show shift .shl .u64 (y:Int) 32=_ from H,β];refine fin (x+2^32*y) _ Om ?_ rfl rfl rfl rfl rfl _ ?_;rw[<-U,u];simp only[val];omega;intro v' V H2 e1 e2 e3;refine aF (α:=N_ × PV × PH) (P++[(x+2^32*y)/2^s%4294967296],v',H2) ⟨by simp;omega,by simpa using e3,e2⟩ (by simp;omega) ?_ b_;simp only[auJ,auS];exact e1;have E:¬((z+l'' P+1:Nat):Int)<(l'' a:Nat):=Om;rw[ayS (l:=a) (i:=z+l'' P+1) Om]at u;simp only[go_sem,E];refine fin x _ Om ?_ rfl rfl rfl rfl rfl _ ?_;rw[<-U,u];simp only[val];omega;intro v' V H2 e1 e2 e3;refine aF (α:=N_ × PV × PH) (P++[x/2^s%4294967296],v',H2) ⟨by simp;omega,by simpa using e3,e2⟩ (by simp;omega) ?_ b_;simp only[auJ,auS];exact e1;have e:z+l'' P=l'' a:=Om;have A:¬((z+l'' P:Nat):Int)<(l'' a:Nat):=Om;have hV:val P=val (a.drop z)/2^s:=by rw[hD];refine sG (Nat.lt_of_le_of_lt (axT _ _) ?_);have:=gO M;rw[awM]at this;rw[show P.length=l'' a-z by omega];exact this
 have W:=L.trim _ J Om;rw[hV,<-hR]at W;simp only[go_sem,A];refine zG W hO rfl λF1 H1 _=>?_;simp only[go_sem];exact aY (.inr rfl) .nil rfl a_ ⟨.refl _,rfl⟩
structure SH(C:Ctx):Prop extends jv C where
 bits:∀xs,Lim xs->l'' xs<=35184372087808->aG C 31 [aL xs] .nil (aJ (.int .i64 (dC (val xs):Nat)))
 upM:∀(a:N_)(n:Nat),Lim a->l'' a<=8388608->n<=8388608->(l'' a=0->val a=0)->aG C 45 [aL a,.int .i64 n] .nil (qZ 1 (aO (aM (val a*2^n))))
 down:∀(a:N_)(n:Nat),Lim a->l'' a<=8388608->n<=1000000000->aG C 40 [aL a,.int .i64 n] .nil (aJ (aL (aM (val a/2^n))))
def udS:Spec:=λname vs=>match name,vs with
 |35,[.int _ v]=>some ([],λ_=>aJ (aL (aM v.toNat)))
 |44,[x,y]=>some ([],λ_=>aJ (aL (aM (val (jU x)*val (jU y)))))
 |32,[x,.osl q _ _ _]=>some ([q],λi r H'=>H'=i/\∀xs,Lim xs->i q=some (.rows 1 (aO xs))->r=.int .i64 (eI (val (jU x)) (val xs)))
 |_,_=>none
theorem abR(v:Nat):udS 35 [.int .u64 v]=some ([],λ_=>aJ (aL (aM v))):=rfl
theorem Wn(x y:N_):udS 44 [aL x,aL y]=some ([],λ_=>aJ (aL (aM (val x*val y)))):=by
 show some ([],λ_=>aJ (aL (aM (val (jU (aL x))*val (jU (aL y))))))=_;rw[eW,eW]
theorem X8(q:Nat)(x L:N_):(h_.set q (.rows 1 (aO L)))=(h_.set q (.rows 1 (aO L)))/\∀xs,Lim xs->(h_.set q (.rows 1 (aO L))) q=some (.rows 1 (aO xs))->(PV.int .i64 (eI (val x) (val L)))=.j (eI (val (jU (aL x))) (val xs)):=by
 refine⟨rfl,λxs i e=>?_⟩;rw[cA]at e;have:aO L=aO xs:=(aW.rows.inj (awN.inj e)).2;rw[UJ this,eW]
def duF(n o l:Nat)(y:N_)(top u i:Nat)(k:Int):PF:=
 ((((((n_.set 10 (.int .i64 n)).set 11 (.osl o 1 0 l)).set 12 (aL y)).set 13 (.int .u64 top)).set 14 (.osl u 1 0 i)).set 15 (.int .i64 k))
abbrev fL(X:N_)(Z:P2_):P2_:=aO X++Z
theorem QZ{X:N_}{Z:P2_}{i:Nat}(h:i<l'' X):(fL X Z)[i]?=some [.int .u32 ((X[i]:Nat):Int)]:=by
 rw[fL,awR (by rw[cP];exact h),cC X h]
theorem Br{X:N_}{Z:P2_}{i:Nat}(h:i<l'' X)(v:Nat):(fL X Z).set i [.int .u32 (v:Int)]=fL (X.set i v) Z:=by
 rw[fL,List.set_append_left _ _ (by rw[cP];exact h),iK]
theorem Bq{X:N_}{Z:P2_}{j m:Nat}(h:j+m<=l'' X):((fL X Z).drop j).take m=aO ((X.drop j).take m):=by
 rw[fL,List.drop_append_of_le_length (by rw[cP];omega),List.take_append_of_le_length (by rw[awM,cP];omega)];unfold aO;rw[<-ayH,<-axQ]
theorem alC(L:SH C)(n o A:Nat)(y:N_)(top w lq j:Nat)(X:N_)(Z:P2_)(β:w≠o)(hy:Lim y)(hX:Lim X)(ε:l'' X=A)(hl:A<=5000)(hj:j+(l'' y+1)<=A)(O:0<val y)
  (qv:aW) (g0:Nat) (hg:val ((X.drop j).take (l'' y+1))/val y<=g0) (Y:g0<4294967296) (K:cH) (F:PF) (H:PH) (hF:((duF n o A y top w lq j).set 17 (.int .u64 g0)).le F) (hH:((h_.set o (.rows 1 (fL X Z))).set w qv).le H)
  (hK:∀F' H',((duF n o A y top w lq j).set 17 (.int .u64 (val ((X.drop j).take (l'' y+1))/val y:Nat))).le F'->((h_.set o (.rows 1 (fL X Z))).set w qv).le H'->K .normal F' H') :
  aK.wp C (.block 4 (.loop AV)) K F H:=by
 have i:¬o=w:=λh=>β h.symm;have l:((X.drop j).take (l'' y+1)).length=l'' y+1:=by rw[auU,awM];omega
 have E:Lim ((X.drop j).take (l'' y+1)):=(hX.drop _).take _;have J:=Bq (X:=X) (Z:=Z) (j:=j) (m:=l'' y+1) Om;have M:j+(l'' y+1)<=(fL X Z).length:=by rw[fL,auJ,cP];omega
 have U:aO ((X.drop j).take (l'' y+1))≠[]:=λh=>by have:=congrArg List.length h;rw[cP,l]at this;simp at this
 generalize hW:(X.drop j).take (l'' y+1)=W at *
 generalize N:val W/val y=S at *
 simp only[go_sem];refine wp_loop (α:=Nat) (λg=>(duF n o A y top w lq j).set 17 (.int .u64 g)) (λ_=>(h_.set o (.rows 1 (fL X Z))).set w qv) (λg=>S<=g/\g<4294967296) (λg=>g) g0 ⟨hg,Y⟩ hF hH ?_;rintro g ⟨δ,hlt⟩;have e1:i_.wrap ((j:Int)+(l'' y:Int))=((j+l'' y:Nat):Int):=jN Om;have e2:i_.wrap (((j+l'' y:Nat):Int)+1)=((j+l'' y+1:Nat):Int):=dU Om;have b1:(j:Int)<=((j+l'' y+1:Nat):Int):=Om;have b2:((j+l'' y+1:Nat):Int)<=(A:Nat):=Om;have b3:j+l'' y+1-j=l'' y+1:=Om;have mk:=L.make g Om;have tm:=L.times y (aM g) hy (bA _) Om (by have Q:nl g<=1:=iA (by rw[Nat.pow_one];exact hlt);rw[bD];omega)
 rw[aV]at tm;have γ:(aM (val y*g)).length<=35184372087808:=by have Q:nl g<=1:=iA (by rw[Nat.pow_one];exact hlt);have h2:=mY (a:=val y) (b:=g) (iJ hy) Q;rw[bD];omega
 have cm:=L.cmp (aM (val y*g)) W (bA _) E γ Om;rw[aV]at cm;simp only[go_sem,AV];refine bV .nil udS a_ ?_;simp only[go_sem,duF];refine cB (abR g) mk Sq a_ ?_;simp only[go_sem];have tS:=Wn y (aM g);rw[aV]at tS;refine cB tS tm Sq a_ ?_;simp only[go_sem,auD,e1,e2,b1,b2,b3];refine tP (src:=aO W) ?_ ?_ (λh=>absurd h U) λ_ o' u=>?_
 ·simp only[go_sem,i,M,J]
 ·unfold roomFor;rw[cP,l];simp only[maxLen];omega
 refine⟨a_,?_⟩;rw[cP,l];have n1:¬o'=w:=(jL.1 u).1;refine Yj (o:=o') (s:=1) (rs:=aO W) (vs:=[aL (aM (val y*g)),.osl o' 1 0 (l'' y+1)]) (v:=.j (eI (val y*g) (val W))) rfl (.int _ _) Sq ?_ ?_ ?_ Sq a_ ?_
 ·rw[avH,avH,avY,zS (by rw[cP,l];exact auG _),auZ (by rw[cP,l];exact auG _)];exact cm
 ·have:=X8 o' (aM (val y*g)) W;rw[aV]at this;exact this
 ·rintro r H' ⟨Q,h2⟩;have:=h2 W E (by rw[cA]);rw[eW,aV]at this;exact⟨this,Q⟩
 simp only[go_sem];by_cases c:val W<val y*g
 ·have V:eI (val y*g) (val W)=1:=by unfold eI;rw[aB Om,aD c]
  have hq:S<g:=by rw[<-N];exact(ayB O).2 (by rw[avO];exact c)
  have ew:u_.wrap ((g:Int)-1)=((g-1:Nat):Int):=by rw[wrap_u64 Om Om];omega
  simp only[go_sem,V,show(1:Int)>0 by decide,ew];refine aF (g-1) ⟨by omega,by omega⟩ Om ?_ ?_
  ·exact Lq
  ·refine c_ (c_ a_ ?_) ?_
   ·have n2:¬o=o':=λh=>by subst h;rw[aT,aB i,cA]at u;cases u
    simp only[go_sem,n2,i]
   ·have n3:¬w=o':=λh=>n1 h.symm;simp only[go_sem,n3]
 ·have V:¬eI (val y*g) (val W)>0:=by unfold eI;rw[aB c];split<;>decide
  have hq:g=S:=by
   have:g<=S:=by rw[<-N];exact(Nat.le_div_iff_mul_le O).2 (by rw[avO];omega)
   omega
  simp only[go_sem,V];refine hK _ _ ?_ ?_
  ·unfold duF
   (repeat' (first|exact e_|refine d_ ?_ ?_))<;>first|(simp only[go_sem,<-hq]<;>rfl)|rfl
  ·refine c_ (c_ a_ ?_) ?_
   ·have n2:¬o=o':=λh=>by subst h;rw[aT,aB i,cA]at u;cases u
    simp only[go_sem,n2,i]
   ·have n3:¬w=o':=λh=>n1 h.symm;simp only[go_sem,n3]
theorem afY(R k:Nat)(h:k<nl R):∃w:k<(aM R).length,(aM R)[k]=R/4294967296^k%4294967296:=by
 have i:k<(aM R).length:=by rw[bD];exact h
 refine⟨i,?_⟩;have l:=AG (bA R) (Nat.le_of_lt i);rw[aV,awS i]at l;have u:=bA R _ (auH i);simp only[val]at l;rw[<-l,Nat.add_mul_mod_self_left,awF u]
theorem Zq(R k:Nat)(h:nl R<=k):R/4294967296^k%4294967296=0:=by
 rw[ayO ((kY R k).1 h)]
theorem ahL{A P W Z:N_}{i:Nat}(l:l'' P=i)(hi:i<l'' W)(v:Nat):(A++(P++W.drop i)++Z).set (l'' A+i) v=A++((P++[v])++W.drop (i+1))++Z:=
 UJ (by rw[<-iK];exact LY l hi v)
theorem aoC(n o M:Nat)(y:N_)(top E lq j:Nat)(X:N_)(Z:P2_)(O:E≠o)(V:l'' X=M)(hl:M<=5000)(hj:j+(l'' y+1)<=M)
  (qv:aW) (g R:Nat) (K:cH) (F:PF) (H:PH) (hF:((((duF n o M y top E lq j).set 17 (.int .u64 g)).set 18 (aL (aM R))).set 19 (.j 0)).le F) (hH:((h_.set o (.rows 1 (fL X Z))).set E qv).le H)
  (hK:∀F' H',((duF n o M y top E lq j).set 17 (.int .u64 g)).le F'->((h_.set o (.rows 1 (fL (X.take j++fF (l'' y+1) R++X.drop (j+(l'' y+1))) Z))).set E qv).le H'->K .normal F' H') :
  aK.wp C (.block 6 (.loop AW)) K F H:=by
 have u:¬o=E:=λh=>O h.symm;have hA:(X.take j).length=j:=by rw[auU];omega
 have ε:((X.drop j).take (l'' y+1)).length=l'' y+1:=by rw[auU,awM];omega
 have θ:(X.drop (j+(l'' y+1))).length=M-(j+(l'' y+1)):=by rw[awM,V]
 have J:X.take j++(X.drop j).take (l'' y+1)++X.drop (j+(l'' y+1))=X:=by rw[avW,<-List.drop_drop,axY,axY]
 rw[<-J]at hH;generalize γ:X.take j=A at *
 generalize δ:(X.drop j).take (l'' y+1)=W at *
 generalize η:X.drop (j+(l'' y+1))=w at *
 simp only[go_sem];refine wp_loop (α:=N_) (λP=>(((duF n o M y top E lq j).set 17 (.int .u64 g)).set 18 (aL (aM R))).set 19 (.j P.length)) (λP=>(h_.set o (.rows 1 (fL (A++(P++W.drop P.length)++w) Z))).set E qv)
  (λP=>l'' P<=l'' y+1/\P=fF P.length R) (λP=>l'' y+1-l'' P) [] ⟨auK _,rfl⟩ hF (by simpa using hH) ?_
 rintro P ⟨hP,hD⟩;simp only[go_sem,AW,duF];by_cases c:l'' P<l'' y+1;have S:(l'' P:Int)<=(l'' y:Nat):=Om;have ei:i_.wrap ((j:Int)+(l'' P:Int))=((j+l'' P:Nat):Int):=jN Om;have β:(A++(P++W.drop P.length)++w).length=M:=by simp only[auJ,awM];omega
 have hi:j+l'' P<(A++(P++W.drop P.length)++w).length:=Om;have b1:((j+l'' P:Nat):Int)<(M:Nat):=Om;have r1:=QZ (Z:=Z) hi;have s1:=Br (Z:=Z) hi 0;have Q:j+l'' P<((A++(P++W.drop P.length)++w).set (j+l'' P) 0).length:=by rw[avT];exact hi
 have l:=λv=>ahL (A:=A) (P:=P) (W:=W) (Z:=w) (i:=l'' P) rfl Om v;rw[hA]at l;generalize ζ:A++(P++W.drop P.length)++w=XX at *
 have r2:(fL (A++((P++[0])++W.drop (l'' P+1))++w) Z)[j+l'' P]?=some [.int .u32 ((0:Nat):Int)]:=by rw[<-l 0,QZ Q,List.getElem_set_self]
 have s2:∀v,(fL (A++((P++[0])++W.drop (l'' P+1))++w) Z).set (j+l'' P) [.int .u32 ((v:Nat):Int)]=fL (A++((P++[v])++W.drop (l'' P+1))++w) Z:=by intro v;rw[<-l 0,Br Q,List.set_set,l]
 have atL:=BH P.length R;rw[<-hD]at atL;have ew:i_.wrap ((l'' P:Int)+1)=((l'' P+1:Nat):Int):=dU Om;simp only[go_sem,S,ei,b1,u,r1,show([PV.int .u32 (0:Int)])=[PV.int .u32 ((0:Nat):Int)]from rfl,s1,bD];by_cases c2:l'' P<nl R;have N:(l'' P:Int)<(nl R:Nat):=Om;obtain⟨U,Y⟩:=afY R P.length c2;have hr:=cC (aM R) U;rw[Y]at hr;simp only[go_sem,N,hr,ei,b1,u,r2,s2,List.set_set,l,ew];refine aF (P++[R/4294967296^P.length%4294967296]) ⟨by simp;omega,by rw[auJ,auS];exact atL.symm⟩ (by simp;omega) ?_ ?_;rw[auJ,auS];exact Lq;rw[auJ,auS];refine c_ (c_ a_ ?_) ?_<;>simp only[go_sem,u,show ¬E=o from O];have N:¬(l'' P:Int)<(nl R:Nat):=Om;have Y:=Zq R P.length Om;rw[Y]at atL;simp only[go_sem,N,l,ew];refine aF (P++[0]) ⟨by simp;omega,by rw[auJ,auS];exact atL.symm⟩ (by simp;omega) ?_ ?_;rw[auJ,auS];exact Lq;rw[auJ,auS];refine c_ (c_ a_ ?_) ?_<;>simp only[go_sem,u,show ¬E=o from O];have S:¬(l'' P:Int)<=(l'' y:Nat):=Om;have e:l'' P=l'' y+1:=Om;simp only[go_sem,S];refine hK _ _ (by unfold duF;exact Lq) ?_;have h2:A++fF (l'' y+1) R++w=A++(P++W.drop P.length)++w:=by rw[ayS Om,awD,<-e,<-hD]
 rw[h2];exact b_
theorem Zd{y W:N_}{m:Nat}(H:Lim y)(hW:Lim W)(E:l'' y=m+1)(A:l'' W=m+2)(F:0<y[m]):val W/val y<=(4294967296*W[m+1]+W[m])/y[m]:=by
 have w:=cV y (Om:m<l'' y);rw[auZ Om]at w;have l:=cV W (Om:m+1<l'' W);rw[auZ Om,cV W (Om:m<l'' W)]at l;have u:=gO (hW.take m);rw[auU,axH Om]at u;have hp:0<4294967296^m:=axU aU;have hb:4294967296^m*y[m]<=val y:=Om;have i:0<4294967296^m*y[m]:=Nat.mul_pos hp F;have e:val W=val (W.take m)+4294967296^m*(4294967296*W[m+1]+W[m]):=by rw[l,awL,auW,avK];omega
 refine avJ (Nat.div_le_div_left hb i) ?_;rw[<-Nat.div_div_eq_div_mul,e,Nat.add_mul_div_left _ _ hp,ayO u,avA];exact auG _
theorem Wo(L:SH C)(U0 n o u i l m:Nat)(y z:N_)(Y:l≠o)(hy:Lim y)(S:l'' y=m+1)(ht:0<y[m])(h':u=i+(m+1))(γ:u<=5000)(X:N_)(O:sV U0 (val y) (m+1) u i i X (auL i 0))(K:cH)(F:PF)(H:PH)
  (hF:(duF n o u y (y[m]) l i ((i:Int)-1)).le F) (hH:((h_.set o (.rows 1 (fL X (aO z)))).set l (.rows 1 (aO (auL i 0)))).le H)
  (hK:∀X' Q' F' H',sV U0 (val y) (m+1) u i 0 X' Q'->(duF n o u y (y[m]) l i (-1)).le F'->((h_.set o (.rows 1 (fL X' (aO z)))).set l (.rows 1 (aO Q'))).le H'->K .normal F' H') :
  aK.wp C (.block 2 (.loop AX)) K F H:=by
 have w:¬o=l:=λh=>Y h.symm;have r':¬l=o:=Y;have hV:val y<4294967296^(m+1):=by have:=gO hy;rw[S]at this;exact this
 have ο:0<val y:=by have h1:=cV y (Om:m<l'' y);rw[auZ Om]at h1;have:0<4294967296^m*y[m]:=Nat.mul_pos (axU aU) ht;omega
 have w':=hy _ (auH (Om:m<l'' y));generalize htop:y[m]=top at *
 simp only[go_sem];refine wp_loop (α:=Nat × N_ × N_) (λt=>duF n o u y top l i ((t.1:Int)-1)) (λt=>(h_.set o (.rows 1 (fL t.2.1 (aO z)))).set l (.rows 1 (aO t.2.2)))
  (λt=>t.1<=i/\sV U0 (val y) (m+1) u i t.1 t.2.1 t.2.2) (λt=>t.1) (i,X,auL i 0) ⟨auG _,O⟩ hF hH ?_
 rintro⟨k,X,Q⟩ ⟨hk,O⟩;simp only at hk O;simp only[go_sem,AX,duF];by_cases h0:0<k;obtain⟨j,rfl⟩:∃j,k=j+1:=⟨k-1,by omega⟩;have hz:((j+1:Nat):Int)-1=(j:Int):=Om;have e':(j:Int)>=0:=Om;have dst:=Ff O hV Om h';rw[show m+1+1=m+2 from rfl]at dst;obtain⟨hlt,Ξ⟩:=dst;have ρ:=O.lu';have s':=O.lq';have V:((X.drop j).take (m+2)).length=m+2:=by rw[auU,awM];omega
 have ε:Lim ((X.drop j).take (m+2)):=(O.limU.drop _).take _;have u':m+1<((X.drop j).take (m+2)).length:=Om;have t':m<((X.drop j).take (m+2)).length:=Om;have a1:j+(m+1)<l'' X:=Om;have a0:j+m<l'' X:=Om;have w1:((X.drop j).take (m+2))[m+1]=X[j+(m+1)]:=by simp
 have w0:((X.drop j).take (m+2))[m]=X[j+m]:=by simp
 have τ:=Zd hy ε S V (by rw[htop];exact ht);rw[w1,w0,htop]at τ;have r1:=QZ (Z:=aO z) a1;have r0:=QZ (Z:=aO z) a0;have l1:=O.limU _ (auH a1);have l0:=O.limU _ (auH a0);generalize y':X[j+(m+1)]=J at *
 generalize x':X[j+m]=N at *
 have e1:i_.wrap ((j:Int)+(l'' y:Int))=((j+(m+1):Nat):Int):=by rw[S];exact jN Om
 have e0:i_.wrap (((j+(m+1):Nat):Int)-1)=((j+m:Nat):Int):=wO_
 have b1:((j+(m+1):Nat):Int)<(u:Nat):=Om;have b0:((j+m:Nat):Int)<(u:Nat):=Om;have Θ:u_.wrap ((J:Nat):Int)=((J:Nat):Int):=bN Om;have Δ:u_.wrap ((N:Nat):Int)=((N:Nat):Int):=bN Om;have ι:shift .shl .u64 (J:Int) 32=some (.int .u64 ((2^32*J:Nat):Int)):=QE (s:=32) Om Om;have Γ:(2:Nat)^32=4294967296:=by decide
 have η:=orI (a:=2^32*J) (b:=N) (n:=2^32*J+N) Om Om (Nat.two_pow_add_eq_or_of_lt Om J).symm Om;rw[Γ]at ι η;have Ω:¬((top:Nat):Int)=0:=Om;have χ:(4294967296*J+N)/top<18446744073709551616:=Nat.lt_of_le_of_lt (axT _ _) Om;have θ:u_.wrap (Int.tdiv ((4294967296*J+N:Nat):Int) ((top:Nat):Int))=(((4294967296*J+N)/top:Nat):Int):=by rw[show Int.tdiv ((4294967296*J+N:Nat):Int) ((top:Nat):Int)=(((4294967296*J+N)/top:Nat):Int)from rfl];exact bN χ
 have ψ:val ((X.drop j).take (m+2))/val y<4294967296:=(ayB ο).2 (by rw[avO];exact hlt);have σ:=Bq (X:=X) (Z:=aO z) (j:=j) (m:=m+2) Om;have υ:j+(m+2)<=(fL X (aO z)).length:=by rw[fL,auJ,cP];omega
 have ζ:val ((X.drop j).take (m+2))-val y*(val ((X.drop j).take (m+2))/val y)=val ((X.drop j).take (m+2))%val y:=by have:=ayN (val ((X.drop j).take (m+2))) (val y);omega
 have M:val y*(val ((X.drop j).take (m+2))/val y)<=val ((X.drop j).take (m+2)):=Nat.mul_div_le _ _;clear w1 w0;have gu:=λg0=>alC (C:=C) L n o u y top l i j X (aO z) Y hy O.limU ρ γ Om ο (.rows 1 (aO Q)) g0;rw[S,show m+1+1=m+2 from rfl]at gu;generalize hW:(X.drop j).take (m+2)=W at *
 generalize v':val W/val y=U at *
 have Φ:aO W≠[]:=λh=>by have:=congrArg List.length h;rw[cP,V]at this;simp at this
 have tail:∀(g0:Nat)(F:PF)(H:PH),U<=g0->g0<4294967296->((duF n o u y top l i j).set 17 (.int .u64 g0)).le F->((h_.set o (.rows 1 (fL X (aO z)))).set l (.rows 1 (aO Q))).le H ->
   aK.wp C (.seq (.block 4 (.loop AV)) (.seq (.region JT) (.seq (.seq (.region JU) (.block 6 (.loop AW))) (.region JV)))) (fX 3 (jB C (aK.wp C (.region JW)) (iF (λ(t:Nat × N_ × N_)=>duF n o u y top l i ((t.1:Int)-1)) (λt=>(h_.set o (.rows 1 (fL t.2.1 (aO z)))).set l (.rows 1 (aO t.2.2))) (λt=>t.1<=i/\sV U0 (val y) (m+1) u i t.1 t.2.1 t.2.2) (λt=>t.1) (j+1) (fX 2 K)))) F H:=by
  intro g0 F H hg d' hF hH;have gu:=gu g0 hg d';simp only[go_sem]at gu;simp only[go_sem];refine gu _ F H hF hH ?_;intro F1 H1 A ν;have f11:F1 11=some (.osl o 1 0 u):=A 11 _ (by unfold duF;simp only[go_sem]);have δ:F1 12=some (aL y):=A 12 _ (by unfold duF;simp only[go_sem]);have κ:F1 15=some (.j j):=A 15 _ (by unfold duF;simp only[go_sem]);have μ:F1 17=some (.int .u64 (U:Nat)):=A 17 _ (by unfold duF;simp only[go_sem]);have Λ:F1 10=some (.j n):=A 10 _ (by unfold duF;simp only[go_sem]);have f13:F1 13=some (.int .u64 top):=A 13 _ (by unfold duF;simp only[go_sem]);have f14:F1 14=some (.osl l 1 0 i):=A 14 _ (by unfold duF;simp only[go_sem]);have ho:H1 o=some (.rows 1 (fL X (aO z))):=ν o _ (by simp only[go_sem,w]);have φ:H1 l=some (.rows 1 (aO Q)):=ν l _ Sq;have b3:(j:Int)<=((j+(m+1)+1:Nat):Int):=Om;have b4:((j+(m+1)+1:Nat):Int)<=(u:Nat):=Om;have b5:j+(m+1)+1-j=m+2:=Om;have e2:i_.wrap (((j+(m+1):Nat):Int)+1)=((j+(m+1)+1:Nat):Int):=dU Om;simp only[go_sem,JT,f11,κ,δ,auD,e1,e2,b3,b4,b5];refine tP (src:=aO W) ?_ ?_ (λh=>absurd h Φ) λ_ o' β=>?_;simp only[go_sem,ho,υ,σ];unfold roomFor;rw[cP,V];simp only[maxLen];omega;rw[cP,V];have n1:¬l=o':=λh=>by subst h;rw[φ]at β;cases β
  have n2:¬o=o':=λh=>by subst h;rw[ho]at β;cases β
  have nq:nl U<=1:=iA (by rw[Nat.pow_one];exact ψ);have tm:=L.times y (aM U) hy (bA _) Om (by rw[bD];omega);rw[aV]at tm;have nW:=iJ ε;have mn:=L.minus W (aM (val y*U)) ε (bA _) (by rw[aV];exact M) (by rw[bD];exact avJ (iX M) nW) Om;rw[aV,ζ]at mn;have Ψ:(aO W).take (m+2)=aO W:=auZ (by rw[cP];omega);simp only[go_sem,μ];refine aA (L.make U Om) Sq ?_;simp only[go_sem,δ];refine aA tm Sq ?_;simp only[go_sem];refine vI (o:=o') (s:=1) (rs:=aO W) mn Sq (by simp only[go_sem,show m+2<=W.length by omega,Ψ]) ?_;simp only[go_sem,JU];have b':(fL X (aO z)).map (λr=>r.map (PV.cZ o' 1 (aO W)))=fL X (aO z):=by
   have:fL X (aO z)=aO (X++z):=by simp[fL,aO]
   rw[this];exact wW _ _ _ _
  have a':(aO Q).map (λr=>r.map (PV.cZ o' 1 (aO W)))=aO Q:=wW _ _ _ _;have ur:=aoC (C:=C) n o u y top l i j X (aO z) Y ρ γ Om (.rows 1 (aO Q)) U (val W%val y);rw[S,show m+1+1=m+2 from rfl]at ur;simp only[go_sem]at ur;refine ur _ _ _ ?_ ?_ ?_;unfold duF
  (repeat' (first|exact e_|refine d_ ?_ ?_))<;>first|(simp only[go_sem,Λ,f11,δ,f13,f14,κ,μ,n1,n2]<;>rfl)|rfl
  refine c_ (c_ a_ ?_) ?_;simp only[go_sem,w,n2,ho,aW.frz,b'];simp only[go_sem,n1,φ,aW.frz,a'];intro F3 H3 E ξ;have k':F3 10=some (.j n):=E 10 _ (by unfold duF;simp only[go_sem]);have l':F3 11=some (.osl o 1 0 u):=E 11 _ (by unfold duF;simp only[go_sem]);have m':F3 12=some (aL y):=E 12 _ (by unfold duF;simp only[go_sem]);have n':F3 13=some (.int .u64 top):=E 13 _ (by unfold duF;simp only[go_sem]);have ω:F3 14=some (.osl l 1 0 i):=E 14 _ (by unfold duF;simp only[go_sem]);have p':F3 15=some (.j j):=E 15 _ (by unfold duF;simp only[go_sem]);have q':F3 17=some (.int .u64 U):=E 17 _ (by unfold duF;simp only[go_sem]);have i':H3 o=some (.rows 1 (fL (X.take j++fF (m+2) (val W%val y)++X.drop (j+(m+2))) (aO z))):=ξ o _ (by simp only[go_sem,w]);have j':H3 l=some (.rows 1 (aO Q)):=ξ l _ Sq;have g':j<l'' Q:=Om;have rq:=cC Q g';have f':(j:Int)<(i:Nat):=Om;have sq:=iK Q j U;have ec:IntKind.u32.wrap ((U:Nat):Int)=((U:Nat):Int):=by rw[dJ,awF ψ]
  have ej:i_.wrap ((j:Int)-1)=(j:Int)-1:=wrap_i64 Om Om;simp only[go_sem,JV,ω,p',q',f',j',rq,ec,sq,JW,ej];refine aF (α:=Nat × N_ × N_) (j,_,_) ⟨by simp only;omega,Ξ⟩ sO_ ?_ ?_;unfold duF;exact lE5 k' l' m' n' ω;refine c_ (c_ a_ ?_) ?_;simp only[go_sem,w,i'];simp only[go_sem]
 simp only[aK.wp,go_sem]at tail;simp only[go_sem,hz,e'];refine bV .nil dY a_ ?_;simp only[go_sem,e1,e0,b1,b0,w,r1,r0,Θ,Δ,ι,η,Ω,θ];by_cases c:(4294967296*J+N)/top>4294967295;have c':(((4294967296*J+N)/top:Nat):Int)>4294967295:=Om;simp only[go_sem,c'];exact tail 4294967295 _ _ Om aU (by unfold duF;exact Lq) b_;have c':¬(((4294967296*J+N)/top:Nat):Int)>4294967295:=Om;simp only[go_sem,c'];exact tail _ _ _ τ Om (by unfold duF;exact Lq) b_;have:k=0:=Om;subst this;have hz:¬((0:Nat):Int)-1>=0:=by decide
 simp only[go_sem,hz];refine hK X Q _ _ O ?_ b_;unfold duF;exact lE1 (show((0:Nat):Int)-1=-1 from rfl)
def abQ(a:N_)(d q k r:Nat):PF:=(((((n_.set 0 (aL a)).set 1 (aL [d])).set 6 (.osl q 1 0 a.length)).set 7 (.int .u64 r)).set 8 (.int .i64 ((k:Int)-1)))
theorem Ro(L:SH C)(a:N_)(d:Nat)(ha:Lim a)(u:0<d)(hd:d<4294967296)(h1:l'' a<=1000)(F:PF)(f0:F 0=some (aL a))(f1:F 1=some (aL [d])) :
  aK.wp C (.seq (.region QL) (.seq (.region QM) (.seq (.seq (.region QN) (.block 0 (.loop JN))) (.seq (.region JO) .ret)))) (aX [.tmp 4,.tmp 5] (cN (uS (val a) d))) F .nil:=by
 have δ:(l'' a:Int)*((4:Nat):Int)<=140737488355328:=Om;have ε:(l'' a:Int)<=9223372036854775807:=Om;have hz:auL a.length [PV.int .u32 0]=aO (auL a.length 0++[]):=by simp[aO]
 simp only[go_sem,QL,f0,auD,δ,ε,hz];refine aS λo ho=>?_;simp only[go_sem,QM,QN,f0,auD];refine wp_loop (α:=Nat × N_ × Nat) (λt=>abQ a d o t.1 t.2.2) (λt=>h_.set o (.rows 1 (aO (auL t.1 0++t.2.1))))
  (λt=>t.1+t.2.1.length=l'' a/\Lim t.2.1/\t.2.2<d/\val t.2.1*d+t.2.2=val (a.drop t.1)) (λt=>t.1) (l'' a,[],0) ⟨by simp,by simp[Lim],u,by simp[val]⟩ ?_ ?_ ?_
 unfold abQ
 (repeat' (first|exact e_|refine d_ ?_ ?_))<;>first|(simp only[go_sem,f0,f1,wrap_i64 (Om:-9223372036854775808<=(l'' a:Int)-1) (Om:(l'' a:Int)-1<=9223372036854775807)]<;>rfl)|rfl
 exact c_ a_ Sq;rintro⟨k,S,r⟩ ⟨hk,l,U,i⟩;simp only at hk l U i;simp only[go_sem,JN,abQ];by_cases h0:0<k;obtain⟨m,rfl⟩:∃m,k=m+1:=⟨k-1,by omega⟩;have E:((m+1:Nat):Int)-1=(m:Int):=Om;have β:(m:Int)>=0:=Om;have A:m<l'' a:=Om;have hlt:(m:Int)<(l'' a:Nat):=Om;have η:=ha _ (auH A);have w:val (a.drop m)=a[m]+4294967296*val (a.drop (m+1)):=by rw[awS A];rfl
 have Y:=cC a A;generalize hx:a[m]=x at *
 have ex:u_.wrap ((x:Nat):Int)=((x:Nat):Int):=bN Om;have ed:u_.wrap ((d:Nat):Int)=((d:Nat):Int):=bN Om;have M:shift .shl .u64 (r:Int) 32=some (.int .u64 ((2^32*r:Nat):Int)):=QE (s:=32) Om Om;have V:(2:Nat)^32=4294967296:=by decide
 have H:=orI (a:=2^32*r) (b:=x) (n:=2^32*r+x) Om Om (Nat.two_pow_add_eq_or_of_lt Om r).symm Om;rw[V]at M H;have Q:(4294967296*r+x)/d<4294967296:=by rw[ayB u];have:4294967296*(r+1)<=4294967296*d:=awZ _ U;omega
 have Z:¬((d:Nat):Int)=0:=Om;have J:u_.wrap (Int.tdiv ((4294967296*r+x:Nat):Int) ((d:Nat):Int))=(((4294967296*r+x)/d:Nat):Int):=by rw[show Int.tdiv ((4294967296*r+x:Nat):Int) ((d:Nat):Int)=(((4294967296*r+x)/d:Nat):Int)from rfl];exact bN Om
 have K:Int.tmod ((4294967296*r+x:Nat):Int) ((d:Nat):Int)=(((4294967296*r+x)%d:Nat):Int):=rfl;have ec:IntKind.u32.wrap (((4294967296*r+x)/d:Nat):Int)=(((4294967296*r+x)/d:Nat):Int):=by rw[dJ,awF Q]
 have N:auL (m+1) 0++S=auL m 0++(0::S):=by rw[List.replicate_succ',avW];rfl
 have γ:(aO (auL m 0++(0::S)))[m]?=some [.int .u32 ((0:Nat):Int)]:=by rw[cC _ bC];simp
 have O:(aO (auL m 0++(0::S))).set m [.int .u32 (((4294967296*r+x)/d:Nat):Int)]=aO (auL m 0++(((4294967296*r+x)/d)::S)):=by rw[iK,axS _ _ bC];simp
 simp only[go_sem,E,β,M,Y,ex,H,ed,Z,J,ec,hlt,N,γ,O,K];refine aF (m,((4294967296*r+x)/d)::S,(4294967296*r+x)%d) ⟨by simp only[avG];omega,λy hy=>?_,awJ _ u,?_⟩ sO_ ?_ (c_ a_ Sq);rw[auQ]at hy;rcases hy with rfl|hy
 exact Q;exact l y hy;simp only[val];rw[w,<-i,avV,auW,avK];have:=ayN (4294967296*r+x) d;rw[avO d]at this;omega
 (repeat' (first|exact e_|refine d_ ?_ ?_))<;>first|(simp only[go_sem,wrap_i64 (Om:-9223372036854775808<=(m:Int)-1) (Om:(m:Int)-1<=9223372036854775807)]<;>rfl)|rfl
 have:k=0:=Om;subst this;have E:¬((0:Nat):Int)-1>=0:=by decide
 rw[avR]at i;have hS:l'' S=l'' a:=Om;have Q:val S=val a/d:=by rw[<-i,avO,Nat.mul_add_div u,ayO U,awX]
 have ζ:r=val a%d:=by rw[<-i,avO,Nat.mul_add_mod,awF U]
 have θ:auL 0 0++S=S:=by simp
 have hl:=L.trim S l Om;have W:(aO S).take a.length=aO S:=auZ (by rw[cP];omega);simp only[go_sem,E,JO,axI];refine vI (o:=o) (s:=1) (rs:=aO S) hl Sq (by simp only[go_sem,W,show a.length<=S.length by omega]) ?_;simp only[go_sem];refine aA (L.make r Om) Sq ?_;simp only[go_sem];refine aY (vs:=[aL (aM (val S)),aL (aM r)]) (.inr rfl) .nil Ev a_ ⟨?_,rfl⟩;rw[Q,ζ];exact .refl _
theorem adU{B m:Nat}(h:nl B=m+1):32*m<dC B/\dC B<=32*(m+1):=by
 refine⟨?_,(kC B (m+1)).2 Om⟩;rcases avF (32*m) (dC B)with h1|h1
 exact h1;have:=(kC B m).1 h1;omega
theorem adV{B:Nat}(h:B≠0):2^(dC B-1)<=B:=by
 rcases avF B (2^(dC B-1))with h1|h1
 have i:=(pG B _).2 h1;have l:dC B≠0:=λe=>h (mT.1 e);omega;exact h1
theorem Rp(L:SH C)(A B:Nat)(hB:B≠0)(hA:nl A<=512)(b':nl B<=512) :
  VR.wp C (aX eD.res (cN (uS A B))) (g_ [aL (aM A),aL (aM B)]) .nil:=by
 have W:=bA A;have LB:=bA B;have vA:=aV A;have vB:=aV B;have lA:(aM A).length=nl A:=rfl;have lB:(aM B).length=nl B:=rfl;simp only[go_sem,VR,eD];refine aA (L.cmp _ _ W LB Om Om) rfl ?_;rw[vA,vB];by_cases c1:A<B;have hc:eI A B<0:=by simp[eI,c1]
 simp only[go_sem,hc];refine aA (L.trim _ W Om) rfl ?_;rw[vA];simp only[go_sem];refine aY (vs:=[.aE,aL (aM A)]) (.inr rfl) .nil rfl a_ ⟨?_,rfl⟩;rw[uS,ayO c1,awF c1,gL];exact CoL.tup (CoL.cons (.nil 1) (CoL.cons (.refl _) .nil));have hc:¬eI A B<0:=by unfold eI;rw[aB c1];split<;>decide
 have χ:0<B:=axJ hB;have h':nl B≠0:=λh=>hB (kK.1 h);simp only[go_sem,hc,auD,lB];by_cases c2:nl B=1;have Y:B<4294967296:=by have:=(kY B 1).1 Om;simpa using this
 have Θ:aM B=[B]:=sB hB Y;have sh:=Ro (C:=C) L (aM A) B W χ Y Om;rw[vA]at sh;simp only[aK.wp,go_sem]at sh;simp only[go_sem,cI (Om:((nl B:Nat):Int)=1)];exact sh _ rfl (by simp only[go_sem,Θ]);obtain⟨m,hm⟩:∃m,nl B=m+1:=⟨nl B-1,by omega⟩;have g':1<=m:=Om;obtain⟨e',ζ⟩:=adU hm;obtain⟨n,hn⟩:∃n,n+dC B=32*(m+1):=⟨32*(m+1)-dC B,by omega⟩;have θ:n<32:=Om;have O:0<2^n:=axU aU;have α:B<2^dC B:=(pG B _).1 (auG _);have Z:=adV hB;have γ:B*2^n<4294967296^(m+1):=by have:B*2^n<2^dC B*2^n:=Nat.mul_lt_mul_of_pos_right α O;rw[<-Nat.pow_add,show dC B+n=32*(m+1) by omega,Nat.pow_mul]at this;exact this
 have Ω:4294967296^m*2147483648<=B*2^n:=by have:2^(dC B-1)*2^n<=B*2^n:=avL _ Z;rw[<-Nat.pow_add,show dC B-1+n=32*m+31 by omega,Nat.pow_add,Nat.pow_mul]at this;exact this
 have nV:nl (B*2^n)=m+1:=by
  have M:=(kY (B*2^n) (m+1)).2 γ;rcases avF (nl (B*2^n)) (m+1)with h|h
  have:=(kY (B*2^n) m).1 Om;have Ξ:0<4294967296^m:=axU aU;omega;omega
 have d':B*2^n≠0:=Nat.mul_ne_zero hB Om;have j':nl (A*2^n)<=nl A+1:=mY (auG _) (iA (by rw[Nat.pow_one];exact Nat.pow_lt_pow_right (a:=2) (m:=n) (n:=32) aU θ));have Γ:B*2^n<=A*2^n:=avL _ Om;have k':m+1<=nl (A*2^n):=by rw[<-nV];exact iX Γ
 have c':A*2^n≠0:=Om;have ο:i_.wrap (32*((nl B:Nat):Int))=((32*(m+1):Nat):Int):=wO_
 have en:i_.wrap (((32*(m+1):Nat):Int)-((dC B:Nat):Int))=(n:Int):=wO_
 have bt:=L.bits (aM B) LB Om;rw[vB]at bt;have ua:=L.upM (aM A) n W Om Om (λh=>by have:=gO W;rw[h]at this;omega);have ub:=(L.upM (aM B) n LB Om Om (λh=>by have:=gO LB;rw[h]at this;omega)).freeze;rw[vA]at ua;rw[vB]at ub;have tail:∀(o:Nat)(F:PF)(H:PH),F 0=some (aL (aM A))->F 1=some (aL (aM B))->F 10=some (.j n)->F 11=some (.osl o 1 0 (nl (A*2^n)+2))->F 12=some (aL (aM (B*2^n)))->H o=some (.rows 1 (aO (aM (A*2^n))++[[.int .u32 0],[.int .u32 0]])) ->
   aK.wp C (.seq (.region JP) (.seq (.region JQ) (.seq (.region JR) (.seq (.seq (.region JS) (.block 2 (.loop AX))) (.seq (.region JX) .ret))))) (aX [.tmp 4,.tmp 5] (cN (uS A B))) F H:=by
  intro o F H f0 f1 ρ f11 σ hH;have LU:=bA (A*2^n);have LV:=bA (B*2^n);have vU:=aV (A*2^n);have vV:=aV (B*2^n);have lU:(aM (A*2^n)).length=nl (A*2^n):=rfl;have lV:(aM (B*2^n)).length=m+1:=nV;have eu:i_.wrap (((nl (A*2^n):Nat):Int)+1)=((nl (A*2^n)+1:Nat):Int):=dU Om;have b1:((nl (A*2^n)+1:Nat):Int)<=((nl (A*2^n)+2:Nat):Int):=Om;simp only[go_sem,JP,f11,f0,ρ];refine aA ua.freeze rfl ?_;obtain⟨l,f'⟩:∃l,nl (A*2^n)+1-(m+1)=l:=⟨_,rfl⟩;have Λ:nl (A*2^n)+1=l+(m+1):=Om;have em:i_.wrap (((m+1:Nat):Int)-1)=((m:Nat):Int):=wO_
  have y:m<(aM (B*2^n)).length:=Om;have rm:=cC (aM (B*2^n)) y;have tl:=LV _ (auH y);have htop:0<(aM (B*2^n))[m]:=by
   have M:=cV (aM (B*2^n)) y;rw[auZ Om,vV]at M;have h2:=gO (LV.take m);rw[auU,axH Om]at h2;have Ξ:0<4294967296^m:=axU aU;rcases axN (aM (B*2^n))[m]with h|h
   rw[h]at M;omega;exact h
  have ξ:2147483648<=(aM (B*2^n))[m]:=by
   have M:=cV (aM (B*2^n)) y;rw[auZ Om,vV]at M;have h2:=gO (LV.take m);rw[auU,axH Om]at h2;rcases avF (aM (B*2^n))[m] 2147483648 with h|h
   exfalso;have h3:4294967296^m*((aM (B*2^n))[m]+1)<=4294967296^m*2147483648:=awZ _ h;rw[auW,Nat.mul_one]at h3;omega;exact h
  have J:=Wo (C:=C) L (A*2^n) n o (nl (A*2^n)+1) l;have hI:sV (A*2^n) (val (aM (B*2^n))) (m+1) (nl (A*2^n)+1) l l (aM (A*2^n)++[0]) (auL l 0):=by
   refine⟨by rw[auJ,lU];rfl,List.length_replicate,LU.app λx V=>by simp at V;omega,BN _,?_,?_,λi x _ V=>Kc V⟩;rw[jF,vU,xJ];simp[val];have a':(aM (A*2^n)++[0]).length=nl (A*2^n)+1:=by rw[auJ,lU];rfl
   have Ψ:val (aM (A*2^n)++[0])=A*2^n:=by rw[jF,vU];simp[val]
   rw[AG (LU.app λx V=>by simp at V;omega) Om,Ψ,vV,ayB (axU aU)];have M:A*2^n<4294967296^nl (A*2^n):=(kY _ _).1 (auG _);have V:nl (A*2^n)=m+l:=Om;rw[V,Nat.pow_add]at M;have h2:4294967296^m*4294967296^l<=(B*2^n)*4294967296^l:=avL _ Om;omega
  have S:aO (aM (A*2^n))++[[PV.int .u32 0],[PV.int .u32 0]]=fL (aM (A*2^n)++[0]) (aO [0]):=by simp[fL,aO]
  rw[S]at hH;generalize ν:(aM (B*2^n))[m]=top at *
  have et:u_.wrap ((top:Nat):Int)=((top:Nat):Int):=bN Om;have k2:i_.wrap (((nl (A*2^n)+1:Nat):Int)-((m+1:Nat):Int))=((l:Nat):Int):=wO_
  have k3:((l:Nat):Int)*((4:Nat):Int)<=140737488355328:=Om;have k4:((l:Nat):Int)<=9223372036854775807:=Om;have hz:auL l [PV.int .u32 0]=aO (auL l 0):=by simp[aO]
  have jq:i_.wrap ((l:Int)-1)=(l:Int)-1:=wrap_i64 Om Om;simp only[go_sem,auD,lU,eu,b1,JQ,σ,lV,em,rm,et,JR,k2,k3,k4,hz];refine aS λK μ=>?_;have ι:K≠o:=by rintro rfl;rw[hH]at μ;cases μ
  have w:¬o=K:=λh=>ι h.symm;have E:=J K m (aM (B*2^n)) [0] ι LV lV (by rw[ν];exact htop) Λ Om _ hI;rw[ν]at E;simp only[go_sem]at E;simp only[go_sem,JS,jq];refine E _ _ _ ?_ ?_ ?_;unfold duF;exact Lq;refine c_ (c_ a_ ?_) ?_;simp only[go_sem,w,hH];simp only[go_sem];clear E J;intro X Q F1 H1 u N β;have τ:F1 10=some (.j n):=N 10 _ (by unfold duF;simp only[go_sem]);have υ:F1 11=some (.osl o 1 0 (nl (A*2^n)+1)):=N 11 _ (by unfold duF;simp only[go_sem]);have φ:F1 14=some (.osl K 1 0 l):=N 14 _ (by unfold duF;simp only[go_sem]);have κ:H1 o=some (.rows 1 (fL X (aO [0]))):=β o _ (by simp only[go_sem,w]);have Φ:H1 K=some (.rows 1 (aO Q)):=β K _ Sq;have hu:val X<val (aM (B*2^n)):=by have:=u.r;rwa[avR]at this
  have U:=u.v;rw[vV]at hu U;have ω:val Q=A/B:=by
   have:A*2^n/(B*2^n)=val Q:=by rw[<-U,Nat.add_mul_div_right _ _ Om,ayO hu,avA]
   rw[<-this,Nat.mul_div_mul_right _ _ O]
  have Δ:val X/2^n=A%B:=by
   have:A*2^n%(B*2^n)=val X:=by rw[<-U,Nat.add_mul_mod_self_right,awF hu]
   rw[<-this,Nat.mul_mod_mul_right,Nat.mul_div_cancel _ O]
  have lX:=u.lu';have lQ:=u.lq';have ψ:(aO Q).take l=aO Q:=auZ (by rw[cP];omega);have ε:(fL X (aO [0])).take (nl (A*2^n)+1)=aO X:=by rw[fL,List.take_append_of_le_length (by rw[cP];omega),auZ (by rw[cP];omega)]
  have δ:nl (A*2^n)+1<=(fL X (aO [0])).length:=by rw[fL,auJ,cP];omega
  have η:(fL X (aO [0])).map (λr=>r.map (PV.cZ K 1 (aO Q)))=fL X (aO [0]):=by
   have:fL X (aO [0])=aO (X++[0]):=by simp[fL,aO]
   rw[this];exact wW _ _ _ _
  have nX:=iJ u.limU;have t1:=L.trim Q u.limQ Om;have t2:=L.trim X u.limU Om;have dn:=L.down (aM (val X)) n (bA _) (by rw[bD];omega) Om;rw[aV,Δ]at dn;rw[ω]at t1;generalize aO [0]=Z0 at κ ε δ η;simp only[go_sem,JX,φ];refine vI (o:=K) (s:=1) (rs:=aO Q) t1 Φ (by simp only[go_sem,ψ,show l<=Q.length by omega]) ?_;simp only[go_sem,υ,w];refine vI (o:=o) (s:=1) (rs:=fL X Z0) t2 (by simp only[go_sem,w,κ,aW.frz,η]) (by simp only[go_sem,ε,δ]) ?_;simp only[go_sem,τ];refine aA dn rfl ?_;simp only[go_sem];exact aY (vs:=[aL (aM (A/B)),aL (aM (A%B))]) (.inr rfl) .nil rfl a_ ⟨.refl _,rfl⟩
 simp only[aK.wp,go_sem]at tail;simp only[go_sem,bP (Om:¬((nl B:Nat):Int)=1),auD,lB];refine aA bt rfl ?_;simp only[go_sem,ο,en];refine fD ua rfl a_ λr H1 hr _=>?_;have ζ:(2:Nat)*1<=16777216:=by decide
 rcases hr with⟨h0,_⟩|⟨o,rs,rfl,rfl,hrl,hrt⟩
 exfalso;have:=congrArg List.length h0;rw[cP,bD]at this;simp at this;omega;rw[PH.oV];rw[cP,bD]at hrl hrt;simp only[go_sem,ζ,cP,bD];refine WL (src:=[[.int .u32 0],[.int .u32 0]]) (rs:=rs) rfl ?_ Sq hrl ?_ λo' i'=>?_;unfold roomFor;simp only[maxLen,avG,avS];omega;rw[hrt];simp only[go_sem];refine aA ub rfl ?_;simp only[go_sem];exact tail o _ _ rfl rfl rfl rfl rfl Sq;rw[hrt];simp only[go_sem];refine aA ub rfl ?_;simp only[go_sem];exact tail o' _ _ rfl rfl rfl rfl rfl Sq
def bJ(C:Ctx)(k:Nat)(pf:lF):Prop:=∀(args:V_)(H:PH)(R:R_),l'' args<=pf.ntmps->pf.body.wp C (aX pf.res R) (g_ args) H->aG C k args H R
theorem bJ.go{k:Nat}{pf:lF}(r:bJ C k pf){args:V_}{H:PH}{R:R_}(h:pf.body.wp C (aX pf.res R) (g_ args) H)(i:Nat.ble args.length pf.ntmps=true):aG C k args H R:=r args H R (Nat.le_of_ble_eq_true i) h
abbrev FD(C:Ctx):Prop:=∀n:Nat,n<100->aG C 195 [.int .i64 n] .nil (aJ (.str (cL n)))
section
variable {C:Ctx} {F F':PF} {H:PH}
theorem fW(i:F.le F'){x:aP}{v:PV}(h:x.ev F=some v):x.ev F'=some v:=by
 cases x
 ·exact i _ _ h
 all_goals exact h
theorem KU(i:F.le F'):∀{xs:List aP}{vs:V_},aP.evs F xs=some vs->aP.evs F' xs=some vs
 |[],_,h=>h
 |x::xs,vs,h=>by
  rw[wA]at h ⊢;cases u:x.ev F with
  |none=>simp[u]at h
  |some v=>
   cases l:aP.evs F xs with
   |none=>simp[l]at h
   |some w =>rw[u,l]at h;rw[fW i u,KU i l];exact h
theorem Fp(i:F.le F'):∀{ps:List (Nat × Nat × aP)}{cs ds:V_},pP cs F ps=some ds->pP cs F' ps=some ds
 |[],_,_,h=>h
 |(off,size,x)::ps,cs,ds,h=>by
  simp only[pP]at h ⊢;cases l:x.ev F with
  |none=>simp[l]at h
  |some v =>rw[l]at h;rw[fW i l];simp only at h ⊢;split at h;rename_i u;rw[aD u];exact Fp i h;cases h
theorem IU(l:F.le F'){size:Nat}:∀{ps:List (Nat × aP)}{cs ds:P2_},gQ size cs F ps=some ds->gQ size cs F' ps=some ds
 |[],_,_,h=>h
 |(i,x)::ps,cs,ds,h=>by
  simp only[gQ]at h ⊢;cases u:x.ev F with
  |none=>simp[u]at h
  |some v =>rw[u]at h;rw[fW l u];simp only at h ⊢;split at h;rename_i w;rw[aD w];exact IU l h;cases h
theorem SL(i:F.le F'){d n:Int}{x:Option aP}(h:bnd F d x=some n):bnd F' d x=some n:=by
 cases x with
 |none=>exact h
 |some x=>
  simp only[bnd]at h ⊢;cases l:x.ev F with
  |none=>simp[l]at h
  |some v=>rw[fW i l,<-l];exact h
theorem Ip{op:POp}{v:PV}(i:F.le F')(h:aZ op F H=some v):aZ op F' H=some v:=by
 cases op
 case mv x=>exact fW i h
 case pick c a b=>
  simp only[aZ]at h ⊢;cases K:c.ev F with
  |none=>simp[K]at h
  |some t=>
   rw[K]at h;rw[fW i K];cases t<;>simp only at h ⊢<;>try cases h
   rename_i t;cases t
   ·simp only[awQ,if_false]at h ⊢;exact fW i h
   ·simp only[if_true]at h ⊢;exact fW i h
 case box r x=>
  cases r
  ·cases h
  simp only[aZ]at h ⊢;rcases A:x.ev F with _|a
  ·simp[A]at h
  ·rw[fW i A,<-A];exact h
 case load n p=>
  cases n
  all_goals
   simp only[aZ]at h ⊢;rcases A:p.ev F with _|a
   ·simp[A]at h
   ·rw[fW i A,<-A];exact h
 case build z ps =>simp only[aZ,auR]at h ⊢;obtain⟨cs,E,J⟩:=h;exact⟨cs,Fp i E,J⟩
 case asV r s l z ps=>
  cases r
  ·cases h
  simp only[aZ]at h ⊢;split at h
  ·rename_i K;rw[aD K];rw[auR]at h ⊢;obtain⟨cs,E,J⟩:=h;exact⟨cs,IU i E,J⟩
  ·cases h
 case mkfn n cs =>simp only[aZ,auR]at h ⊢;obtain⟨vs,E,J⟩:=h;exact⟨vs,KU i E,J⟩
 case sliceA n s x lo hi mx=>
  cases lo<;>cases hi<;>cases mx<;>simp only[aZ]at h ⊢<;>try cases h
  cases A:x.ev F with
  |none=>simp[A]at h
  |some a=>rw[fW i A,<-A];exact h
 case atM x lo hi=>
  simp only[aZ]at h ⊢;cases A:x.ev F with
  |none=>simp[A]at h
  |some a=>
   rw[A]at h;rw[fW i A];cases a<;>simp only at h ⊢<;>try cases h
   cases E:bnd F 0 lo with
   |none=>simp[E]at h
   |some l=>
    rename_i s;cases J:bnd F s.length hi with
    |none=>simp[E,J]at h
    |some u=>rw[SL i E,SL i J,<-E,<-J];exact h
 case slice s x lo hi mx=>
  simp only[aZ]at h ⊢;cases A:x.ev F with
  |none=>simp[A]at h
  |some a=>
   rw[A]at h;rw[fW i A];have N:∀(d:Int)(w:PV),(match bnd F 0 lo,bnd F d hi with
     |some a1,some a2=>match(generalizing:=false) mx with
      |none=>PV.slice s w a1 a2 none
      |some m=>(bnd F 0 (some m)).bind λm=>PV.slice s w a1 a2 (some m)
     |_,_=>none)=some v->(match bnd F' 0 lo,bnd F' d hi with
     |some a1,some a2=>match(generalizing:=false) mx with
      |none=>PV.slice s w a1 a2 none
      |some m=>(bnd F' 0 (some m)).bind λm=>PV.slice s w a1 a2 (some m)
     |_,_=>none)=some v:=by
    intro d w h;cases E:bnd F 0 lo with
    |none=>simp[E]at h
    |some l=>
     cases J:bnd F d hi with
     |none=>simp[E,J]at h
     |some u=>
      rw[E,J]at h;rw[SL i E,SL i J];cases mx with
      |none=>exact h
      |some m=>
       simp only at h ⊢;cases M:bnd F 0 (some m)with
       |none=>simp[M]at h
       |some q=>rw[SL i M,<-M];exact h
   cases a<;>simp only at h ⊢<;>first|exact N _ _ h|cases h
 all_goals try exact h
 all_goals simp only[aZ]at h ⊢
 all_goals first
  |(rename_i x y;rcases A:x.ev F with _|a;simp[A]at h;rcases hy:y.ev F with _|b;simp[A,hy]at h;rw[fW i A,fW i hy,<-A,<-hy];exact h)
  |(rename_i x y _;rcases A:x.ev F with _|a;simp[A]at h;rcases hy:y.ev F with _|b;simp[A,hy]at h;rw[fW i A,fW i hy,<-A,<-hy];exact h)
  |(rename_i x;rcases A:x.ev F with _|a;simp[A]at h;rw[fW i A,<-A];exact h)
  |(rename_i x _;rcases A:x.ev F with _|a;simp[A]at h;rw[fW i A,<-A];exact h)
theorem Es{op:POp}{r:(Nat->PV) × aW}(i:F.le F')(h:cS op F=some r):cS op F'=some r:=by
 cases op
 case box b x=>
  cases b
  ·simp only[cS]at h ⊢;cases u:x.ev F with
   |none=>simp[u]at h
   |some a=>rw[fW i u,<-u];exact h
  ·cases h
 case asV b s l z ps=>
  cases b
  ·simp only[cS]at h ⊢;split at h
   ·rename_i E;rw[aD E];rw[auR]at h ⊢;obtain⟨cs,y,A⟩:=h;exact⟨cs,IU i y,A⟩
   ·cases h
  ·cases h
 case asX s b z l c=>
  simp only[cS]at h ⊢;cases u:l.ev F with
  |none=>simp[u]at h
  |some a=>
   cases w:c.ev F with
   |none=>simp[u,w]at h
   |some b=>rw[fW i u,fW i w,<-u,<-w];exact h
 all_goals exact h
theorem Kb{op:POp}{K:R_}(i:F.le F')(h:cD op F H K):cD op F' H K:=by
 cases op
 case store n x y=>
  simp only[cD]at h ⊢;cases l:x.ev F with
  |none=>simp[l]at h
  |some a=>
   cases u:y.ev F with
   |none=>simp[l,u]at h
   |some b=>rw[fW i l,fW i u];rw[l,u]at h;exact h
 case append s b x y=>
  simp only[cD]at h ⊢;cases l:x.ev F with
  |none=>simp[l]at h
  |some a=>
   cases u:y.ev F with
   |none=>simp[l,u]at h
   |some b=>rw[fW i l,fW i u];rw[l,u]at h;exact h
 case atH sh x y z=>
  simp only[cD]at h ⊢;cases l:x.ev F with
  |none=>simp[l]at h
  |some a=>
   cases u:y.ev F with
   |none=>simp[l,u]at h
   |some b=>
    cases w:z.ev F with
    |none=>simp[l,u,w]at h
    |some c=>rw[fW i l,fW i u,fW i w];rw[l,u,w]at h;exact h
 case insert sh x y z=>
  simp only[cD]at h ⊢;cases l:x.ev F with
  |none=>simp[l]at h
  |some a=>
   cases u:y.ev F with
   |none=>simp[l,u]at h
   |some b=>
    cases w:z.ev F with
    |none=>simp[l,u,w]at h
    |some c=>rw[fW i l,fW i u,fW i w];rw[l,u,w]at h;exact h
 all_goals exact h
theorem PF.akV(l:F.le F')(i:Nat)(v:PV):(F.set i v).le (F'.set i v):=by
 intro j u h;rw[mF]at h ⊢;split at h;rename_i e;rw[aD e];exact h;rename_i e;rw[aB e];exact l j u h
theorem PF.yR(i:F.le F')(d:O_)(v:PV):(F.put d v).le (F'.put d v):=by
 cases d with
 |none=>exact i
 |some d=>exact PF.akV i d v
theorem PF.ajM(i:F.le F')(o s:Nat)(rs:P2_):(F.frz o s rs).le (F'.frz o s rs):=by
 intro j u h;rw[rT,auR]at h ⊢;obtain⟨x,l,w⟩:=h;exact⟨x,i j x l,w⟩
theorem PF.le_trans{A B D:PF}(h:A.le B)(k:B.le D):A.le D:=λi v hi=>k i v (h i v hi)
theorem jI.up{u:PF}{w:PH}(h:jI F H u w):∀{F':PF},F.le F'->∃i,jI F' H i w/\u.le i:=by
 induction h with
 |refl F H=>exact λ{F'} l=>⟨F',.refl _ _,l⟩
 |step o E _ J =>intro F' l;obtain⟨i,y,A⟩:=J (PF.ajM l o _ _);exact⟨i,.step o E y,A⟩
theorem j7{name:Nat}{args:Option V_}{d:O_}{K1 K2:K_}(J:∀F F' H,F.le F'->K1 F H->K2 F' H)(l:F.le F'){i:Option V_}(K:∀vs,args=some vs->i=some vs)(h:tQ C name args d K1 F H):tQ C name i d K2 F' H:=by
 obtain⟨vs,u,R,w,y,A,E⟩:=h;exact⟨vs,u,R,K _ w,y,A,λr H' a b=>J _ _ _ (PF.yR l d r) (E r H' a b)⟩
theorem Gx{cs:V_}{args:List aP}(i:F.le F')(vs:V_)(h:(aP.evs F args).map (·++cs)=some vs):(aP.evs F' args).map (·++cs)=some vs:=by
 rw[auR]at h ⊢;obtain⟨x,l,u⟩:=h;exact⟨x,KU i l,u⟩
theorem Lz{name:Nat}{args:List aP}{cs:V_}{d:O_}{K1 K2:K_}(u:∀F F' H,F.le F'->K1 F H->K2 F' H)(i:F.le F')(h:iW C name args cs d K1 F H):iW C name args cs d K2 F' H:=by
 rcases h with h|⟨F1,H1,h1,h2⟩
 exact .inl (j7 u i (Gx i) h);obtain⟨l,k1,k2⟩:=h1.up i;exact .inr ⟨l,H1,k1,j7 u k2 (Gx k2) h2⟩
theorem UG{op:POp}{d:O_}{K1 K2:K_}(w:∀F F' H,F.le F'->K1 F H->K2 F' H)(i:F.le F')(h:oG (cS op F) d K1 F H):oG (cS op F') d K2 F' H:=by
 obtain⟨A,x,l,u⟩:=h;exact⟨A,x,Es i l,λo y=>w _ _ _ (PF.yR i d _) (u o y)⟩
theorem vu{op:POp}{d:O_}{K1 K2:K_}(w:∀F F' H,F.le F'->K1 F H->K2 F' H)(i:F.le F')(h:vJ (aZ op F H) d K1 F H):vJ (aZ op F' H) d K2 F' H:=by
 obtain⟨v,l,u⟩:=h;exact⟨v,Ip i l,w _ _ _ (PF.yR i d v) u⟩
theorem D3{op:POp}{d:O_}{K1 K2:K_}(l:∀F F' H,F.le F'->K1 F H->K2 F' H)(i:F.le F')(h:cD op F H λr H'=>K1 (F.put d r) H'):cD op F' H λr H'=>K2 (F'.put d r) H':=
 Kb i (GR (λv H' u=>l _ _ _ (PF.yR i d v) u) h)
theorem adI{op:POp}{d:O_}{K1 K2:K_}(w:∀F F' H,F.le F'->K1 F H->K2 F' H)(i:F.le F')(h:wpOp C op d K1 F H):wpOp C op d K2 F' H:=by
 cases op
 case call n a=>exact Lz w i h
 case atT x a=>
  have A:uP C (x.ev F) a d K1 F H:=h;show uP C (x.ev F') a d K2 F' H;cases O:x.ev F with
  |none=>rw[O]at A;exact A.elim
  |some u=>
   rw[fW i O];rw[O]at A;cases u<;>first|exact Lz w i A|exact A.elim|skip
   obtain⟨l,S,E⟩:=A;refine⟨l,S,?_⟩;rcases E with⟨vs,K,R,E,M,N,h5⟩|⟨F1,H1,k1,vs,K,R,E,M,N,h5⟩
   ·exact .inl ⟨vs,K,R,KU i E,M,N,λr H' p q=>w _ _ _ (PF.yR i d r) (h5 r H' p q)⟩
   ·obtain⟨J,k2,Q⟩:=k1.up i;exact .inr ⟨J,H1,k2,vs,K,R,KU Q E,M,N,λr H' p q=>w _ _ _ (PF.yR Q d r) (h5 r H' p q)⟩
 case box r x=>cases r<;>first|exact UG (op:=.box false x) w i h|exact vu (op:=.box true x) w i h
 case asV r s l z ps=>cases r<;>first|exact UG (op:=.asV false s l z ps) w i h|exact vu (op:=.asV true s l z ps) w i h
 case alloc cs=>exact UG (op:=.alloc cs) w i h
 case asX s b z l c=>exact UG (op:=.asX s b z l c) w i h
 case atX sh=>exact UG (op:=.atX sh) w i h
 case store n x y=>exact D3 (op:=.store n x y) w i h
 case append s b x y=>exact D3 (op:=.append s b x y) w i h
 case atH sh x y z=>exact D3 (op:=.atH sh x y z) w i h
 case insert sh x y z=>exact D3 (op:=.insert sh x y z) w i h
 all_goals exact vu w i h
theorem UN{K1 K2:K_}(l:∀F F' H,F.le F'->K1 F H->K2 F' H):∀{ops:List bY}{F F':PF}{H:PH},F.le F'->wpOps C ops K1 F H->wpOps C ops K2 F' H
 |[],_,_,_,i,h=>l _ _ _ i h
 |⟨d,op,none⟩::rest,_,_,_,i,h=>adI (λ_ _ _ a b=>UN l a b) i h
 |⟨d,op,some (t,u)⟩::rest,F,F',H,i,h=>by rw[Ll]at h ⊢;unfold BL at h;split at h;rename_i b hb;rw[i t _ hb];unfold BL;simp only;split at h;rename_i e;rw[aD e];exact adI (λ_ _ _ a b=>UN l a b) i h;rename_i e;rw[aB e];exact UN l (PF.yR i d _) h;rename_i hb;rw[i t _ hb];exact UN l (PF.yR i d _) h;exact h.elim
theorem Ia{Hs:PH}{S:Spec}{st:Bool}{op:POp}{K:R_}(i:F.le F')(h:(op.kind F).run C Hs S st K H):(op.kind F').run C Hs S st K H:=by
 have new:∀op:POp,(Kind.new (cS op F)).run C Hs S st K H->(Kind.new (cS op F')).run C Hs S st K H:=λop h=>by obtain⟨U,x,w,A⟩:=h;exact⟨U,x,Es i w,A⟩
 have calm:∀op:POp,(Kind.calm (aZ op F)).run C Hs S st K H->(Kind.calm (aZ op F')).run C Hs S st K H:=λop h=>by obtain⟨v,w,A⟩:=h;exact⟨v,Ip i w,A⟩
 have Q:∀op:POp,(Kind.write λH K=>cD op F H K).run C Hs S st K H->(Kind.write λH K=>cD op F' H K).run C Hs S st K H:=λop h=>Kb (op:=op) i (show cD op F H (λr H'=>Hs.le H'/\K r H')from h);cases op
 case call n a =>obtain⟨vs,D,R,w,A⟩:=h;exact⟨vs,D,R,KU i w,A⟩
 case atT x a=>
  unfold POp.kind at h ⊢;simp only at h ⊢;cases E:x.ev F with
  |none=>rw[E]at h;exact h.elim
  |some u=>
   rw[E]at h;rw[fW i E];cases u<;>simp only at h ⊢<;>first|exact h|skip
   obtain⟨vs,D,R,w,A⟩:=h;exact⟨vs,D,R,Gx i _ w,A⟩
 case insert sh x k v=>
  obtain⟨o,O,N,u,g,w,A⟩:=h;refine⟨o,O,N,u,g,?_,A⟩;cases E:x.ev F with
  |none=>simp[E]at w
  |some a=>
   cases J:k.ev F with
   |none=>simp[E,J]at w
   |some b=>
    cases M:v.ev F with
    |none=>simp[E,J,M]at w
    |some c=>rw[fW i E,fW i J,fW i M];rw[E,J,M]at w;exact w
 case box r x=>cases r<;>first|exact new (.box false x) h|exact calm (.box true x) h
 case asV r s l z ps=>cases r<;>first|exact new (.asV false s l z ps) h|exact calm (.asV true s l z ps) h
 case alloc cs=>exact new (.alloc cs) h
 case asX s b z l c=>exact new (.asX s b z l c) h
 case atX sh=>exact new (.atX sh) h
 case store n x y=>exact Q (.store n x y) h
 case append s b x y=>exact Q (.append s b x y) h
 case atH sh x y z=>exact Q (.atH sh x y z) h
 all_goals exact calm _ h
theorem Zk{Hs:PH}{S:Spec}{st:Bool}{i:bY}{K:R_}(l:F.le F')(h:(i.kind F).run C Hs S st K H):(i.kind F').run C Hs S st K H:=by
 unfold bY.kind at h ⊢;split;rename_i u;rw[u]at h;exact Ia l h;rename_i t w u;rw[u]at h;simp only at h;split at h;rename_i b hb;rw[l t _ hb];simp only;split at h;rename_i e;rw[aD e];exact Ia l h;rename_i e;rw[aB e];exact h;rename_i hb;rw[l t _ hb];exact h;exact h.elim
theorem W4{Hs:PH}{S:Spec}{K1 K2:K_}(w:∀F F' H,F.le F'->K1 F H->K2 F' H):∀{ops:List (bY × Bool)}{F F':PF}{H:PH},Hs.le H->F.le F'->wpD C Hs S ops K1 F H->wpD C Hs S ops K2 F' H
 |[],_,_,_,_,l,h=>w _ _ _ l h
 |i::rest,F,F',H,E,l,h=>by have y:(i.1.kind F).run C Hs S i.2 (λv H'=>wpD C Hs S rest K1 (F.put i.1.dst v) H') H:=h;exact Zk l (Kind.wK (wG _ _) (λv H' u A=>W4 w u (PF.yR l _ v) A) E y)
class Up(K:cH):Prop where
 up:∀{e:lE}{F F':PF}{H:PH},F.le F'->K e F H->K e F' H
theorem sT:∀(c:aK){K1 K2:cH}(_:∀e F F' H,F.le F'->K1 e F H->K2 e F' H){F F':PF}{H:PH},F.le F'->c.wp C K1 F H->c.wp C K2 F' H
 | .skip,_,_,l,_,_,_,i,h=>l _ _ _ _ i h
 | .region ops,_,_,l,_,_,_,i,h=>UN (l .normal) i h
 | .draw ops,_,_,l,_,_,_,i,⟨Hs,S,y,M⟩=>⟨Hs,S,y,W4 (l .normal) y i M⟩
 | .seq a b,K1,K2,l,_,_,_,i,h=>sT a (K1:=jB C (b.wp C) K1) (K2:=jB C (b.wp C) K2) (λe F F' H w u=>by
   cases e with
   |normal=>exact sT b l w u
   |exit id=>exact l (.exit id) _ _ _ w u
   |ret=>exact l .ret _ _ _ w u) i h
 | .cond c a b,K1,K2,l,F,F',H,i,h=>by rw[acK]at h ⊢;unfold XE at h;split at h;rename_i t W;rw[fW i W];unfold XE;simp only;split at h;rename_i e;rw[aD e];exact sT a l i h;rename_i e;rw[aB e];exact sT b l i h;exact h.elim
 | .block id c,K1,K2,l,_,_,_,i,h=>sT c (K1:=fX id K1) (K2:=fX id K2) (λe F F' H w u=>by
   cases e with
   |normal=>exact l .normal _ _ _ w u
   |exit j =>rw[IR]at u ⊢;split at u;rename_i e;rw[aD e];exact l .normal _ _ _ w u;rename_i e;rw[aB e];exact l (.exit j) _ _ _ w u
   |ret=>exact l .ret _ _ _ w u) i h
 | .loop c,K1,K2,l,F,F',H,i,⟨α,J,Hs,K,m,O,F1,N,y,M,Q,U,h5⟩=>by
  obtain⟨A,k1,k2⟩:=y.up i;refine⟨α,J,Hs,K,m,O,A,N,k1,M,PF.le_trans Q k2,U,λa V=>?_⟩;refine sT c (K1:=iF J Hs K m (m a) K1) (K2:=iF J Hs K m (m a) K2) (λe F F' H w u=>?_) PF.le_refl (h5 a V);cases e with
  |normal =>obtain⟨b,F2,H2,z1,z2,z3,z4,z5⟩:=u;obtain⟨E,Y,Z⟩:=z1.up w;exact⟨b,E,H2,Y,z2,z3,PF.le_trans z4 Z,z5⟩
  |exit id=>exact l (.exit id) _ _ _ w u
  |ret=>exact l .ret _ _ _ w u
 | .exit id,_,_,l,_,_,_,i,h=>l (.exit id) _ _ _ i h
 | .ret,_,_,l,_,_,_,i,h=>l .ret _ _ _ i h
instance Up.seq{K:cH}[Up K](b:aK):Up (jB C (b.wp C) K) where
 up {e} {F} {F'} {H} hl hh:=by
  cases e with
  |normal=>exact sT b (λe F F' H a h=>Up.up a h) hl hh
  |exit id=>exact Up.up (K:=K) (e:=.exit id) hl hh
  |ret=>exact Up.up (K:=K) (e:=.ret) hl hh
instance Up.block{K:cH}[Up K](id:Nat):Up (fX id K) where
 up {e} {F} {F'} {H} hl hh:=by
  cases e with
  |normal=>exact Up.up (K:=K) (e:=.normal) hl hh
  |exit j =>rw[IR]at hh ⊢;split at hh;rename_i e;rw[aD e];exact Up.up (K:=K) (e:=.normal) hl hh;rename_i e;rw[aB e];exact Up.up (K:=K) (e:=.exit j) hl hh
  |ret=>exact Up.up (K:=K) (e:=.ret) hl hh
instance Up.loop{K:cH}[Up K]{α:Type}(l:α->PF)(Hs:α->PH)(u:α->Prop)(m:α->Nat)(n:Nat):Up (iF l Hs u m n K) where
 up {e} {F} {F'} {H} hl hh:=by
  cases e with
  |normal =>obtain⟨b,O,H2,A,E,J,M,N⟩:=hh;obtain⟨i,w,y⟩:=A.up hl;exact⟨b,i,H2,w,E,J,PF.le_trans M y,N⟩
  |exit id=>exact Up.up (K:=K) (e:=.exit id) hl hh
  |ret=>exact Up.up (K:=K) (e:=.ret) hl hh
theorem akN{H:PH}(i:F.le F'){x:dZ}{v:PV}(h:x.ev F H=some v):x.ev F' H=some v:=by
 cases x with
 |tmp t=>exact i t v h
 |cell t n=>
  cases n<;>simp only[dZ.ev]at h ⊢<;>(cases l:F t with
   |none=>simp[l]at h
   |some a=>rw[i t a l,<-l];exact h)
theorem xn{H:PH}(i:F.le F'):∀{xs:List dZ}{vs:V_},dZ.evs F H xs=some vs->dZ.evs F' H xs=some vs
 |[],_,h=>h
 |x::xs,vs,h=>by
  rw[kM]at h ⊢;cases u:x.ev F H with
  |none=>simp[u]at h
  |some v=>
   cases l:dZ.evs F H xs with
   |none=>simp[l]at h
   |some w =>rw[u,l]at h;rw[akN i u,xn i l];exact h
instance Up.ret(res:List dZ)(R:R_):Up (aX res R) where
 up {e} {F} {F'} {H} hl hh:=by
  cases e with
  |exit id=>exact hh
  |normal=>obtain⟨vs,i,l⟩:=hh;exact⟨vs,xn hl i,l⟩
  |ret=>obtain⟨vs,i,l⟩:=hh;exact⟨vs,xn hl i,l⟩
end
end Go.PM
