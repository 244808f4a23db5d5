/-Lemmas for the law. No condition.-/
import Derived.Test.YtfeiflgckfjohaaGreatDoorIM6

set_option linter.unusedSimpArgs false
set_option linter.unusedVariables false
open Nat renaming reduceEqDiff->γ,reduceAdd->δ,reduceSub->ε,reduceMul->ζ,reduceLT->η,reduceLeDiff->θ
open Int renaming reduceLT->ι,reduceLE->κ,reduceEq->μ,reduceToNat->ν
open List renaming length_map->asO,range->asP,getElem_mem->asS,replicate->asT,getD_eq_getElem?_getD->asW,length_append->asX,getElem?_eq_getElem->asZ,getElem?_map->atC,length_singleton->atD,length_take->atF,all_eq_true->atI,map_append->atK,take_length->atL,take_of_length_le->atP,mem_range->atQ,map_cons->atU,append_assoc->atV,take_succ_eq_append_getElem->atW,getElem?_eq_some_iff->atX,length_cons->atZ,append_nil->auA,length_set->auD,getElem_of_mem->auG,map_nil->auH,getElem_map->auN,getElem?_append_right->auS,getElem?_range->auT,length_nil->avD,Sublist->avE,drop_eq_getElem_cons->avF,range_succ->avH,getElem?_append_left->avM,getElem?_set->avY,all_append->awG,nil_append->awO,all_cons->awS,mem_or_eq_of_mem_set->axB
open Nat renaming zero_le->asQ,gcd->asR,le_refl->asU,zero_add->atA,le_trans->atT,add_zero->auI,pos_of_ne_zero->awA
open Bool renaming and_eq_true->asV,not_true->asY,false_and->atE,not_false->atH,true_and->atJ,and_false->auF,and_true->avK,and_assoc->awF
open Option renaming map_some->atO,getD_some->auV
open Int renaming toNat_natCast->auL
open List renaming length->Z'
set_option maxRecDepth 100000
set_option maxHeartbeats 800000
open Go.IntKind renaming i64->i_,u64->u_
open Go.PM.PF renaming nil->n_,args->g_
noncomputable section
namespace Go.PM
open Go Go.Na
structure YB(C:Ctx):Prop extends Iw C where
 allowed:∀(f:aB)(p:bX)(d:Nat),VF f->Fits p.arC->d<Z' f.arB->aH C 77 [.agg p.cells,.agg f.cells,.int .i64 d] .nil (aK (.bool (p.arC.contains ((mdl f d:Nat):Int))))
 count:∀(f:aB)(row:I_)(n:Nat),VF f->vW f row->n<Z' f.arE->aH C 80 [.agg f.cells,ints row,.int .i64 n] .nil (aK (.int .i64 (row.countP (kL f n):Nat)))
variable{C:Ctx}
theorem aeD(f:aB)(v:Nat)(row:I_)(L:vW f row)(K:bP)[Up K](F:PF)(H:PH)
  (D:((((((n_.set 1 (.j v)).set 2 (ints row)).set 3 (.aU f.cells)).set 8 (.aG)).set 9 (.j 0)):PF).le F)
  (E:∀w H',bC H' 3 w (dT (cF 2 v row.length (home row)))->K (.exit 0) (((((n_.set 1 (.j v)).set 2 (ints row)).set 3 (.aU f.cells)).set 8 (w))) H'):aJ.wp C (.loop i9) K F H:=by
 obtain⟨M,y⟩:=L;refine wp_loop (α:=T3_) (λt=>(((((n_.set 1 (.j v)).set 2 (ints row)).set 3 (.aU f.cells)).set 8 (t.2.1)).set 9 (.j t.1))) (λt=>t.2.2) (λt=>t.1<=Z' row/\bC t.2.2 3 t.2.1 (dT (cF 2 v t.1 (home row)))) (λt=>Z' row-t.1) (0,.aG,H) ⟨asQ _,.nil⟩ D b_ ?_;rintro⟨k,w,A⟩ ⟨J,i⟩;simp only at J i ⊢;simp only[go_sem,i9,asO];by_cases hlt:k<Z' row;have e:(k:Int)<(Z' row:Nat):=Om;have l:(row.map λn=>[PV.int .i64 n])[k]?=some [.j row[k]]:=by simp[hlt]
 have N:=y row[k] (asS hlt);have B:home row k=decide (row[k]<0):=by simp[home,asW,hlt]
 have e2:=jP 2 v k (home row);have O:=fJ 2 v k (home row);generalize row[k]=x at *
 by_cases c:x=-1;rw[aF (by rw[B];simp;omega)]at e2;have u:(1:Nat)*3<=16777216:=by decide
 simp only[go_sem,e,l,bR c,u];refine fB (src:=[(⟨2,v,k⟩:jG).cells]) i rfl (by unfold roomFor;rw[iU];simp only[atD,maxLen];omega) λv' H' g1 _=>?_;rw[lW,<-e2]at g1;simp only[go_sem,wZz k];exact aE (k+1,v',H') ⟨hlt,g1⟩ sO_ Lq b_;rw[aC (by rw[B];simp;omega)]at e2;rw[<-e2]at i;simp only[go_sem,e,l,bH c,wZz k];exact aE (k+1,w,A) ⟨hlt,i⟩ sO_ Lq b_;have e:¬(k:Int)<(Z' row:Nat):=Om;have:k=Z' row:=Om;subst this;simp only[go_sem,e];exact Up.up Lq (E w A i)
theorem ahU(f:aB)(v:Nat)(row:I_)(J:Z' row<=16777216)(w:PV)(d:Nat)(K:bP)[Up K](F:PF)(H:PH)
  (B:((((((((n_.set 1 (.j v)).set 2 (ints row)).set 3 (.aU f.cells)).set 8 (w)).set 10 (.j d)).set 11 (.j 0)).set 12 (.j 0)):PF).le F)
  (D:K (.exit 4) (((((((n_.set 1 (.j v)).set 2 (ints row)).set 3 (.aU f.cells)).set 8 (w)).set 10 (.j d)).set 11 (.j (row.count (d:Int):Nat)))) H):aJ.wp C (.loop ja) K F H:=by
 refine wp_loop (α:=Nat) (λk=>(((((((n_.set 1 (.j v)).set 2 (ints row)).set 3 (.aU f.cells)).set 8 (w)).set 10 (.j d)).set 11 (.j ((row.take k).count (d:Int):Nat))).set 12 (.j k))) (λ_=>H) (λk=>k<=Z' row) (λk=>Z' row-k) 0 (asQ _) B b_ ?_;intro k L;simp only[go_sem,ja,asO];by_cases hlt:k<Z' row;have i:(k:Int)<(Z' row:Nat):=Om;have l:(row.map λn=>[PV.int .i64 n])[k]?=some [.j row[k]]:=by simp[hlt]
 have u:=ZR (p:=(·==(d:Int))) hlt;have E:(row.take k).count (d:Int)<=16777216:=atT (List.count_le_length ..) (by rw[atF];omega);simp only[<-List.count_eq_countP]at u;have fin:∀(c:Nat)(A:PF),(row.take (k+1)).count (d:Int)=c->((((((((n_.set 1 (.j v)).set 2 (ints row)).set 3 (.aU f.cells)).set 8 (w)).set 10 (.j d)).set 11 (.j c)).set 12 (.j (k+1:Nat))):PF).le A ->
   fK (λk:Nat=>(((((((n_.set 1 (.j v)).set 2 (ints row)).set 3 (.aU f.cells)).set 8 (w)).set 10 (.j d)).set 11 (.j ((row.take k).count (d:Int):Nat))).set 12 (.j k))) (λ_=>H) (λk=>k<=Z' row) (λk=>Z' row-k) (Z' row-k) K .normal A H:=
  λc A e h=>aE (k+1) hlt Om (by rw[e];exact h) b_
 generalize(row.take k).count (d:Int)=c at *
 generalize row[k]=x at *
 by_cases y:x=d;rw[aF (by simp[y])]at u;simp only[go_sem,i,l,bR y,wZz c,wZz k];exact fin (c+1) _ u Lq;rw[aC (by simp[y]),auI]at u;simp only[go_sem,i,l,bH y,wZz k];exact fin c _ u Lq;have i:¬(k:Int)<(Z' row:Nat):=Om;have:k=Z' row:=Om;subst this;simp only[go_sem,i,atL];exact Up.up Lq D
theorem Y5(f:aB)(row:I_){k:Nat}(h:k<Z' f.arB):lS f row k=decide ((row.count (k:Int):Nat)>1):=by
 have:(fN f.arB.length row)[k]?=some ((row.count (k:Int):Nat):Int):=by rw[asZ (by rw[iV];exact h),YH _ h]
 rw[lS,asW,this,auV];exact decide_eq_decide.2 Om
theorem Yd(f:aB)(hV:VF f)(v:Nat)(row:I_)(B:Z' row<=16777216)(y:List jG)(O:Z' y<=16777216)(D:PV)(K:bP)[Up K](F:PF)(H:PH)
  (J:((((((n_.set 1 (.j v)).set 2 (ints row)).set 3 (.aU f.cells)).set 8 (D)).set 10 (.j 0)):PF).le F) (L:bC H 3 D (dT y))
  (M:∀w H',bC H' 3 w (dT (y++cF 3 v f.arB.length (lS f row)))->K (.exit 2) (((((n_.set 1 (.j v)).set 2 (ints row)).set 3 (.aU f.cells)).set 8 (w))) H'):aJ.wp C (.loop jb) K F H:=by
 have R:=hV.small.arB;refine wp_loop (α:=T3_) (λt=>(((((n_.set 1 (.j v)).set 2 (ints row)).set 3 (.aU f.cells)).set 8 (t.2.1)).set 10 (.j t.1))) (λt=>t.2.2) (λt=>t.1<=Z' f.arB/\bC t.2.2 3 t.2.1 (dT (y++cF 3 v t.1 (lS f row)))) (λt=>Z' f.arB-t.1) (0,D,H)
  ⟨asQ _,by rw[show cF 3 v 0 (lS f row)=[]from rfl,auA];exact L⟩ J b_ ?_
 rintro⟨k,w,E⟩ ⟨N,u⟩;simp only at N u ⊢;simp only[go_sem,jb,asO];by_cases hlt:k<Z' f.arB;have e:(k:Int)<(Z' f.arB:Nat):=Om;have l:=jP 3 v k (lS f row);have S:=fJ 3 v k (lS f row);rw[Y5 f row hlt]at l;simp only[go_sem,e];have i:=ahU (C:=C) f v row B w k;simp only[aJ.wp,go_sem]at i;refine i _ _ _ Lq ?_;by_cases c:row.count (k:Int)>1;have A:((row.count (k:Int):Nat):Int)>1:=Om;rw[aF (by simp;omega)]at l;have x:(1:Nat)*3<=16777216:=by decide
 simp only[go_sem,A,x];refine fB (src:=[(⟨3,v,k⟩:jG).cells]) u rfl (by unfold roomFor;rw[iU,asX];simp only[atD,maxLen];omega) λv' H' g1 _=>?_;rw[lW,atV,<-l]at g1;simp only[go_sem,wZz k];exact aE (k+1,v',H') ⟨hlt,g1⟩ sO_ Lq b_;have A:¬((row.count (k:Int):Nat):Int)>1:=Om;rw[aC (by simp;omega)]at l;rw[<-l]at u;simp only[go_sem,A,wZz k];exact aE (k+1,w,E) ⟨hlt,u⟩ sO_ Lq b_;have e:¬(k:Int)<(Z' f.arB:Nat):=Om;have:k=Z' f.arB:=Om;subst this;simp only[go_sem,e];exact Up.up Lq (M w E u)
def raS(f:aB)(p:bX):Spec:=λname vs=>match name,vs with
 |77,[_,_,.int _ d]=>some ([],λ_=>aK (.bool (p.arC.contains ((mdl f d.toNat:Nat):Int))))
 |_,_=>none
theorem ahP(f:aB)(p:bX)(d:Nat):raS f p 77 [.agg p.cells,.agg f.cells,.j d]=some ([],λ_=>aK (.bool (p.arC.contains ((mdl f d:Nat):Int)))):=rfl
theorem Yb(L:YB C)(f:aB)(hV:VF f)(p:bX)(hp:Fits p.arC)(o v:Nat)(row:I_)(hr:vW f row)(E:List jG)(Z:Z' E<=100000000)(O:PV)(K:bP)[Up K](F:PF)(H:PH)
  (R:(((((((n_.set 1 (.j v)).set 2 (ints row)).set 3 (.aU f.cells)).set 8 (O)).set 13 (.ptr o 17 0 0)).set 14 (.j 0)):PF).le F) (S:bC H 3 O (dT E)) (ho:H o=some (.rows 17 [p.cells]))
  (U:∀w H',bC H' 3 w (dT (E++cF 4 v row.length (dV f p row)))->H' o=some (.rows 17 [p.cells])->K (.exit 6) ((((((n_.set 1 (.j v)).set 2 (ints row)).set 3 (.aU f.cells)).set 8 (w)).set 13 (.ptr o 17 0 0))) H'):aJ.wp C (.loop jc) K F H:=by
 obtain⟨β,N⟩:=hr;refine wp_loop (α:=T3_) (λt=>((((((n_.set 1 (.j v)).set 2 (ints row)).set 3 (.aU f.cells)).set 8 (t.2.1)).set 13 (.ptr o 17 0 0)).set 14 (.j t.1))) (λt=>t.2.2) (λt=>t.1<=Z' row/\bC t.2.2 3 t.2.1 (dT (E++cF 4 v t.1 (dV f p row)))/\t.2.2 o=some (.rows 17 [p.cells])) (λt=>Z' row-t.1) (0,O,H)
  ⟨asQ _,by rw[show cF 4 v 0 (dV f p row)=[]from rfl,auA];exact S,ho⟩ R b_ ?_
 rintro⟨k,w,M⟩ ⟨Y,y,i⟩;simp only at Y y i ⊢;have B:=d_ a_ i;simp only[go_sem,jc,asO];by_cases hlt:k<Z' row;have l:(k:Int)<(Z' row:Nat):=Om;have A:(row.map λn=>[PV.int .i64 n])[k]?=some [.j row[k]]:=by simp[hlt]
 have hx:=N row[k] (asS hlt);have X:row.getD k 0=row[k]:=by simp[asW,hlt]
 have V:dV f p row k=(decide (0<=row[k])&&!p.arC.contains ((mdl f (row[k]).toNat:Nat):Int)):=by rw[dV,X]
 have u:=jP 4 v k (dV f p row);have l4:=fJ 4 v k (dV f p row);rw[V]at u;generalize row[k]=x at *
 have skip:∀J,cF 4 v (k+1) (dV f p row)=cF 4 v k (dV f p row)->(((((((n_.set 1 (.j v)).set 2 (ints row)).set 3 (.aU f.cells)).set 8 (w)).set 13 (.ptr o 17 0 0)).set 14 (.j (k+1:Nat))):PF).le J ->
   fK (λt:T3_=>((((((n_.set 1 (.j v)).set 2 (ints row)).set 3 (.aU f.cells)).set 8 (t.2.1)).set 13 (.ptr o 17 0 0)).set 14 (.j t.1))) (λt=>t.2.2) (λt=>t.1<=Z' row/\bC t.2.2 3 t.2.1 (dT (E++cF 4 v t.1 (dV f p row)))/\t.2.2 o=some (.rows 17 [p.cells])) (λt=>Z' row-t.1) (Z' row-k) K .normal J M:=
  λJ e h=>aE (k+1,w,M) ⟨hlt,by simp only;rw[e];exact y,i⟩ sO_ h b_
 simp only[go_sem,l];refine bE (PH.nil.set o (.rows 17 [p.cells])) (raS f p) B ?_;by_cases c:x>=0
 ·obtain⟨d,rfl⟩:∃d:Nat,x=d:=⟨x.toNat,by omega⟩;have W:d<Z' f.arB:=Om;rw[aW (Om:(0:Int)<=d),atJ,auL]at u;simp only[go_sem,A,c,i];refine cJ (ahP f p d) (L.allowed f p d hV hp W) rfl B ?_;cases hb:p.arC.contains ((mdl f d:Nat):Int)with
  |true =>rw[hb,aC aR]at u;simp only[go_sem,asY,wZz k];exact skip _ u Lq
  |false=>
   rw[hb,aF aR]at u;have D:(1:Nat)*3<=16777216:=by decide
   simp only[go_sem,atH,D];refine fB (src:=[(⟨4,v,k⟩:jG).cells]) y rfl (by unfold roomFor;rw[iU,asX];simp only[atD,maxLen];omega) λv' H' g1 g2=>?_;rw[lW,atV,<-u]at g1;have go:=g2 o _ i (y.ne i aR);simp only[go_sem,wZz k];exact aE (k+1,v',H') ⟨hlt,g1,go⟩ sO_ Lq b_
 rw[bD (show ¬0<=x from c),atE,aC aR]at u;simp only[go_sem,A,c,wZz k];exact skip _ u Lq;have l:¬(k:Int)<(Z' row:Nat):=Om;have:k=Z' row:=Om;subst this;simp only[go_sem,l];exact Up.up Lq (U w M y i)
theorem Vh(f:aB)(p:bX)(row:I_){k:Nat}(e:k≠0)(h:k<Z' f.arE):nJ f p row k=(decide (dU f p k>0)&&decide (((row.countP (kL f k):Nat):Int)>dU f p k)):=by
 have:(fC f row)[k]?=some ((row.countP (kL f k):Nat):Int):=by simp only[fC,atC,auT h,atO,fO,aC e]
 rw[nJ,asW,this,auV]
theorem Qe(f:aB)(hV:VF f)(p:bX)(v:Int)(row:I_):cF 5 v 1 (nJ f p row)=[]:=by
 have h:=hV.root.1;have e:(fC f row)[0]?=some 0:=by simp only[fC,atC,auT h,atO,fO,if_true]
 have:nJ f p row 0=false:=by rw[nJ,asW,e,auV];by_cases c:dU f p 0>0;rw[bD (Om:¬(0:Int)>dU f p 0),auF];rw[bD c,atE]
 rw[jP,this];rfl
theorem Yc(L:YB C)(f:aB)(hV:VF f)(p:bX)(o v:Nat)(row:I_)(O:vW f row)(y:List jG)(Y:Z' y<=200000000)(N:PV)(K:bP)[Up K](F:PF)(H:PH)
  (S:(((((((n_.set 1 (.j v)).set 2 (ints row)).set 3 (.aU f.cells)).set 8 (N)).set 13 (.ptr o 17 0 0)).set 15 (.j 1)):PF).le F) (U:bC H 3 N (dT y)) (ho:H o=some (.rows 17 [p.cells]))
  (V:∀w H',bC H' 3 w (dT (y++cF 5 v f.arE.length (nJ f p row)))->K (.exit 8) ((n_.set 8 (w))) H'):aJ.wp C (.loop jd) K F H:=by
 have hs:=hV.small.arE;refine wp_loop (α:=T3_) (λt=>((((((n_.set 1 (.j v)).set 2 (ints row)).set 3 (.aU f.cells)).set 8 (t.2.1)).set 13 (.ptr o 17 0 0)).set 15 (.j t.1))) (λt=>t.2.2) (λt=>1<=t.1/\t.1<=Z' f.arE/\bC t.2.2 3 t.2.1 (dT (y++cF 5 v t.1 (nJ f p row)))/\t.2.2 o=some (.rows 17 [p.cells])) (λt=>Z' f.arE-t.1) (1,N,H)
  ⟨asU _,hV.root.1,by rw[Qe f hV,auA];exact U,ho⟩ S b_ ?_
 rintro⟨k,w,A⟩ ⟨M,X,u,e⟩;simp only at M X u e ⊢;simp only[go_sem,jd,asO];by_cases hlt:k<Z' f.arE
 ·have i:(k:Int)<(Z' f.arE:Nat):=Om;have l:=jP 5 v k (nJ f p row);have l5:=fJ 5 v k (nJ f p row);rw[Vh f p row Om hlt]at l;obtain⟨q0,q4,-⟩:=hV.kE hlt;have h5:((lvl f k)<((5:Nat):Int)):=Om;have fin:∀(E:PF),((((((((n_.set 1 (.j v)).set 2 (ints row)).set 3 (.aU f.cells)).set 8 (w)).set 13 (.ptr o 17 0 0)).set 15 (.j k)).set 16 (.j (dU f p k))):PF).le E ->
    aJ.wp C (.seq (.region RJ) (.cond (.tmp 145) (.region je) .skip)) (fL 9 (gL C (aJ.wp C (.region IM)) (fK (λt:T3_=>((((((n_.set 1 (.j v)).set 2 (ints row)).set 3 (.aU f.cells)).set 8 (t.2.1)).set 13 (.ptr o 17 0 0)).set 15 (.j t.1))) (λt=>t.2.2) (λt=>1<=t.1/\t.1<=Z' f.arE/\bC t.2.2 3 t.2.1 (dT (y++cF 5 v t.1 (nJ f p row)))/\t.2.2 o=some (.rows 17 [p.cells])) (λt=>Z' f.arE-t.1) (Z' f.arE-k) K))) E A:=by
   intro E J;refine jL _ (λ_ _ _ _ a b=>Up.up a b) J ?_;have Z:row.countP (kL f k)<=16777216:=atT List.countP_le_length O.len;generalize dU f p k=R at *
   by_cases B:R>0
   ·rw[aW B,atJ]at l;simp only[go_sem,RJ,B];refine aD (L.count f row k hV O hlt) rfl ?_;by_cases D:((row.countP (kL f k):Nat):Int)>R
    ·rw[aW D,aF rfl]at l;have x:(1:Nat)*3<=16777216:=by decide
     simp only[go_sem,D,je,x];refine fB (src:=[(⟨5,v,k⟩:jG).cells]) u rfl (by unfold roomFor;rw[iU,asX];simp only[atD,maxLen];omega) λv' H' g1 g2=>?_;rw[lW,atV,<-l]at g1;have go:=g2 o _ e (u.ne e aR);simp only[go_sem,IM,wZz k];exact aE (k+1,v',H') ⟨by omega,hlt,g1,go⟩ sO_ Lq b_
    ·rw[bD D,aC aR]at l;rw[<-l]at u;simp only[go_sem,D,IM,wZz k];exact aE (k+1,w,A) ⟨by omega,hlt,u,e⟩ sO_ Lq b_
   ·rw[bD B,atE,aC aR]at l;rw[<-l]at u;simp only[go_sem,RJ,B,IM,wZz k];exact aE (k+1,w,A) ⟨by omega,hlt,u,e⟩ sO_ Lq b_
  simp only[aJ.wp,go_sem,dU]at fin;simp only[go_sem,i,fP hlt,tO hlt,q0,h5,Nat.mul_one];have W:lvl f k=0\/lvl f k=1\/lvl f k=2\/lvl f k=3\/lvl f k=4:=Om;rcases W with h|h|h|h|h
  all_goals
   rw[h]at fin ⊢;simp only[go_sem,e];exact fin _ (by(repeat' (first|exact c_|refine e_ ?_ ?_))<;>first|(simp only[go_sem,bX.spread]<;>rfl)|rfl)
 ·have i:¬(k:Int)<(Z' f.arE:Nat):=Om;have:k=Z' f.arE:=Om;subst this;simp only[go_sem,i];exact Up.up Lq (V w A u)
theorem aaW{f:aB}{row:I_}(e:Z' row<=16777216)(h:gS (kY f) row 0=none):vW f row:=⟨e,λx i=>by
 have:=xJ h x i;simp[kY]at this;omega⟩
theorem aeL(L:YB C)(f:aB)(hV:VF f)(x:∀p∈f.arF,Fits p.arC)(v:Nat)(e:v<Z' f.arD)(row:I_)(u:Z' row<=16777216) :
  x8.wp C (aV iZ.res (cN (LR (Fg f v row)))) (g_ [.agg f.cells,.j v,ints row]) .nil:=by
 have w:(1:Nat)*3<=16777216:=by decide
 simp only[go_sem,x8,iZ,asO];refine aD (L.dj f v hV e) rfl ?_;unfold Fg;by_cases c:(Z' row:Int)=fX f v
 ·rw[aF c];simp only[go_sem,cB c];refine aD (L.bad f row u) rfl ?_;cases hb:gS (kY f) row 0 with
  |some i=>
   have l:c7 f row=(i:Int):=by rw[c7,hb]
   simp only[go_sem,l,show(i:Int)>=0 by omega,w];exact bM (.inr rfl) .nil rfl a_ ⟨.refl _,rfl⟩
  |none=>
   have l:c7 f row=-1:=by rw[c7,hb]
   have A:=aaW u hb;obtain⟨hp,he⟩:=iN hV e;have y:=x _ (asS hp);rw[he]at y;have B:=hV.small;have s1:=B.arB;have s2:=B.arE;have W:=fJ 2 v row.length (home row);have X:=fJ 3 v f.arB.length (lS f row);have Y:=fJ 4 v row.length (dV f (bF f v) row);simp only[go_sem,l,show ¬(-1:Int)>=0 by omega];have D:=aeD (C:=C) f v row A;simp only[aJ.wp,go_sem]at D;refine D _ _ _ Lq λN S g1=>?_;simp only[go_sem];have E:=Yd (C:=C) f hV v row u (cF 2 v row.length (home row)) Om N;simp only[aJ.wp,go_sem]at E;refine E _ _ _ Lq g1 λO H2 g2=>?_;simp only[go_sem];refine bE .nil cR a_ ?_;simp only[go_sem,oT e,hV.AH e,lG hp,he];refine aQ λo K=>?_;simp only[go_sem];have F:=Yb L f hV (bF f v) y o v row A (cF 2 v row.length (home row)++cF 3 v f.arB.length (lS f row)) (by rw[asX];omega) O;simp only[aJ.wp,go_sem]at F;refine⟨a_,?_⟩;refine F _ _ _ Lq (g2.fresh K _).1 Sq λR U g3 M=>?_;simp only[go_sem];have J:=Yc L f hV (bF f v) o v row A (cF 2 v row.length (home row)++cF 3 v f.arB.length (lS f row)++cF 4 v row.length (dV f (bF f v) row)) (by simp only[asX];omega) R;simp only[aJ.wp,go_sem]at J;refine J _ _ _ Lq g3 M λZ V g4=>?_;simp only[go_sem];exact lO (.inr rfl) g4 rfl
 rw[aC c];simp only[go_sem,cY c,w,asO];exact bM (.inr rfl) .nil rfl a_ ⟨.refl _,rfl⟩
structure sn(C:Ctx):Prop extends TJ C where
 room:∀(f:aB)(room:I_),f.Ok->aH C 85 [.agg f.cells,ints room] .nil (aK (ints (oR f room)))
 loads:∀(f:aB)(l:L2_),f.Ok->iD l->aH C 84 [.agg f.cells,lay l] .nil (aK (ints (rY f l)))
 row:∀(f:aB)(v:Nat)(row:I_),VF f->(∀p∈f.arF,Fits p.arC)->v<Z' f.arD->Z' row<=16777216->aH C 90 [.agg f.cells,.int .i64 v,ints row] .nil (aK (LR (Fg f v row)))
def svS(f:aB)(l:L2_)(room:I_):Spec:=λname vs=>match name,vs with
 |90,[_,.int _ v,_]=>some ([],λ_=>aK (LR (vH f l v.toNat)))
 |85,_=>some ([],λ_=>aK (ints (oR f room)))
 |84,_=>some ([],λ_=>aK (ints (rY f l)))
 |_,_=>none
theorem aeO(f:aB)(hV:VF f)(l:L2_)(room:I_)(E:List jG)(V:Z' E<=2000000000)(L:PV)(K:bP)[Up K](F:PF)(H:PH)
  (O:(((((n_.set 7 (L)).set 9 (ints (bA f room))).set 10 (ints (cD f l))).set 11 (.j 0)):PF).le F) (S:bC H 3 L (dT E))
  (R:∀w H',bC H' 3 w (dT (E++cF 6 (-1) f.arB.length (over f l room)))->K (.exit 2) ((n_.set 7 (w))) H'):aJ.wp C (.loop WT) K F H:=by
 have X:=hV.small.arB;have J:=pA f room;refine wp_loop (α:=T3_) (λt=>((((n_.set 7 (t.2.1)).set 9 (ints (bA f room))).set 10 (ints (cD f l))).set 11 (.j t.1))) (λt=>t.2.2) (λt=>t.1<=Z' f.arB/\bC t.2.2 3 t.2.1 (dT (E++cF 6 (-1) t.1 (over f l room)))) (λt=>Z' f.arB-t.1) (0,L,H)
  ⟨asQ _,by rw[show cF 6 (-1) 0 (over f l room)=[]from rfl,auA];exact S⟩ O b_ ?_
 rintro⟨k,w,M⟩ ⟨U,u⟩;simp only at U u ⊢;simp only[go_sem,WT,asO,J];by_cases hlt:k<Z' f.arB;have e:(k:Int)<(Z' f.arB:Nat):=Om;have A:k<(cD f l).length:=by rw[cD,iV];exact hlt
 have B:k<(bA f room).length:=by rw[pA];exact hlt
 have a1:((cD f l).map λn=>[PV.int .i64 n])[k]?=some [.j (cD f l)[k]]:=by simp[A]
 have a2:((bA f room).map λn=>[PV.int .i64 n])[k]?=some [.j (bA f room)[k]]:=by simp[B]
 have W:over f l room k=decide ((cD f l)[k]>(bA f room)[k]):=by simp only[over,asW,asZ A,asZ B,auV]
 have i:=jP 6 (-1) k (over f l room);have Y:=fJ 6 (-1) k (over f l room);rw[W]at i;generalize(cD f l)[k]=x at *
 generalize(bA f room)[k]=y at *
 simp only[go_sem,e];refine bE .nil cR a_ ?_;by_cases c:x>y;rw[aF (aW c)]at i;have D:(1:Nat)*3<=16777216:=by decide
 simp only[go_sem,a1,a2,c,D];refine fB (src:=[(⟨6,-1,k⟩:jG).cells]) u rfl (by unfold roomFor;rw[iU,asX];simp only[atD,maxLen];omega) λv' H' N _=>?_;rw[lW,atV,<-i]at N;simp only[go_sem,wZz k];exact aE (k+1,v',H') ⟨hlt,N⟩ sO_ Lq b_;rw[aC (by rw[bD c];decide)]at i;rw[<-i]at u;simp only[go_sem,a1,a2,c,wZz k];exact aE (k+1,w,M) ⟨hlt,u⟩ sO_ Lq b_;have e:¬(k:Int)<(Z' f.arB:Nat):=Om;have:k=Z' f.arB:=Om;subst this;simp only[go_sem,e];exact Up.up Lq (R w M u)
theorem Yu(L:sn C)(f:aB)(D:f.Ok)(l:L2_)(A:iD l)(room:I_) :
  p9.wp C (aV nM.res (cN (LR (tI f l room)))) (g_ [.agg f.cells,lay l,ints room]) .nil:=by
 simp only[go_sem,p9,nM];refine aD (L.valid f D) rfl ?_;unfold tI;have β:=A.rows;have B:∀p∈f.arF,Fits p.arC:=λp hp=>(D.arO p hp).arC;cases R:cI f with
 |false =>simp only[go_sem,atH];exact lO (rows:=[]) (.inr rfl) .nil rfl
 |true=>
  have hV:=VF.of R;by_cases c:Z' l=Z' f.arD;have E:((Z' l:Int) != (Z' f.arD:Int))=false:=cB Om;rw[aF c];have V:=hV.small.arD;simp only[go_sem,asY,asO,E];refine wp_loop (α:=T3_) (λt=>(((((n_.set 1 (lay l)).set 2 (ints room)).set 3 (.aU f.cells)).set 7 (t.2.1)).set 8 (.j t.1))) (λt=>t.2.2) (λt=>t.1<=Z' l/\bC t.2.2 3 t.2.1 (dT (rJ f l t.1))) (λt=>Z' l-t.1) (0,.aG,.nil) ⟨asQ _,.nil⟩ Lq a_ ?_;rintro⟨k,w,Y⟩ ⟨hk,J⟩;simp only at hk J ⊢;simp only[go_sem,asO];by_cases hlt:k<Z' l;have e:(k:Int)<(Z' l:Nat):=Om;have N:=CY hV.small A (n:=k) Om;have y:=OJ f l k;have U:=gs hV.small A hlt;have O:(l[k]).length<=16777216:=by have h1:=HJ l (k+1);have:=A.all;rw[yR l hlt,asX]at h1;omega
  have M:(l.map λr=>[ints r])[k]?=some [ints l[k]]:=by simp[hlt]
  have i:=L.row f k l[k] hV B Om O;rw[<-show l.getD k []=l[k] by simp[asW,hlt],<-Xo]at i;rw[show l.getD k []=l[k] by simp[asW,hlt]]at i;simp only[go_sem,e];refine bE .nil (svS f l room) a_ ?_;simp only[go_sem,M];refine cJ (show svS f l room 90 [.agg f.cells,.j k,ints l[k]]=some ([],λ_=>aK (LR (vH f l k)))from rfl) i rfl a_ ?_;simp only[go_sem];refine fB (src:=dT (vH f l k)) J rfl (by unfold roomFor;rw[iU,iU];simp only[maxLen];omega) λv' H' W _=>?_;have S:dT (rJ f l k)++dT (vH f l k)=dT (rJ f l (k+1)):=by rw[y];simp only[dT,atK]
  rw[S]at W;refine⟨a_,?_⟩;simp only[go_sem,wZz k];exact aE (k+1,v',H') ⟨hlt,W⟩ sO_ Lq b_;have e:¬(k:Int)<(Z' l:Nat):=Om;have:k=Z' l:=Om;subst this;have N:=CY hV.small A (n:=Z' l) (asU _);have x:=L.room f room D;have u:=L.loads f l D A;have Z:oR f room=bA f room:=by rw[oR,R];rfl
  have e2:rY f l=cD f l:=by rw[rY,R];rfl
  simp only[go_sem,e];refine bE .nil (svS f l room) a_ ?_;simp only[go_sem];refine cJ (show svS f l room 85 [.agg f.cells,ints room]=some ([],λ_=>aK (ints (oR f room)))from rfl) x rfl a_ ?_;simp only[go_sem];refine cJ (show svS f l room 84 [.agg f.cells,lay l]=some ([],λ_=>aK (ints (rY f l)))from rfl) u rfl a_ ?_;rw[Z,e2];simp only[go_sem];have X:=aeO (C:=C) f hV l room (rJ f l l.length) Om w;simp only[aJ.wp,go_sem]at X;refine X _ _ Y Lq J λw' H' K=>?_;simp only[go_sem];exact lO (.inr rfl) K rfl;have E:((Z' l:Int) != (Z' f.arD:Int))=true:=cY Om;have F:(1:Nat)*3<=16777216:=by decide
  rw[aC c];simp only[go_sem,asY,asO,E,F];exact bM (.inr rfl) .nil rfl a_ ⟨.refl _,rfl⟩
structure Pw(C:Ctx):Prop extends sn C where
 viol:∀(f:aB)(l:L2_) (room:I_),f.Ok->iD l->aH C 87 [.agg f.cells,lay l,ints room] .nil (aK (LR (tI f l room)))
theorem To(L:Pw C)(f:aB)(e:f.Ok)(l:L2_)(i:iD l)(room:I_) :
  bv.wp C (aV pw.res (aK (.bool (eU f l room)))) (g_ [.agg f.cells,lay l,ints room]) .nil:=by
 simp only[go_sem,bv,pw];refine aD (L.valid f e) rfl ?_;unfold eU;cases u:cI f with
 |false =>simp only[go_sem];refine eD ?_;rfl
 |true =>simp only[go_sem];refine aD (L.viol f l room e i) rfl ?_;by_cases c:(tI f l room).length=0;simp only[go_sem,asO,bR (show(((tI f l room).length:Nat):Int)=0 by omega)];refine eD ?_;simp[bN,c];simp only[go_sem,asO,bH (show(((tI f l room).length:Nat):Int)≠0 by omega)];refine eD ?_;rw[bN,bD c]
theorem dge{n:Nat}(k:Nat):decide ((n:Int)>=(k:Int))=decide (k<=n):=decide_eq_decide.2 Om
theorem dle{n:Nat}(k:Nat):decide ((n:Int)<=(k:Int))=decide (n<=k):=decide_eq_decide.2 Om
theorem Pe(n:Nat):XT.wp C (aV ZH.res (aK (.bool (gV n)))) (g_ [.int .u8 n]) .nil:=by
 have e:=dge (n:=n) 97;have i:=dle (n:=n) 122;have l:=dge (n:=n) 65;have u:=dle (n:=n) 90;simp only[Int.cast_ofNat_Int]at e i l u;unfold gV;generalize decide (97<=n)=a at *
 generalize decide (n<=122)=b at *
 generalize decide (65<=n)=c at *
 generalize decide (n<=90)=d at *
 cases a<;>cases b<;>cases c<;>cases d
 all_goals
  simp only[go_sem,XT,ZH,e,i,l,u];refine eD ?_;rfl
theorem Uk(n:Nat):cq.wp C (aV rx.res (aK (.bool (qL n)))) (g_ [.int .u8 n]) .nil:=by
 have e:=dge (n:=n) 48;have i:=dle (n:=n) 57;simp only[Int.cast_ofNat_Int]at e i;unfold qL;generalize decide (48<=n)=a at *
 generalize decide (n<=57)=b at *
 cases a<;>cases b
 all_goals
  simp only[go_sem,cq,rx,e,i];refine eD ?_;rfl
theorem Pc(e:∀n:Nat,aH C 65 [.int .u8 n] .nil (aK (.bool (gV n))))(i:∀n:Nat,aH C 63 [.int .u8 n] .nil (aK (.bool (qL n))))(n:Nat) :
  XR.wp C (aV ZF.res (aK (.bool (iS n)))) (g_ [.int .u8 n]) .nil:=by
 have g1:((n:Int)==45)=decide (n=45):=by by_cases h:n=45<;>simp[h];omega
 have g2:((n:Int)==46)=decide (n=46):=by by_cases h:n=46<;>simp[h];omega
 have l:=e n;have u:=i n;unfold iS;generalize decide (n=45)=a at *
 generalize decide (n=46)=b at *
 simp only[go_sem,XR,ZF];refine aD l rfl ?_;cases gV n with
 |true =>simp only[go_sem];refine eD ?_;rfl
 |false=>
  simp only[go_sem];refine aD u rfl ?_;cases qL n<;>cases a<;>cases b
  all_goals
   simp only[go_sem,g1,g2];refine eD ?_;rfl
theorem Pd(D:∀n:Nat,aH C 65 [.int .u8 n] .nil (aK (.bool (gV n))))(E:∀n:Nat,aH C 64 [.int .u8 n] .nil (aK (.bool (iS n))))(s:List UInt8) :
  XS.wp C (aV ZG.res (aK (.bool (isName s)))) (g_ [.str s]) .nil:=by
 simp only[go_sem,XS,ZG];cases s with
 |nil =>have B:decide (((0:Nat):Int)<1)=true:=rfl;simp only[go_sem,avD,B];refine eD ?_;rfl
 |cons c t=>
  have F:(c::t)[0]?=some c:=rfl;have l:isName (c::t)=(decide ((c::t).length<=16)&&gV c.toNat&&(c::t).all λc=>iS c.toNat):=rfl;have i:¬(((c::t).length:Nat):Int)<1:=by simp only[atZ];omega
  generalize c::t=s at *
  by_cases A:Z' s<=16
  ·have u:¬(Z' s:Int)>16:=Om;rw[aW A,atJ]at l;have J:=D c.toNat;simp only[go_sem,i,u,F,atO];refine aD J rfl ?_;cases y:gV c.toNat with
   |false =>simp only[go_sem,atH];refine eD ?_;rw[bN,l,y,atE]
   |true=>
    rw[y,atJ]at l;simp only[go_sem,asY];refine wp_loop (α:=Nat) (λk=>((n_.set 0 (.str s)).set 3 (.j k))) (λ_=>.nil) (λk=>k<=Z' s/\(s.take k).all (λc=>iS c.toNat)=true) (λk=>Z' s-k) 0 ⟨asQ _,rfl⟩ Lq a_ ?_;rintro k ⟨L,w⟩;simp only[go_sem];by_cases hlt:k<Z' s
    ·have e:(k:Int)<(Z' s:Nat):=Om;have x:s[k]?=some s[k]:=asZ hlt;have K:=E (s[k]).toNat;simp only[go_sem,e,x,atO];refine aD K rfl ?_;cases hi:iS (s[k]).toNat with
     |false =>simp only[go_sem,atH];refine eD ?_;rw[bN,l,uT hlt hi]
     |true =>simp only[go_sem,asY,wZz k];exact aE (k+1) ⟨hlt,by simpa using uS hlt w hi⟩ Om Lq b_
    have e:¬(k:Int)<(Z' s:Nat):=Om;have:k=Z' s:=Om;subst this;rw[atL]at w;simp only[go_sem,e];refine eD ?_;rw[bN,l,w]
  have u:(Z' s:Int)>16:=Om;rw[bD A,atE,atE]at l;simp only[go_sem,i,u];refine eD ?_;rw[bN,l]
def NR(k m:Int):Bool:=within k 1 6&&(within m 0 4&&decide (k+m<=8))
theorem Yl(k m:Int):wP.wp C (aV JO.res (aK (.bool (NR k m)))) (g_ [.j k,.j m]) .nil:=by
 unfold NR within;by_cases e:1<=k;by_cases i:k<=6;by_cases l:0<=m;by_cases u:m<=4;have w:i_.wrap (k+m)=k+m:=wrap_i64 Om Om;simp only[go_sem,wP,JO,ge_iff_le,e,i,l,u,w];refine eD ?_;simp[bN,e,i,l,u];simp only[go_sem,wP,JO,ge_iff_le,e,i,l,u];refine eD ?_;simp[bN,e,i,l,u];simp only[go_sem,wP,JO,ge_iff_le,e,i,l];refine eD ?_;simp[bN,e,i,l];simp only[go_sem,wP,JO,ge_iff_le,e,i];refine eD ?_;simp[bN,e,i];simp only[go_sem,wP,JO,ge_iff_le,e];refine eD ?_;simp[bN,e]
theorem Pm(n lo hi:Int):IU.wp C (aV NJ.res (aK (.bool (within n lo hi)))) (g_ [.j n,.j lo,.j hi]) .nil:=by
 unfold within;by_cases h:lo<=n;simp only[go_sem,IU,NJ,ge_iff_le,h];refine eD ?_;simp[bN,h];simp only[go_sem,IU,NJ,ge_iff_le,h];refine eD ?_;simp[bN,h]
def vM(a b c d e f:Nat):Bool:=decide (a<=4)&&(decide (b<=4)&&(decide (c<=40)&&(decide (d<=24)&&(decide (e<=4)&&decide (f<=12)))))
theorem Uv(a b c d e f:Nat):cv.wp C (aV sb.res (aK (.bool (vM a b c d e f)))) (g_ [.j a,.j b,.j c,.j d,.j e,.j f]) .nil:=by
 have g:∀x k:Nat,decide ((x:Int)<=(k:Int))=decide (x<=k):=λx k=>decide_eq_decide.2 Om;have i:=g a 4;have l:=g b 4;have u:=g c 40;have w:=g d 24;have h5:=g e 4;have y:=g f 12;simp only[Int.cast_ofNat_Int]at i l u w h5 y;unfold vM;simp only[go_sem,cv,sb,i];cases decide (a<=4)with
 |false =>simp only[go_sem];refine eD ?_;rfl
 |true=>
  simp only[go_sem,l];cases decide (b<=4)with
  |false =>simp only[go_sem];refine eD ?_;rfl
  |true=>
   simp only[go_sem,u];cases decide (c<=40)with
   |false =>simp only[go_sem];refine eD ?_;rfl
   |true=>
    simp only[go_sem,w];cases decide (d<=24)with
    |false =>simp only[go_sem];refine eD ?_;rfl
    |true=>
     simp only[go_sem,h5];cases decide (e<=4)with
     |false =>simp only[go_sem];refine eD ?_;rfl
     |true =>simp only[go_sem,y];refine eD ?_;rfl
structure j8(C:Ctx):Prop extends K3 C where
 sum:∀l:List RF,(∀x∈l,x.Ok)->Z' l<=9223372036854775807->aH C 55 [frs l] .nil (aK (frV (AR (l.map RF.v))))
 inn:∀n lo hi:Int,aH C 76 [.int .i64 n,.int .i64 lo,.int .i64 hi] .nil (aK (.bool (within n lo hi)))
 code:∀k m:Int,aH C 61 [.int .i64 k,.int .i64 m] .nil (aK (.bool (NR k m)))
def QF(k m q s0 s1 s2 s3 s4:Int):Bool:=NR k m&&(within q k (k+m)&&(decide (s0=0)&&(within s1 0 8&&(within s2 0 8&&(within s3 0 8&&within s4 0 8)))))
theorem adH(p:bX):QE p=QF p.k p.m p.asA p.s0 p.s1 p.s2 p.s3 p.s4:=by
 unfold QE QF NR;have:within p.s0 0 8=true\/p.s0≠0:=by by_cases h:p.s0=0;rw[h];exact .inl rfl;exact .inr h
 simp only[awS,List.all_nil,avK];rcases this with h|h
 rw[h];simp only[atJ,awF];simp only[h,decide_false,atE,auF]
def spR(s1 s2 s3 s4:Int)(k:Nat):Int:=match k with
 |1=>s1
 |2=>s2
 |3=>s3
 |_=>s4
theorem Is(L:j8 C)(k m q s0 s1 s2 s3 s4:Int) :
  TE.wp C (aV SI.res (aK (.bool (QF k m q s0 s1 s2 s3 s4)))) (g_ [.j k,.j m,.j q,.agg [.j s0,.j s1,.j s2,.j s3,.j s4]]) .nil:=by
 obtain⟨X,w⟩:∃X,QF k m q s0 s1 s2 s3 s4=X:=⟨_,rfl⟩;rw[w];unfold QF at w;simp only[go_sem,TE,SI];refine aD (L.code k m) rfl ?_;cases F:NR k m with
 |false =>rw[F,atE]at w;simp only[go_sem,atH];refine eD ?_;rw[bN,w]
 |true=>
  rw[F,atJ]at w;have hb:1<=k/\k<=6/\0<=m/\m<=4:=by simp only[NR,asV,within_iff]at F;omega
  have S:i_.wrap (k+m)=k+m:=wrap_i64 Om Om;simp only[go_sem,asY,S];refine aD (L.inn q k (k+m)) rfl ?_;cases K:within q k (k+m)with
  |false =>rw[K,atE]at w;simp only[go_sem,atH];refine eD ?_;rw[bN,w]
  |true=>
   rw[K,atJ]at w;have E:(0:Int)<((5:Nat):Int):=by decide
   by_cases J:s0=0
   ·rw[aW J,atJ]at w;simp only[go_sem,asY,E,cB J];refine wp_loop (α:=Nat) (λj=>((n_.set 7 (.aU [.j s0,.j s1,.j s2,.j s3,.j s4])).set 9 (.j j))) (λ_=>.nil) (λj=>1<=j/\j<=5/\∀i,1<=i->i<j->within (spR s1 s2 s3 s4 i) 0 8=true) (λj=>5-j) 1 ⟨by decide,by decide,λi F K=>by omega⟩ Lq a_ ?_;rintro j ⟨N,O,l⟩;simp only[go_sem];by_cases hlt:j<5
    ·have u:(j:Int)<5:=Om;have A:((j:Nat):Int)<((5:Nat):Int):=Om;have y:=L.inn (spR s1 s2 s3 s4 j) 0 8;obtain⟨c,x⟩:∃c,within (spR s1 s2 s3 s4 j) 0 8=c:=⟨_,rfl⟩;rw[x]at y;have B:c=true->∀i,1<=i->i<j+1->within (spR s1 s2 s3 s4 i) 0 8=true:=λD i a b=>by
      by_cases e:i=j
      ·rw[e,x,D]
      ·exact l i a Om
     have bad:c=false->X=false:=by intro h;rw[h]at x;have D:j=1\/j=2\/j=3\/j=4:=Om;rw[<-w];rcases D with rfl|rfl|rfl|rfl<;>(simp only[spR]at x;rw[x];simp)
     have D:j=1\/j=2\/j=3\/j=4:=Om;cases c with
     |false=>
      have M:=bad rfl;rcases D with rfl|rfl|rfl|rfl
      all_goals
       simp only[spR]at y;simp only[go_sem,u,A];refine aD y rfl ?_;simp only[go_sem,atH];refine eD ?_;rw[bN,M]
     |true=>
      have R:=B rfl;rcases D with rfl|rfl|rfl|rfl
      all_goals
       simp only[spR]at y;simp only[go_sem,u,A];refine aD y rfl ?_;simp only[go_sem,asY];refine aE (_+1) ⟨by omega,hlt,R⟩ Om Lq b_
    ·have u:¬(j:Int)<5:=Om;have:j=5:=Om;subst this;simp only[go_sem,u];refine eD ?_;have a1:=l 1 aR aR;have a2:=l 2 aR aR;have a3:=l 3 aR aR;have a4:=l 4 aR aR;simp only[spR]at a1 a2 a3 a4;rw[bN,<-w,a1,a2,a3,a4];rfl
   ·rw[bD J,atE]at w;simp only[go_sem,asY,E,cY J];refine eD ?_;rw[bN,w]
theorem wH{x:RF}(h:dS x=true):x.valid:=by
 unfold dS DY at h;unfold RF.valid;cases e:fZ (val x.num) (val x.den)with
 |true=>rfl
 |false =>rw[e]at h;simp at h
theorem Uw(L:j8 C)(x:RF)(A:x.Ok):cw.wp C (aV sd.res (aK (.bool (dS x)))) (g_ [.agg x.cells]) .nil:=by
 have y:=L.red x A;unfold dS;simp only[go_sem,cw,sd];refine aD y Sq ?_;cases he:DY x with
 |error e =>have u:=X2 he;simp only[go_sem,frV];refine aQ λo w=>?_;simp only[go_sem,bH u];refine cZ (.inr rfl) Ev ?_;rfl
 |ok r=>
  obtain⟨n,a,b⟩:=r;have B:=qC a 1;have D:=qC b 1;have i:decide (((nl a:Nat):Int)<=1)=decide (fM a<=32):=decide_eq_decide.2 Om;have l:decide (((nl b:Nat):Int)<=1)=decide (fM b<=32):=decide_eq_decide.2 Om;simp only[go_sem,frV];refine aQ λo w=>?_;cases n with
  |true =>simp only[go_sem,asY];refine cZ (.inr rfl) Ev ?_;rfl
  |false=>
   simp only[go_sem,atH,asO,cH,i];cases decide (fM a<=32)with
   |false =>simp only[go_sem];refine cZ (.inr rfl) Ev ?_;rfl
   |true =>simp only[go_sem,asO,cH,l];refine cZ (.inr rfl) Ev ?_;rfl
structure sf(C:Ctx):Prop extends j8 C where
 small:∀x:RF,x.Ok->aH C 74 [.agg x.cells] .nil (aK (.bool (dS x)))
 nums:∀k m q s0 s1 s2 s3 s4:Int,aH C 72 [.int .i64 k,.int .i64 m,.int .i64 q,.agg [.int .i64 s0,.int .i64 s1,.int .i64 s2,.int .i64 s3,.int .i64 s4]] .nil (aK (.bool (QF k m q s0 s1 s2 s3 s4)))
 sizes:∀a b c d e f:Nat,aH C 73 [.int .i64 a,.int .i64 b,.int .i64 c,.int .i64 d,.int .i64 e,.int .i64 f] .nil (aK (.bool (vM a b c d e f)))
theorem ly{l:List RF}{k:Nat}(h:k<Z' l):(l.map RF.cells)[k]?=some (l[k]).cells:=by simp[h]
theorem Pl(L:sf C)(l:List RF)(w:pC l)(n:Int):XW.wp C (aV ZI.res (aK (.bool (decide ((Z' l:Int)=n)&&l.all dS)))) (g_ [frs l,.j n]) .nil:=by
 have x:=w.fits;unfold Fits at x;simp only[go_sem,XW,ZI,asO];by_cases h:(Z' l:Int)=n;rw[aW h,atJ];subst h;simp only[go_sem,cB (show(Z' l:Int)=(Z' l:Nat)from rfl)];refine wp_loop (α:=Nat) (λk=>(((n_.set 0 (frs l)).set 1 (.j (Z' l:Nat))).set 5 (.j k))) (λ_=>.nil) (λk=>k<=Z' l/\(l.take k).all dS=true) (λk=>Z' l-k) 0 ⟨asQ _,rfl⟩ Lq a_ ?_;rintro k ⟨A,i⟩;simp only[go_sem];by_cases hlt:k<Z' l
 ·have e:(k:Int)<(Z' l:Nat):=Om;have y:=L.small l[k] (w.all _ (asS hlt)).ok;simp only[go_sem,e,ly hlt];refine aD y Sq ?_;cases hi:dS l[k]with
  |false =>simp only[go_sem,atH];refine cZ (.inr rfl) Ev ?_;rw[bN,uT hlt hi]
  |true =>have u:=atI.1 (uS hlt i hi);simp only[go_sem,asY,wZz k];exact aE (k+1) ⟨hlt,u⟩ Om Lq b_
 have e:¬(k:Int)<(Z' l:Nat):=Om;have:k=Z' l:=Om;subst this;rw[atL]at i;simp only[go_sem,e];refine cZ (.inr rfl) Ev ?_;rw[bN,i];rw[bD h,atE];simp only[go_sem,cY h];refine cZ (.inr rfl) Ev ?_;rfl
structure sg(C:Ctx):Prop extends sf C where
 smalls:∀l:List RF,pC l->∀n:Int,aH C 75 [frs l,.int .i64 n] .nil (aK (.bool (decide ((Z' l:Int)=n)&&l.all dS)))
theorem RB(x:RF):(xR x==0)=!bY x:=by
 unfold xR bY;by_cases h:val x.num=0;simp[h];cases x.neg<;>simp[h]
def iw(l:List RF)(m:Int):Bool:=decide ((Z' l:Int)=max m 1)&&l.all dS&&l.all bY
theorem afK(L:sg C)(l:List RF)(y:pC l)(m:Int):yw.wp C (aV Pk.res (aK (.bool (iw l m)))) (g_ [frs l,.j m]) .nil:=by
 have B:=y.fits;unfold Fits at B;have E:=L.smalls l y (max m 1);unfold iw;simp only[go_sem,yw,Pk,max_eq];refine aD E Sq ?_;cases h:(decide ((Z' l:Int)=max m 1)&&l.all dS)with
 |false =>simp only[go_sem,atH];refine cZ (.inr rfl) Ev ?_;rfl
 |true=>
  rw[asV]at h;have i:=atI.1 h.2;simp only[go_sem,asY];refine wp_loop (α:=Nat) (λk=>((n_.set 0 (frs l)).set 5 (.j k))) (λ_=>.nil) (λk=>k<=Z' l/\(l.take k).all bY=true) (λk=>Z' l-k) 0 ⟨asQ _,rfl⟩ Lq a_ ?_;rintro k ⟨F,w⟩;simp only[go_sem,asO];by_cases hlt:k<Z' l
  ·have e:(k:Int)<(Z' l:Nat):=Om;have A:=asS hlt;have D:=L.sign l[k] (y.all _ A).ok (wH (i _ A));have u:=RB l[k];simp only[go_sem,e,ly hlt];refine aD D Sq ?_;cases hi:bY l[k]with
   |false =>rw[hi]at u;simp only[go_sem,u,atH];refine cZ (.inr rfl) Ev ?_;rw[bN,uT hlt hi]
   |true =>rw[hi]at u;have x:=atI.1 (uS hlt w hi);simp only[go_sem,u,asY,wZz k];exact aE (k+1) ⟨hlt,x⟩ Om Lq b_
  have e:¬(k:Int)<(Z' l:Nat):=Om;have:k=Z' l:=Om;subst this;rw[atL]at w;simp only[go_sem,e];refine cZ (.inr rfl) Ev ?_;rw[bN,w]
structure sj(C:Ctx):Prop extends sg C where
 reps:∀l:List RF,pC l->∀m:Int,aH C 66 [frs l,.int .i64 m] .nil (aK (.bool (iw l m)))
def frD:V_->RF
 |[.bool n,a,b]=>⟨n,sT a,sT b⟩
 |_=>⟨false,[],[]⟩
theorem ve(x:RF):frD x.cells=x:=by
 show(⟨x.neg,sT (bB x.num),sT (bB x.den)⟩:RF)=x;rw[mA,mA]
def zdS(r s:Bool):Spec:=λname vs=>match name,vs with
 |66,_=>some ([],λ_=>aK (.bool r))
 |74,[.agg cs]=>some ([],λ_=>aK (.bool (dS (frD cs))))
 |47,_=>some ([],λ_=>aK (.agg (mkT 1 1).cells))
 |49,_=>some ([],λ_=>aK (.bool s))
 |_,_=>none
theorem yq(r s:Bool)(x:RF):zdS r s 74 [.agg x.cells]=some ([],λ_=>aK (.bool (dS x))):=by
 show some ([],λ_=>aK (.bool (dS (frD x.cells))))=_;rw[ve]
theorem Sf(x y:RF):vJ y x=- vJ x y:=by
 unfold vJ DU;have e:=uz (val x.num*val y.den) (val y.num*val x.den);cases x.neg&&decide (val x.num≠0)<;>cases y.neg&&decide (val y.num≠0)<;>simp only[e,Int.neg_neg]<;>rfl
theorem Xp{x:RF}(e:x.valid):decide (vJ (mkT 1 1) x<0)=!HV x:=by
 rw[Sf x];unfold HV;rw[show fZ (val x.num) (val x.den)=true from e,atJ,MV];unfold vJ;simp only[cC,show(1:Int).natAbs=1 from rfl,show decide ((1:Int)<0)=false from rfl];by_cases h:DU x.neg (val x.num) (val x.den) false 1 1<=0;rw[aW h,bD Om];rfl;rw[bD h,aW Om];rfl
def UI(m:Int)(rep:List RF)(t h:RF):Bool:=iw rep m&&(dS t&&(HV t&&dS h))
theorem afI(L:sj C)(m:Int)(rep:List RF)(x:pC rep)(t h:RF)(u:t.Ok)(w:h.Ok) :
  yr.wp C (aV Ph.res (aK (.bool (UI m rep t h)))) (g_ [.j m,frs rep,.agg t.cells,.agg h.cells]) .nil:=by
 have i:eQ 1:=by unfold eQ;omega
 unfold UI;simp only[go_sem,yr,Ph];refine bE .nil (zdS (iw rep m) (!HV t)) a_ ?_;simp only[go_sem];refine cJ rfl (L.reps rep x m) Sq a_ ?_;cases iw rep m with
 |false =>simp only[go_sem];refine cZ (.inr rfl) Ev ?_;rfl
 |true=>
  simp only[go_sem];refine cJ (yq _ _ t) (L.small t u) Sq a_ ?_;cases l:dS t with
  |false =>simp only[go_sem];refine cZ (.inr rfl) Ev ?_;rfl
  |true=>
   have e:=L.less (mkT 1 1) t (MU 1 i).1 u (MU 1 i).2 (wH l);rw[Xp (wH l)]at e;simp only[go_sem];refine cJ rfl (L.int 1 i) Sq a_ ?_;simp only[go_sem];refine cJ rfl e Sq a_ ?_;cases HV t with
   |false =>simp only[go_sem,atH,asY];refine cZ (.inr rfl) Ev ?_;rfl
   |true =>simp only[go_sem,asY,atH];refine cJ (yq _ _ h) (L.small h w) Sq a_ ?_;simp only[go_sem];refine cZ (.inr rfl) Ev ?_;rfl
theorem agL(p:bX):JM p=UI p.m p.repair p.target p.arM:=by
 unfold JM UI iw;have:(p.repair.all λx=>dS x&&bY x)=(p.repair.all dS&&p.repair.all bY):=by
  induction p.repair with
  |nil=>rfl
  |cons a t e =>simp only[awS,e];cases dS a<;>cases bY a<;>simp
 rw[this];simp only[awF]
section
variable {H:PH} {B:List BX} {L:List LI}
theorem aN.K9(h:aN H B L)(i:Nat){s b:Nat}{v y:PV}{rows src:P2_}{K:R_}(hi:L[i]?=some (v,s,rows))(D:dG H s y=some src)(A:roomFor rows.length src.length b)
  (u:∀v' H',bC H' s v rows->aN H' B (L.set i (v',s,rows++src))->K v' H'):kP H s b v y K:=by
 rcases h.own i hi with⟨rfl,rfl⟩|⟨q,rs,rfl,h1,h2,h3⟩
 exact h.append i hi D A λv' H' E _=>u v' H' (.inl ⟨rfl,rfl⟩) E;have e:(rows++src).length=Z' rows+Z' src:=asX;refine⟨src,D,rfl,rfl,A,rs,h1,h2,?_,λo l=>?_⟩;rw[h3];refine u _ _ (.inr ⟨q,rows++src,rfl,by rw[bK],by rw[e];omega,List.take_left' rfl⟩) (h.JX i hi (.inr ⟨q,rows++src,by rw[e],by simp only[aO,if_true],asU _,atL⟩) (λp hp=>by cases hp;exact .inl rfl) λp _ hp=>?_);rw[aO,aC (hp q rfl)];rw[h3];have x:q≠o:=by rintro rfl;rw[h1]at l;cases l
 refine u _ _ (.inr ⟨q,rs,rfl,by rw[aO,aC x];exact h1,h2,h3⟩) (h.JX i hi (.inr ⟨o,rows++src,by rw[e],by simp only[aO,if_true],asU _,atL⟩) (λp hp=>by cases hp;exact .inr l) λp w hp=>?_);obtain⟨f1,f2⟩:=h.fresh l;have F:p≠o:=by rintro rfl;exact w.elim f1 f2
 rw[aO,aC F]
end
abbrev qX(l:List (List UInt8)):P2_:=l.map λs=>[PV.str s]
def HN:List (List UInt8)->List UInt8->Nat->Int
 |[],_,_=>-1
 |x::t,s,i=>if x==s then(i:Int)else HN t s (i+1)
theorem C7(s:List UInt8):∀(l:List (List UInt8)) (i:Nat),decide (HN l s i<0)=!l.contains s
 |[],i=>rfl
 |x::t,i=>by rw[HN,List.contains_cons,BEq.comm (a:=s)];by_cases h:(x==s)=true;rw[aF h,h,Bool.true_or,bD Om];rfl;rw[aC h,C7 s t (i+1)];simp only[Bool.not_eq_true]at h;rw[h,Bool.false_or]
theorem Ut(l:List (List UInt8))(y:Z' l<=1000000)(s:List UInt8):cu.wp C (aV sa.res (aK (.j (HN l s 0)))) (g_ [.sl 1 (qX l),.str s]) .nil:=by
 simp only[go_sem,cu,sa];refine wp_loop (α:=Nat) (λk=>(((n_.set 0 (.sl 1 (qX l))).set 1 (.str s)).set 5 (.j k))) (λ_=>.nil) (λk=>k<=Z' l/\HN l s 0=HN (l.drop k) s k) (λk=>Z' l-k) 0 ⟨asQ _,rfl⟩ Lq a_ ?_;rintro k ⟨x,i⟩;simp only[go_sem,asO];by_cases hlt:k<Z' l
 ·have e:(k:Int)<(Z' l:Nat):=Om;have u:(qX l)[k]?=some [.str l[k]]:=by simp[hlt]
  rw[avF hlt,HN]at i;cases w:l[k]==s with
  |true =>rw[w,aF rfl]at i;simp only[go_sem,e,u,w];refine eD ?_;rw[bN,i]
  |false =>rw[w,aC aR]at i;simp only[go_sem,e,u,w,wZz k];exact aE (k+1) ⟨hlt,i⟩ Om Lq b_
 have e:¬(k:Int)<(Z' l:Nat):=Om;have:k=Z' l:=Om;subst this;rw[List.drop_length,HN]at i;simp only[go_sem,e];refine eD ?_;rw[bN,i]
structure sk(C:Ctx):Prop extends sj C where
 name:∀s:List UInt8,aH C 62 [.str s] .nil (aK (.bool (isName s)))
 index:∀(l:List (List UInt8)),Z' l<=1000000->∀s:List UInt8,aH C 71 [.sl 1 (qX l),.str s] .nil (aK (.int .i64 (HN l s 0)))
def lL(l:List (List UInt8))(s:List UInt8):Bool:=isName s&&!l.contains s
def j3(l:List (List UInt8))(s:List UInt8)(r:PV)(B:List BX)(L:List LI):Prop:=∃e,r=.tup [e,.bool (lL l s)]/\B=[]/\L=[(e,1,qX (l++[s]))]
theorem Us(L:sk C)(l:List (List UInt8))(U:Z' l<=1000000)(s:List UInt8)(w:PV)(H:PH)(R:aN H [] [(w,1,qX l)]) :
  cr.wp C (aV r9.res (λr H'=>∃B' L',j3 l s r B' L'/\aN H' B' L')) (g_ [w,.str s]) H:=by
 have y:=L.index l U s;have K:=L.name s;have u:=C7 s l 0;have J:(1:Nat)*1<=16777216:=by decide
 have fin:∀(F:PF)(H':PH)(i:PV)(b:Bool),F 4=some i->F 5=some (.bool b)->b=lL l s->aN H' [] [(i,1,qX (l++[s]))]->aV [.tmp 4,.tmp 5] (λr H'=>∃B' L',j3 l s r B' L'/\aN H' B' L') .ret F H':=λF H' i b N O e E=>
  bM (vs:=[i,.bool b]) (.inr rfl) H' (by simp only[go_sem,N,O]) b_ ⟨[],_,⟨i,by rw[e];rfl,rfl,rfl⟩,E⟩
 simp only[go_sem,cr,r9,J];refine R.K9 0 (src:=[[.str s]]) rfl rfl (by unfold roomFor;rw[asO];simp only[atD,maxLen];omega) λi H' S E=>?_;have x:aN H' [] [(i,1,qX (l++[s]))]:=by
  have e:qX (l++[s])=qX l++[[.str s]]:=by simp[qX]
  rw[e];exact E
 refine aD K rfl ?_;cases M:isName s with
 |false =>simp only[go_sem];exact fin _ _ i false rfl rfl (by unfold lL;rw[M,atE]) x
 |true=>
  have A:lL l s=!l.contains s:=by unfold lL;rw[M,atJ]
  rcases S with⟨V,rfl⟩|⟨q,rs,rfl,q1,q2,q3⟩
  simp only[go_sem];rw[V]at y;have D:aH C 71 [.aG,.str s] .nil (aK (.j (HN l s 0))):=y.args (.cons (.nil 1) (.cons (.refl _) .nil));refine aD D rfl ?_;simp only[go_sem,u];exact fin _ _ i _ rfl rfl A.symm x;simp only[go_sem];refine Im (vs:=[.osl q 1 0 (qX l).length,.str s]) (.int .i64 (HN l s 0)) ?_ q1 Sq ?_;rw[atU,atU,auH,BG q2,q3];exact y;simp only[go_sem,u];exact fin _ _ i _ rfl rfl A.symm x
theorem Tq{x:RF}(h:dS x=true):decide (xR x>0)=bY x:=by
 have i:=wH h;unfold dS DY at h;rw[show fZ (val x.num) (val x.den)=true from i,aF rfl,fp i]at h;unfold xR bY;by_cases e:val x.num=0;simp[e];have hq:val x.num/asR (val x.num) (val x.den)≠0:=by have:=Nat.div_pos (Nat.gcd_le_left (val x.den) (awA e)) (Nat.gcd_pos_of_pos_left _ (awA e));omega
 have l:x.neg=false:=by unfold rE at h;simp only[hq,ne_eq,not_false_eq_true,decide_true,avK,asV]at h;simpa using h.1
 rw[aC e,l];simp[e]
structure Be(l:cV):Prop where
 exit:∀x∈l.exit,dS x=true
 row:∀r∈l.arG,∀x∈r,dS x=true
structure vS(C:Ctx):Prop extends sk C where
 fresh:∀(l:List (List UInt8)),Z' l<=1000000->∀(s:List UInt8)(w:PV)(H:PH),aN H [] [(w,1,qX l)]->aH C 70 [w,.str s] H (λr H'=>∃B' L',j3 l s r B' L'/\aN H' B' L')
theorem vS.pos(L:vS C){x:RF}(e:x.Ok)(h:dS x=true):∃n:Int,aH C 54 [.agg x.cells] .nil (aK (.j n))/\decide (n>0)=bY x:=⟨_,L.sign x e (wH h),Tq h⟩
def zlF(l:cV)(o r i:Nat):PF:=(((((n_.set 1 (.aU l.cells)).set 3 (.int .i64 (Z' l.exit:Nat))).set 7 (.osl o 1 0 l.exit.length)).set 8 (.int .i64 r)).set 9 (.int .i64 i))
theorem Zu(L:vS C)(l:cV)(o r i:Nat)(row:List RF)(V:(l.arG.map λr=>[frs r])[i]?=some [frs row])(N:pC row)(M:∀x∈row,dS x=true)(Z:Z' row=Z' l.exit)(hi:i<Z' l.exit)(hn:Z' l.exit<=4)(u:List Bool)(hR:Z' u=Z' l.exit)(K:bP)[Up K](F:PF)(H:PH)
  (S:((zlF l o r i).set 10 (.j 0)).le F) (O:(kH o u).le H)
  (Y:K (.exit 6) (zlF l o r i) (kH o (dB u i row row.length))):aJ.wp C (.loop SH) K F H:=by
 refine wp_loop (α:=Nat) (λk=>(zlF l o r i).set 10 (.j k)) (λk=>kH o (dB u i row k)) (λk=>k<=Z' row) (λk=>Z' row-k) 0 (asQ _) S O ?_;intro k hk;have X:=AK u i row k;have D:∀h:k<Z' row,dB u i row (k+1)=(dB u i row k).set i ((dB u i row k).getD i false||bY row[k]&&(dB u i row k).getD k false):=λh=>by simp only[dB,asW,atC,asZ h,atO,auV]
 have fin:∀(b:Bool)(F:PF)(H:PH),k<Z' row->dE (dB u i row (k+1))=(dE (dB u i row k)).set i [.bool b]->((zlF l o r i).set 10 (.j (k+1:Nat))).le F->H o=some (.rows 1 ((dE (dB u i row k)).set i [.bool b])) ->
   fK (λk:Nat=>(zlF l o r i).set 10 (.j k)) (λk=>kH o (dB u i row k)) (λk=>k<=Z' row) (λk=>Z' row-k) (Z' row-k) K .normal F H:=by
  intro b F H hlt hb S O;refine aE (k+1) hlt Om S ?_;rw[<-hb]at O;exact d_ a_ O
 unfold zlF kH at fin;simp only[go_sem,SH,zlF,kH];by_cases hlt:k<Z' row
 ·have e:(k:Int)<(Z' l.exit:Nat):=Om;have B:(i:Int)<(Z' l.exit:Nat):=Om;have y:=rB (R:=dB u i row k) (i:=i) Om;have E:=rB (R:=dB u i row k) (i:=k) Om;have w:=D hlt;obtain⟨n,W,J⟩:=L.pos (N.all _ (asS hlt)).ok (M _ (asS hlt));have U:=ly hlt;generalize hb:(dB u i row k).getD i false=b at *
  generalize hc:(dB u i row k).getD k false=c at *
  generalize hA:bY row[k]=A at *
  cases b with
  |true =>simp only[go_sem,e,B,atA,y,wZz k];exact fin true _ _ hlt (by rw[w,kB,Bool.true_or]) Lq Sq
  |false=>
   simp only[go_sem,e,B,atA,y,V,U];refine aD W Sq ?_;cases A with
   |false =>simp only[go_sem,J,B,e,atA,y,E,wZz k];exact fin false _ _ hlt (by rw[w,kB,Bool.false_or,atE]) Lq Sq
   |true =>simp only[go_sem,J,B,e,atA,y,E,wZz k];exact fin c _ _ hlt (by rw[w,kB,Bool.false_or,atJ]) Lq Sq
 have e:¬(k:Int)<(Z' l.exit:Nat):=Om;have:k=Z' row:=Om;subst this;simp only[go_sem,e];refine Up.up ?_ Y
 (repeat' (first|exact c_|refine e_ ?_ ?_))<;>first|(simp only[go_sem,zlF]<;>rfl)|rfl
theorem Zw(L:vS C)(l:cV)(U:l.Ok)(he:IV l)(W:Be l)(o r:Nat)(R:List Bool)(hR:Z' R=Z' l.exit)(K:bP)[Up K](F:PF)(H:PH)
  (M:(zlF l o r 0).le F) (N:(kH o R).le H)
  (Y:K (.exit 4) (zlF l o r l.exit.length) (kH o (dW l R l.exit.length))):aJ.wp C (.loop jv) K F H:=by
 refine wp_loop (α:=Nat) (λi=>zlF l o r i) (λi=>kH o (dW l R i)) (λi=>i<=Z' l.exit) (λi=>Z' l.exit-i) 0 (asQ _) M N ?_;intro i hi;have V:=wN l R i;have Z:=he.n;simp only[go_sem,jv,zlF,kH];by_cases hlt:i<Z' l.exit
 ·have e:(i:Int)<(Z' l.exit:Nat):=Om;have w:i<Z' l.arG:=by rw[he.arG];exact hlt
  have y:=rB (R:=dW l R i) (i:=i) Om;have hx:=ly hlt;have E:(l.arG.map λr=>[frs r])[i]?=some [frs l.arG[i]]:=by simp[w]
  have O:(l.arG[i]).length=Z' l.exit:=he.row _ (asS w);generalize x:(dW l R i).set i ((dW l R i).getD i false||bY l.exit[i])=J;have B:Z' J=Z' l.exit:=by rw[<-x,auD];omega
  have A:dW l R (i+1)=dB J i l.arG[i] (l.arG[i]).length:=by
   simp only[dW,nS];have X:(l.exit.map bY).getD i false=bY l.exit[i]:=by simp[asW,hlt]
   have e2:l.arG.getD i []=l.arG[i]:=by simp[asW,w]
   rw[X,e2,x]
  obtain⟨n,S,D⟩:=L.pos (U.exit.all _ (asS hlt)).ok (W.exit _ (asS hlt));have rest:∀(F:PF)(H:PH),(zlF l o r i).le F->H o=some (.rows 1 (dE J)) ->
    aJ.wp C (.seq (.region jy) (.block 6 (.loop SH))) (fL 5 (gL C (aJ.wp C (.region jz)) (fK (λi:Nat=>zlF l o r i) (λi=>kH o (dW l R i)) (λi=>i<=Z' l.exit) (λi=>Z' l.exit-i) (Z' l.exit-i) K))) F H:=by
   intro F H M N;refine jL _ (λ_ _ _ _ a b=>Up.up a b) M ?_;simp only[go_sem,jy];refine Zu L l o r i l.arG[i] E (U.row _ (asS w)) (W.row _ (asS w)) O hlt Z J B _ _ _ (by(repeat' (first|exact c_|refine e_ ?_ ?_))<;>first|(simp only[go_sem,zlF]<;>rfl)|rfl) (d_ a_ N) ?_;simp only[go_sem,zlF,jz,wZz i];exact aE (i+1) hlt Om Lq (by rw[A];exact b_)
  simp only[zlF,kH]at rest;have u:=rest;simp only[aJ.wp,go_sem]at u;generalize hb:(dW l R i).getD i false=b at *
  cases b with
  |true =>simp only[go_sem,e,e,atA,y];refine u _ _ Lq ?_;rw[<-x];simp only[go_sem,kB,Bool.true_or]
  |false =>simp only[go_sem,e,e,atA,y,hx];refine aD S Sq ?_;simp only[go_sem,e,atA,y,D];refine u _ _ Lq ?_;rw[<-x];simp only[go_sem,kB,Bool.false_or]
 have e:¬(i:Int)<(Z' l.exit:Nat):=Om;have:i=Z' l.exit:=Om;subst this;simp only[go_sem,e];exact Up.up (by(repeat' (first|exact c_|refine e_ ?_ ?_))<;>first|(simp only[go_sem,zlF]<;>rfl)|rfl) Y
theorem Zv(L:vS C)(l:cV)(y:l.Ok)(he:IV l)(A:Be l)(o:Nat)(K:bP)[Up K](F:PF)(H:PH)
  (u:(((((n_.set 1 (.aU l.cells)).set 3 (.j (Z' l.exit:Nat))).set 7 (.osl o 1 0 l.exit.length)).set 8 (.j 0)):PF).le F) (w:(kH o (eA l 0)).le H)
  (x:K (.exit 2) (((n_.set 3 (.j (Z' l.exit:Nat))).set 7 (.osl o 1 0 l.exit.length))) (kH o (eA l l.exit.length))):aJ.wp C (.loop jw) K F H:=by
 have B:=he.n;refine wp_loop (α:=Nat) (λr=>((((n_.set 1 (.aU l.cells)).set 3 (.j (Z' l.exit:Nat))).set 7 (.osl o 1 0 l.exit.length)).set 8 (.j r))) (λr=>kH o (eA l r)) (λr=>r<=Z' l.exit) (λr=>Z' l.exit-r) 0 (asQ _) u w ?_;intro r D;have i:=wM l r;simp only[go_sem,jw];by_cases hlt:r<Z' l.exit;have e:(r:Int)<(Z' l.exit:Nat):=Om;simp only[go_sem,e];refine Zw L l y he A o r (eA l r) i _ _ _ (by(repeat' (first|exact c_|refine e_ ?_ ?_))<;>first|(simp only[go_sem,zlF]<;>rfl)|rfl) b_ ?_;simp only[go_sem,zlF,wZz r];exact aE (r+1) hlt Om Lq b_;have e:¬(r:Int)<(Z' l.exit:Nat):=Om;have:r=Z' l.exit:=Om;subst this;simp only[go_sem,e];exact Up.up Lq x
theorem aiS(R:List Bool)(J:Z' R<=4)(o:Nat)(X:Bool)(D:X=R.all id)(Q:R_)(B:Q=aK (.bool X))(F:PF)(H:PH)
  (y:((((n_.set 3 (.j (Z' R:Nat))).set 7 (.osl o 1 0 R.length)).set 11 (.j 0)):PF).le F) (A:(kH o R).le H):aJ.wp C (.loop jx) (fL 8 (gL C (aJ.wp C (.seq (.region j0) .ret)) (aV [.tmp 2] Q))) F H:=by
 subst D B;refine wp_loop (α:=Nat) (λk=>(((n_.set 3 (.j (Z' R:Nat))).set 7 (.osl o 1 0 R.length)).set 11 (.j k))) (λ_=>kH o R) (λk=>k<=Z' R/\(R.take k).all id=true) (λk=>Z' R-k) 0 ⟨asQ _,rfl⟩ y A ?_;rintro k ⟨K,w⟩;simp only[go_sem,jx,kH];by_cases hlt:k<Z' R
 ·have e:(k:Int)<(Z' R:Nat):=Om;have l:=rB (R:=R) (i:=k) hlt;have E:R.getD k false=R[k]:=by simp[asW,hlt]
  rw[E]at l;cases u:R[k]with
  |false =>rw[u]at l;simp only[go_sem,e,atA,l,atH];refine cZ (.inr rfl) Ev ?_;rw[bN,uT hlt (p:=id) u]
  |true =>rw[u]at l;have x:=uS hlt w (p:=id) u;simp only[go_sem,e,atA,l,asY,wZz k];exact aE (k+1) ⟨hlt,by simpa using atI.1 x⟩ Om Lq b_
 have e:¬(k:Int)<(Z' R:Nat):=Om;have:k=Z' R:=Om;subst this;rw[atL]at w;simp only[go_sem,e,j0];refine cZ (.inr rfl) Ev ?_;rw[bN,w]
def Marks(R S:List Bool):Prop:=Z' R=Z' S/\∀j:Nat,R[j]?=some true->S[j]?=some true
theorem Marks.ahR(R:List Bool):Marks R R:=⟨rfl,λ_ h=>h⟩
theorem Marks.trans{R S T:List Bool}(h:Marks R S)(k:Marks S T):Marks R T:=⟨h.1.trans k.1,λj a=>k.2 j (h.2 j a)⟩
theorem Dt(R:List Bool)(i:Nat)(b:Bool):Marks R (R.set i (R.getD i false||b)):=by
 refine⟨by rw[auD],λj h=>?_⟩;rw[avY];obtain⟨l,he⟩:=atX.1 h;split;rename_i e;subst e;rw[aF l,asW,h];rfl;exact h
theorem wb(R:List Bool)(i:Nat)(row:List RF):∀k,Marks R (dB R i row k)
 |0=>Marks.ahR R
 |k+1=>(wb R i row k).trans (Dt _ _ _)
theorem KQ(l:cV)(R:List Bool):∀i,Marks R (dW l R i)
 |0=>Marks.ahR R
 |i+1=>(KQ l R i).trans ((Dt _ _ _).trans (wb _ _ _ _))
theorem Du:∀{R S:List Bool},Marks R S->R≠S->R.count true<S.count true
 |[],[],_,h=>absurd rfl h
 |[],_::_,h,_=>by have:=h.1;simp at this
 |_::_,[],h,_=>by have:=h.1;simp at this
 |a::R,b::S,h,i=>by
  have l:a=true->b=true:=λe=>by have:=h.2 0 (by rw[e];rfl);simpa using this
  have w:Marks R S:=⟨by have:=h.1;simpa using this,λj u=>by have:=h.2 (j+1) (by simpa using u);simpa using this⟩;by_cases e:R=S;subst e;have:a≠b:=λe=>i (by rw[e]);cases a<;>cases b<;>simp at this l ⊢;have:=Du w e;cases a<;>cases b<;>simp at l ⊢<;>omega
theorem k7:∀{R:List Bool},Z' R<=R.count true->R.all id=true
 |[],_=>rfl
 |a::R,h=>by
  have e:=List.count_le_length (a:=true) (l:=R);cases a with
  |true =>simp only[List.count_cons_self,atZ]at h;simp only[awS,id,atJ];exact k7 Om
  |false =>simp at h;omega
theorem QQ(l:cV){s:Nat}(h:eA l (s+1)=eA l s):∀d,eA l (s+d)=eA l s
 |0=>rfl
 |d+1=>by show dW l (eA l (s+d)) l.exit.length=_;rw[QQ l h d];exact h
theorem ou(l:cV):∀r,(∃s,s<r/\eA l (s+1)=eA l s)\/r<=(eA l r).count true
 |0=>.inr (asQ _)
 |r+1=>by
  rcases ou l r with⟨s,u,i⟩|h
  exact .inl ⟨s,by omega,i⟩;by_cases e:eA l (r+1)=eA l r;exact .inl ⟨r,by omega,e⟩;have:=Du (KQ l (eA l r) l.exit.length) (λh=>e h.symm);exact .inr (by show r+1<=(dW l (eA l r) l.exit.length).count true;omega)
theorem abM(l:cV):wD l=(eA l l.exit.length).all id:=by
 unfold wD;rcases ou l l.exit.length with⟨s,D,i⟩|h
 obtain⟨d,A⟩:∃d,Z' l.exit=s+d:=⟨Z' l.exit-s,by omega⟩;rw[show l.exit.length+1=s+(d+1) by omega,A,QQ l i,QQ l i];have u:(eA l l.exit.length).all id=true:=k7 (by rw[wM];exact h);have y:Marks (eA l l.exit.length) (eA l (Z' l.exit+1)):=KQ l (eA l l.exit.length) l.exit.length;rw[u,atI];intro x B;obtain⟨j,w,rfl⟩:=auG B;have e:j<(eA l l.exit.length).length:=by rw[y.1];exact w
 have:=y.2 j (by rw[asZ e];have:=atI.1 u _ (asS e);simpa using this);rw[asZ w]at this;simpa using this
def zsS(s:Bool):Spec:=λname vs=>match name,vs with
 |47,_=>some ([],λ_=>aK (.agg (mkT 1 1).cells))
 |53,_=>some ([],λ_=>aK (.bool s))
 |_,_=>none
theorem Wn(l:cV):nA l=(within l.start.length 1 4&&((decide ((Z' l.start:Int)=Z' l.start)&&l.start.all dS)&&((decide ((Z' l.exit:Int)=Z' l.start)&&l.exit.all dS)&&(decide (Z' l.arG=Z' l.start)&&((asP l.arG.length).all (yH l)&&(LD l&&wD l)))))):=by
 rw[Jk,aW (rfl:(Z' l.start:Int)=Z' l.start),atJ];have:decide (Z' l.exit=Z' l.start)=decide ((Z' l.exit:Int)=Z' l.start):=decide_eq_decide.2 Om;rw[this];cases within l.start.length 1 4<;>cases decide ((Z' l.exit:Int)=Z' l.start)<;>cases decide (Z' l.arG=Z' l.start)<;>cases l.start.all dS<;>cases l.exit.all dS<;>simp[awF]
theorem Ff(l:cV){i:Nat}(h:i<Z' l.arG):yH l i=((decide (((l.arG[i]).length:Int)=Z' l.start)&&(l.arG[i]).all dS)&&!((l.arG[i]).map bY).getD i false):=by
 unfold yH;have:l.arG.getD i []=l.arG[i]:=by simp[asW,h]
 rw[this];have:decide ((l.arG[i]).length=Z' l.start)=decide (((l.arG[i]).length:Int)=Z' l.start):=decide_eq_decide.2 Om;rw[this]
theorem afJ(L:vS C)(l:cV)(M:l.Ok):yv.wp C (aV kA.res (aK (.bool (nA l)))) (g_ [.agg l.cells]) .nil:=by
 have u:=Wn l;have fail:∀(F:PF)(H:PH),nA l=false->F 2=some (.bool false)->aV [.tmp 2] (aK (.bool (nA l))) .ret F H:=λF H e h=>by rw[e];exact bM (vs:=[.bool false]) (.inr rfl) .nil (by simp only[go_sem,h]) a_ ⟨rfl,rfl⟩
 have e1:=L.smalls l.start ⟨M.start.fits,M.start.all⟩ l.start.length;have e2:=L.smalls l.exit M.exit l.start.length;simp only[go_sem,yv,kA,asO];by_cases c1:(Z' l.start:Int)<1
 ·simp only[go_sem,c1];exact fail _ _ (by rw[u,show within l.start.length 1 4=false from by unfold within;rw[bD Om,atE],atE]) Sq
 by_cases c2:(Z' l.start:Int)>4
 ·simp only[go_sem,c1,c2];exact fail _ _ (by rw[u,show within l.start.length 1 4=false from by unfold within;rw[bD (Om:¬(Z' l.start:Int)<=4),auF],atE]) Sq
 rw[show within l.start.length 1 4=true from by unfold within;rw[aW (Om:(1:Int)<=(Z' l.start:Nat)),aW (Om:(Z' l.start:Int)<=4)];rfl,atJ]at u;simp only[go_sem,c1,c2];refine aD e1 Sq ?_;cases k1:(decide ((Z' l.start:Int)=Z' l.start)&&l.start.all dS)with
 |false =>rw[k1,atE]at u;simp only[go_sem,atH];exact fail _ _ u Sq
 |true=>
 rw[k1,atJ]at u;simp only[go_sem,asY];refine aD e2 Sq ?_;cases k2:(decide ((Z' l.exit:Int)=Z' l.start)&&l.exit.all dS)with
 |false =>rw[k2,atE]at u;simp only[go_sem,atH];exact fail _ _ u Sq
 |true=>
 rw[k2,atJ]at u;rw[asV,dT_]at k2;have D:Z' l.exit=Z' l.start:=Om;have R:=atI.1 k2.2;by_cases c3:Z' l.arG=Z' l.start
 case neg =>rw[bD c3,atE]at u;simp only[go_sem,asY,asO,cY (Om:(Z' l.arG:Int)≠(Z' l.start:Nat))];exact fail _ _ u Sq
 rw[aW c3,atJ]at u;simp only[go_sem,asY,asO,cB (Om:(Z' l.arG:Int)=(Z' l.start:Nat))];refine wp_loop (α:=Nat) (λi=>(((n_.set 1 (.aU l.cells)).set 3 (.j (Z' l.start:Nat))).set 4 (.j i))) (λ_=>.nil) (λi=>i<=Z' l.start/\∀j,j<i->yH l j=true) (λi=>Z' l.start-i) 0 ⟨asQ _,λj h=>by omega⟩ Lq a_ ?_;rintro i ⟨hi,y⟩;simp only[go_sem];by_cases hlt:i<Z' l.start
 ·have A:(i:Int)<(Z' l.start:Nat):=Om;have B:i<Z' l.arG:=Om;have J:(l.arG.map λr=>[frs r])[i]?=some [frs l.arG[i]]:=by simp[B]
  have X:=M.row _ (asS B);have e3:=L.smalls l.arG[i] X l.start.length;have w:=Ff l B;have bad:yH l i=false->nA l=false:=λh=>by rw[u,show(asP l.arG.length).all (yH l)=false from List.all_eq_false.2 ⟨i,atQ.2 B,by simp[h]⟩,atE]
  simp only[go_sem,A,J];refine aD e3 Sq ?_;cases k3:(decide (((l.arG[i]).length:Int)=Z' l.start)&&(l.arG[i]).all dS)with
  |false =>rw[k3,atE]at w;simp only[go_sem,atH];exact fail _ _ (bad w) Sq
  |true=>
   rw[k3,atJ]at w;rw[asV,dT_]at k3;have ι:(l.arG[i]).length=Z' l.start:=Om;have K:i<(l.arG[i]).length:=Om;have hm:=asS K;have hs:=L.sign _ (X.all _ hm).ok (wH (atI.1 k3.2 _ hm));have hz:=RB (l.arG[i])[i];have hg:((l.arG[i]).map bY).getD i false=bY (l.arG[i])[i]:=by simp[asW,K]
   rw[hg]at w;have E:(xR (l.arG[i])[i] != 0)=bY (l.arG[i])[i]:=by rw[bne,hz,Bool.not_not]
   simp only[go_sem,asY,J,ly K];refine aD hs Sq ?_;cases k4:bY (l.arG[i])[i]with
   |true =>rw[k4]at w E;simp only[go_sem,E];exact fail _ _ (bad w) Sq
   |false=>
    rw[k4]at w E;simp only[go_sem,E,wZz i];exact aE (i+1) ⟨hlt,λj hj=>by
     by_cases e:j=i
     ·rw[e];exact w
     ·exact y j Om⟩ Om Lq b_
 ·have A:¬(i:Int)<(Z' l.start:Nat):=Om;have:i=Z' l.start:=Om;subst this;have N:(asP l.arG.length).all (yH l)=true:=atI.2 λj hj=>y j (by rw[<-c3];exact atQ.1 hj);rw[N,atJ]at u;have Z:∀r∈l.arG,Z' r=Z' l.start/\∀x∈r,dS x=true:=λr W=>by obtain⟨j,hj,rfl⟩:=auG W;have h:=y j Om;rw[Ff l hj,asV,asV,dT_]at h;exact⟨by omega,atI.1 h.1.2⟩
  have V:Be l:=⟨R,λr W=>(Z r W).2⟩;have U:IV l:=⟨by omega,by omega,λr W=>by rw[(Z r W).1,D]⟩;have β:=L.sum l.start (λx hx=>(M.start.all x hx).ok) M.start.fits;simp only[go_sem,A];refine aD β Sq ?_;cases S:AR (l.start.map RF.v)with
  |error e=>
   have ε:=Yt S;have:LD l=false:=by unfold LD;rw[S]
   rw[this,atE]at u;simp only[go_sem,frV];refine aQ λo ho=>?_;simp only[go_sem];refine bE .nil cR a_ ?_;simp only[go_sem,cY ε];exact fail _ _ u Sq
  |ok r=>
   have Y:=aeM S;have η:=Oi S;obtain⟨n,a,b⟩:=r;have h1:eQ 1:=by unfold eQ;omega
   have O:=L.same (FV.rf (n,a,b)) (mkT 1 1) Y (MU 1 h1).1 (by unfold RF.valid FV.rf;simp only[cC];exact η) (MU 1 h1).2;have hP:LD l=(vJ (FV.rf (n,a,b)) (mkT 1 1)==0):=by unfold LD;rw[S,MV];unfold vJ FV.rf;simp only[cC,show(1:Int).natAbs=1 from rfl,show decide ((1:Int)<0)=false from rfl];by_cases h:DU n a b false 1 1=0<;>simp[h]
   simp only[go_sem,frV];refine aQ λo ho=>?_;have hH:aN (PH.nil.set o (.rows 3 [(FV.rf (n,a,b)).cells])) [(o,.rows 3 [(FV.rf (n,a,b)).cells])] []:=aN.nil.new (H:=PH.nil) rfl _;simp only[go_sem];refine bE (PH.nil.set o (.rows 3 [(FV.rf (n,a,b)).cells])) (zsS (vJ (FV.rf (n,a,b)) (mkT 1 1)==0)) b_ ?_;simp only[go_sem,cB (show(0:Int)=0 from rfl)];refine cJ rfl (L.int 1 h1) Sq b_ ?_;simp only[go_sem];refine cJ rfl O Sq b_ ?_;rw[<-hP];cases hp:LD l with
   |false =>rw[hp,atE]at u;simp only[go_sem,atH];exact fail _ _ u Sq
   |true=>
    rw[hp,atJ,abM]at u;have γ:(Z' l.start:Int)*((1:Nat):Int)<=140737488355328:=Om;have δ:(Z' l.start:Int)<=9223372036854775807:=Om;simp only[go_sem,asY,γ,δ];refine aQ λq hq=>?_;simp only[go_sem];have θ:asT l.start.length [PV.bool false]=dE (eA l 0):=by rw[<-D];simp[eA,dE]
    rw[<-D];refine Zv L l M U V q _ _ _ Lq ?_ ?_
    ·refine d_ a_ ?_;rw[bK,D,θ]
    simp only[go_sem];have ζ:(eA l l.exit.length).length<=4:=by rw[wM];omega
    refine aiS (eA l l.exit.length) ζ q (nA l) u _ rfl _ _ ?_ b_;rw[wM];exact Lq
structure yN(C:Ctx):Prop extends vS C where
 law:∀l:cV,l.Ok->aH C 68 [.agg l.cells] .nil (aK (.bool (nA l)))
def okL(base ns:List (List UInt8))(P:Nat->Bool)(i:Nat):Bool:=lL (base++ns.take i) (ns.getD i [])&&P i
theorem xT{p:Nat->Bool}(k:Nat)(b:Bool):(b&&(asP (k+1)).all p)=((b&&(asP k).all p)&&p k):=by
 rw[avH,awG];cases(asP k).all p<;>cases b<;>simp
theorem xS{p:Nat->Bool}{b:Bool}{i n:Nat}(hi:i<=n)(h:(b&&(asP i).all p)=false):(b&&(asP n).all p)=false:=by
 cases b with
 |false=>rfl
 |true =>rw[atJ]at h ⊢;obtain⟨x,e,hp⟩:=List.all_eq_false.1 h;exact List.all_eq_false.2 ⟨x,atQ.2 (by have:=atQ.1 e;omega),hp⟩
structure kG(H:PH)(w:PV)(base ns:List (List UInt8))(c:Bool)(i:Nat):Prop where
 ex:∃names,aN H [] [(w,1,qX names)]/\(c=true->names=base++ns.take i)
section
variable {C:Ctx} {F:PF} {H:PH} {d:O_} {K:K_}
theorem kG.call(L:vS C){w:PV}{base ns:List (List UInt8)}{i:Nat}{B:List BX}{e:List (List UInt8)}(h:aN H B [(w,1,qX e)])(N:Z' base<=1000)(hi:i<=1000)(A:e=base++ns.take i)(u:i<Z' ns){a b:Nat}(l:aP.evs F [.tmp a,.tmp b]=some [w,.str ns[i]])
  (E:∀x H',aN H' B [(x,1,qX (e++[ns[i]]))]->kG H' x base ns true (i+1)->K (F.put d (.tup [x,.bool (lL (base++ns.take i) (ns.getD i []))])) H'):jX C 70 [.tmp a,.tmp b] [] d K F H:=by
 refine LX (B1:=[]) (B2:=B) (L1:=[(w,1,qX e)]) (L2:=[]) (Q:=j3 e ns[i]) h (λJ M=>L.fresh e (by rw[A,asX,atF];omega) ns[i] w J M) l ?_;rintro r B' L' H' ⟨x,rfl,rfl,rfl⟩ D;have y:ns.getD i []=ns[i]:=by simp[asW,u]
 rw[y,<-A]at E;refine E x H' D ⟨e++[ns[i]],D.sub (List.nil_sublist _) (avE.refl _),λ_=>?_⟩;rw[atW u,<-atV,A]
end
theorem kG.uo{H:PH}{w:PV}{base ns:List (List UInt8)}{c:Bool}{i:Nat}(h:kG H w base ns true i):kG H w base ns c i:=by
 obtain⟨e,l,u⟩:=h.ex;exact⟨e,l,λ_=>u rfl⟩
def PA(f:aB):Bool:=(asP f.arJ.length).all (okL [] (f.arJ.map cV.name) λi=>(f.arJ.map nA).getD i false)
theorem afM(L:yN C)(f:aB)(Z:f.Ok)(hs:Z' f.arJ<=4)(K:bP)[Up K](F:PF)(H:PH)
  (X:(((((((((n_.set 1 (.aU f.cells)).set 3 (.aG)).set 4 (.aG)).set 5 (.aG)).set 6 (.aG)).set 7 (.aG)).set 8 (.bool true)).set 9 (.j 0)):PF).le F)
  (R:∀H',K (.exit 0) (((((((n_.set 1 (.aU f.cells)).set 4 (.aG)).set 5 (.aG)).set 6 (.aG)).set 7 (.aG)).set 8 (.bool (PA f)))) H'):aJ.wp C (.loop SJ) K F H:=by
 obtain⟨ok,E⟩:∃ok,okL [] (f.arJ.map cV.name) (λi=>(f.arJ.map nA).getD i false)=ok:=⟨_,rfl⟩;unfold PA at R;rw[E]at R;refine wp_loop (α:=T3_) (λs=>((((((((n_.set 1 (.aU f.cells)).set 3 (s.2.1)).set 4 (.aG)).set 5 (.aG)).set 6 (.aG)).set 7 (.aG)).set 8 (.bool (true&&(asP s.1).all ok))).set 9 (.j s.1))) (λs=>s.2.2) (λs=>s.1<=Z' f.arJ/\kG s.2.2 s.2.1 [] (f.arJ.map cV.name) (true&&(asP s.1).all ok) s.1) (λs=>Z' f.arJ-s.1)
  (0,.aG,H) ⟨asQ _,⟨[],aN.nil.lE 1,λ_=>rfl⟩⟩ X b_ ?_
 rintro⟨i,w,V⟩ ⟨hi,W⟩;simp only at hi W ⊢;have fin:∀(b:Bool)(y:PV)(M:PF)(H':PH),i<Z' f.arJ->(true&&(asP (i+1)).all ok)=b->kG H' y [] (f.arJ.map cV.name) true (i+1) ->
   (((((((((n_.set 1 (.aU f.cells)).set 3 (y)).set 4 (.aG)).set 5 (.aG)).set 6 (.aG)).set 7 (.aG)).set 8 (.bool b)).set 9 (.j (i+1:Nat))):PF).le M ->
   fK (λs:T3_=>((((((((n_.set 1 (.aU f.cells)).set 3 (s.2.1)).set 4 (.aG)).set 5 (.aG)).set 6 (.aG)).set 7 (.aG)).set 8 (.bool (true&&(asP s.1).all ok))).set 9 (.j s.1))) (λs=>s.2.2) (λs=>s.1<=Z' f.arJ/\kG s.2.2 s.2.1 [] (f.arJ.map cV.name) (true&&(asP s.1).all ok) s.1) (λs=>Z' f.arJ-s.1) (Z' f.arJ-i) K .normal M H':=
  λb y M H' hlt hb O N=>aE (i+1,y,H') ⟨hlt,O.uo⟩ sO_ (by simp only;rw[hb];exact N) b_
 have l:=xT (p:=ok) i true;have x:(true&&(asP i).all ok)=(true&&(asP f.arJ.length).all ok)->K (.exit 0) (((((((n_.set 1 (.aU f.cells)).set 4 (.aG)).set 5 (.aG)).set 6 (.aG)).set 7 (.aG)).set 8 (.bool (true&&(asP i).all ok)))) V:=λe=>by rw[e,atJ];exact R V
 have B:=λh=>xS (p:=ok) (b:=true) hi h;generalize Y:(true&&(asP i).all ok)=c at *
 simp only[go_sem,SJ,asO];by_cases hlt:i<Z' f.arJ
 ·have u:(i:Int)<(Z' f.arJ:Nat):=Om;cases c with
  |false =>simp only[go_sem,u];exact Up.up Lq (x (B rfl).symm)
  |true=>
   obtain⟨U,g1,g3⟩:=W.ex;have D:(f.arJ.map cV.cells)[i]?=some (f.arJ[i]).cells:=by simp[hlt]
   have S:i<(f.arJ.map cV.name).length:=by rw[asO];exact hlt
   have J:ok i=(lL ([]++(f.arJ.map cV.name).take i) ((f.arJ.map cV.name).getD i [])&&nA f.arJ[i]):=by rw[<-E];unfold okL;simp[asW,hlt]
   have hl:=L.law _ (Z.law _ (asS hlt));rw[J]at l;simp only[go_sem,u,D];refine kG.call L.tovS (ns:=f.arJ.map cV.name) g1 (asQ _) Om (g3 rfl) S (by simp only[go_sem,auN]) λy H1 h1 A=>?_;generalize lL ([]++(f.arJ.map cV.name).take i) ((f.arJ.map cV.name).getD i [])=fb at *
   cases fb with
   |false =>simp only[go_sem,wZz i];exact fin false y _ _ hlt (l.trans rfl) A Lq
   |true =>simp only[go_sem,D];refine aD hl rfl ?_;simp only[go_sem,wZz i];exact fin _ y _ _ hlt (l.trans rfl) A Lq
 have u:¬(i:Int)<(Z' f.arJ:Nat):=Om;have:i=Z' f.arJ:=Om;subst this;simp only[go_sem,u];exact Up.up Lq (x Y.symm)
theorem WL{a b c d e f:Nat}(h:vM a b c d e f=true):a<=4/\b<=4/\c<=40/\d<=24/\e<=4/\f<=12:=by
 simp only[vM,asV,dT_]at h;omega
theorem rz{n:Nat}(h:n<=1000):i_.wrap ((n:Int)-1)=(n:Int)-1:=wrap_i64 Om Om
def inS:Spec:=λname vs=>match name,vs with
 |76,[.int _ n,.int _ lo,.int _ hi]=>some ([],λ_=>aK (.bool (within n lo hi)))
 |_,_=>none
def tq(arJ:Nat)(m:dN):Bool:=within m.arS 1 16&&(within m.port 1 64&&within m.law 0 ((arJ:Int)-1))
def Gp(pols:Nat)(v:gD):Bool:=within v.arO 0 ((pols:Int)-1)
def GI(f:aB):Bool:=(asP f.arC.length).all (okL [] (f.arC.map dN.name) λi=>(f.arC.map (tq f.arJ.length)).getD i false)
theorem Uy(L:yN C)(f:aB)(hf:f.Ok)(hz:vM f.arJ.length f.arC.length f.arE.length f.arB.length f.arF.length f.arD.length=true)(b:Bool)(K:bP)[Up K](F:PF)(H:PH)
  (hF:((((((((n_.set 1 (.aU f.cells)).set 4 (.aG)).set 5 (.aG)).set 6 (.aG)).set 7 (.aG)).set 8 (.bool b)).set 10 (.j 0)):PF).le F)
  (U:∀H',K (.exit 2) ((((((n_.set 1 (.aU f.cells)).set 5 (.aG)).set 6 (.aG)).set 7 (.aG)).set 8 (.bool (b&&GI f)))) H'):aJ.wp C (.loop SK) K F H:=by
 obtain⟨β,γ,δ,ε,ζ,η⟩:=WL hz;obtain⟨ok,E⟩:∃ok,okL [] (f.arC.map dN.name) (λi=>(f.arC.map (tq f.arJ.length)).getD i false)=ok:=⟨_,rfl⟩;unfold GI at U;rw[E]at U;refine wp_loop (α:=T3_) (λs=>(((((((n_.set 1 (.aU f.cells)).set 4 (s.2.1)).set 5 (.aG)).set 6 (.aG)).set 7 (.aG)).set 8 (.bool (b&&(asP s.1).all ok))).set 10 (.j s.1))) (λs=>s.2.2) (λs=>s.1<=Z' f.arC/\kG s.2.2 s.2.1 [] (f.arC.map dN.name) (b&&(asP s.1).all ok) s.1) (λs=>Z' f.arC-s.1)
  (0,.aG,H) ⟨asQ _,⟨[],aN.nil.lE 1,λ_=>rfl⟩⟩ (by
   have e:(b&&(asP 0).all ok)=b:=by cases b<;>rfl
   simp only[e];exact hF) b_ ?_
 rintro⟨i,w,N⟩ ⟨hi,Z⟩;simp only at hi Z ⊢;have fin:∀(c:Bool)(y:PV)(M:PF)(H':PH),i<Z' f.arC->(b&&(asP (i+1)).all ok)=c->kG H' y [] (f.arC.map dN.name) true (i+1) ->
   ((((((((n_.set 1 (.aU f.cells)).set 4 (y)).set 5 (.aG)).set 6 (.aG)).set 7 (.aG)).set 8 (.bool c)).set 10 (.j (i+1:Nat))):PF).le M ->
   fK (λs:T3_=>(((((((n_.set 1 (.aU f.cells)).set 4 (s.2.1)).set 5 (.aG)).set 6 (.aG)).set 7 (.aG)).set 8 (.bool (b&&(asP s.1).all ok))).set 10 (.j s.1))) (λs=>s.2.2) (λs=>s.1<=Z' f.arC/\kG s.2.2 s.2.1 [] (f.arC.map dN.name) (b&&(asP s.1).all ok) s.1) (λs=>Z' f.arC-s.1) (Z' f.arC-i) K .normal M H':=
  λc y M H' hlt hb S R=>aE (i+1,y,H') ⟨hlt,S.uo⟩ sO_ (by simp only;rw[hb];exact R) b_
 have l:=xT (p:=ok) i b;have A:(b&&(asP i).all ok)=(b&&(asP f.arC.length).all ok)->K (.exit 2) ((((((n_.set 1 (.aU f.cells)).set 5 (.aG)).set 6 (.aG)).set 7 (.aG)).set 8 (.bool (b&&(asP i).all ok)))) N:=λe=>by rw[e];exact U N
 have D:=λh=>xS (p:=ok) (b:=b) hi h;generalize hc:(b&&(asP i).all ok)=c at *
 simp only[go_sem,SK,asO];by_cases hlt:i<Z' f.arC
 ·have u:(i:Int)<(Z' f.arC:Nat):=Om;cases c with
  |false =>simp only[go_sem,u];exact Up.up Lq (A (D rfl).symm)
  |true=>
   obtain⟨Y,g1,g3⟩:=Z.ex;have V:(f.arC.map dN.cells)[i]?=some (f.arC[i]).cells:=by simp[hlt]
   have W:i<(f.arC.map dN.name).length:=by rw[asO];exact hlt
   have J:ok i=(lL ([]++(f.arC.map dN.name).take i) ((f.arC.map dN.name).getD i [])&&(tq f.arJ.length) f.arC[i]):=by rw[<-E];unfold okL;simp[asW,hlt]
   rw[J]at l;have B:tq f.arJ.length f.arC[i]=(within (f.arC[i]).arS 1 16&&(within (f.arC[i]).port 1 64&&within (f.arC[i]).law 0 ((Z' f.arJ:Int)-1))):=rfl;rw[B]at l;simp only[go_sem,u,V];refine aQ λo ho=>?_;have g4:=g1.new ho (.rows 4 [(f.arC[i]).cells]);have g5:=g4.at 0 rfl;simp only[go_sem];generalize N.set o (.rows 4 [(f.arC[i]).cells])=H2 at *
   try simp only[go_sem,g5]
   refine kG.call L.tovS (ns:=(f.arC.map dN.name)) g4 (asQ _) Om (g3 rfl) W (by simp only[go_sem,auN]) λy H1 h1 x=>?_;have O:=h1.at 0 rfl;generalize lL ([]++(f.arC.map dN.name).take i) ((f.arC.map dN.name).getD i [])=fb at *
   cases fb with
   |false =>simp only[go_sem,wZz i];exact fin false y _ _ hlt (l.trans rfl) x Lq
   |true=>
    simp only[go_sem,O];refine aD (L.inn (f.arC[i]).arS 1 16) rfl ?_;cases X:within (f.arC[i]).arS 1 16 with
    |false =>simp only[go_sem,wZz i];exact fin false y _ _ hlt (by rw[l,X]<;>simp) x Lq
    |true=>
     simp only[go_sem,O];refine aD (L.inn (f.arC[i]).port 1 64) rfl ?_;cases k1:within (f.arC[i]).port 1 64 with
     |false =>simp only[go_sem,wZz i];exact fin false y _ _ hlt (by rw[l,X,k1]<;>simp) x Lq
     |true =>simp only[go_sem,O,asO,rz (Om:Z' f.arJ<=1000)];refine aD (L.inn (f.arC[i]).law 0 ((Z' f.arJ:Int)-1)) rfl ?_;simp only[go_sem,wZz i];exact fin _ y _ _ hlt (by rw[l,X,k1]<;>simp) x Lq
 have u:¬(i:Int)<(Z' f.arC:Nat):=Om;have:i=Z' f.arC:=Om;subst this;simp only[go_sem,u];exact Up.up Lq (A hc.symm)
def A3(f:aB):Bool:=(asP f.arD.length).all (okL [] (f.arD.map gD.name) λi=>(f.arD.map (Gp f.arF.length)).getD i false)
theorem afO(L:yN C)(f:aB)(hf:f.Ok)(hz:vM f.arJ.length f.arC.length f.arE.length f.arB.length f.arF.length f.arD.length=true)(b:Bool)(K:bP)[Up K](F:PF)(H:PH)
  (Y:(((((n_.set 1 (.aU f.cells)).set 7 (.aG)).set 8 (.bool b)).set 21 (.j 0)):PF).le F)
  (S:∀H',K (.exit 14) (((n_.set 1 (.aU f.cells)).set 8 (.bool (b&&A3 f)))) H'):aJ.wp C (.loop FW) K F H:=by
 obtain⟨β,γ,δ,ε,ζ,η⟩:=WL hz;obtain⟨ok,J⟩:∃ok,okL [] (f.arD.map gD.name) (λi=>(f.arD.map (Gp f.arF.length)).getD i false)=ok:=⟨_,rfl⟩;unfold A3 at S;rw[J]at S;refine wp_loop (α:=T3_) (λs=>((((n_.set 1 (.aU f.cells)).set 7 (s.2.1)).set 8 (.bool (b&&(asP s.1).all ok))).set 21 (.j s.1))) (λs=>s.2.2) (λs=>s.1<=Z' f.arD/\kG s.2.2 s.2.1 [] (f.arD.map gD.name) (b&&(asP s.1).all ok) s.1) (λs=>Z' f.arD-s.1)
  (0,.aG,H) ⟨asQ _,⟨[],aN.nil.lE 1,λ_=>rfl⟩⟩ (by
   have e:(b&&(asP 0).all ok)=b:=by cases b<;>rfl
   simp only[e];exact Y) b_ ?_
 rintro⟨i,w,W⟩ ⟨hi,X⟩;simp only at hi X ⊢;have fin:∀(c:Bool)(A:PV)(N:PF)(H':PH),i<Z' f.arD->(b&&(asP (i+1)).all ok)=c->kG H' A [] (f.arD.map gD.name) true (i+1) ->
   (((((n_.set 1 (.aU f.cells)).set 7 (A)).set 8 (.bool c)).set 21 (.j (i+1:Nat))):PF).le N ->
   fK (λs:T3_=>((((n_.set 1 (.aU f.cells)).set 7 (s.2.1)).set 8 (.bool (b&&(asP s.1).all ok))).set 21 (.j s.1))) (λs=>s.2.2) (λs=>s.1<=Z' f.arD/\kG s.2.2 s.2.1 [] (f.arD.map gD.name) (b&&(asP s.1).all ok) s.1) (λs=>Z' f.arD-s.1) (Z' f.arD-i) K .normal N H':=
  λc A N H' hlt hb R O=>aE (i+1,A,H') ⟨hlt,R.uo⟩ sO_ (by simp only;rw[hb];exact O) b_
 have l:=xT (p:=ok) i b;have x:(b&&(asP i).all ok)=(b&&(asP f.arD.length).all ok)->K (.exit 14) (((n_.set 1 (.aU f.cells)).set 8 (.bool (b&&(asP i).all ok)))) W:=λe=>by rw[e];exact S W
 have D:=λh=>xS (p:=ok) (b:=b) hi h;generalize Z:(b&&(asP i).all ok)=c at *
 simp only[go_sem,FW,asO];by_cases hlt:i<Z' f.arD
 ·have u:(i:Int)<(Z' f.arD:Nat):=Om;cases c with
  |false =>simp only[go_sem,u];exact Up.up Lq (x (D rfl).symm)
  |true=>
   obtain⟨V,g1,g3⟩:=X.ex;have E:(f.arD.map gD.cells)[i]?=some (f.arD[i]).cells:=by simp[hlt]
   have U:i<(f.arD.map gD.name).length:=by rw[asO];exact hlt
   have M:ok i=(lL ([]++(f.arD.map gD.name).take i) ((f.arD.map gD.name).getD i [])&&(Gp f.arF.length) f.arD[i]):=by rw[<-J];unfold okL;simp[asW,hlt]
   rw[M]at l;have y:Gp f.arF.length f.arD[i]=within (f.arD[i]).arO 0 ((Z' f.arF:Int)-1):=rfl;rw[y]at l;simp only[go_sem,u,E];refine kG.call L.tovS (ns:=(f.arD.map gD.name)) g1 (asQ _) Om (g3 rfl) U (by simp only[go_sem,auN]) λA H1 h1 B=>?_;generalize lL ([]++(f.arD.map gD.name).take i) ((f.arD.map gD.name).getD i [])=fb at *
   cases fb with
   |false =>simp only[go_sem];refine bE .nil (inS) a_ ?_;simp only[go_sem,wZz i];exact fin false A _ _ hlt (l.trans rfl) B Lq
   |true =>simp only[go_sem];refine bE .nil (inS) a_ ?_;simp only[go_sem,E,asO,rz (Om:Z' f.arF<=1000)];refine cJ rfl (L.inn (f.arD[i]).arO 0 ((Z' f.arF:Int)-1)) rfl a_ ?_;simp only[go_sem,wZz i];exact fin _ A _ _ hlt (l.trans rfl) B Lq
 have u:¬(i:Int)<(Z' f.arD:Nat):=Om;have:i=Z' f.arD:=Om;subst this;simp only[go_sem,u];exact Up.up Lq (x Z.symm)
def Mx:Spec:=λname vs=>match name,vs with
 |76,[.int _ n,.int _ lo,.int _ hi]=>some ([],λ_=>aK (.bool (within n lo hi)))
 |74,[.agg cs]=>some ([],λ_=>aK (.bool (dS (frD cs))))
 |_,_=>none
theorem My(x:RF):Mx 74 [.agg x.cells]=some ([],λ_=>aK (.bool (dS x))):=by
 show some ([],λ_=>aK (.bool (dS (frD x.cells))))=_;rw[ve]
def Cf(f:aB)(i:Nat)(d:cU):Bool:=
 within d.level 1 4&&(within d.parent 0 i&&(((f.arE.map cU.level).getD d.parent.toNat 0==i_.wrap (d.level-1))&&(within d.arW 1 64&&dS d.arR)))
theorem abH(f:aB)(i:Nat)(d:cU):OB f i d=Cf f i d:=by
 unfold OB Cf;have:decide ((f.arE.map cU.level).getD d.parent.toNat 0=i_.wrap (d.level-1))=((f.arE.map cU.level).getD d.parent.toNat 0==i_.wrap (d.level-1)):=by generalize(f.arE.map cU.level).getD d.parent.toNat 0=u;by_cases h:u=i_.wrap (d.level-1)<;>simp[h]
 rw[this];cases within d.parent 0 i<;>cases within d.level 1 4<;>cases within d.arW 1 64<;>simp
def jZ(f:aB):List (List UInt8):=(f.arE.drop 1).map cU.name
def EK(f:aB)(i:Nat):Bool:=match f.arE[i+1]? with
 |some d=>Cf f i d
 |none=>false
def EL(f:aB):Bool:=(asP (Z' f.arE-1)).all (okL [] (jZ f) (EK f))
theorem Ce(f:aB):(jZ f).length=Z' f.arE-1:=by simp[jZ]
theorem afL(L:yN C)(f:aB)(hf:f.Ok)(ν:Z' f.arE<=40)(h0:0<Z' f.arE)(b:Bool)(K:bP)[Up K](F:PF)(H:PH)
  (hF:(((((((n_.set 1 (.aU f.cells)).set 5 (.aG)).set 6 (.aG)).set 7 (.aG)).set 8 (.bool b)).set 13 (.j 1)):PF).le F)
  (Y:∀w H',kG H' w [] (jZ f) (b&&EL f) (Z' f.arE-1)->K (.exit 4) ((((((n_.set 1 (.aU f.cells)).set 5 (w)).set 6 (.aG)).set 7 (.aG)).set 8 (.bool (b&&EL f)))) H'):aJ.wp C (.loop FQ) K F H:=by
 obtain⟨ok,R⟩:∃ok,okL [] (jZ f) (EK f)=ok:=⟨_,rfl⟩;unfold EL at Y;rw[R]at Y;obtain⟨n,hn⟩:∃n,Z' f.arE=n+1:=⟨Z' f.arE-1,by omega⟩;have θ:=Ce f;have η:Z' f.arE-1=n:=Om;rw[η]at Y θ;refine wp_loop (α:=T3_) (λs=>((((((n_.set 1 (.aU f.cells)).set 5 (s.2.1)).set 6 (.aG)).set 7 (.aG)).set 8 (.bool (b&&(asP s.1).all ok))).set 13 (.j (s.1+1:Nat)))) (λs=>s.2.2) (λs=>s.1<=n/\kG s.2.2 s.2.1 [] (jZ f) (b&&(asP s.1).all ok) s.1) (λs=>n-s.1)
  (0,.aG,H) ⟨asQ _,⟨[],aN.nil.lE 1,λ_=>rfl⟩⟩ (by
   have e:(b&&(asP 0).all ok)=b:=by cases b<;>rfl
   simp only[e];exact hF) b_ ?_
 rintro⟨i,w,H0⟩ ⟨hi,hG⟩;simp only at hi hG ⊢;have fin:∀(c:Bool)(B:PV)(Z:PF)(H':PH),i<n->(b&&(asP (i+1)).all ok)=c->kG H' B [] (jZ f) true (i+1) ->
   (((((((n_.set 1 (.aU f.cells)).set 5 (B)).set 6 (.aG)).set 7 (.aG)).set 8 (.bool c)).set 13 (.j (i+1+1:Nat))):PF).le Z ->
   fK (λs:T3_=>((((((n_.set 1 (.aU f.cells)).set 5 (s.2.1)).set 6 (.aG)).set 7 (.aG)).set 8 (.bool (b&&(asP s.1).all ok))).set 13 (.j (s.1+1:Nat)))) (λs=>s.2.2) (λs=>s.1<=n/\kG s.2.2 s.2.1 [] (jZ f) (b&&(asP s.1).all ok) s.1) (λs=>n-s.1) (n-i) K .normal Z H':=
  λc B Z H' hlt hb γ β=>aE (i+1,B,H') ⟨hlt,γ.uo⟩ sO_ (by simp only;rw[hb];exact β) b_
 have l:=xT (p:=ok) i b;have N:=λh=>xS (p:=ok) (b:=b) hi h;have E:(b&&(asP i).all ok)=(b&&(asP n).all ok)->((b&&(asP i).all ok)=true->i=n)->K (.exit 4) ((((((n_.set 1 (.aU f.cells)).set 5 (w)).set 6 (.aG)).set 7 (.aG)).set 8 (.bool (b&&(asP i).all ok)))) H0:=λe e2=>by
  obtain⟨A,g1,g3⟩:=hG.ex;have:=Y w H0 ⟨A,g1,λh=>by have h':=e.trans h;rw[g3 h',e2 h']⟩
  rwa[<-e]at this
 generalize hc:(b&&(asP i).all ok)=c at *
 simp only[go_sem,FQ,asO];by_cases hlt:i<n
 ·have x:((i+1:Nat):Int)<(Z' f.arE:Nat):=Om;cases c with
  |false =>simp only[go_sem,x];exact Up.up Lq (E (N rfl).symm (λh=>by cases h))
  |true=>
   obtain⟨A,g1,g3⟩:=hG.ex;have J:i+1<Z' f.arE:=Om;have δ:=fP J;have ζ:i<(jZ f).length:=Om;have ι:(jZ f)[i]=(f.arE[i+1]).name:=by simp[jZ,Nat.add_comm]
   have S:ok i=(lL ([]++(jZ f).take i) ((jZ f).getD i [])&&Cf f i f.arE[i+1]):=by rw[<-R];unfold okL EK;rw[asZ J]
   have ε:=hf.dom _ (asS J);rw[S]at l;unfold Cf at l;have e1:i_.wrap (((i+1:Nat):Int)-1)=(i:Nat):=wO_
   have u:i_.wrap (((i+1:Nat):Int)+1)=((i+1+1:Nat):Int):=fI Om;have μ:=L.small _ ε.1.ok;simp only[go_sem,x,δ];refine aQ λo ho=>?_;have g4:=g1.new ho (.rows 7 [(f.arE[i+1]).cells]);have g5:=g4.at 0 rfl;simp only[go_sem];generalize H0.set o (.rows 7 [(f.arE[i+1]).cells])=H2 at *
   try simp only[go_sem,g5]
   refine kG.call L.tovS (ns:=jZ f) g4 (asQ _) Om (g3 rfl) ζ (by simp only[go_sem,ι]) λB H1 h1 y=>?_;have M:=h1.at 0 rfl;generalize lL ([]++(jZ f).take i) ((jZ f).getD i [])=fb at *
   generalize hd:f.arE[i+1]=D at *
   cases fb with
   |false =>simp only[go_sem];refine bE .nil Mx a_ ?_;simp only[go_sem,u];exact fin false B _ _ hlt (l.trans rfl) y Lq
   |true=>
    simp only[go_sem];refine bE .nil Mx a_ ?_;simp only[go_sem,M];refine cJ rfl (L.inn D.level 1 4) Sq a_ ?_;cases W:within D.level 1 4 with
    |false =>simp only[go_sem,u];exact fin false B _ _ hlt (by rw[l,W]<;>simp) y Lq
    |true=>
     simp only[go_sem,M,e1];refine cJ rfl (L.inn D.parent 0 (i:Nat)) Sq a_ ?_;cases X:within D.parent 0 (i:Nat)with
     |false =>simp only[go_sem,u];exact fin false B _ _ hlt (by rw[l,W,X]<;>simp) y Lq
     |true=>
      obtain⟨p0,p1⟩:=within_iff.1 X;obtain⟨p,hp⟩:∃p:Nat,D.parent=p:=⟨D.parent.toNat,by omega⟩;have V:p<Z' f.arE:=Om;obtain⟨lv,O⟩:∃lv,(f.arE.map cU.level).getD D.parent.toNat 0=lv:=⟨_,rfl⟩;have κ:(f.arE[p]).level=lv:=by rw[<-O,hp,auL,getD_at V]
      rw[O]at l;have U:=fP V;simp only[go_sem,M,hp,U,κ];cases k2:lv==i_.wrap (D.level-1)with
      |false =>simp only[go_sem,u];exact fin false B _ _ hlt (by rw[l,W,X,k2]<;>simp) y Lq
      |true=>
       simp only[go_sem,M];refine cJ rfl (L.inn D.arW 1 64) Sq a_ ?_;cases k3:within D.arW 1 64 with
       |false =>simp only[go_sem,u];exact fin false B _ _ hlt (by rw[l,W,X,k2,k3]<;>simp) y Lq
       |true =>simp only[go_sem,M];refine cJ (My _) μ Sq a_ ?_;simp only[go_sem,u];exact fin _ B _ _ hlt (by rw[l,W,X,k2,k3]<;>simp) y Lq
 have x:¬((i+1:Nat):Int)<(Z' f.arE:Nat):=Om;have:i=n:=Om;subst this;simp only[go_sem,x];exact Up.up Lq (E hc.symm (λ_=>rfl))
def Ci(f:aB)(d:eN):Bool:=within d.model 0 ((Z' f.arC:Int)-1)&&(within d.machine 0 ((Z' f.arE:Int)-1)&&((f.arE.map cU.level).getD d.machine.toNat 0==4))
def pX(f:aB):List (List UInt8):=f.arB.map eN.name
def CA(f:aB)(i:Nat):Bool:=match f.arB[i]? with
 |some d=>Ci f d
 |none=>false
def GA(f:aB):Bool:=(asP f.arB.length).all (okL (jZ f) (pX f) (CA f))
theorem Ux(L:yN C)(f:aB)(hf:f.Ok)(μ:Z' f.arE<=40)(h0:0<Z' f.arE)(ν:Z' f.arB<=24)(κ:Z' f.arC<=4)(b:Bool)(w0:PV)(K:bP)[Up K](F:PF)(H:PH)
  (γ:kG H w0 [] (jZ f) b (Z' f.arE-1)) (hF:(((((((n_.set 1 (.aU f.cells)).set 5 (w0)).set 6 (.aG)).set 7 (.aG)).set 8 (.bool b)).set 15 (.j 0)):PF).le F)
  (V:∀H',K (.exit 6) (((((n_.set 1 (.aU f.cells)).set 6 (.aG)).set 7 (.aG)).set 8 (.bool (b&&GA f)))) H'):aJ.wp C (.loop FS) K F H:=by
 obtain⟨ok,O⟩:∃ok,okL (jZ f) (pX f) (CA f)=ok:=⟨_,rfl⟩;unfold GA at V;rw[O]at V;obtain⟨n,hn⟩:∃n,Z' f.arB=n:=⟨_,rfl⟩;have θ:=Ce f;have ι:(pX f).length=n:=by simp[pX,hn]
 rw[hn]at V;refine wp_loop (α:=T3_) (λs=>((((((n_.set 1 (.aU f.cells)).set 5 (s.2.1)).set 6 (.aG)).set 7 (.aG)).set 8 (.bool (b&&(asP s.1).all ok))).set 15 (.j s.1))) (λs=>s.2.2) (λs=>s.1<=n/\kG s.2.2 s.2.1 (jZ f) (pX f) (b&&(asP s.1).all ok) s.1) (λs=>n-s.1)
  (0,w0,H) ⟨asQ _,by
   obtain⟨y,q1,q2⟩:=γ.ex;have e:(b&&(asP 0).all ok)=b:=by cases b<;>rfl
   refine⟨y,q1,λh=>?_⟩;simp only[e]at h;rw[q2 h,awO,atP Om];simp⟩ (by
   have e:(b&&(asP 0).all ok)=b:=by cases b<;>rfl
   simp only[e];exact hF) b_ ?_
 rintro⟨i,w,X⟩ ⟨hi,hG⟩;simp only at hi hG ⊢;have fin:∀(c:Bool)(B:PV)(W:PF)(H':PH),i<n->(b&&(asP (i+1)).all ok)=c->kG H' B (jZ f) (pX f) true (i+1) ->
   (((((((n_.set 1 (.aU f.cells)).set 5 (B)).set 6 (.aG)).set 7 (.aG)).set 8 (.bool c)).set 15 (.j (i+1:Nat))):PF).le W ->
   fK (λs:T3_=>((((((n_.set 1 (.aU f.cells)).set 5 (s.2.1)).set 6 (.aG)).set 7 (.aG)).set 8 (.bool (b&&(asP s.1).all ok))).set 15 (.j s.1))) (λs=>s.2.2) (λs=>s.1<=n/\kG s.2.2 s.2.1 (jZ f) (pX f) (b&&(asP s.1).all ok) s.1) (λs=>n-s.1) (n-i) K .normal W H':=
  λc B W H' hlt hb β Z=>aE (i+1,B,H') ⟨hlt,β.uo⟩ sO_ (by simp only;rw[hb];exact Z) b_
 have l:=xT (p:=ok) i b;have J:=λh=>xS (p:=ok) (b:=b) hi h;have D:(b&&(asP i).all ok)=(b&&(asP n).all ok)->K (.exit 6) (((((n_.set 1 (.aU f.cells)).set 6 (.aG)).set 7 (.aG)).set 8 (.bool (b&&(asP i).all ok)))) X:=λe=>by rw[e];exact V X
 generalize hc:(b&&(asP i).all ok)=c at *
 simp only[go_sem,FS,asO];by_cases hlt:i<n
 ·have u:((i:Nat):Int)<(Z' f.arB:Nat):=Om;cases c with
  |false =>simp only[go_sem,u];exact Up.up Lq (D (J rfl).symm)
  |true=>
   obtain⟨y,g1,g3⟩:=hG.ex;have M:i<Z' f.arB:=Om;have δ:=kC M;have ε:i<(pX f).length:=Om;have ζ:(pX f)[i]=(f.arB[i]).name:=by simp[pX]
   have R:ok i=(lL (jZ f++(pX f).take i) ((pX f).getD i [])&&Ci f f.arB[i]):=by rw[<-O];unfold okL CA;rw[asZ M]
   rw[R]at l;unfold Ci at l;have x:i_.wrap ((i:Int)+1)=((i+1:Nat):Int):=fI Om;have e1:=rz (Om:Z' f.arC<=1000);have e2:=rz (Om:Z' f.arE<=1000);simp only[go_sem,u,δ];refine aQ λo ho=>?_;have g4:=g1.new ho (.rows 3 [(f.arB[i]).cells]);have g5:=g4.at 0 rfl;simp only[go_sem];generalize X.set o (.rows 3 [(f.arB[i]).cells])=H2 at *
   try simp only[go_sem,g5]
   refine kG.call L.tovS (base:=jZ f) (ns:=pX f) g4 Om Om (g3 rfl) ε (by simp only[go_sem,ζ]) λB H1 h1 A=>?_;have Y:=h1.at 0 rfl;generalize lL (jZ f++(pX f).take i) ((pX f).getD i [])=fb at *
   generalize hd:f.arB[i]=E at *
   cases fb with
   |false =>simp only[go_sem,x];exact fin false B _ _ hlt (l.trans rfl) A Lq
   |true=>
    simp only[go_sem,Y,asO,e1];refine aD (L.inn E.model 0 ((Z' f.arC:Int)-1)) rfl ?_;cases k0:within E.model 0 ((Z' f.arC:Int)-1)with
    |false =>simp only[go_sem,x];exact fin false B _ _ hlt (by rw[l,k0]<;>simp) A Lq
    |true=>
     simp only[go_sem,Y,asO,e2];refine aD (L.inn E.machine 0 ((Z' f.arE:Int)-1)) rfl ?_;cases k1:within E.machine 0 ((Z' f.arE:Int)-1)with
     |false =>simp only[go_sem,x];exact fin false B _ _ hlt (by rw[l,k0,k1]<;>simp) A Lq
     |true=>
      obtain⟨p0,p1⟩:=within_iff.1 k1;obtain⟨p,hp⟩:∃p:Nat,E.machine=p:=⟨E.machine.toNat,by omega⟩;have U:p<Z' f.arE:=Om;obtain⟨lv,N⟩:∃lv,(f.arE.map cU.level).getD E.machine.toNat 0=lv:=⟨_,rfl⟩;have η:(f.arE[p]).level=lv:=by rw[<-N,hp,auL,getD_at U]
      rw[N]at l;have S:=fP U;simp only[go_sem,Y,hp,S,η,x];exact fin _ B _ _ hlt (by rw[l,k0,k1]<;>simp) A Lq
 have u:¬((i:Nat):Int)<(Z' f.arB:Nat):=Om;have:i=n:=Om;subst this;simp only[go_sem,u];exact Up.up Lq (D hc.symm)
theorem ff{xs:I_}{k:Nat}(h:k<Z' xs):(xs.map λx=>[PV.int .i64 x])[k]?=some [.j xs[k]]:=by simp[h]
def zpF(f:aB)(w:PV)(o i:Nat)(c:Bool)(j:Nat):PF:=(((((((n_.set 1 (.aU f.cells)).set 6 (w)).set 7 (.aG)).set 8 (.bool c)).set 17 (.int .i64 i)).set 18 (.ptr o 17 0 0)).set 19 (.int .i64 j))
theorem Zx(f:aB)(w:PV)(o i:Nat)(p:bX)(M:Z' p.arC<=9223372036854775807)(j:Nat)(E:j<Z' p.arC)(b:Bool)(K:bP)[Up K](F:PF)(H:PH)(J:H o=some (.rows 17 [p.cells]))(B:((zpF f w o i b j).set 20 (.j 0)).le F)
  (D:K (.exit 12) (zpF f w o i (b&&(p.arC.take j).all λx=>x != p.arC[j]) j) H):aJ.wp C (.loop SL) K F H:=by
 refine wp_loop (α:=Nat) (λk=>(zpF f w o i (b&&(p.arC.take k).all λx=>x != p.arC[j]) j).set 20 (.j k)) (λ_=>H) (λk=>k<=j) (λk=>j-k) 0 (asQ _) (by
   have e:(b&&(p.arC.take 0).all λx=>x != p.arC[j])=b:=by cases b<;>rfl
   simp only[e];exact B) b_ ?_
 intro k L;have y:∀h:k<Z' p.arC,(b&&(p.arC.take (k+1)).all λx=>x != p.arC[j])=((b&&(p.arC.take k).all λx=>x != p.arC[j])&&(p.arC[k] != p.arC[j])):=λh=>by rw[atW h,awG];simp[awF]
 have fin:∀(c:Bool)(A:PF),k<j->(b&&(p.arC.take (k+1)).all λx=>x != p.arC[j])=c->((zpF f w o i c j).set 20 (.j (k+1:Nat))).le A->fK (λk:Nat=>(zpF f w o i (b&&(p.arC.take k).all λx=>x != p.arC[j]) j).set 20 (.j k)) (λ_=>H) (λk=>k<=j) (λk=>j-k) (j-k) K .normal A H:=
  λc A hlt e h=>aE (k+1) hlt Om (by rw[e];exact h) b_
 unfold zpF at fin;simp only[go_sem,SL,zpF];by_cases hlt:k<j
 ·have l:(k:Int)<(j:Nat):=Om;have u:k<Z' p.arC:=Om;have y:=y u;generalize(b&&(p.arC.take k).all λx=>x != p.arC[j])=c at *
  simp only[go_sem,l];refine bE .nil cR a_ ?_;cases c with
  |false =>simp only[go_sem,wZz k];exact fin false _ hlt (y.trans rfl) Lq
  |true =>simp only[go_sem,J,ff u,ff E,wZz k];exact fin _ _ hlt (y.trans rfl) Lq
 ·have l:¬(k:Int)<(j:Nat):=Om;have:k=j:=Om;subst this;simp only[go_sem,l];exact Up.up (by(repeat' (first|exact c_|refine e_ ?_ ?_))<;>first|(simp only[go_sem,zpF]<;>rfl)|rfl) D
def QM(arC:Nat)(ms:I_)(j:Nat):Bool:=within (ms.getD j 0) 0 ((arC:Int)-1)&&(ms.take j).all λx=>x != ms.getD j 0
theorem Uu(L:yN C)(f:aB)(W:Z' f.arC<=4)(w:PV)(o i:Nat)(p:bX)(V:Z' p.arC<=9223372036854775807)(b:Bool)(K:bP)[Up K](F:PF)(H:PH)(E:H o=some (.rows 17 [p.cells]))(O:(zpF f w o i b 0).le F)
  (M:K (.exit 10) ((((((n_.set 1 (.aU f.cells)).set 6 (w)).set 7 (.aG)).set 8 (.bool (b&&(asP p.arC.length).all (QM f.arC.length p.arC)))).set 17 (.j i))) H):aJ.wp C (.loop FT) K F H:=by
 obtain⟨ok,B⟩:∃ok,QM f.arC.length p.arC=ok:=⟨_,rfl⟩;rw[B]at M;refine wp_loop (α:=Nat) (λj=>zpF f w o i (b&&(asP j).all ok) j) (λ_=>H) (λj=>j<=Z' p.arC) (λj=>Z' p.arC-j) 0 (asQ _) (by
   have e:(b&&(asP 0).all ok)=b:=by cases b<;>rfl
   simp only[e];exact O) b_ ?_
 intro j U;have u:=xT (p:=ok) j b;have A:=λh=>xS (p:=ok) (b:=b) U h;have fin:∀(c:Bool)(D:PF),j<Z' p.arC->(b&&(asP (j+1)).all ok)=c->(zpF f w o i c (j+1)).le D->fK (λj:Nat=>zpF f w o i (b&&(asP j).all ok) j) (λ_=>H) (λj=>j<=Z' p.arC) (λj=>Z' p.arC-j) (Z' p.arC-j) K .normal D H:=
  λc D hlt e h=>aE (j+1) hlt Om (by rw[e];exact h) b_
 unfold zpF at fin;have y:(b&&(asP j).all ok)=(b&&(asP p.arC.length).all ok)->K (.exit 10) ((((((n_.set 1 (.aU f.cells)).set 6 (w)).set 7 (.aG)).set 8 (.bool (b&&(asP j).all ok))).set 17 (.j i))) H:=λe=>by rw[e];exact M
 generalize R:(b&&(asP j).all ok)=c at *
 simp only[go_sem,FT,zpF,E,asO];by_cases hlt:j<Z' p.arC
 ·have l:(j:Int)<(Z' p.arC:Nat):=Om;cases c with
  |false =>simp only[go_sem,l];exact Up.up Lq (y (A rfl).symm)
  |true=>
   have N:=rz (Om:Z' f.arC<=1000);have S:p.arC.getD j 0=p.arC[j]:=by simp[asW,hlt]
   have J:ok j=(within p.arC[j] 0 ((Z' f.arC:Int)-1)&&(p.arC.take j).all λx=>x != p.arC[j]):=by rw[<-B];unfold QM;rw[S]
   rw[J]at u;simp only[go_sem,l];refine bE .nil Mx a_ ?_;simp only[go_sem,E,ff hlt,asO,N];refine cJ rfl (L.inn p.arC[j] 0 ((Z' f.arC:Int)-1)) Sq a_ ?_;simp only[go_sem];refine Zx f w o i p V j hlt (within p.arC[j] 0 ((Z' f.arC:Int)-1)) _ _ _ E (by(repeat' (first|exact c_|refine e_ ?_ ?_))<;>first|(simp only[go_sem,zpF]<;>rfl)|rfl) ?_;simp only[go_sem,zpF,wZz j];exact fin _ _ hlt (u.trans rfl) Lq
 ·have l:¬(j:Int)<(Z' p.arC:Nat):=Om;have:j=Z' p.arC:=Om;subst this;simp only[go_sem,l];exact Up.up Lq (y R.symm)
def Es(arC:Nat)(p:bX):Bool:=QF p.k p.m p.asA p.s0 p.s1 p.s2 p.s3 p.s4&&(UI p.m p.repair p.target p.arM&&(decide (Z' p.arC>0)&&(asP p.arC.length).all (QM arC p.arC)))
theorem adP(arC:Nat)(p:bX):lN arC p=Es arC p:=by
 unfold lN Es;rw[adH,agL];have e:decide (Z' p.arC≠0)=decide (Z' p.arC>0):=decide_eq_decide.2 Om;have i:(asP p.arC.length).all (λj=>within (p.arC.getD j 0) 0 ((arC:Int)-1)&&!(p.arC.take j).contains (p.arC.getD j 0))=(asP p.arC.length).all (QM arC p.arC):=by
  congr 1;funext j;unfold QM;congr 1;generalize p.arC.getD j 0=x
  induction p.arC.take j with
  |nil=>rfl
  |cons a t l =>rw[List.contains_cons,awS,<-l,Bool.not_or,bne,BEq.comm]
 rw[e,i];cases QF p.k p.m p.asA p.s0 p.s1 p.s2 p.s3 p.s4<;>cases UI p.m p.repair p.target p.arM<;>cases decide (Z' p.arC>0)<;>simp
structure sm(C:Ctx):Prop extends yN C where
 dur:∀(m:Int)(rep:List RF),pC rep->∀t h:RF,t.Ok->h.Ok->aH C 69 [.int .i64 m,frs rep,.agg t.cells,.agg h.cells] .nil (aK (.bool (UI m rep t h)))
def oP(f:aB):List (List UInt8):=f.arF.map bX.name
def QL(f:aB)(i:Nat):Bool:=match f.arF[i]? with
 |some p=>Es f.arC.length p
 |none=>false
def og(f:aB):Bool:=(asP f.arF.length).all (okL [] (oP f) (QL f))
theorem afN(L:sm C)(f:aB)(hf:f.Ok)(ζ:Z' f.arF<=4)(γ:Z' f.arC<=4)(b:Bool)(K:bP)[Up K](F:PF)(H:PH)
  (hF:((((((n_.set 1 (.aU f.cells)).set 6 (.aG)).set 7 (.aG)).set 8 (.bool b)).set 17 (.j 0)):PF).le F)
  (V:∀H',K (.exit 8) ((((n_.set 1 (.aU f.cells)).set 7 (.aG)).set 8 (.bool (b&&og f)))) H'):aJ.wp C (.loop FU) K F H:=by
 obtain⟨ok,J⟩:∃ok,okL [] (oP f) (QL f)=ok:=⟨_,rfl⟩;unfold og at V;rw[J]at V;have ε:(oP f).length=Z' f.arF:=by simp[oP]
 refine wp_loop (α:=T3_) (λs=>(((((n_.set 1 (.aU f.cells)).set 6 (s.2.1)).set 7 (.aG)).set 8 (.bool (b&&(asP s.1).all ok))).set 17 (.j s.1))) (λs=>s.2.2) (λs=>s.1<=Z' f.arF/\kG s.2.2 s.2.1 [] (oP f) (b&&(asP s.1).all ok) s.1) (λs=>Z' f.arF-s.1)
  (0,.aG,H) ⟨asQ _,⟨[],aN.nil.lE 1,λ_=>rfl⟩⟩ (by
   have e:(b&&(asP 0).all ok)=b:=by cases b<;>rfl
   simp only[e];exact hF) b_ ?_
 rintro⟨i,w,R⟩ ⟨hi,hG⟩;simp only at hi hG ⊢;have fin:∀(c:Bool)(A:PV)(B:PF)(H':PH),i<Z' f.arF->(b&&(asP (i+1)).all ok)=c->kG H' A [] (oP f) true (i+1) ->
   ((((((n_.set 1 (.aU f.cells)).set 6 (A)).set 7 (.aG)).set 8 (.bool c)).set 17 (.j (i+1:Nat))):PF).le B ->
   fK (λs:T3_=>(((((n_.set 1 (.aU f.cells)).set 6 (s.2.1)).set 7 (.aG)).set 8 (.bool (b&&(asP s.1).all ok))).set 17 (.j s.1))) (λs=>s.2.2) (λs=>s.1<=Z' f.arF/\kG s.2.2 s.2.1 [] (oP f) (b&&(asP s.1).all ok) s.1) (λs=>Z' f.arF-s.1) (Z' f.arF-i) K .normal B H':=
  λc A B H' hlt hb S D=>aE (i+1,A,H') ⟨hlt,S.uo⟩ sO_ (by simp only;rw[hb];exact D) b_
 have l:=xT (p:=ok) i b;have E:=λh=>xS (p:=ok) (b:=b) hi h;have y:(b&&(asP i).all ok)=(b&&(asP f.arF.length).all ok)->K (.exit 8) ((((n_.set 1 (.aU f.cells)).set 7 (.aG)).set 8 (.bool (b&&(asP i).all ok)))) R:=λe=>by rw[e];exact V R
 generalize hc:(b&&(asP i).all ok)=c at *
 simp only[go_sem,FU,asO];by_cases hlt:i<Z' f.arF
 ·have u:(i:Int)<(Z' f.arF:Nat):=Om;cases c with
  |false =>simp only[go_sem,u];exact Up.up Lq (y (E rfl).symm)
  |true=>
   obtain⟨δ,g1,g3⟩:=hG.ex;have W:=lG hlt;have Z:i<(oP f).length:=Om;have β:(oP f)[i]=(f.arF[i]).name:=by simp[oP]
   have M:ok i=(lL ([]++(oP f).take i) ((oP f).getD i [])&&Es f.arC.length f.arF[i]):=by rw[<-J];unfold okL QL;rw[asZ hlt]
   have x:=hf.arO _ (asS hlt);rw[M]at l;unfold Es at l;have N:i_.wrap ((i:Int)+1)=((i+1:Nat):Int):=fI Om;simp only[go_sem,u,W];refine aQ λo ho=>?_;have g4:=g1.new ho (.rows 17 [(f.arF[i]).cells]);have g5:=g4.at 0 rfl;simp only[go_sem];generalize R.set o (.rows 17 [(f.arF[i]).cells])=H2 at *
   try simp only[go_sem,g5]
   refine kG.call L.tovS (ns:=oP f) g4 (asQ _) Om (g3 rfl) Z (by simp only[go_sem,β]) λA H1 h1 U=>?_;have O:=h1.at 0 rfl;generalize lL ([]++(oP f).take i) ((oP f).getD i [])=fb at *
   generalize hd:f.arF[i]=p at *
   have rest:∀(c:Bool)(B:PF),(zpF f A o i c 0).le B->(c&&(asP p.arC.length).all (QM f.arC.length p.arC))=(b&&(asP (i+1)).all ok) ->
     aJ.wp C (.loop FT) (fL 10 (fL 9 (gL C (aJ.wp C (.region SP)) (fK (λs:T3_=>(((((n_.set 1 (.aU f.cells)).set 6 (s.2.1)).set 7 (.aG)).set 8 (.bool (b&&(asP s.1).all ok))).set 17 (.j s.1))) (λs=>s.2.2) (λs=>s.1<=Z' f.arF/\kG s.2.2 s.2.1 [] (oP f) (b&&(asP s.1).all ok) s.1) (λs=>Z' f.arF-s.1) (Z' f.arF-i) K)))) B H1:=by
    intro c B D X;refine Uu L.toyN f γ A o i p x.arC c _ _ _ O D ?_;rw[X];simp only[go_sem,SP,N];exact fin _ A _ _ hlt rfl U Lq
   cases fb with
   |false =>simp only[go_sem];exact rest false _ (by(repeat' (first|exact c_|refine e_ ?_ ?_))<;>first|(simp only[go_sem,zpF]<;>rfl)|rfl) (by rw[l];rfl)
   |true=>
    simp only[go_sem,O];refine aD (L.nums p.k p.m p.asA p.s0 p.s1 p.s2 p.s3 p.s4) Sq ?_;cases k0:QF p.k p.m p.asA p.s0 p.s1 p.s2 p.s3 p.s4 with
    |false =>simp only[go_sem];exact rest false _ (by(repeat' (first|exact c_|refine e_ ?_ ?_))<;>first|(simp only[go_sem,zpF]<;>rfl)|rfl) (by rw[l,k0];rfl)
    |true=>
     simp only[go_sem,O];refine aD (L.dur p.m p.repair x.repair p.target p.arM x.target.ok x.arM.ok) Sq ?_;cases k1:UI p.m p.repair p.target p.arM with
     |false =>simp only[go_sem];exact rest false _ (by(repeat' (first|exact c_|refine e_ ?_ ?_))<;>first|(simp only[go_sem,zpF]<;>rfl)|rfl) (by rw[l,k0,k1];rfl)
     |true =>have Y:decide ((Z' p.arC:Int)>0)=decide (Z' p.arC>0):=decide_eq_decide.2 Om;simp only[go_sem,O,asO,Y];exact rest _ _ (by(repeat' (first|exact c_|refine e_ ?_ ?_))<;>first|(simp only[go_sem,zpF]<;>rfl)|rfl) (by rw[l,k0,k1];rfl)
 ·have u:¬(i:Int)<(Z' f.arF:Nat):=Om;have:i=Z' f.arF:=Om;subst this;simp only[go_sem,u];exact Up.up Lq (y hc.symm)
def wO(r:cU):Bool:=(r.name==[])&&((r.level==0)&&((r.parent==-1)&&((r.arW==0)&&(fZ (val r.arR.num) (val r.arR.den)&&(xR r.arR==0)))))
def N1(f:aB):Bool:=match f.arE with
 |[]=>false
 |r::_=>wO r
def X3(f:aB):Bool:=within f.asG 1 4&&(vM f.arJ.length f.arC.length f.arE.length f.arB.length f.arF.length f.arD.length&&(decide (0<Z' f.arE)&&((((((PA f&&GI f)&&N1 f)&&EL f)&&GA f)&&og f)&&A3 f)))
theorem Iy(n:Nat)(p q:Nat->Bool):(asP n).all (λi=>p i&&q i)=((asP n).all p&&(asP n).all q):=by
 induction n with
 |zero=>rfl
 |succ n e =>simp only[avH,awG,e,awS,List.all_nil,avK];cases(asP n).all p<;>cases(asP n).all q<;>cases p n<;>simp
theorem GX{α:Type}(l:List α)(p:α->Bool):(asP l.length).all (λi=>(l.map p).getD i false)=l.all p:=by
 refine Bool.eq_iff_iff.2 ?_;rw[atI,atI];constructor;intro h x e;obtain⟨i,hi,rfl⟩:=auG e;have:=h i (atQ.2 hi);simpa[asW,hi]using this;intro h i hi;have hi:=atQ.1 hi;simp[asW,hi,h _ (asS hi)]
theorem MW(ns:List (List UInt8))(n:Nat)(e:Z' ns=n)(P:Nat->Bool):(asP n).all (okL [] ns P)=(distinct ns&&(asP n).all P):=by
 subst e;have:okL [] ns P=λi=>(isName (ns.getD i [])&&!(ns.take i).contains (ns.getD i []))&&P i:=by funext i;rfl
 rw[this,Iy];rfl
theorem adJ(base ns:List (List UInt8))(P Q:Nat->Bool):((asP base.length).all (okL [] base P)&&(asP ns.length).all (okL base ns Q))=(distinct (base++ns)&&((asP base.length).all P&&(asP ns.length).all Q)):=by
 have e:okL base ns Q=λi=>(isName (ns.getD i [])&&!(base++ns.take i).contains (ns.getD i []))&&Q i:=by funext i;rfl
 have e2:distinct (base++ns)=(distinct base&&(asP ns.length).all λi=>isName (ns.getD i [])&&!(base++ns.take i).contains (ns.getD i [])):=by
  unfold distinct;rw[asX,List.range_add,awG,List.all_map];congr 1;refine Bool.eq_iff_iff.2 ?_;rw[atI,atI];refine forall_congr' λi=>forall_congr' λhi=>?_;have hi:=atQ.1 hi;have a1:(base++ns).getD i []=base.getD i []:=by simp only[asW];rw[avM hi]
  have a2:(base++ns).take i=base.take i:=by rw[List.take_append_of_le_length Om]
  rw[a1,a2];refine Bool.eq_iff_iff.2 ?_;rw[atI,atI];refine forall_congr' λi=>forall_congr' λ_=>?_;have a1:(base++ns).getD (Z' base+i) []=ns.getD i []:=by simp only[asW];rw[auS Om];congr 2;omega
  have a2:(base++ns).take (Z' base+i)=base++ns.take i:=by rw[List.take_append,atP Om];congr 2;omega
  simp only[Function.comp,a1,a2]
 rw[MW base base.length rfl P,e,Iy,e2];cases distinct base<;>cases(asP base.length).all P<;>simp
theorem X8(r:cU):(decide (r.name=[])&&decide (r.level=0)&&decide (r.parent=-1)&&decide (r.arW=0)&&dS r.arR&&!bY r.arR)=wO r:=by
 have u:decide (r.name=[])=(r.name==[]):=by cases r.name<;>rfl
 have w:decide (r.level=0)=(r.level==0):=by generalize r.level=x;by_cases h:x=0<;>simp[h]
 have y:decide (r.parent=-1)=(r.parent==-1):=by generalize r.parent=x;by_cases h:x=-1<;>simp[h]
 have A:decide (r.arW=0)=(r.arW==0):=by generalize r.arW=x;by_cases h:x=0<;>simp[h]
 have h5:(dS r.arR&&!bY r.arR)=(fZ (val r.arR.num) (val r.arR.den)&&(xR r.arR==0)):=by
  rw[RB];by_cases h:val r.arR.num=0
  ·have i:bY r.arR=false:=by unfold bY;simp[h]
   rw[i];simp only[atH,avK];cases e:fZ (val r.arR.num) (val r.arR.den)with
   |false =>unfold dS DY;rw[e];rfl
   |true=>
    obtain⟨B,-,-⟩:=mV.1 e;unfold dS DY;rw[e,aF rfl,fp e,h];unfold rE;have hb:val r.arR.den/asR 0 (val r.arR.den)=1:=by rw[Nat.gcd_zero_left,Nat.div_self (awA B)]
    have l:fM (0/asR 0 (val r.arR.den))=0:=by rw[Nat.zero_div];exact sK
    have b1:fM 1=1:=by rw[HA aR,sK]
    simp only[hb,l,b1];simp
  have i:bY r.arR=true:=by unfold bY;simp[h]
  rw[i];simp
 unfold wO;rw[u,w,y,A];simp only[awF]at h5 ⊢;rw[h5]
theorem Vt(f:aB){r:cU}{t:List cU}(h:f.arE=r::t):IZ f r t=(wO r&&(asP t.length).all (EK f)):=by
 unfold IZ;rw[X8];congr 2;funext i;unfold EK;rw[h,List.getElem?_cons_succ];cases t[i]? with
 |none=>rfl
 |some d=>exact abH f i d
theorem Qs(f:aB):f.arB.all (kR f)=(asP f.arB.length).all (CA f):=by
 have:CA f=λi=>(f.arB.map (kR f)).getD i false:=by
  funext i;unfold CA;rw[asW,atC];cases f.arB[i]? with
  |none=>rfl
  |some d=>
   show Ci f d=kR f d;unfold Ci kR;have:decide ((f.arE.map cU.level).getD d.machine.toNat 0=4)=((f.arE.map cU.level).getD d.machine.toNat 0==4):=by generalize(f.arE.map cU.level).getD d.machine.toNat 0=u;by_cases h:u=4<;>simp[h]
   rw[this,awF]
 rw[this,GX]
theorem Sm(f:aB):f.arF.all (lN f.arC.length)=(asP f.arF.length).all (QL f):=by
 have:QL f=λi=>(f.arF.map (lN f.arC.length)).getD i false:=by
  funext i;unfold QL;rw[asW,atC];cases f.arF[i]? with
  |none=>rfl
  |some d=>exact(adP _ d).symm
 rw[this,GX]
theorem adZ(f:aB):X3 f=cI f:=by
 have M:tq f.arJ.length=nB f:=by funext m;unfold tq nB;rw[awF]
 have B:Gp f.arF.length=tJ f:=rfl;have N:(within f.asG 1 4&&vM f.arJ.length f.arC.length f.arE.length f.arB.length f.arF.length f.arD.length)=sE f:=by unfold sE vM;simp only[awF]
 unfold X3 cI PA GI og A3;rw[MW _ _ (by rw[asO]),MW _ _ (by rw[asO]),MW _ _ (by rw[oP,asO]),MW _ _ (by rw[asO]),GX,GX,GX,M,B,Sm,Qs,<-awF,N];unfold sU N1;cases l:f.arE with
 |nil=>simp
 |cons r t=>
  have i:decide (0<Z' f.arE)=true:=by rw[l];simp
  rw[l]at i;rw[i,atJ];simp only;rw[Vt f l];have A:jZ f=(f.arE.drop 1).map cU.name:=rfl;rw[l]at A;have L:(jZ f).length=Z' t:=by rw[A];simp
  have two:=adJ (jZ f) (pX f) (EK f) (CA f);rw[L,show(pX f).length=f.arB.length by simp[pX]]at two;have K:EL f=(asP t.length).all (okL [] (jZ f) (EK f)):=by unfold EL;rw[l];rfl
  have e2:GA f=(asP f.arB.length).all (okL (jZ f) (pX f) (CA f)):=rfl;rw[K,e2,<-A];rw[show f.arB.map eN.name=pX f from rfl,show f.arF.map bX.name=oP f from rfl];generalize(asP t.length).all (okL [] (jZ f) (EK f))=a at *
  generalize(asP f.arB.length).all (okL (jZ f) (pX f) (CA f))=b at *
  generalize distinct (jZ f++pX f)=c at *
  generalize(asP t.length).all (EK f)=d at *
  generalize(asP f.arB.length).all (CA f)=e at *
  generalize sE f=s;generalize wO r=ro;generalize distinct (f.arJ.map cV.name)=u;generalize f.arJ.all nA=w;generalize distinct (f.arC.map dN.name)=x;generalize f.arC.all (nB f)=y;generalize distinct (oP f)=D;generalize(asP f.arF.length).all (QL f)=E;generalize distinct (f.arD.map gD.name)=F;generalize f.arD.all (tJ f)=J;have:(s&&(((((((u&&w)&&(x&&y))&&ro)&&a)&&b)&&(D&&E))&&(F&&J)))=(s&&(ro&&((u&&w)&&((x&&y)&&((a&&b)&&((D&&E)&&(F&&J))))))):=by cases s<;>cases ro<;>cases u<;>cases w<;>cases x<;>cases y<;>simp[awF]
  rw[this,two];cases s<;>cases ro<;>cases u<;>cases w<;>cases x<;>cases y<;>cases c<;>cases d<;>cases e<;>simp;cases D<;>cases E<;>cases F<;>cases J<;>rfl
theorem X7(f:aB)(h:0<Z' f.arE):N1 f=wO f.arE[0]:=by
 obtain⟨a,b,c,d,e,g,i⟩:=f;cases d with
 |nil=>simp at h
 |cons r t=>rfl
theorem yx(L:sm C)(f:aB)(u:f.Ok):cx.wp C (aV dK.res (aK (.bool (cI f)))) (g_ [.agg f.cells]) .nil:=by
 have l:=adZ f;unfold X3 at l;have fail:∀(F:PF)(H:PH),cI f=false->F 2=some (.bool false)->aV [.tmp 2] (aK (.bool (cI f))) .ret F H:=λF H e h=>by rw[e];exact bM (vs:=[.bool false]) (.inr rfl) .nil (by simp only[go_sem,h]) a_ ⟨rfl,rfl⟩
 simp only[go_sem,cx,dK];refine aD (L.inn f.asG 1 4) Sq ?_;cases W:within f.asG 1 4 with
 |false =>rw[W,atE]at l;simp only[go_sem,atH];exact fail _ _ l.symm Sq
 |true=>
 rw[W,atJ]at l;simp only[go_sem,asY,asO];refine aD (L.sizes f.arJ.length f.arC.length f.arE.length f.arB.length f.arF.length f.arD.length) Sq ?_;cases E:vM f.arJ.length f.arC.length f.arE.length f.arB.length f.arF.length f.arD.length with
 |false =>rw[E,atE]at l;simp only[go_sem,atH];exact fail _ _ l.symm Sq
 |true=>
 rw[E,atJ]at l;obtain⟨O,B,D,R,S,α⟩:=WL E;by_cases h0:Z' f.arE=0;rw[bD Om,atE]at l;simp only[go_sem,asY,asO,bR (Om:(Z' f.arE:Int)=0)];exact fail _ _ l.symm Sq;have i:0<Z' f.arE:=Om;rw[aW i,atJ]at l;simp only[go_sem,asY,asO,bH (Om:(Z' f.arE:Int)≠0)];refine afM L.toyN f u O _ _ _ Lq λH1=>?_;simp only[go_sem];refine Uy L.toyN f u E (PA f) _ _ _ Lq λH2=>?_;have M:=fP i;have A:=(u.dom _ (asS i)).1;have N:=X7 f i;rw[N]at l;generalize f.arE[0]=r at *
 have rest:∀(c:Bool)(F:PF)(H:PH),((((((n_.set 1 (.aU f.cells)).set 5 (.aG)).set 6 (.aG)).set 7 (.aG)).set 8 (.bool c)):PF).le F->c=((PA f&&GI f)&&wO r) ->
   aJ.wp C (.seq (.seq (.region SM) (.block 4 (.loop FQ))) (.seq (.seq (.region SN) (.block 6 (.loop FS))) (.seq (.seq (.region SO) (.block 8 (.loop FU))) (.seq (.seq (.region SQ) (.block 14 (.loop FW))) (.seq (.region SR) .ret))))) (aV [.tmp 2] (aK (.bool (cI f)))) F H:=by
  intro c F H Y hc;refine jL _ (λ_ _ _ _ a b=>Up.up a b) Y ?_;simp only[go_sem,SM];refine afL L.toyN f u D i c _ _ _ Lq λw X Z=>?_;simp only[go_sem,SN];refine Ux L.toyN f u D i R B (c&&EL f) w _ _ _ Z Lq λH4=>?_;simp only[go_sem,SO];refine afN L f u S B ((c&&EL f)&&GA f) _ _ _ Lq λH5=>?_;simp only[go_sem,SQ];refine afO L.toyN f u E (((c&&EL f)&&GA f)&&og f) _ _ _ Lq λH6=>?_;simp only[go_sem,SR];refine bM (vs:=[.bool (cI f)]) (.inr rfl) .nil ?_ a_ ⟨rfl,rfl⟩;rw[<-l,hc];simp only[go_sem]
 simp only[aJ.wp,go_sem]at rest;simp only[go_sem,M];refine aQ λo ho=>?_;have g0:(H2.set o (.rows 7 [r.cells])) o=some (.rows 7 [r.cells]):=bK ..;simp only[go_sem];generalize H2.set o (.rows 7 [r.cells])=X at *
 cases x:(PA f&&GI f)with
 |false =>simp only[go_sem];exact rest false _ _ Lq (by rw[x];rfl)
 |true=>
  simp only[go_sem,g0];cases y:r.name==[]with
  |false =>simp only[go_sem];exact rest false _ _ Lq (by rw[x];unfold wO;rw[y];rfl)
  |true=>
   simp only[go_sem,g0];cases J:r.level==0 with
   |false =>simp only[go_sem];exact rest false _ _ Lq (by rw[x];unfold wO;rw[y,J];rfl)
   |true=>
    simp only[go_sem,g0];cases K:r.parent==-1 with
    |false =>simp only[go_sem];exact rest false _ _ Lq (by rw[x];unfold wO;rw[y,J,K];rfl)
    |true=>
     simp only[go_sem,g0];cases U:r.arW==0 with
     |false =>simp only[go_sem];exact rest false _ _ Lq (by rw[x];unfold wO;rw[y,J,K,U];rfl)
     |true=>
      simp only[go_sem,g0];refine aD (L.valid _ A.ok) Sq ?_;cases V:fZ (val r.arR.num) (val r.arR.den)with
      |false =>simp only[go_sem];exact rest false _ _ Lq (by rw[x];unfold wO;rw[y,J,K,U,V];rfl)
      |true =>simp only[go_sem,g0];refine aD (L.sign _ A.ok V) Sq ?_;simp only[go_sem];exact rest _ _ _ Lq (by rw[x];unfold wO;rw[y,J,K,U,V];rfl)

theorem BB.move{f:aB}{L:L2_}(h:BB f L){x k d:Nat}(w:x<Z' L)(A:d<Z' f.arB):BB f (L.set x (L[x].set k d)):=by
 refine⟨by rw[auD];exact h.len,λv u=>?_,λr i=>?_⟩;rw[auD]at u;have:=h.row v u;rw[List.getElem_set];split;rename_i e;subst e;rw[auD];exact this;exact this;rcases axB i with i|rfl
 exact h.home r i;intro y l;rcases axB l with l|rfl
 exact h.home _ (asS w) y l;omega

theorem Vw(l:I_)(u:Fits l):lj.wp C (aV zq.res (aK (.bool true))) (g_ [ints l,ints l]) .nil:=by
 have w:Z' l<=9223372036854775807:=u;simp only[go_sem,lj,zq,asO,cB (show(Z' l:Int)=(Z' l:Nat)from rfl)];refine wp_loop (α:=Nat) (λk=>(((n_.set 0 (ints l)).set 1 (ints l)).set 5 (.j k))) (λ_=>.nil) (λk=>k<=Z' l) (λk=>Z' l-k) 0 (asQ _) Lq a_ ?_;intro k y;simp only[go_sem,asO];by_cases hlt:k<Z' l;have e:(k:Int)<(Z' l:Nat):=Om;have i:(l.map λx=>[PV.int .i64 x])[k]?=some [.j l[k]]:=by simp[hlt]
 simp only[go_sem,e];refine bE .nil cR a_ ?_;simp only[go_sem,i,cB (show l[k]=l[k]from rfl),wZz k];exact aE (k+1) hlt Om Lq b_;have e:¬(k:Int)<(Z' l:Nat):=Om;simp only[go_sem,e];refine eD ?_;rfl
structure NK(C:Ctx):Prop where
 fz:Kw C
 r0:bQ C 0 eG
 r1:bQ C 1 Ae
 r2:bQ C 2 kZ
 r3:bQ C 3 iF
 r4:bQ C 4 EZ
 r5:bQ C 5 Nf
 r6:bQ C 6 Ah
 r7:bQ C 7 mS
 r27:bQ C 27 nr
 r28:bQ C 28 gk
 r29:bQ C 29 Af
 r30:bQ C 30 Ot
 r31:bQ C 31 Au
 r32:bQ C 32 Ou
 r33:bQ C 33 udiv
 r34:bQ C 34 Oy
 r35:bQ C 35 Av
 r36:bQ C 36 O0
 r37:bQ C 37 O3
 r38:bQ C 38 KF
 r39:bQ C 39 eH
 r40:bQ C 40 tH
 r41:bQ C 41 qq
 r42:bQ C 42 lT
 r43:bQ C 43 qY
 r44:bQ C 44 nI
 r45:bQ C 45 uup
 r46:bQ C 46 Gj
 r47:bQ C 47 O8
 r48:bQ C 48 rc
 r49:bQ C 49 A2
 r50:bQ C 50 rg
 r51:bQ C 51 ri
 r52:bQ C 52 ZE
 r53:bQ C 53 A4
 r54:bQ C 54 A5
 r55:bQ C 55 BW
 r56:bQ C 56 rt
 r57:bQ C 57 A1
 r58:bQ C 58 qG
 r59:bQ C 59 A6
 r60:bQ C 60 rr
 r61:bQ C 61 JO
 r62:bQ C 62 ZG
 r63:bQ C 63 rx
 r64:bQ C 64 ZF
 r65:bQ C 65 ZH
 r66:bQ C 66 Pk
 r67:bQ C 67 dK
 r68:bQ C 68 kA
 r69:bQ C 69 Ph
 r70:bQ C 70 r9
 r71:bQ C 71 sa
 r72:bQ C 72 SI
 r73:bQ C 73 sb
 r74:bQ C 74 sd
 r75:bQ C 75 ZI
 r76:bQ C 76 NJ
 r77:bQ C 77 QY
 r80:bQ C 80 vL
 r81:bQ C 81 YW
 r82:bQ C 82 Ap
 r83:bQ C 83 pw
 r84:bQ C 84 nZ
 r85:bQ C 85 rO
 r87:bQ C 87 nM
 r88:bQ C 88 po
 r89:bQ C 89 N9
 r90:bQ C 90 iZ
 r94:bQ C 94 zq
 r95:bQ C 95 vC
 r96:bQ C 96 gK
 r98:bQ C 98 zx
 r99:bQ C 99 zy
 r100:bQ C 100 zz
 r102:bQ C 102 oK
 r103:bQ C 103 mg
 r104:bQ C 104 gin
 r106:bQ C 106 Mj
 r107:bQ C 107 z8
 r108:bQ C 108 Aa
 r109:bQ C 109 mj
 r110:bQ C 110 Ab
 r111:bQ C 111 Cy
 r112:bQ C 112 Mk
 r123:bQ C 123 ni
 r124:bQ C 124 UU
 r125:bQ C 125 UY
 r126:bQ C 126 MT
 r150:bQ C 150 qf
 r151:bQ C 151 qb
 r152:bQ C 152 JW
 r154:bQ C 154 kM
 r156:bQ C 156 Ar
 r157:bQ C 157 oC
 r158:bQ C 158 fU
 r159:bQ C 159 qk
 r160:bQ C 160 NG
 r161:bQ C 161 qi
 r201:bQ C 201 nP
 r203:bQ C 203 kw
 r205:bQ C 205 call17
 r206:bQ C 206 gO
 r207:bQ C 207 YG
 r210:bQ C 210 zp
 r211:bQ C 211 kQ
 r212:bQ C 212 zr
 r213:bQ C 213 uI
 r215:bQ C 215 MZ
 r216:bQ C 216 iu
 r217:bQ C 217 pn
 r218:bQ C 218 Fb
 r219:bQ C 219 fY
 r220:bQ C 220 Am
 r299:bQ C 299 n8
 r300:bQ C 300 oa
 r302:bQ C 302 n6
 r303:bQ C 303 HW
 r304:bQ C 304 oi
 r305:bQ C 305 Nr
 r306:bQ C 306 oo
 r307:bQ C 307 jC
 r308:bQ C 308 sA
 r309:bQ C 309 oj
 r364:bQ C 364 dY
 r367:bQ C 367 mR
 r368:bQ C 368 YM
 r369:bQ C 369 PD
 r370:bQ C 370 uH
 r371:bQ C 371 jS
 r375:bQ C 375 k8
 r378:bQ C 378 Fb
 r379:bQ C 379 iY
 r380:bQ C 380 dD
 r229:∃asg bdy,YD C 229 (zo asg bdy)
 r230:∃asg bdy,YD C 230 (Lu asg bdy)
namespace L
variable {C:Ctx} (c:NK C)
include c
theorem GC:zE C:=
 have inn:∀n lo hi:Int,aH C 104 [.j n,.j lo,.j hi] .nil (aK (.bool (within n lo hi))):=λn lo hi=>(c.r104.go (agU n lo hi) rfl).seen;have e:∀n:Nat,aH C 126 [.int .u8 n] .nil (aK (.bool (gV n))):=λn=>c.r126.go (M5 n) rfl;have i:∀n:Nat,aH C 124 [.int .u8 n] .nil (aK (.bool (qL n))):=λn=>c.r124.go (Ri n) rfl
 {c.fz with
  inn:=inn
  allf:=λp fn l u h=>(c.r99.go (V5 p fn l u h) rfl).seen
  alli:=λp fn l u h=>(c.r100.go (V6 p fn l u h) rfl).seen
  allb:=λp fn l u h=>(c.r98.go (V4 p fn l u h) rfl).seen
  ends1:=λb=>(c.r103.go (Q7 b) rfl).seen
  num1:=λn=>(c.r107.go (V8 inn n) rfl).seen
  rate1:=λx w=>(c.r109.go (Q9 c.fz.lim c.fz.vX x w) rfl).seen
  name:=λs=>c.r123.go (W0 e (λn=>c.r125.go (Rq e i n) rfl) s) rfl }
theorem Cq:Bb C:=
 {GC c with
  num:=λp hp=>(c.r106.go (abY (GC c) p hp) rfl).seen
  rate:=λp hp=>(c.r108.go (V9 (GC c) p hp) rfl).seen
  uniq:=λl e=>(c.r110.go (Wd (GC c) l e) rfl).seen }
theorem Cr:j2 C:=
 {Cq c with
  ends:=λl e he=>(c.r102.go (V7 (GC c) l e he) rfl).seen }
theorem V2:nU C:=
 {Cr c with
  law:=λl i=>(c.r95.go (abX (Cr c) l i) rfl).seen
  pol:=λp n hp u=>(c.r112.go (abZ (Cq c) p hp n u) rfl).seen
  arL:=λf e=>(c.r111.go (abW (GC c) f e) rfl).seen }
theorem JB(f:aB)(e:f.Ok):aH C 96 [.agg f.cells] .nil (aK (.j (yL f))):=(c.r96.go (acC (V2 c) f e) rfl).seen
theorem ui:K4 C:=
 {valid:=λf e=>(c.r161.go (T4 (JB c) f e) rfl).seen
  dj:=λf v i h=>(c.r156.go (Yw f i v h) rfl).seen }
theorem jj:kg C:=
 {ui c with
  room:=λf room i=>(c.r152.go (Gd (ui c) f i room) rfl).freeze
  loads:=λf l e u=>c.r157.go (T0 f e l u) rfl }
theorem Yy:Pz C:=
 {jj c with
  shape:=λf l v hV i u e=>(c.r160.go (T3 (jj c) f hV l i v u e) rfl).seen }
theorem Gb:MB C:=
 {Yy c with
  bad:=λo5 v k w=>c.r159.go (T5 o5 v k w) rfl }
theorem Gc:Bn C:=
 {Gb c with
  row:=λf l v hV e w i u=>(c.r158.go (Y4 (Gb c) f hV e l v w i u) rfl).seen }
theorem aeQ:Z5 C:=
 {Gc c with
  viol:=λf l room e i=>(c.r154.go (Y3 (Gc c) f e l i room) rfl).seen }
theorem uD:vT C:={ trimM:=λxs h l=>c.r38.go (Zi xs h l) rfl }
theorem Ew:Bi C:=
 {uD c with
  make:=λv h=>(c.r35.go (Za (uD c) v h) rfl).seen
  large:=λxs h l=>(c.r41.go (T8 (uD c) xs h l) rfl).seen
  cmp:=λxs ys e i u w=>c.r32.go (aeS (uD c) xs ys e i u w) rfl }
theorem Ey:Bk C:=
 {Ew c with
  minus:=λa b i hb l w e=>(c.r42.go (T9 (uD c) a b i hb l w e) rfl).seen
  times:=λa b i hb e u=>(c.r44.go (Uc (uD c) a b i hb e u) rfl).seen }
theorem iq:kd C:=
 {Ey c with
  plus:=λa b l hb e i=>(c.r43.go (Zg (uD c) a b l hb e i) rfl).seen }
theorem X1:TK C:=
 {iq c with
  bits:=λxs h l=>c.r31.go (Y6 (uD c) xs h l) rfl
  upM:=λa n i e u w=>c.r45.go (aiM (uD c) a n i e u w) rfl
  down:=λa n i e u=>(c.r40.go (Y9 (uD c) a n i e u) rfl).seen }
theorem ip:kb C:=
 {Ew c with
  divide:=λA B hB i e=>(c.r39.go (Ox (X1 c) A B hB i e) rfl).seen }
theorem Ex:Bj C:=
 {ip c with
  gcd:=λa b e hb i l=>(c.r34.go (aeU (ip c) a b e hb i l) rfl).seen
  div:=λa b e hb i l=>(c.r33.go (aeT (ip c) a b e hb i l) rfl).seen }
theorem J5:K0 C:=
 {Ex c with
  lowest:=λneg a b l hb u w x y i=>(c.r58.go (Pa (Ex c) neg a b l hb u w x y i) rfl).seen
  size:=λv e=>c.r59.go (Zr v e.1 e.2) rfl }
theorem QP:kc C:=
 {J5 c with
  fmk:=λn d i e=>(c.r50.go (Zo (J5 c) n d i e) rfl).seen }
theorem BM(hi:GP C):zH C:=
 {QP c with
  int:=λn e=>(c.r47.go (Ki (QP c) n e) rfl).seen
  itoa:=hi
  next:=λl v T o n a e i=>c.r4.go (Xh T o n a e i) rfl }
theorem D2(hi:GP C):Bf C:=
 {BM c hi with
  frac:=λl v T o a e=>c.r1.go (W8 (BM c hi) T o a e) rfl }
theorem D3(hi:GP C):zI C:=
 {D2 c hi with
  rep:=λl v T o a m i e=>c.r5.go (adC (D2 c hi) T o a m i e) rfl
  name:=λs n w u=>c.r29.go (Xg (BM c hi) s n w u) rfl }
theorem D4(hi:GP C):rQ C:=
 {D3 c hi with
  law:=λl v T o dU a u e i=>c.r2.go (acX (D3 c hi) T o dU a u e i) rfl }
theorem D5(hi:GP C):Bg C:=
 {D4 c hi with
  grow:=λl v T mc arB e i u=>C3 (D4 c hi) T mc arB e i u (λargs H R w h=>c.r7 args H R (by rw[w];decide) h) 4 (asU _) }
theorem ft(hi:GP C):Pu C:=
 {D5 c hi with
  new:=λl hb w=>c.r28.go (adA l hb w) rfl
  fleet:=λl v T o arB arD a e i u=>TH.exact (c.r0.go (Rv (D5 c hi) T o arB arD a e i u) rfl) }
theorem tw:zk C:=
 {QP c with
  int:=λn u=>(c.r47.go (Ki (QP c) n u) rfl).seen
  mul:=λa b e hb i l=>(c.r36.go (aeV (Ey c) a b e hb i l) rfl).seen
  add:=λa b e hb i l=>(c.r30.go (aeR (iq c) a b e hb i l) rfl).seen
  sub:=λa b e hb i l=>(c.r37.go (aeY (iq c) a b e hb i l) rfl).seen }
theorem ir:kf C:=
 {tw c with
  valid:=λx e=>c.r56.go (Uj (tw c) x.neg x.num x.den e.1 e.2.1 e.2.2.1 e.2.2.2) rfl
  big:=λx=>c.r48.go (Ug x.1 (aT x.2.1) (aT x.2.2)) rfl }
theorem Ez:Bl C:=
 {ir c with
  fits:=λx=>(c.r57.go (Zl (ir c) x) rfl).seen
  red:=λx i=>(c.r52.go (Pb (ir c) x i) rfl).seen
  prod:=λa b e hb l u w y=>c.r60.go (Ui (tw c) a b e hb l u w y) rfl }
theorem IE:GU C:=
 {Ez c with
  order:=λx y e i l u=>c.r51.go (Uh (Ez c) x y e i l u) rfl }
theorem J6:K3 C:=
 {IE c with
  less:=λx y e i l u=>c.r49.go (Zn (IE c) x y e i l u) rfl
  same:=λx y e i l u=>c.r53.go (Zp (IE c) x y e i l u) rfl
  sign:=λx e l=>c.r54.go (Zq (IE c) x e l) rfl
  plus:=λx y e i=>(c.r46.go (aeZ (IE c) x y e i) rfl).seen }
theorem io:j8 C:=
 {J6 c with
  sum:=λl i e=>(c.r55.go (afB (J6 c) l i e) rfl).seen
  inn:=λn lo hi=>c.r76.go (Pm n lo hi) rfl
  code:=λk m=>c.r61.go (Yl k m) rfl }
theorem xd:sf C:=
 {io c with
  small:=λx e=>c.r74.go (Uw (io c) x e) rfl
  nums:=λk m q s0 s1 s2 s3 s4=>c.r72.go (Is (io c) k m q s0 s1 s2 s3 s4) rfl
  sizes:=λi l u w y A=>c.r73.go (Uv i l u w y A) rfl }
theorem xe:sg C:=
 {xd c with
  smalls:=λl e n=>c.r75.go (Pl (xd c) l e n) rfl }
theorem xf:sj C:=
 {xe c with
  reps:=λl e m=>c.r66.go (afK (xe c) l e m) rfl }
theorem xg:sk C:=
 have e:∀n:Nat,aH C 65 [.int .u8 n] .nil (aK (.bool (gV n))):=λn=>c.r65.go (Pe n) rfl;have i:∀n:Nat,aH C 63 [.int .u8 n] .nil (aK (.bool (qL n))):=λn=>c.r63.go (Uk n) rfl
 {xf c with
  name:=λs=>c.r62.go (Pd e (λn=>c.r64.go (Pc e i n) rfl) s) rfl
  index:=λl u s=>c.r71.go (Ut l u s) rfl }
theorem xh:vS C:=
 {xg c with
  fresh:=λl i s w H e=>c.r70.go (Us (xg c) l i s w H e) rfl }
theorem Sv:yN C:=
 {xh c with
  law:=λl e=>c.r68.go (afJ (xh c) l e) rfl }
theorem xi:sm C:=
 {Sv c with
  dur:=λm rep i t h l e=>c.r69.go (afI (xf c) m rep i t h l e) rfl }
theorem tD:TJ C:=
 {valid:=λf w=>c.r67.go (yx (xi c) f w) rfl
  vX:=λf d level e u i l=>c.r88.go (xr f e d u level i l) rfl
  dj:=λf v e h=>(c.r82.go (Fq f e v h) rfl).seen }
theorem Sw:Iw C:=
 {tD c with
  bad:=λf row e=>c.r89.go (aeE f row e) rfl }
theorem Sx:YB C:=
 {Sw c with
  allowed:=λf p d hV hp e=>c.r77.go (LA f hV p hp d e) rfl
  count:=λf row n hV l i=>c.r80.go (xu (tD c).toj9 f hV row l n i) rfl }
theorem xj:sn C:=
 {tD c with
  room:=λf room i=>(c.r85.go (Fy (tD c) f i room) rfl).seen
  loads:=λf l i x=>(c.r84.go (xy (tD c) f i l x) rfl).Jc
  row:=λf v row hV e w u=>(c.r90.go (aeL (Sx c) f hV e v w row u) rfl).seen }
theorem X0:Pw C:=
 {xj c with
  viol:=λf l room e i=>(c.r87.go (Yu (xj c) f e l i room) rfl).seen }
theorem Jf:LZ C:=
 {subs:=λn top=>c.r210.go (B9 n top) rfl
  iter:=λl o1 o2 n top J B i u y A x D H w e b1 b2 g1 g2=>c.r211.go (B6 J B i u y A x w e b1 b2 g1 g2) rfl }
theorem abT:Pt C:=
 {Jf c with
  val:=JB c
  units:=λf lv hV e h5=>(c.r206.go (Qg f hV lv e h5) rfl).seen
  choose:=λm n i l=>c.r207.go (Ln m n i l) rfl }
theorem aiR:Po C:=
 {adm:=λf p set hV hp e l=>c.r201.go (abA f hV p hp e set l) rfl
  known:=λf arO i=>c.r203.go (Qa (JB c) f i arO) rfl }
theorem ut:Pp C:=
 {aiR c with
  subs:=λn top=>c.r210.go (B9 n top) rfl
  iter:=λl o1 o2 n top J B i u y A x D H w e b1 b2 g1 g2=>c.r211.go (B6 J B i u y A x w e b1 b2 g1 g2) rfl }
theorem afG:Pq C:=
 {ut c with
  sets:=λf p hV x hp e y u A w=>by obtain⟨i,l,r⟩:=c.r229;exact(r.go (B8 (ut c).toLZ i l f x p (λset B _=>(ut c).adm f p set hV hp e B) y u A w) rfl).seen }
theorem ju(f:aB)(e:f.Ok):aH C 67 [.agg f.cells] .nil (aK (.bool (cI f))):=c.r67.go (yx (xi c) f e) rfl
theorem Uo:j9 C:=
 {valid:=ju c
  vX:=λf d level u l e i=>c.r88.go (xr f u d l level e i) rfl }
theorem Uq:zi C:=
 {allowed:=λf p d hV e i=>c.r77.go (LA f hV p e d i) rfl
  count:=λf row n hV u l=>c.r80.go (xu (Uo c) f hV row u n l) rfl
  valid:=ju c }
theorem yo:∀k a n:Nat,k<=10->a<=1000->n<=40->aH C 215 [.j a,.j n,.j k] .nil (aK (lay (iR (dQ n k a))))
 |0,a,n,u,l,i=>(c.r215.go (ot 0 a n u l i λ_ _ _ h=>by cases h) rfl).seen
 |k+1,a,n,u,l,i=>(c.r215.go (ot (k+1) a n u l i λw x h e=>by cases e;exact yo k w n Om h i) rfl).seen
theorem Kv:Ps C:=
 {Uq c with
  adm:=λf p set hV e u i x l w=>c.r213.go (adX (Uq c) f hV p e u i x l set w) rfl
  choose:=yo c }
theorem uu:j1 C:=
 {Kv c with
  arB:=λf dom e=>(c.r81.go (Oa (Uo c) f e dom) rfl).seen
  has:=λl x h=>c.r218.go (J8 l h x) rfl }
theorem afH:TG C:=
 { uu c with units:=λf lv i l e h5=>(c.r217.go (Tc (uu c) f i l lv e h5) rfl).seen }
theorem te(f:aB)(lv e:Int)(u:f.Ok):aH C 230 [.agg f.cells,rI lv e] .nil (aK (.tup [lay (lR f lv e),.j (fS f lv e)])):=by
 obtain⟨i,l,r⟩:=c.r230;exact(r.go (Vi (abT c) i l f u lv e) rfl).seen
theorem Eu:GT C:=
 {node:=λf l e v i w hi=>c.r304.go (Xz f l e v i w hi) rfl
  drv:=λf l d e=>c.r305.go (adT f l d e) rfl
  total:=λf hV=>c.r306.go (Su (tD c).dj f hV) rfl
  qvalid:=(tD c).valid
  allowed:=λf p d hV hp e=>c.r77.go (LA f hV p hp d e) rfl
  qroom:=λf room u=>(c.r85.go (Fy (tD c) f u room) rfl).seen }
theorem adS(f:aB)(room:I_)(e:f.Ok):aH C 307 [.agg f.cells,ints room] .nil (aK (tt f room)):=(c.r307.go (adV (Eu c) f e room) rfl).Od
theorem J4(n:dL)(e:lH n):aH C 299 [.agg n.cells] .nil (aK (.bool true)):=c.r299.go (Si n e) rfl
theorem adR:afY C:=
 {Eu c with
  jC:=adS c
  HW:=λn e=>c.r303.go (Sh (J4 c) (λn xs e l=>c.r300.go (Sj (J4 c) n e xs l) rfl) (λn fo xs e i=>by rw[<-i.len];exact c.r302.go (Sg n e fo xs i) rfl) n e) rfl
  sA:=λf room xs hV i=>(c.r308.go (adU (Eu c) f hV room xs i) rfl).Od }
theorem zw(B:YE C):ajP C:=
 {Fl:=te c
  holds:=λf l room A e=>(c.r150.go (Tv (aeQ c) f A l e room) rfl).seen
  srt:=λrow i e=>c.r368.go (M6 B row i e) rfl
  loss:=λsc u w set x y m=>c.r367.go (Vd sc u w set x y m) rfl }
theorem Mf:ajS C:=
 {fY:=λf lv e i=>(c.r219.go (Yf (afH c) f i lv e) rfl).seen
  rholds:=λf l room i y=>c.r83.go (To (X0 c) f i l y room) rfl
  lost:=λsc set m u w x=>c.r220.go (X5 (uu c) sc u w set x m) rfl }
theorem abV(hi:GP C):Pn C:=
 {new:=(ft c hi).new
  tfleet:=(ft c hi).fleet
  JW:=λl v T o a f i e=>exactly (c.r6.go (Xi (BM c hi) T o a f i e) rfl)
  next:=λl v T o n a u e=>(BM c hi).next l v T o n a u e }
theorem Jg(hi:GP C):oF C As:=Yx (λl hb u arB arD e i=>(c.r27.go (Ru (ft c hi) l hb u arB arD e i) rfl).seen) (JB c) (te c)
theorem abU(e:aH C 201 [.agg fF.cells,.agg (mF fF 0).cells,ints [0]] .nil (aK (.bool true))):aH C 229 [.agg fF.cells,.agg (mF fF 0).cells] .nil (aK (lay [[0]])):=Tz (Jf c) c.r229 e
theorem agX(f:aB)(arO:Int)(e:f.Ok):aH C 205 [.agg f.cells,.j arO] .nil (aK (.tup [lay (zK f arO),.j (sP f arO)])):=(c.r205.go (P8 (afG c) f e arO) rfl).seen
theorem alA(w:YE C):Zz C:=
 {loads:=λf l u B=>c.r151.go (Tt (jj c) f u l B) rfl
  fits:=λloads R row set a b d e=>c.r370.go (acR loads R row set a b d e) rfl
  exch:=λrow set a b d e g h i=>c.r371.go (Ww row set a b d e g h i) rfl
  Fl:=te c
  holds:=(zw c w).holds
  room:=λf room u=>(c.r152.go (Gd (ui c) f u room) rfl).freeze
  opts:=λf u D x sc y A=>(c.r369.go (Hh ⟨agX c,(zw c w).loss⟩ f u D x sc y A) rfl).seen
  srt:=(zw c w).srt
  loss:=(zw c w).loss }
theorem alB:Z3 C:=
 have has:∀(l:I_)(x:Int),Z' l<=1000000000000000->aH C 378 [ints l,.j x] .nil (aK (.bool (l.contains x))):=λl x h=>c.r378.go (J8 l h x) rfl
 {has:=has
  lost:=(Mf c).lost
  iu:=λf arO e=>(c.r216.go (adY (Kv c) f e arO) rfl).seen
  rloads:=λf l e y=>c.r84.go (xy (tD c) f e l y) rfl
  settle:=λrow set i u w=>c.r379.go (Hy has row set i u w) rfl
  fY:=(Mf c).fY
  rholds:=(Mf c).rholds
  rroom:=λf room e=>(c.r85.go (x7 (ju c) f e room) rfl).seen }
theorem agY(hi:GP C)(B:YE C)(y:aH C 362 [] .nil (aK (.bool true))):Z1 C:=
 {read:=λl hb u=>c.r375.go (Vg (abV c hi) l hb u 7 3 aR aR) rfl
  next:=λl v T o n a A w=>(BM c hi).next l v T o n a A w
  tlayout:=λl v T o a f hV w=>exactly (c.r3.go (Nd (BM c hi) T o a f hV (λi h=>(c.r82.go (Fq f hV i h) rfl).seen) w) rfl)
  place:=λf room x D=>(c.r309.go (Nt (adR c) f x D room) rfl).ahM
  imp:=λf lv e room l x u=>(c.r364.go (Hg (alA c B) f x lv e room l u) rfl).seen
  rimp:=λf lv e room l x u=>(c.r380.go (Fe (alB c) f x lv e room l u) rfl).seen
  sets:=λa w hb=>c.r212.go (Vz (λl u=>c.r94.go (Vw l u) rfl) a w hb) rfl
  zn:=y }
end L
theorem Rb(c:NK C)(hi:GP C)(u:YE C)(e:aH C 362 [] .nil (aK (.bool true)))(r:bQ C 381 uL)(l:N_)(hb:∀x∈l,x<256)(i:Z' l<=9223372036854775807) :
  aH C 381 [.sl 1 (kN l)] .nil (aK (.bool true)):=r.go (Wy (L.agY c hi u e) l hb i) rfl
end Go.PM
