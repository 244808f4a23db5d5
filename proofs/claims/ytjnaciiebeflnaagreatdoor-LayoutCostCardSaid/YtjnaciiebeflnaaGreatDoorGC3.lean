/-Lemmas for the law. No condition.-/
import Derived.Test.YtjnaciiebeflnaaGreatDoorGC2
import Derived.Lib.ItoaNum
set_option linter.unusedSimpArgs false
set_option linter.unusedVariables false
open Nat renaming reduceEqDiff->γ,reduceAdd->δ,reduceSub->ε,reduceMul->ζ,reduceLT->η,reduceLeDiff->θ,reduceBEq->τ
open Int renaming reduceLT->ι,reduceLE->κ,reduceEq->μ,reduceToNat->ν,reduceAdd->ξ,reduceNeg->ο,reduceBEq->ρ,reduceBNe->σ
open List renaming reduceReplicate->υ
open List renaming length_map->auW,range->auX,length_append->auZ,replicate->avA,getElem_mem->avB,getElem?_eq_getElem->avF,length_singleton->avG,getD_eq_getElem?_getD->avI,mem_cons->avL,length_take->avN,getElem?_map->avO,take_of_length_le->avT,map_append->avU,mem_map->avV,take_length->avW,not_mem_nil->avY,all_eq_true->awA,append_assoc->awB,getElem?_eq_some_iff->awD,map_cons->awE,mem_range->awG,mem_append->awH,append_nil->awJ,mem_singleton->awL,drop_zero->awM,getElem?_eq_none->awN,take_succ_eq_append_getElem->awP,getElem_of_mem->awR,length_set->awS,getElem_map->awW,drop_eq_getElem_cons->axB,length_nil->axC,map_nil->axD,mem_of_getElem?->axF,Sublist->axN,getElem?_range->axO,range_succ->axV,Perm->axY,ext_getElem->axZ,map_congr_left->ayB,nodup_append->ayC,map_map->ayD,map_set->ayE,set_append_right->ayF,take_append_drop->ayK,map_take->ayN,cons_append->ayQ,all_cons->ayX,getElem?_set->ayZ,nil_append->azA,set_cons_zero->azB,flatten_cons->azE,drop_of_length_le->azH,length_filter_le->azI,eq_nil_of_length_eq_zero->azL
open Nat renaming zero_le->auY,gcd->avC,le_refl->avD,zero_add->avK,mul_add->avQ,lt_or_ge->avX,le_trans->avZ,mul_assoc->awC,add_mul->awO,add_zero->awQ,mod_eq_of_lt->awT,mod_lt->awY,pow_succ->axE,eq_zero_or_pos->axJ,add_assoc->axL,min_eq_left->axS,sub_self->axT,pos_of_ne_zero->axX,mul_le_mul->ayA,mul_one->ayG,div_add_mod->azF
open Bool renaming and_eq_true->avE,not_true->avH,false_and->avJ,not_false->avP,true_and->avR,and_false->awU,false_eq_true->axH,and_true->axP,and_assoc->ayP
open Option renaming map_some->avS,some->awV,getD_some->axK
open Int renaming toNat_natCast->axA
open Array renaming getElem?_eq_some_iff->ayM
open List renaming length->Z'
set_option maxRecDepth 100000
set_option maxHeartbeats 800000
open Go.IntKind renaming i64->i_,u64->u_
open Go.PM.PF renaming nil->n_,args->g_
open Go.PM.PH renaming nil->h_
noncomputable section
namespace Go.PM
open Go Go.Na
structure oC(C:Ctx):Prop extends k7 C where
 law:∀l:cU,l.Ok->aH C 95 [.agg l.cells] .nil (aL (.bool (nE l)))
 pol:∀(p:cO)(n:Nat),p.Ok->n<=4->aH C 112 [.agg p.cells,.int .i64 n] .nil (aL (.bool (lT n p)))
 atT:∀f:aD,f.Ok->aH C 111 [.agg f.cells] .nil (aL (.bool (sD f)))
abbrev gU(l:List (List UInt8)):P2_:=l.map λs=>[PV.str s]
theorem CV(l:List (List UInt8)){k:Nat}(h:k<Z' l):gU (l.take k)++[[.str l[k]]]=gU (l.take (k+1)):=by
 unfold gU;rw[awP h,avU];rfl
theorem yN{l:List (List UInt8)}(h:Z' l<=1000):roomFor (gU l).length 1 16:=by
 unfold roomFor gU;simp only[auW,maxLen];omega
def kS{α:Type}(l:List α)(p:α->Bool)(k:Nat):Bool:=(l.take k).all p
theorem yZ{α:Type}(l:List α)(p:α->Bool):kS l p 0=true:=rfl
theorem yY{α:Type}(l:List α)(p:α->Bool){k:Nat}(h:k<Z' l):kS l p (k+1)=(kS l p k&&p l[k]):=by
 unfold kS;rw[awP h,List.all_append];simp
theorem BY{α:Type}(l:List α)(p:α->Bool):kS l p l.length=l.all p:=by unfold kS;rw[avW]
def lE(f:aD)(e i l u w:PV)(ok:Bool):PF:=(((((((n_.set 1 (.aX f.cells)).set 3 (e)).set 4 (i)).set 5 (l)).set 6 (u)).set 7 (w)).set 8 (.bool ok))
structure oJ(F:PF)(f:aD)(w3 w4 w5 w6 w7:PV)(ok:Bool):Prop where
 a1:F 1=some (.aX f.cells)
 a3:F 3=some w3
 a4:F 4=some w4
 a5:F 5=some w5
 a6:F 6=some w6
 a7:F 7=some w7
 a8:F 8=some (.bool ok)
variable{C:Ctx}
theorem Od(L:oC C)(f:aD)(U:f.Ok)(Z:Z' f.atQ<=4)(J M N O:PV)(K:bZ)(F:PF)(H:PH)(u:oJ F f .aJ J M N O true)
  (A:F 67=some (.sl 4 (f.atQ.map cU.cells))) (B:F 68=some (.j (Z' f.atQ:Nat))) (E:F 69=some (.j 0))
  (S:∀v R H',oJ R f v J M N O (f.atQ.all nE)->bF H' 1 v (gU (f.atQ.map cU.name))->K (.exit 0) R H') :
  aI.wp C (.loop ON) K F H:=by
 refine wp_loop (α:=T3_) (λt=>(((lE f t.2.1 J M N O (kS f.atQ nE t.1)).set 67 (.sl 4 (f.atQ.map cU.cells))).set 68 (.j (Z' f.atQ:Nat))).set 69 (.j t.1)) (λt=>t.2.2)
  (λt=>t.1<=Z' f.atQ/\bF t.2.2 1 t.2.1 (gU ((f.atQ.map cU.name).take t.1))) (λt=>Z' f.atQ-t.1) (0,.aJ,.nil) ⟨auY _,.nil⟩ ?_ a_ ?_
 unfold lE
 (repeat' (first|exact d_|refine c_ ?_ ?_))<;>first|(simp only[go_sem,u.a1,u.a3,u.a4,u.a5,u.a6,u.a7,u.a8,A,B,E,yZ]<;>rfl)|rfl
 rintro⟨k,v,Y⟩ ⟨V,y⟩;simp only at V y ⊢;simp only[go_sem,ON,lE];by_cases hlt:k<Z' f.atQ
 ·have i:(k:Int)<(Z' f.atQ:Nat):=Om;have X:(f.atQ.map cU.cells)[k]?=some (f.atQ[k]).cells:=by simp[hlt]
  have x:=CV (f.atQ.map cU.name) (k:=k) (by simpa using hlt);rw[awW]at x;simp only[go_sem,i,X];refine aS λo W=>?_;simp only[go_sem];refine rF y W (yN (by simp;omega)) λv' H' l w=>?_;rw[x]at l;have e:=yY f.atQ nE hlt;cases hb:kS f.atQ nE k with
  |false =>rw[hb,avJ]at e;simp only[go_sem,w,wZz k];refine aE (k+1,v',H') ⟨hlt,l⟩ sO_ ?_ b_;simp only[e];exact Lq
  |true =>rw[hb,avR]at e;simp only[go_sem,w];refine aB (L.law _ (U.law _ (avB hlt))) Ev ?_;simp only[go_sem,wZz k];refine aE (k+1,v',H') ⟨hlt,l⟩ sO_ ?_ b_;simp only[e];exact Lq
 have i:¬(k:Int)<(Z' f.atQ:Nat):=Om;have:k=Z' f.atQ:=Om;subst this;rw[avT aZ]at y;rw[BY];simp only[go_sem,i];exact S v _ _ ⟨s_,s_,s_,s_,s_,s_,s_⟩ y
theorem JO{n:Nat}(h:n<=1000):i_.wrap ((n:Int)-1)=(n:Int)-1:=wrap_i64 Om Om
theorem Oe(L:oC C)(f:aD)(hs:Z' f.atI<=4)(hl:Z' f.atQ<=4)(x:Bool)(E J M N:PV)(K:bZ)(F:PF)(H:PH)(u:oJ F f E .aJ J M N x)
  (S:F 85=some (.sl 4 (f.atI.map dR.cells))) (U:F 86=some (.j (Z' f.atI:Nat))) (V:F 87=some (.j 0))
  (X:∀v w H',oJ w f E v J M N (x&&f.atI.all (nF f))->bF H' 1 v (gU (f.atI.map dR.name))->K (.exit 2) w H') :
  aI.wp C (.loop OO) K F H:=by
 refine wp_loop (α:=T3_) (λt=>(((lE f E t.2.1 J M N (x&&kS f.atI (nF f) t.1)).set 85 (.sl 4 (f.atI.map dR.cells))).set 86 (.j (Z' f.atI:Nat))).set 87 (.j t.1)) (λt=>t.2.2)
  (λt=>t.1<=Z' f.atI/\bF t.2.2 1 t.2.1 (gU ((f.atI.map dR.name).take t.1))) (λt=>Z' f.atI-t.1) (0,.aJ,.nil) ⟨auY _,.nil⟩ ?_ a_ ?_
 unfold lE
 (repeat' (first|exact d_|refine c_ ?_ ?_))<;>first|(simp only[go_sem,u.a1,u.a3,u.a4,u.a5,u.a6,u.a7,u.a8,S,U,V,yZ,axP]<;>rfl)|rfl
 rintro⟨k,v,H0⟩ ⟨Z,O⟩;simp only at Z O ⊢;simp only[go_sem,OO,lE];by_cases hlt:k<Z' f.atI
 ·have e:(k:Int)<(Z' f.atI:Nat):=Om;have hr:(f.atI.map dR.cells)[k]?=some (f.atI[k]).cells:=by simp[hlt]
  have B:=CV (f.atI.map dR.name) (k:=k) (by simpa using hlt);rw[awW]at B;simp only[go_sem,e,hr];refine aS λo ho=>?_;simp only[go_sem];refine rF O ho (yN (by simp;omega)) λv' H' y i=>?_;rw[B]at y;have l:=yY f.atI (nF f) hlt;have fin:∀(c:Bool)(w:PF),c=(x&&kS f.atI (nF f) (k+1))->((((lE f E v' J M N c).set 85 (.sl 4 (f.atI.map dR.cells))).set 86 (.j (Z' f.atI:Nat))).set 87 (.j (k+1:Nat))).le w ->
    fL (λ(t:T3_)=>(((lE f E t.2.1 J M N (x&&kS f.atI (nF f) t.1)).set 85 (.sl 4 (f.atI.map dR.cells))).set 86 (.j (Z' f.atI:Nat))).set 87 (.j t.1)) (λ(t:T3_)=>t.2.2)  (λ(t:T3_)=>t.1<=Z' f.atI/\bF t.2.2 1 t.2.1 (gU ((f.atI.map dR.name).take t.1))) (λ(t:T3_)=>Z' f.atI-t.1) (Z' f.atI-k) K .normal w H':=by
   intro c w Y A;refine aE (α:=T3_) (k+1,v',H') ⟨hlt,y⟩ sO_ ?_ b_;rw[Y]at A;exact A
  unfold lE at fin;rw[l,<-ayP]at fin;have W:nF f f.atI[k]=(within (f.atI[k]).auA 1 16&&within (f.atI[k]).port 1 64&&within (f.atI[k]).law 0 ((Z' f.atQ:Int)-1)):=rfl;cases hb:(x&&kS f.atI (nF f) k)with
  |false =>rw[hb,avJ]at fin;simp only[go_sem,i,wZz k];refine fin false _ rfl ?_;exact Lq
  |true=>
   rw[hb,avR]at fin;simp only[go_sem,i];refine aB (L.inn _ 1 16) Ev ?_;cases R:within (f.atI[k]).auA 1 16 with
   |false =>simp only[go_sem,wZz k];refine fin false _ (by rw[W,R];simp only[avJ]) ?_;exact Lq
   |true=>
    simp only[go_sem,i];refine aB (L.inn _ 1 64) Ev ?_;cases e2:within (f.atI[k]).port 1 64 with
    |false =>simp only[go_sem,wZz k];refine fin false _ (by rw[W,R,e2];simp only[avJ,awU]) ?_;exact Lq
    |true =>simp only[go_sem,i,auW,JO (Om:Z' f.atQ<=1000)];refine aB (L.inn _ 0 _) Ev ?_;simp only[go_sem,wZz k];refine fin (within (f.atI[k]).law 0 ((Z' f.atQ:Int)-1)) _ (by rw[W,R,e2];simp only[avR]) ?_;exact Lq
 have e:¬(k:Int)<(Z' f.atI:Nat):=Om;have:k=Z' f.atI:=Om;subst this;rw[avT aZ]at O;rw[BY];simp only[go_sem,e];exact X v _ _ ⟨s_,s_,s_,s_,s_,s_,s_⟩ O
theorem Of(L:oC C)(f:aD)(t:List cR)(Y:Z' t<=40)(x:Bool)(E J M N:PV)(K:bZ)(F:PF)(H:PH)(i:oJ F f E J .aJ M N x)
  (y:F 119=some (.sl 7 (t.map cR.cells))) (A:F 120=some (.j (Z' t:Nat))) (B:F 121=some (.j 0))
  (R:∀v O H',oJ O f E J v M N x->bF H' 1 v (gU (t.map cR.name))->K (.exit 4) O H') :
  aI.wp C (.loop OP) K F H:=by
 refine wp_loop (α:=T3_) (λa=>(((lE f E J a.2.1 M N x).set 119 (.sl 7 (t.map cR.cells))).set 120 (.j (Z' t:Nat))).set 121 (.j a.1)) (λa=>a.2.2)
  (λa=>a.1<=Z' t/\bF a.2.2 1 a.2.1 (gU ((t.map cR.name).take a.1))) (λa=>Z' t-a.1) (0,.aJ,.nil) ⟨auY _,.nil⟩ ?_ a_ ?_
 unfold lE
 (repeat' (first|exact d_|refine c_ ?_ ?_))<;>first|(simp only[go_sem,i.a1,i.a3,i.a4,i.a5,i.a6,i.a7,i.a8,y,A,B]<;>rfl)|rfl
 rintro⟨k,v,X⟩ ⟨S,w⟩;simp only at S w ⊢;simp only[go_sem,OP,lE];by_cases hlt:k<Z' t;have e:(k:Int)<(Z' t:Nat):=Om;have W:(t.map cR.cells)[k]?=some (t[k]).cells:=by simp[hlt]
 have u:=CV (t.map cR.name) (k:=k) (by simpa using hlt);rw[awW]at u;simp only[go_sem,e,W];refine aS λo U=>?_;simp only[go_sem];refine rF w U (yN (by simp;omega)) λv' H' l V=>?_;rw[u]at l;simp only[go_sem,wZz k];refine aE (k+1,v',H') ⟨hlt,l⟩ sO_ ?_ b_;exact Lq;have e:¬(k:Int)<(Z' t:Nat):=Om;have:k=Z' t:=Om;subst this;rw[avT aZ]at w;simp only[go_sem,e];exact R v _ _ ⟨s_,s_,s_,s_,s_,s_,s_⟩ w
theorem Og(L:oC C)(f:aD)(e:List (List UInt8))(hn:Z' e<=40)(hs:Z' f.atH<=24)(hm:Z' f.atI<=4)(hd:Z' f.atK<=40)(A:Bool)(M N v0 O R:PV)(K:bZ)(F:PF)(H:PH)(x:oJ F f M N v0 O R A)
  (h0:bF H 1 v0 (gU e))
  (W:F 132=some (.sl 3 (f.atH.map eP.cells))) (X:F 133=some (.j (Z' f.atH:Nat))) (Y:F 134=some (.j 0))
  (hK:∀v y H',oJ y f M N v O R (A&&f.atH.all (kN f))->bF H' 1 v (gU (e++f.atH.map eP.name))->K (.exit 6) y H') :
  aI.wp C (.loop OQ) K F H:=by
 refine wp_loop (α:=T3_) (λt=>(((lE f M N t.2.1 O R (A&&kS f.atH (kN f) t.1)).set 132 (.sl 3 (f.atH.map eP.cells))).set 133 (.j (Z' f.atH:Nat))).set 134 (.j t.1)) (λt=>t.2.2)
  (λt=>t.1<=Z' f.atH/\bF t.2.2 1 t.2.1 (gU (e++(f.atH.map eP.name).take t.1))) (λt=>Z' f.atH-t.1) (0,v0,H) ⟨auY _,by rw[List.take_zero,awJ];exact h0⟩ ?_ b_ ?_
 unfold lE
 (repeat' (first|exact d_|refine c_ ?_ ?_))<;>first|(simp only[go_sem,x.a1,x.a3,x.a4,x.a5,x.a6,x.a7,x.a8,W,X,Y,yZ,axP]<;>rfl)|rfl
 rintro⟨k,v,H0⟩ ⟨hk,V⟩;simp only at hk V ⊢;simp only[go_sem,OQ,lE];by_cases hlt:k<Z' f.atH
 ·have i:(k:Int)<(Z' f.atH:Nat):=Om;have hr:(f.atH.map eP.cells)[k]?=some (f.atH[k]).cells:=by simp[hlt]
  have β:gU (e++(f.atH.map eP.name).take k)++[[.str (f.atH[k]).name]]=gU (e++(f.atH.map eP.name).take (k+1)):=by rw[awP (by simpa using hlt),<-awB,awW];unfold gU;simp only[avU,awE,axD]
  simp only[go_sem,i,hr];refine aS λo ho=>?_;simp only[go_sem];refine rF V ho (yN (by simp;omega)) λv' H' B u=>?_;rw[β]at B;have w:=yY f.atH (kN f) hlt;have fin:∀(c:Bool)(y:PF),c=(A&&kS f.atH (kN f) (k+1))->((((lE f M N v' O R c).set 132 (.sl 3 (f.atH.map eP.cells))).set 133 (.j (Z' f.atH:Nat))).set 134 (.j (k+1:Nat))).le y ->
    fL (λ(t:T3_)=>(((lE f M N t.2.1 O R (A&&kS f.atH (kN f) t.1)).set 132 (.sl 3 (f.atH.map eP.cells))).set 133 (.j (Z' f.atH:Nat))).set 134 (.j t.1)) (λ(t:T3_)=>t.2.2)  (λ(t:T3_)=>t.1<=Z' f.atH/\bF t.2.2 1 t.2.1 (gU (e++(f.atH.map eP.name).take t.1))) (λ(t:T3_)=>Z' f.atH-t.1) (Z' f.atH-k) K .normal y H':=by
   intro c y hc E;refine aE (α:=T3_) (k+1,v',H') ⟨hlt,B⟩ sO_ ?_ b_;rw[hc]at E;exact E
  unfold lE at fin;rw[w,<-ayP]at fin;have l:kN f f.atH[k]=(within (f.atH[k]).model 0 ((Z' f.atI:Int)-1)&&within (f.atH[k]).machine 0 ((Z' f.atK:Int)-1)&&decide ((f.atK.map cR.level).getD (f.atH[k]).machine.toNat 0=4)):=rfl;cases hb:(A&&kS f.atH (kN f) k)with
  |false =>rw[hb,avJ]at fin;simp only[go_sem,u,wZz k];refine fin false _ rfl ?_;exact Lq
  |true=>
   rw[hb,avR]at fin;simp only[go_sem,u,auW,JO (Om:Z' f.atI<=1000)];refine aB (L.inn _ 0 _) Ev ?_;cases S:within (f.atH[k]).model 0 ((Z' f.atI:Int)-1)with
   |false =>simp only[go_sem,wZz k];refine fin false _ (by rw[l,S];simp only[avJ]) ?_;exact Lq
   |true=>
    simp only[go_sem,u,auW,JO (Om:Z' f.atK<=1000)];refine aB (L.inn _ 0 _) Ev ?_;cases e2:within (f.atH[k]).machine 0 ((Z' f.atK:Int)-1)with
    |false =>simp only[go_sem,wZz k];refine fin false _ (by rw[l,S,e2];simp only[avJ,awU]) ?_;exact Lq
    |true=>
     obtain⟨i1,i2⟩:=within_iff.1 e2;have i3:(f.atH[k]).machine.toNat<Z' f.atK:=Om;have J:(f.atK.map cR.cells)[(f.atH[k]).machine.toNat]?=some (f.atK[(f.atH[k]).machine.toNat]).cells:=by simp[i3]
     have Z:(f.atK.map cR.level).getD (f.atH[k]).machine.toNat 0=(f.atK[(f.atH[k]).machine.toNat]).level:=by simp[i3]
     rw[Z]at l;by_cases U:(f.atK[(f.atH[k]).machine.toNat]).level=4;simp only[go_sem,u,i1,J,bN U,wZz k];refine fin true _ (by rw[l,S,e2,bG U];rfl) ?_;exact Lq;simp only[go_sem,u,i1,J,bA U,wZz k];refine fin false _ (by rw[l,S,e2,bS U];rfl) ?_;exact Lq
 have i:¬(k:Int)<(Z' f.atH:Nat):=Om;have:k=Z' f.atH:=Om;subst this;rw[avT aZ]at V;rw[BY];simp only[go_sem,i];exact hK v _ _ ⟨s_,s_,s_,s_,s_,s_,s_⟩ V
theorem Oh(L:oC C)(f:aD)(X:f.Ok)(hs:Z' f.atL<=4)(Z:Z' f.atI<=4)(w:Bool)(E J M N:PV)(K:bZ)(F:PF)(H:PH)(l:oJ F f E J M .aJ N w)
  (R:F 174=some (.sl 17 (f.atL.map cO.cells))) (S:F 175=some (.j (Z' f.atL:Nat))) (U:F 176=some (.j 0))
  (V:∀v u H',oJ u f E J M v N (w&&f.atL.all (lT f.atI.length))->bF H' 1 v (gU (f.atL.map cO.name))->K (.exit 8) u H') :
  aI.wp C (.loop OR) K F H:=by
 refine wp_loop (α:=T3_) (λt=>(((lE f E J M t.2.1 N (w&&kS f.atL (lT f.atI.length) t.1)).set 174 (.sl 17 (f.atL.map cO.cells))).set 175 (.j (Z' f.atL:Nat))).set 176 (.j t.1)) (λt=>t.2.2)
  (λt=>t.1<=Z' f.atL/\bF t.2.2 1 t.2.1 (gU ((f.atL.map cO.name).take t.1))) (λt=>Z' f.atL-t.1) (0,.aJ,.nil) ⟨auY _,.nil⟩ ?_ a_ ?_
 unfold lE
 (repeat' (first|exact d_|refine c_ ?_ ?_))<;>first|(simp only[go_sem,l.a1,l.a3,l.a4,l.a5,l.a6,l.a7,l.a8,R,S,U,yZ,axP]<;>rfl)|rfl
 rintro⟨k,v,H0⟩ ⟨Y,O⟩;simp only at Y O ⊢;simp only[go_sem,OR,lE];by_cases hlt:k<Z' f.atL
 ·have e:(k:Int)<(Z' f.atL:Nat):=Om;have hr:(f.atL.map cO.cells)[k]?=some (f.atL[k]).cells:=by simp[hlt]
  have B:=CV (f.atL.map cO.name) (k:=k) (by simpa using hlt);rw[awW]at B;simp only[go_sem,e,hr];refine aS λo ho=>?_;simp only[go_sem];refine rF O ho (yN (by simp;omega)) λv' H' x A=>?_;rw[B]at x;have i:=yY f.atL (lT f.atI.length) hlt;have fin:∀(c:Bool)(u:PF),c=(w&&kS f.atL (lT f.atI.length) (k+1))->((((lE f E J M v' N c).set 174 (.sl 17 (f.atL.map cO.cells))).set 175 (.j (Z' f.atL:Nat))).set 176 (.j (k+1:Nat))).le u ->
    fL (λ(t:T3_)=>(((lE f E J M t.2.1 N (w&&kS f.atL (lT f.atI.length) t.1)).set 174 (.sl 17 (f.atL.map cO.cells))).set 175 (.j (Z' f.atL:Nat))).set 176 (.j t.1)) (λ(t:T3_)=>t.2.2)  (λ(t:T3_)=>t.1<=Z' f.atL/\bF t.2.2 1 t.2.1 (gU ((f.atL.map cO.name).take t.1))) (λ(t:T3_)=>Z' f.atL-t.1) (Z' f.atL-k) K .normal u H':=by
   intro c u W y;refine aE (α:=T3_) (k+1,v',H') ⟨hlt,x⟩ sO_ ?_ b_;rw[W]at y;exact y
  unfold lE at fin;rw[i,<-ayP]at fin;cases hb:(w&&kS f.atL (lT f.atI.length) k)with
  |false =>rw[hb,avJ]at fin;simp only[go_sem,A,wZz k];refine fin false _ rfl ?_;exact Lq
  |true =>rw[hb,avR]at fin;simp only[go_sem,A,auW];refine aB (L.pol _ _ (X.atW _ (avB hlt)) Z) Ev ?_;simp only[go_sem,wZz k];refine fin _ _ rfl ?_;exact Lq
 have e:¬(k:Int)<(Z' f.atL:Nat):=Om;have:k=Z' f.atL:=Om;subst this;rw[avT aZ]at O;rw[BY];simp only[go_sem,e];exact V v _ _ ⟨s_,s_,s_,s_,s_,s_,s_⟩ O
theorem Oi(L:oC C)(f:aD)(hs:Z' f.atJ<=12)(hl:Z' f.atL<=4)(w:Bool)(E J M N:PV)(K:bZ)(F:PF)(H:PH)(l:oJ F f E J M N .aJ w)
  (R:F 195=some (.sl 2 (f.atJ.map gN.cells))) (S:F 196=some (.j (Z' f.atJ:Nat))) (U:F 197=some (.j 0))
  (V:∀v u H',oJ u f E J M N v (w&&f.atJ.all (sR f))->bF H' 1 v (gU (f.atJ.map gN.name))->K (.exit 10) u H') :
  aI.wp C (.loop OS) K F H:=by
 refine wp_loop (α:=T3_) (λt=>(((lE f E J M N t.2.1 (w&&kS f.atJ (sR f) t.1)).set 195 (.sl 2 (f.atJ.map gN.cells))).set 196 (.j (Z' f.atJ:Nat))).set 197 (.j t.1)) (λt=>t.2.2)
  (λt=>t.1<=Z' f.atJ/\bF t.2.2 1 t.2.1 (gU ((f.atJ.map gN.name).take t.1))) (λt=>Z' f.atJ-t.1) (0,.aJ,.nil) ⟨auY _,.nil⟩ ?_ a_ ?_
 unfold lE
 (repeat' (first|exact d_|refine c_ ?_ ?_))<;>first|(simp only[go_sem,l.a1,l.a3,l.a4,l.a5,l.a6,l.a7,l.a8,R,S,U,yZ,axP]<;>rfl)|rfl
 rintro⟨k,v,H0⟩ ⟨X,O⟩;simp only at X O ⊢;simp only[go_sem,OS,lE];by_cases hlt:k<Z' f.atJ
 ·have e:(k:Int)<(Z' f.atJ:Nat):=Om;have hr:(f.atJ.map gN.cells)[k]?=some (f.atJ[k]).cells:=by simp[hlt]
  have B:=CV (f.atJ.map gN.name) (k:=k) (by simpa using hlt);rw[awW]at B;simp only[go_sem,e,hr];refine aS λo Z=>?_;simp only[go_sem];refine rF O Z (yN (by simp;omega)) λv' H' x A=>?_;rw[B]at x;have i:=yY f.atJ (sR f) hlt;have fin:∀(c:Bool)(u:PF),c=(w&&kS f.atJ (sR f) (k+1))->((((lE f E J M N v' c).set 195 (.sl 2 (f.atJ.map gN.cells))).set 196 (.j (Z' f.atJ:Nat))).set 197 (.j (k+1:Nat))).le u ->
    fL (λ(t:T3_)=>(((lE f E J M N t.2.1 (w&&kS f.atJ (sR f) t.1)).set 195 (.sl 2 (f.atJ.map gN.cells))).set 196 (.j (Z' f.atJ:Nat))).set 197 (.j t.1)) (λ(t:T3_)=>t.2.2)  (λ(t:T3_)=>t.1<=Z' f.atJ/\bF t.2.2 1 t.2.1 (gU ((f.atJ.map gN.name).take t.1))) (λ(t:T3_)=>Z' f.atJ-t.1) (Z' f.atJ-k) K .normal u H':=by
   intro c u W y;refine aE (α:=T3_) (k+1,v',H') ⟨hlt,x⟩ sO_ ?_ b_;rw[W]at y;exact y
  unfold lE at fin;rw[i,<-ayP]at fin;have Y:sR f f.atJ[k]=within (f.atJ[k]).atW 0 ((Z' f.atL:Int)-1):=rfl;cases hb:(w&&kS f.atJ (sR f) k)with
  |false =>rw[hb,avJ]at fin;simp only[go_sem,A,wZz k];refine fin false _ rfl ?_;exact Lq
  |true =>rw[hb,avR,Y]at fin;simp only[go_sem,A,auW,JO (Om:Z' f.atL<=1000)];refine aB (L.inn _ 0 _) Ev ?_;simp only[go_sem,wZz k];refine fin _ _ rfl ?_;exact Lq
 have e:¬(k:Int)<(Z' f.atJ:Nat):=Om;have:k=Z' f.atJ:=Om;subst this;rw[avT aZ]at O;rw[BY];simp only[go_sem,e];exact V v _ _ ⟨s_,s_,s_,s_,s_,s_,s_⟩ O
theorem rS{f:aD}(h:¬(Z' f.atQ<=4/\Z' f.atI<=4/\Z' f.atK<=40/\Z' f.atH<=24/\Z' f.atL<=4/\Z' f.atJ<=12)):rR f=false:=by
 rw[<-Bool.not_eq_true];intro e;simp only[rR,avE,dT_]at e;omega
theorem J3{f:aD}(h:Z' f.atQ<=4/\Z' f.atI<=4/\Z' f.atK<=40/\Z' f.atH<=24/\Z' f.atL<=4/\Z' f.atJ<=12):rR f=within f.auO 1 4:=by
 obtain⟨e,i,l,u,h5,w⟩:=h;simp[rR,e,i,l,u,h5,w]
theorem qU{t:Nat}{n m:Int}{F:PF}{H:PH}(h:F t=some (.j n))(e:n=m):aW [.tmp t] (cC (.j m)) .ret F H:=by
 subst e;exact bC (.inr rfl) .nil (vs:=[.j n]) (by rw[nZ,rP,h,tK]) a_ ⟨.refl _,rfl⟩
def BA(f:aD):Int:=if cM f then 0 else 1
theorem Q8{f:aD}(h:cM f=false):BA f=1:=by rw[BA,h];rfl
theorem AF{F:PF}{H:PH}{name t s:Nat}{v r:PV}{rows:P2_}{d:O_}{K:K_}(h:aH C name [.sl s rows] .nil (aL r))(y:bF H s v rows)(w:F t=some v)
  (l:∀(e:PF)(x:PH),(∀i u,F i=some u->Pure u->e i=some u)->K (e.put d r) x):jS C name [.tmp t] [] d K F H:=by
 rcases y with⟨rfl,rfl⟩|⟨q,rs,rfl,h1,h2,h3⟩
 refine aB (h.Qk (.inl ⟨rfl,rfl⟩)) (by rw[GW,my,w,YM]) ?_;exact l F H λi u hi _=>hi;rw[<-h3]at h;refine wE (k:=Z' rows) h w h1 h2 (l _ _ λi u hi hp=>?_);rw[wQ,hi,avS,hp q s rs]
theorem Seen.pure{s:Nat}{v:PV}{rows:P2_}(h:Seen s v rows):Pure v:=by
 rcases h with⟨_,rfl⟩|rfl
 exact λ_ _ _=>rfl;exact λ_ _ _=>rfl
def bI(b:Bool):Int:=if b then 0 else 1
abbrev YY(f:aD):List (List UInt8):=(f.atK.drop 1).map cR.name++f.atH.map eP.name
def BU(f:aD):Bool:=distinct (f.atQ.map cU.name)&&distinct (f.atI.map dR.name)&&distinct (YY f)&&distinct (f.atL.map cO.name)&&distinct (f.atJ.map gN.name)
structure Small(f:aD):Prop where
 atQ:Z' f.atQ<=4
 atI:Z' f.atI<=4
 atK:Z' f.atK<=40
 atH:Z' f.atH<=24
 atL:Z' f.atL<=4
 atJ:Z' f.atJ<=12
theorem JA(L:oC C){v:PV}{l:List (List UInt8)}(h:Seen 1 v (gU l))(e:Z' l<=1000):aH C 110 [v] .nil (aL (.bool (distinct l))):=
 (L.uniq l (Om:Z' l<=9223372036854775807)).Qk h
theorem Yl(L:oC C)(f:aD)(J:Small f)(i l u w x:PV)(ok:Bool)(F:PF)(H:PH)(e:oJ F f i l u w x ok)
  (A:Seen 1 i (gU (f.atQ.map cU.name))) (B:Seen 1 l (gU (f.atI.map dR.name))) (h5:Seen 1 u (gU (YY f))) (E:Seen 1 w (gU (f.atL.map cO.name))) (h7:bF H 1 x (gU (f.atJ.map gN.name))) :
  aI.wp C (.seq (.seq (.region HB) (.cond (.tmp 243) (.seq (.region sF) .ret) .skip)) (.seq (.region OT) .ret)) (aW [.tmp 2] (cC (.j (bI (ok&&BU f))))) F H:=by
 obtain⟨s1,s2,s3,s4,Z,s6⟩:=J;have K:(f.atQ.map cU.name).length<=1000:=by simp;omega
 have M:(f.atI.map dR.name).length<=1000:=by simp;omega
 have N:(YY f).length<=1000:=by simp;omega
 have O:(f.atL.map cO.name).length<=1000:=by simp;omega
 have R:(f.atJ.map gN.name).length<=9223372036854775807:=by simp;omega
 cases ok with
 |false =>simp only[go_sem,HB,e.a8,sF];exact qU rfl rfl
 |true=>
  simp only[go_sem,HB,e.a8,e.a3];refine aB (JA L A K) rfl ?_;unfold BU;cases U:distinct (f.atQ.map cU.name)with
  |false =>simp only[go_sem,sF,avP];exact qU rfl rfl
  |true=>
   simp only[go_sem,e.a4,avH];refine aB (JA L B M) rfl ?_;cases V:distinct (f.atI.map dR.name)with
   |false =>simp only[go_sem,sF,avP];exact qU rfl rfl
   |true=>
    simp only[go_sem,e.a5,avH];refine aB (JA L h5 N) rfl ?_;cases W:distinct (YY f)with
    |false =>simp only[go_sem,sF,avP];exact qU rfl rfl
    |true=>
     simp only[go_sem,e.a6,avH];refine aB (JA L E O) rfl ?_;cases X:distinct (f.atL.map cO.name)with
     |false =>simp only[go_sem,sF,avP];exact qU rfl rfl
     |true=>
      simp only[go_sem,e.a7,avH];refine AF (L.uniq _ R) h7 rfl λy S hp=>?_;have g:y 239=some (.bool false):=hp 239 _ rfl λ_ _ _=>rfl;cases Y:distinct (f.atJ.map gN.name)with
      |false =>simp only[go_sem,sF,avP,g];exact qU rfl rfl
      |true =>simp only[go_sem,OT,avH,g];exact qU rfl rfl
abbrev xg(b:Bool):bZ:=aW [.tmp 2] (cC (.int .i64 (bI b)))
def Cu:aI:=.seq (.seq (.region fy) (.block 10 (.loop OS))) (.seq (.seq (.region HB) (.cond (.tmp 243) (.seq (.region sF) .ret) .skip)) (.seq (.region OT) .ret))
def Ct:aI:=.seq (.seq (.region fx) (.block 8 (.loop OR))) Cu
def Cs:aI:=.seq (.seq (.region fw) (.block 6 (.loop OQ))) Ct
def Cr:aI:=.seq (.seq (.region fv) (.block 4 (.loop OP))) Cs
def Cq:aI:=.seq (.seq (.region ft) (.block 2 (.loop OO))) Cr
def Q7:aI:=.seq (.seq (.region vh) (.block 0 (.loop ON))) Cq
theorem afM(L:oC C)(f:aD)(x:Small f)(l u w K:PV)(ok:Bool)(F:PF)(H:PH)(i:oJ F f l u w K .aJ ok)
  (B:Seen 1 l (gU (f.atQ.map cU.name))) (E:Seen 1 u (gU (f.atI.map dR.name))) (h5:Seen 1 w (gU (YY f))) (R:bF H 1 K (gU (f.atL.map cO.name))) :
  aI.wp C Cu (xg (ok&&f.atJ.all (sR f)&&BU f)) F H:=by
 unfold Cu;simp only[go_sem,fy,i.a1,auW];refine wF R λJ A N O U hp=>?_;refine Oi L f x.atJ x.atL ok l u w J _ N O ⟨hp 1 _ (by simp only[go_sem,i.a1]) λ_ _ _=>rfl,hp 3 _ (by simp only[go_sem,i.a3]) B.pure,hp 4 _ (by simp only[go_sem,i.a4]) E.pure,hp 5 _ (by simp only[go_sem,i.a5]) h5.pure,U 6 (by simp only[go_sem,i.a6]),hp 7 _ (by simp only[go_sem,i.a7]) λ_ _ _=>rfl,hp 8 _ (by simp only[go_sem,i.a8]) λ_ _ _=>rfl⟩
  (hp 195 _ rfl λ_ _ _=>rfl) (hp 196 _ rfl λ_ _ _=>rfl) (hp 197 _ rfl λ_ _ _=>rfl) λv M H' y S=>?_
 have e:=Yl L f x l u w J v _ M H' y B E h5 A S;simp only[aI.wp,go_sem]at e;simp only[go_sem];exact e
theorem afL(L:oC C)(f:aD)(O:f.Ok)(u:Small f)(i l E:PV)(ok:Bool)(F:PF)(H:PH)(e:oJ F f i l E .aJ .aJ ok)
  (y:Seen 1 i (gU (f.atQ.map cU.name))) (A:Seen 1 l (gU (f.atI.map dR.name))) (h5:bF H 1 E (gU (YY f))) :
  aI.wp C Ct (xg (ok&&f.atL.all (lT f.atI.length)&&f.atJ.all (sR f)&&BU f)) F H:=by
 unfold Ct;simp only[go_sem,fx,e.a1,auW];refine wF h5 λB x K M R hp=>?_;refine Oh L f O u.atL u.atI ok i l B .aJ _ K M ⟨hp 1 _ (by simp only[go_sem,e.a1]) λ_ _ _=>rfl,hp 3 _ (by simp only[go_sem,e.a3]) y.pure,hp 4 _ (by simp only[go_sem,e.a4]) A.pure,R 5 (by simp only[go_sem,e.a5]),hp 6 _ (by simp only[go_sem,e.a6]) λ_ _ _=>rfl,hp 7 _ (by simp only[go_sem,e.a7]) λ_ _ _=>rfl,hp 8 _ (by simp only[go_sem,e.a8]) λ_ _ _=>rfl⟩
  (hp 174 _ rfl λ_ _ _=>rfl) (hp 175 _ rfl λ_ _ _=>rfl) (hp 176 _ rfl λ_ _ _=>rfl) λv J H' w N=>?_
 simp only[go_sem];exact afM L f u i l B v _ J H' w y A x N
theorem afK(L:oC C)(f:aD)(J:f.Ok)(i:Small f)(l u x:PV)(ok:Bool)(F:PF)(H:PH)(e:oJ F f l u x .aJ .aJ ok)
  (A:Seen 1 l (gU (f.atQ.map cU.name))) (B:Seen 1 u (gU (f.atI.map dR.name))) (h5:bF H 1 x (gU ((f.atK.drop 1).map cR.name))) :
  aI.wp C Cs (xg (ok&&f.atH.all (kN f)&&f.atL.all (lT f.atI.length)&&f.atJ.all (sR f)&&BU f)) F H:=by
 unfold Cs;simp only[go_sem,fw,e.a1,auW];refine Og L f ((f.atK.drop 1).map cR.name) (by have:=i.atK;simp;omega) i.atH i.atI i.atK ok l u x .aJ .aJ _ _ H ⟨by simp only[go_sem,e.a1],by simp only[go_sem,e.a3],by simp only[go_sem,e.a4],by simp only[go_sem,e.a5],by simp only[go_sem,e.a6],by simp only[go_sem,e.a7],by simp only[go_sem,e.a8]⟩ h5
  rfl rfl rfl λv y H' w E=>?_
 simp only[go_sem];exact afL L f J i l u v _ y H' w A B E
theorem afJ(L:oC C)(f:aD)(R:f.Ok)(A:Small f)(V:0<Z' f.atK)(l E:PV)(ok:Bool)(F:PF)(H:PH)(e:oJ F f l E .aJ .aJ .aJ ok)
  (y:Seen 1 l (gU (f.atQ.map cU.name))) (N:bF H 1 E (gU (f.atI.map dR.name))) :
  aI.wp C Cr (xg (ok&&f.atH.all (kN f)&&f.atL.all (lT f.atI.length)&&f.atJ.all (sR f)&&BU f)) F H:=by
 unfold Cr;have u:(1:Int)<=(Z' f.atK:Nat):=Om;have S:=A.atK;have i:((f.atK.map cR.cells).take f.atK.length).drop 1=(f.atK.drop 1).map cR.cells:=by rw[avT aZ,List.map_drop]
 simp only[go_sem,fv,e.a1,auW,u,axA,i];refine wF N λB x K M U hp=>?_;refine Of L f (f.atK.drop 1) (by simp;omega) ok l B .aJ .aJ _ K M ⟨hp 1 _ (by simp only[go_sem,e.a1]) λ_ _ _=>rfl,hp 3 _ (by simp only[go_sem,e.a3]) y.pure,U 4 (by simp only[go_sem,e.a4]),hp 5 _ (by simp only[go_sem,e.a5]) λ_ _ _=>rfl,hp 6 _ (by simp only[go_sem,e.a6]) λ_ _ _=>rfl,hp 7 _ (by simp only[go_sem,e.a7]) λ_ _ _=>rfl,hp 8 _ (by simp only[go_sem,e.a8]) λ_ _ _=>rfl⟩
  (hp 119 _ rfl λ_ _ _=>rfl) (hp 120 _ rfl λ_ _ _=>rfl) (hp 121 _ rfl λ_ _ _=>rfl) λv J H' w O=>?_
 simp only[go_sem];exact afK L f R A l B v _ J H' w y x O
theorem afI(L:oC C)(f:aD)(M:f.Ok)(i:Small f)(K:0<Z' f.atK)(x:PV)(ok:Bool)(F:PF)(H:PH)(e:oJ F f x .aJ .aJ .aJ .aJ ok)
  (E:bF H 1 x (gU (f.atQ.map cU.name))) :
  aI.wp C Cq (xg (ok&&f.atI.all (nF f)&&f.atH.all (kN f)&&f.atL.all (lT f.atI.length)&&f.atJ.all (sR f)&&BU f)) F H:=by
 unfold Cq;simp only[go_sem,ft,e.a1,auW];refine wF E λw u A B N hp=>?_;refine Oe L f i.atI i.atQ ok w .aJ .aJ .aJ _ A B ⟨hp 1 _ (by simp only[go_sem,e.a1]) λ_ _ _=>rfl,N 3 (by simp only[go_sem,e.a3]),hp 4 _ (by simp only[go_sem,e.a4]) λ_ _ _=>rfl,hp 5 _ (by simp only[go_sem,e.a5]) λ_ _ _=>rfl,hp 6 _ (by simp only[go_sem,e.a6]) λ_ _ _=>rfl,hp 7 _ (by simp only[go_sem,e.a7]) λ_ _ _=>rfl,hp 8 _ (by simp only[go_sem,e.a8]) λ_ _ _=>rfl⟩
  (hp 85 _ rfl λ_ _ _=>rfl) (hp 86 _ rfl λ_ _ _=>rfl) (hp 87 _ rfl λ_ _ _=>rfl) λv y H' l J=>?_
 simp only[go_sem];exact afJ L f M i K w v _ y H' l u J
theorem afH(L:oC C)(f:aD)(l:f.Ok)(u:Small f)(y:0<Z' f.atK)(F:PF)(H:PH)(e:oJ F f .aJ .aJ .aJ .aJ .aJ true) :
  aI.wp C Q7 (xg (f.atQ.all nE&&f.atI.all (nF f)&&f.atH.all (kN f)&&f.atL.all (lT f.atI.length)&&f.atJ.all (sR f)&&BU f)) F H:=by
 unfold Q7;simp only[go_sem,vh,e.a1,auW];refine Od L f l u.atQ .aJ .aJ .aJ .aJ _ _ H ⟨by simp only[go_sem,e.a1],by simp only[go_sem,e.a3],by simp only[go_sem,e.a4],by simp only[go_sem,e.a5],by simp only[go_sem,e.a6],by simp only[go_sem,e.a7],by simp only[go_sem,e.a8]⟩ rfl rfl rfl λv w H' i x=>?_;simp only[go_sem];exact afI L f l u y v _ w H' i x
theorem afG(L:oC C)(f:aD)(J:f.Ok):yc.wp C (aW gJ.res (cC (.j (BA f)))) (g_ [.agg f.cells]) .nil:=by
 have he:cM f=(rR f&&sD f&&(f.atQ.all nE&&f.atI.all (nF f)&&f.atH.all (kN f)&&f.atL.all (lT f.atI.length)&&f.atJ.all (sR f))&&BU f):=rfl;simp only[go_sem,yc,gJ];refine aB (L.inn f.auO 1 4) rfl ?_;have bad:∀(F:PF)(H:PH),cM f=false->F 2=some (.j 1)->aW [.tmp 2] (cC (.j (BA f))) .ret F H:=λF H N O=>qU O (Q8 N).symm;cases E:within f.auO 1 4 with
 |false=>
  have:rR f=false:=by simp[rR,E]
  simp only[go_sem,avP];exact bad _ _ (by rw[he,this];simp only[avJ]) rfl
 |true=>
  by_cases s1:Z' f.atQ<=4;have i:¬(Z' f.atQ:Int)>4:=Om;by_cases s2:Z' f.atI<=4;have l:¬(Z' f.atI:Int)>4:=Om;by_cases s3:Z' f.atK<=40;have u:¬(Z' f.atK:Int)>40:=Om;by_cases s4:Z' f.atH<=24;have w:¬(Z' f.atH:Int)>24:=Om;by_cases K:Z' f.atL<=4;have x:¬(Z' f.atL:Int)>4:=Om;by_cases M:Z' f.atJ<=12
  ·have y:¬(Z' f.atJ:Int)>12:=Om;have A:=J3 ⟨s1,s2,s3,s4,K,M⟩;rw[E]at A;simp only[go_sem,avH,auW,i,l,u,w,x,y];refine aB (L.atT f J) rfl ?_;cases B:sD f with
   |false =>simp only[go_sem,avP];exact bad _ _ (by rw[he,B];simp only[awU,avJ]) rfl
   |true=>
    have R:0<Z' f.atK:=by
     rcases axJ f.atK.length with h|h
     have:f.atK=[]:=azL h;rw[sD,this]at B;cases B;exact h
    have U:BA f=bI (f.atQ.all nE&&f.atI.all (nF f)&&f.atH.all (kN f)&&f.atL.all (lT f.atI.length)&&f.atJ.all (sR f)&&BU f):=by rw[BA,he,A,B];rfl
    rw[U];simp only[go_sem,avH];have e:=λF H S=>afH L f J ⟨s1,s2,s3,s4,K,M⟩ R F H S;simp only[Q7,Cq,Cr,Cs,Ct,Cu,aI.wp,go_sem]at e;exact e _ _ ⟨s_,s_,s_,s_,s_,s_,s_⟩
  have y:(Z' f.atJ:Int)>12:=Om;simp only[go_sem,avH,auW,i,l,u,w,x,y];exact bad _ _ (by rw[he,rS Om];simp only[avJ]) rfl;have x:(Z' f.atL:Int)>4:=Om;simp only[go_sem,avH,auW,i,l,u,w,x];exact bad _ _ (by rw[he,rS Om];simp only[avJ]) rfl;have w:(Z' f.atH:Int)>24:=Om;simp only[go_sem,avH,auW,i,l,u,w];exact bad _ _ (by rw[he,rS Om];simp only[avJ]) rfl;have u:(Z' f.atK:Int)>40:=Om;simp only[go_sem,avH,auW,i,l,u];exact bad _ _ (by rw[he,rS Om];simp only[avJ]) rfl;have l:(Z' f.atI:Int)>4:=Om;simp only[go_sem,avH,auW,i,l];exact bad _ _ (by rw[he,rS Om];simp only[avJ]) rfl;have i:(Z' f.atQ:Int)>4:=Om;simp only[go_sem,avH,auW,i];exact bad _ _ (by rw[he,rS Om];simp only[avJ]) rfl
def lvl(f:aD)(i:Nat):Int:=(f.atK.map cR.level).getD i 0
def par(f:aD)(i:Nat):Int:=(f.atK.map cR.parent).getD i 0
def tP(f:aD)(i:Nat):Nat:=(par f i).toNat
def eJ(f:aD)(d:Nat):Nat:=((f.atH.map eP.machine).getD d 0).toNat
def mdl(f:aD)(d:Nat):Nat:=((f.atH.map eP.model).getD d 0).toNat
def ext(f:aD)(d:Nat):Int:=(f.atI.map dR.auA).getD (mdl f d) 0
def DJ(f:aD)(v:Nat):Nat:=((f.atJ.map gN.atW).getD v 0).toNat
def adF:cO:=⟨[],0,0,0,0,0,0,0,0,[],[],⟨false,[],[]⟩,⟨false,[],[]⟩⟩
def cT(f:aD)(v:Nat):cO:=f.atL.getD (DJ f v) adF
def upN(f:aD):Nat->Nat->Nat
 |0,i=>i
 |k+1,i=>tP f (upN f k i)
theorem getD_at{α β:Type}{l:List α}{g:α->β}{i:Nat}{b:β}(h:i<Z' l):(l.map g).getD i b=g l[i]:=by
 simp[avI,h]
structure VF(f:aD):Prop where
 small:Small f
 root:0<Z' f.atK/\lvl f 0=0/\par f 0=-1
 dom:∀i,0<i->i<Z' f.atK->0<=par f i/\tP f i<i/\lvl f (tP f i)=lvl f i-1/\1<=lvl f i/\lvl f i<=4
 drive:∀d (h:d<Z' f.atH),0<=(f.atH[d]).model/\mdl f d<Z' f.atI/\0<=(f.atH[d]).machine/\eJ f d<Z' f.atK/\lvl f (eJ f d)=4
 atW:∀p∈f.atL,1<=p.k/\p.k<=6/\0<=p.m/\p.m<=4/\p.k+p.m<=8/\p.s0=0/\(∀l,0<=p.spread l/\p.spread l<=8)/\∀m∈p.atI,0<=m/\m<Z' f.atI
 volume:∀v (h:v<Z' f.atJ),0<=(f.atJ[v]).atW/\DJ f v<Z' f.atL
 model:∀m∈f.atI,1<=m.auA/\m.auA<=16
theorem agW{p:cO}{n:Nat}(h:lT n p=true):∀m∈p.atI,0<=m/\m<n:=by
 intro m l;simp only[lT,avE]at h;obtain⟨i,hi,rfl⟩:=awR l;have:=awA.1 h.2 i (awG.2 hi);rw[avE]at this;have e:=within_iff.1 this.1;simp only[avI,avF hi,axK]at e;omega
theorem ui{x:Int}(e:1<=x)(i:x<=4):i_.wrap (x-1)=x-1:=wrap_i64 Om Om
theorem VF.of{f:aD}(h:cM f=true):VF f:=by
 simp only[cM,avE]at h;obtain⟨⟨⟨S,u⟩,⟨⟨⟨O,A⟩,y⟩,B⟩,E⟩,-⟩:=h;simp only[rR,avE,dT_]at S;obtain⟨⟨⟨⟨⟨⟨s0,s1⟩,s2⟩,s3⟩,s4⟩,s5⟩,s6⟩:=S;cases e:f.atK with
 |nil=>rw[sD,e]at u;cases u
 |cons r t=>
  rw[sD,e]at u;simp only[IJ,avE,dT_]at u;obtain⟨⟨⟨⟨⟨⟨r1,r2⟩,r3⟩,r4⟩,r5⟩,r6⟩,x⟩:=u;have R:Z' f.atK=Z' t+1:=by rw[e];rfl
  refine⟨⟨s1,s2,s3,s4,s5,s6⟩,⟨by omega,by rw[lvl,e];exact r2,by rw[par,e];exact r3⟩,?_,?_,?_,?_,?_⟩;intro i h0 hi;obtain⟨k,rfl⟩:∃k,i=k+1:=⟨i-1,by omega⟩;have J:k<Z' t:=Om;have:=awA.1 x k (awG.2 J);rw[avF J]at this;simp only[NY,avE,dT_]at this;obtain⟨⟨⟨⟨K,F⟩,M⟩,d4⟩,d5⟩:=this;obtain⟨p0,p1⟩:=within_iff.1 K;obtain⟨V,W⟩:=within_iff.1 M;have w:par f (k+1)=(t[k]).parent:=by rw[par,e];simp[avI,J]
  have e2:lvl f (k+1)=(t[k]).level:=by rw[lvl,e];simp[avI,J]
  rw[ui V W]at F;have X:lvl f (t[k]).parent.toNat=(t[k]).level-1:=F;refine⟨by rw[w];exact p0,?_,?_,by rw[e2];exact V,by rw[e2];exact W⟩;rw[tP,w];omega;rw[tP,w,e2];exact X;intro d u;have:=awA.1 y _ (avB u);simp only[kN,avE,dT_]at this;obtain⟨⟨K,F⟩,M⟩:=this;have a1:=within_iff.1 K;have a2:=within_iff.1 F;have w:mdl f d=(f.atH[d]).model.toNat:=by rw[mdl,getD_at u]
  have e2:eJ f d=(f.atH[d]).machine.toNat:=by rw[eJ,getD_at u]
  refine⟨a1.1,by rw[w];omega,a2.1,by rw[e2];omega,by rw[e2];exact M⟩;intro p hp;have N:=awA.1 B p hp;have Y:=agW N;simp only[lT,QG,avE,dT_,ayX,List.all_nil,axP]at N;obtain⟨⟨⟨⟨⟨⟨⟨⟨k1,m1⟩,km⟩,q1⟩,z0⟩,sp⟩,-⟩,-⟩,-⟩:=N;obtain⟨g0,g1,g2,g3,g4⟩:=sp;have b1:=within_iff.1 k1;have b2:=within_iff.1 m1;have b3:=within_iff.1 g0;have b4:=within_iff.1 g1;have b5:=within_iff.1 g2;have b6:=within_iff.1 g3;have b7:=within_iff.1 g4;refine⟨b1.1,b1.2,b2.1,b2.2,km,z0,λl=>?_,Y⟩;unfold cO.spread;split<;>omega;intro v U;have:=awA.1 E _ (avB U);have a1:=within_iff.1 this;have w:DJ f v=(f.atJ[v]).atW.toNat:=by rw[DJ,getD_at U]
  exact⟨a1.1,by rw[w];omega⟩;intro m Z;have:=awA.1 A m Z;simp only[nF,avE]at this;exact within_iff.1 this.1.1
theorem CW{f:aD}(h:VF f){d:Nat}(i:d<Z' f.atH):∀{k:Nat},k<=4->upN f k (eJ f d)<Z' f.atK/\lvl f (upN f k (eJ f d))=4-(k:Int)
 |0,_=>⟨(h.drive d i).2.2.2.1,by rw[upN,(h.drive d i).2.2.2.2];rfl⟩
 |k+1,y=>by
  obtain⟨w,u⟩:=CW h i (k:=k) Om;have l:0<upN f k (eJ f d):=by
   rcases axJ (upN f k (eJ f d))with e|e
   rw[e,h.root.2.1]at u;omega;exact e
  obtain⟨g1,g2,g3,g4,x⟩:=h.dom _ l w;refine⟨by rw[upN];omega,?_⟩;rw[upN,g3,u];omega
def dE(f:aD)(d:Nat)(level:Int):Nat:=upN f (4-level.toNat) (eJ f d)
def fT(f:aD)(v:Nat):Int:=(cT f v).k+(cT f v).m
def s9:=bP [1] Proofs.Tryz.f53
def da:=bV s9
def Cl:=bP [2] Proofs.Tryz.f157
def sx:=bV Cl
def JG:=bP [2] Proofs.Tryz.f78
def RW:=bV JG
def oH:=bP [2] Proofs.Tryz.f104
def RU:=aA oH 11
def RV:=aA oH 12
def c8:aI:=(sq (aA oH 0) (sq (aA oH 1) (.seq (dD (aA oH 2) 0 (jB (aA oH 3) 17 0 RU (sq (aA oH 4) (dD (aA oH 5) 2 (jB (aA oH 6) 23 2 (aA oH 10) (sq (aA oH 7) (sq (aA oH 8) (.cond (Tm 33) (.region (aA oH 9)) .skip)))))))) (sq RV .ret))))
def NA:=bP [3] Proofs.Tryz.f102
def c9:=bV NA
def tc:=bP [] Proofs.Tryz.f158
def db:=bV tc
def fQ:=bP [3,75,91,134,167] Proofs.Tryz.f103
def XA:=aA fQ 16
def XB:=aA fQ 17
def JH:aI:=(dY (aA fQ 18) 106 4 (aA fQ 20) (.region (aA fQ 19)))
def JI:=aA fQ 21
def yO:aI:=(jB (aA fQ 10) 65 2 JI (sq (aA fQ 11) (iH (aA fQ 12) 70 (sq (aA fQ 13) (.exit 3)) (iH (aA fQ 14) 86 (.region (aA fQ 15)) (sq XA (dD XB 4 JH))))))
def WY:aI:=(jB (aA fQ 24) 124 6 (aA fQ 28) (sq (aA fQ 25) (sq (aA fQ 26) (.cond (Tm 129) (.region (aA fQ 27)) .skip))))
def XC:=aA fQ 33
def WZ:aI:=(jB (aA fQ 31) 143 8 (aA fQ 36) (sq (aA fQ 32) (sq XC (sq (aA fQ 34) (.cond (Tm 162) (.region (aA fQ 35)) .skip)))))
def td:aI:=(sq (aA fQ 0) (dq (eH fQ 0) (sq (aA fQ 1) (.seq (dD (aA fQ 2) 0 (jB (aA fQ 3) 43 0 (aA fQ 6) (sq (aA fQ 4) (.region (aA fQ 5))))) (sq (aA fQ 7) (sq (aA fQ 8) (dq (eH fQ 1) (.seq (dD (aA fQ 9) 2 yO) (sq (aA fQ 22) (.seq (dD (aA fQ 23) 6 WY) (sq (aA fQ 29) (.seq (dD (aA fQ 30) 8 WZ) (sq (aA fQ 37) .ret)))))))))))))
def kF:=bP [3,28,44,74] Proofs.Tryz.f54
def WX:aI:=(jB (aA kF 16) 61 3 (aA kF 20) (sq (aA kF 17) (sq (aA kF 18) (.cond (Tm 70) (.region (aA kF 19)) .skip))))
def ta:aI:=(sq (aA kF 0) (.seq (.block 0 (sq (aA kF 1) (.cond (Tm 14) (sq (aA kF 2) .ret) (sq (aA kF 3) (.cond (Tm 18) (sq (aA kF 4) .ret) .skip))))) (sq (aA kF 5) (.seq (dD (aA kF 6) 1 (jB (aA kF 7) 32 1 (aA kF 13) (sq (aA kF 8) (.seq (sq (aA kF 9) (sq (aA kF 10) (.cond (Tm 41) (sq (aA kF 11) (.exit 2)) .skip))) (.region (aA kF 12)))))) (sq (aA kF 14) (.seq (dD (aA kF 15) 3 WX) (sq (aA kF 21) .ret)))))))
def sy:=bP [3] Proofs.Tryz.f23
def c7:=bV sy
theorem V9(h:∀f:aD,f.Ok->aH C 96 [.agg f.cells] .nil (aL (.j (BA f))))(f:aD)(e:f.Ok) :
  da.wp C (aW s9.res (cC (.bool (cM f)))) (g_ [.agg f.cells]) .nil:=by
 simp only[go_sem,da,s9];refine aB (h f e) Ev ?_;simp only[go_sem];refine bM Ev ?_;unfold BA;cases cM f<;>rfl
theorem mF{f:aD}{d:Nat}(h:d<Z' f.atH):(f.atH.map eP.cells)[d]?=some (f.atH[d]).cells:=by simp[h]
theorem gR{f:aD}{d:Nat}(h:d<Z' f.atK):(f.atK.map cR.cells)[d]?=some (f.atK[d]).cells:=by simp[h]
theorem sS{f:aD}{d:Nat}(h:d<Z' f.atJ):(f.atJ.map gN.cells)[d]?=some (f.atJ[d]).cells:=by simp[h]
theorem oT{f:aD}{d:Nat}(h:d<Z' f.atL):(f.atL.map cO.cells)[d]?=some (f.atL[d]).cells:=by simp[h]
theorem yq{f:aD}{d:Nat}(h:d<Z' f.atI):(f.atI.map dR.cells)[d]?=some (f.atI[d]).cells:=by simp[h]
theorem wU{f:aD}{d:Nat}(h:d<Z' f.atK):(f.atK[d]).level=lvl f d:=by rw[lvl,getD_at h]
theorem qt{f:aD}{d:Nat}(h:d<Z' f.atK):(f.atK[d]).parent=par f d:=by rw[par,getD_at h]
theorem VF.MN{f:aD}(h:VF f){d:Nat}(e:d<Z' f.atH):(f.atH[d]).machine=((eJ f d:Nat):Int):=by
 have:=(h.drive d e).2.2.1;rw[eJ,getD_at e];omega
theorem VF.MO{f:aD}(h:VF f){d:Nat}(e:d<Z' f.atH):(f.atH[d]).model=((mdl f d:Nat):Int):=by
 have:=(h.drive d e).1;rw[mdl,getD_at e];omega
theorem VF.HO{f:aD}(h:VF f){v:Nat}(e:v<Z' f.atJ):(f.atJ[v]).atW=((DJ f v:Nat):Int):=by
 have:=(h.volume v e).1;rw[DJ,getD_at e];omega
theorem VF.ZE{f:aD}(h:VF f){i:Nat}(e:0<i)(hi:i<Z' f.atK):par f i=((tP f i:Nat):Int):=by
 have:=(h.dom i e hi).1;rw[tP];omega
theorem mS{f:aD}(h:VF f){v:Nat}(e:v<Z' f.atJ):∃hp:DJ f v<Z' f.atL,f.atL[DJ f v]=cT f v:=by
 have hp:=(h.volume v e).2;exact⟨hp,by simp[cT,avI,hp]⟩
theorem abD(f:aD)(i:VF f)(v:Nat)(h:v<Z' f.atJ) :
  sx.wp C (aW Cl.res (cC (.j (fT f v)))) (g_ [.agg f.cells,.j v]) .nil:=by
 obtain⟨hp,he⟩:=mS i h;have e:=i.atW _ (avB hp);rw[he]at e;have l:i_.wrap ((cT f v).k+(cT f v).m)=(cT f v).k+(cT f v).m:=wrap_i64 Om Om;simp only[go_sem,sx,Cl];refine bK .nil cS a_ ?_;simp only[go_sem,sS h,i.HO h,oT hp,he];refine aS λo u=>?_;simp only[go_sem,l];refine⟨a_,?_⟩;exact qU (n:=(cT f v).k+(cT f v).m) Ev rfl
structure M2(C:Ctx):Prop where
 valid:∀f:aD,f.Ok->aH C 161 [.agg f.cells] .nil (aL (.bool (cM f)))
 fh:∀(f:aD)(v:Nat),VF f->v<Z' f.atJ->aH C 156 [.agg f.cells,.int .i64 v] .nil (aL (.int .i64 (fT f v)))
def pick(n:Nat)(p:Nat->Bool):I_:=((auX n).filter p).map λ(i:Nat)=>(i:Int)
theorem Us(n:Nat)(p:Nat->Bool):pick (n+1) p=if p n then pick n p++[(n:Int)]else pick n p:=by
 unfold pick;rw[axV,List.filter_append,avU];by_cases h:p n;rw[aF h];simp[h];rw[aC h];simp[h]
theorem Z2(n:Nat)(p:Nat->Bool):(pick n p).length<=n:=by
 unfold pick;rw[auW];exact avZ (azI _ _) aZ
theorem pi(l:I_)(x:Int):aT l++[[.j x]]=aT (l++[x]):=by unfold aT;rw[avU];rfl
theorem cJ(l:I_):(aT l).length=Z' l:=by unfold aT;rw[auW]
theorem MW{t:Nat}{H:PH}{v:PV}{l:I_}{F:PF}(h:bF H 1 v (aT l))(e:F t=some v):aW [.tmp t] (cC (ints l)) .ret F H:=kE (.inr rfl) h e
theorem uU{t:Nat}{H:PH}{F:PF}(e:F t=some .aJ):aW [.tmp t] (cC (ints [])) .ret F H:=kE (rows:=[]) (.inr rfl) .nil e
def MC(f:aD)(dom:Int):I_:=
 if cM f/\0<=dom/\dom<f.atK.length then pick f.atH.length λd=>decide ((dE f d (lvl f dom.toNat):Nat)=dom.toNat)else[]
def toS(f:aD):Spec:=λname vs=>match name,vs with
 |155,[_,.int _ d,.int _ l]=>some ([],λ_=>aL (.int .i64 (dE f d.toNat l:Nat)))
 |156,[_,.int _ v]=>some ([],λ_=>aL (.int .i64 (fT f v.toNat)))
 |_,_=>none
theorem abG(f:aD)(v:Nat):toS f 156 [.agg f.cells,.j v]=some ([],λ_=>aL (.j (fT f v))):=rfl
section
variable (o s:Nat) (rs:P2_)
@[go_sem] theorem arB(k:IntKind)(n:Int):PV.frz o s rs (.int k n)=.int k n:=(rfl)
@[go_sem] theorem apC(b:Bool):PV.frz o s rs (.bool b)=.bool b:=(rfl)
@[go_sem] theorem arF(l:List UInt8):PV.frz o s rs (.str l)=.str l:=(rfl)
@[go_sem] theorem apD:PV.frz o s rs .aJ=.aJ:=(rfl)
@[go_sem] theorem asU(n:Nat)(r:P2_):PV.frz o s rs (.sl n r)=.sl n r:=(rfl)
@[go_sem] theorem apE(c:V_):PV.frz o s rs (.aX c)=.aX c:=(rfl)
@[go_sem] theorem arE(q z i c:Nat):PV.frz o s rs (.ptr q z i c)=.ptr q z i c:=(rfl)
@[go_sem] theorem asT(n:Nat)(c:V_):PV.frz o s rs (.fn n c)=.fn n c:=(rfl)
@[go_sem] theorem arC(q:Nat):PV.frz o s rs (.map q)=.map q:=(rfl)
@[go_sem] theorem arD(q z off len:Nat):PV.frz o s rs (.osl q z off len)=if q=o then(if z=s/\off+len<=rs.length then .sl s ((rs.drop off).take len)else .junk)else .osl q z off len:=(rfl)
end
def qV(s:Nat)(rows:P2_)(r:PV)(H:PH):Prop:=
 (rows=[]/\r=.aJ/\H=h_)\/∃q rs,r=.osl q s 0 rows.length/\H=h_.set q (.rows s rs)/\Z' rows<=Z' rs/\rs.take rows.length=rows
theorem K4(q s:Nat)(rs:P2_):(h_.set q (.rows s rs)).frz q s rs=h_:=PH.ext λo=>by
 rw[FS];by_cases e:o=q;rw[aF e];rfl;rw[aC e,aP,aC e];rfl
section
variable {C:Ctx} {K:bZ} {F:PF} {H:PH} {s:Nat} {v:PV} {rows:P2_}
theorem qV.over{r:PV}{H':PH}(h:qV s rows r H')(u:pI H .nil H'):bF (H.over .nil H') s r rows/\∀o x,H o=some x->(H.over .nil H') o=some x:=by
 rcases h with⟨e,l,rfl⟩|⟨q,rs,e,rfl,h3,h4⟩
 rw[PH.xS];exact⟨.inl ⟨e,l⟩,λo x h=>h⟩;rw[PH.pG];have hq:H q=none:=u q (.rows s rs) (by simp only[aP,if_true]) rfl;refine⟨.inr ⟨q,rs,e,by simp only[aP,if_true],h3,h4⟩,λo x i=>?_⟩;have:o≠q:=by rintro rfl;rw[hq]at i;cases i
 simp only[aP,aC this,i]
theorem QX{t:Nat}{e:lG}(he:e=.normal\/e=.ret)(h:bF H s v rows)(i:F t=some v):aW [.tmp t] (qV s rows) e F H:=by
 rcases h with⟨rfl,rfl⟩|⟨q,rs,rfl,h1,h2,h3⟩
 exact bC (vs:=[.aJ]) he .nil (by rw[nZ,rP,i,tK]) a_ (.inl ⟨rfl,rfl,rfl⟩);exact bC (vs:=[.osl q s 0 rows.length]) he (h_.set q (.rows s rs)) (by rw[nZ,rP,i,tK]) (e_ a_ h1) (.inr ⟨q,rs,rfl,rfl,h2,h3⟩)
theorem MV{t:Nat}{e:lG}(he:e=.normal\/e=.ret)(i:F t=some .aJ):aW [.tmp t] (qV s []) e F H:=QX he .nil i
theorem U8{t:Nat}{e:lG}{r:PV}{H':PH}(he:e=.normal\/e=.ret)(h:qV s rows r H')(l:F t=some r):aW [.tmp t] (qV s rows) e F (H.over .nil H'):=by
 refine bC (vs:=[r]) he H' (by rw[nZ,rP,l,tK]) (λo x i=>?_) h;rw[jV,i]
theorem aH.freeze{name:Nat}{args:V_}(h:aH C name args H (qV s rows)):aH C name args H (aL (.sl s rows)):=
 ⟨h.1,λE w vs N hW y=>(h.2 E w vs N hW y).mono λe S he=>by
  obtain⟨u,pv,J,H',rfl,l,B,A,hp⟩:=he;rcases hp with⟨rfl,rfl,rfl⟩|⟨q,rs,rfl,rfl,h3,h4⟩
  exact⟨u,_,J,_,rfl,l,(Co.nil s).sound B,A,rfl,rfl⟩;have O:jH (n_.set 0 (.osl q s 0 rows.length)) (h_.set q (.rows s rs)) _ _:=.step q (s:=s) (rs:=rs) (by simp only[aP,if_true]) (.refl _ _);obtain⟨M,k1,k2,R⟩:=O.sound l;have x:=R (λ_=>u) (λi p hi=>by rw[mO]at hi;split at hi;cases hi;exact B;cases hi) 0 (.sl s rows) (by rw[wQ,mO,aF rfl,avS,AM h3,h4])
  rw[K4]at k1 k2;exact⟨u,_,M,_,rfl,k1,x,A.trans k2,rfl,rfl⟩⟩
theorem fW.of:∀{E:Env}(ps:V_)(vs:List Value),Z' vs=Z' ps->(∀(i:Nat) p v,ps[i]?=some p->vs[i]?=some v->bH E p v)->fW E ps vs
 |_,[],[],_,_=>.nil
 |_,[],_::_,h,_=>by simp at h
 |_,_::_,[],h,_=>by simp at h
 |_,p::ps,v::vs,h,k=>.cons (k 0 p v rfl rfl) (fW.of ps vs (by simpa using h) λi q u a b=>k (i+1) q u (by simpa using a) (by simpa using b))
theorem bY.same{E:Env}{w y:World}(hW:bY E H w)(J:w.heap.size<=y.heap.size)(hb:∀b,b<w.heap.size->H b=none->y.heap[b]?=w.heap[b]?)(B:∀o x,H o=some x->y.heap[o]?=w.heap[o]?):bY E H y:=by
 have l:∀b,b<w.heap.size->y.heap[b]?=w.heap[b]?:=λb hlt=>by
  cases e:H b with
  |none=>exact hb b hlt e
  |some x=>exact B b x e
 refine⟨λb cs h=>?_,λo x h=>?_,λo n h=>?_⟩;obtain⟨i,ty,fr,u⟩:=hW.g b cs h;exact⟨i,ty,fr,(l b (ayM.1 u).1).trans u⟩;obtain⟨i,u⟩:=hW.h o x h;exact⟨Nat.lt_of_lt_of_le i J,u.mono (.refl E) (l o i)⟩;obtain⟨A,ty,fr,i,u⟩:=hW.s o n h;exact⟨A,ty,fr,(l o (ayM.1 i).1).trans i,u⟩
inductive Plain:PV->Prop
 |int (k:IntKind) (n:Int):Plain (.int k n)
 |bool (b:Bool):Plain (.bool b)
 |str (l:List UInt8):Plain (.str l)
 |two (k k':IntKind) (n n':Int):Plain (.tup [.int k n,.int k' n'])
theorem Plain.rep{v:PV}(h:Plain v){E e:Env}{u:Value}(r:bH E v u):bH e v u:=by
 cases h<;>cases r;exact .int _ _;exact .bool _;exact .str _
 ·rename_i vs i l;refine .tup vs i λj pv v a b=>?_;have h:=l j pv v a b
  match j,a with
  |0,a=>cases a;cases h;exact .int _ _
  |1,a=>cases a;cases h;exact .int _ _
theorem aH.Y0{name o:Nat}{rs:P2_}{args:V_}(X:Plain v)(h:aH C name (args.map (PV.frz o s rs)) .nil (aL v)) :
  aH C name args (h_.set o (.rows s rs)) (λr H'=>r=v/\H'=h_.set o (.rows s rs)):=by
 refine⟨h.1,λE w vs R hW J=>?_⟩;have Y:jH (g_ args) (h_.set o (.rows s rs)) _ _:=.step o (s:=s) (rs:=rs) (by simp only[aP,if_true]) (.refl _ _);obtain⟨N,k1,k2,Z⟩:=Y.sound hW;rw[K4]at k1 k2;have B:=J.len;have M:fW N (args.map (PV.frz o s rs)) vs.toList:=by
  refine fW.of _ _ (by rw[auW];exact B) λi p u hp W=>?_;have:=Z (λi=>(vs.toList[i]?).getD undef) (λj q O=>by have U:=(awD.1 O).1;have A:j<Z' vs.toList:=Om;simp only[avF A,axK];exact J.at_ j q _ O (avF A)) i p (by rw[wQ,args_at,<-avO];exact hp)
  simp only[W,axK]at this;exact this
 refine(h.2 N w vs (k2.env.num.trans R) k1 M).mono λe w' he=>?_;obtain⟨u,pv,E2,H2,rfl,S,V,y,rfl,rfl⟩:=he;have l:∀b,b<w.heap.size->w'.heap[b]?=w.heap[b]?:=λb hb=>y.block b hb rfl;refine⟨u,pv,E,_,rfl,hW.same y.size (λb hb _=>l b hb) (λq x hq=>l q (hW.h q x hq).1),X.rep V,⟨.refl E,y.os,y.tape,y.output,y.size,λb hb _=>l b hb,λq x hq=>.inl ⟨x,hq⟩,λb cs hb=>.inl hb⟩,rfl,rfl⟩
theorem Kb{name o:Nat}{rs:P2_}{args:List aR}{vs:V_}{d:O_}{K:K_}(u:Plain v)(h:aH C name (vs.map (PV.frz o s rs)) .nil (aL v))(e:H o=some (.rows s rs))(i:aR.evs F args=some vs)
  (l:K (F.put d v) H):jS C name args [] d K F H:=by
 refine iS (h.Y0 u) i (e_ a_ e) ?_;rintro r H' ⟨rfl,rfl⟩ -;rw[PH.over_self _ (e_ a_ e)];exact l
theorem Xv{Hs:PH}{S:Spec}{name o:Nat}{rs:P2_}{vs:V_}{R:PH->R_}{args:List aR}{st:Bool}{d:O_}{K:K_}(u:S name vs=some ([o],R))(A:Plain v)(y:H o=some (.rows s rs))
  (h:aH C name (vs.map (PV.frz o s rs)) .nil (aL v)) (e:R (h_.set o (.rows s rs)) v (h_.set o (.rows s rs))) (i:∀r H',R (h_.set o (.rows s rs)) r H'->r=v/\H'=h_.set o (.rows s rs)) (w:aR.evs F args=some vs) (l:Hs.le H) (x:K (F.put d v) H) :
  dOp C Hs S st (.call name args) d K F H:=ep u y (h.Y0 A) e i w l x
theorem Bk{name t:Nat}{R:R_}{d:O_}{K:K_}(h:aH C name [.sl s rows] .nil R)(y:bF H s v rows)(x:F t=some v)
  (w:∀(e:PF)(l:PH),(∀i u,F i=some u->Pure u->e i=some u)->∀r H',R r H'->pI l .nil H'->K (e.put d r) (l.over .nil H')):jS C name [.tmp t] [] d K F H:=by
 rcases y with⟨rfl,rfl⟩|⟨q,rs,rfl,h1,h2,h3⟩
 exact .inl ⟨[.aJ],.nil,R,by rw[GW,my,x,YM];rfl,a_,h.Qk (.inl ⟨rfl,rfl⟩),w F H λi u hi _=>hi⟩;refine .inr ⟨_,_,.step q h1 (.refl _ _),[.sl s rows],.nil,R,?_,a_,h,w _ _ λi u hi hp=>?_⟩;simp only[GW,YM,my,wQ,x,avS,AM h2,h3,awJ];rw[wQ,hi,avS,hp q s rs]
end
def rI(A:I_)(k:Nat):I_:=A.take k++avA (Z' A-k) 0
theorem Jh(A:I_):rI A 0=avA A.length 0:=by simp[rI]
theorem Ny(A:I_):rI A A.length=A:=by simp[rI]
theorem A6(A:I_){k:Nat}(h:k<=Z' A):(rI A k).length=Z' A:=by simp[rI];omega
theorem Nz(A:I_){k:Nat}(h:k<Z' A):(rI A k).set k A[k]=rI A (k+1):=by
 unfold rI;rw[ayF _ _ (by simp;omega),avN,axS Om,axT,show A.length-k=(Z' A-(k+1))+1 by omega,List.replicate_succ,azB,
  awP h,awB]
 rfl
theorem mG(l:I_)(i:Nat)(x:Int):(aT l).set i [.j x]=aT (l.set i x):=by unfold aT;rw[ayE]
theorem tG(n:Nat):avA n [PV.int .i64 0]=aT (avA n 0):=by simp[aT]
theorem sG{l:I_}{i:Nat}(h:i<Z' l):(aT l)[i]?=some [.j l[i]]:=by simp[aT,h]
theorem pe(l:I_):ints l=.sl 1 (aT l):=rfl
def pH(f:aD)(room:I_)(d:Nat):Int:=if room.length=f.atH.length then min (max (room.getD d 0) 0) (ext f d)else ext f d
def iE(f:aD)(room:I_):I_:=(auX f.atH.length).map (pH f room)
def sO(f:aD)(room:I_):I_:=if cM f then iE f room else[]
theorem rW(f:aD)(room:I_):(iE f room).length=Z' f.atH:=by simp[iE]
theorem ju(f:aD)(room:I_){d:Nat}(h:d<(iE f room).length):(iE f room)[d]=pH f room d:=by simp[iE]
theorem VF.Ef{f:aD}(h:VF f){d:Nat}(i:d<Z' f.atH):∃e:mdl f d<Z' f.atI,(f.atI[mdl f d]).auA=ext f d:=by
 have e:=(h.drive d i).2.1;exact⟨e,by rw[ext,getD_at e]⟩
def trF(f:aD)(room:I_)(o k:Nat):PF:=(((((n_.set 1 (ints room)).set 2 (.aX f.cells)).set 5 (.osl o 1 0 f.atH.length)).set 15 (.int .i64 (Z' f.atH:Nat))).set 16 (.int .i64 k))
theorem Li(a b:Int):(if b<a then b else a)=min a b:=by
 rw[Int.min_def];by_cases h:b<a;rw[aF h,aC Om];rw[aC h,aF Om]
theorem V7(valid:∀f:aD,f.Ok->aH C 161 [.agg f.cells] .nil (aL (.bool (cM f))))(f:aD)(R:f.Ok)(room:I_) :
  RW.wp C (aW JG.res (qV 1 (aT (sO f room)))) (g_ [.agg f.cells,ints room]) .nil:=by
 simp only[go_sem,RW,JG];refine aB (valid f R) Ev ?_;unfold sO;cases V:cM f with
 |false =>simp only[go_sem,avP];exact MV (.inr rfl) Ev
 |true=>
  have hV:=VF.of V;have O:=hV.small.atH;have J:(Z' f.atH:Int)*((8:Nat):Int)<=140737488355328:=Om;have K:(Z' f.atH:Int)<=9223372036854775807:=Om;simp only[go_sem,avH,auW,J,K];refine aS λo Z=>?_;simp only[go_sem];have w:=rW f room;have F:=λd h=>ju f room (d:=d) h;generalize X:iE f room=A at *
  refine wp_loop (α:=Nat) (λk=>trF f room o k) (λk=>h_.set o (.rows 1 (aT (rI A k)))) (λk=>k<=Z' f.atH) (λk=>Z' f.atH-k) 0 (auY _) ?_ ?_ ?_;unfold trF;exact Lq;refine e_ a_ ?_;simp only[go_sem];rw[Jh,w,tG];intro k Y;simp only[go_sem,trF];by_cases hlt:k<Z' f.atH;have e:(k:Int)<(Z' f.atH:Nat):=Om;obtain⟨U,he⟩:=hV.Ef hlt;have S:=A6 A (k:=k) Om;have x:k<Z' A:=Om;have W:=sG (l:=rI A k) (i:=k) Om;have u:=Nz A x;rw[F k x]at u;simp only[go_sem,e];refine bK .nil cS a_ ?_;simp only[go_sem,mF hlt,hV.MO hlt,yq U,he,e,avK,W];refine⟨a_,?_⟩
  try simp only[go_sem,auW]
  by_cases c:Z' room=Z' f.atH;have B:((Z' room:Int)==(Z' f.atH:Int))=true:=bN Om;have y:k<Z' room:=Om;have M:(room.map λn=>[PV.int .i64 n])[k]?=some [.j room[k]]:=by simp[y]
  simp only[go_sem,B];refine bK .nil cS a_ ?_;have N:(aT ((rI A k).set k (ext f k)))[k]?=some [.j (ext f k)]:=by rw[<-mG,List.getElem?_set_self (by rw[cJ];omega)]
  simp only[go_sem,M,e,avK,N,max_eq,Li,List.set_set,mG];refine⟨a_,?_⟩;simp only[go_sem,wZz k];refine aE (k+1) hlt Om ?_ ?_;exact Lq;refine e_ a_ ?_;rw[<-u,pH,aF c,avI,avF y,axK];simp only[go_sem];have B:((Z' room:Int)==(Z' f.atH:Int))=false:=bA Om;simp only[go_sem,B,wZz k,mG];refine aE (k+1) hlt Om ?_ ?_;exact Lq;refine e_ a_ ?_;rw[<-u,pH,aC c];simp only[go_sem];have e:¬(k:Int)<(Z' f.atH:Nat):=Om;have:k=Z' f.atH:=Om;subst this;simp only[go_sem,e];have E:rI A f.atH.length=A:=by rw[<-w,Ny]
  rw[E];exact QX (.inr rfl) (v:=.osl o 1 0 f.atH.length) (.inr ⟨o,aT A,by rw[cJ,w],s_,avD _,avT (avD _)⟩) Sq
theorem abJ(L:M2 C)(f:aD)(e:f.Ok)(room:I_) :
  RW.wp C (aW JG.res (qV 1 (aT (sO f room)))) (g_ [.agg f.cells,ints room]) .nil:=V7 L.valid f e room
abbrev lay(l:L2_):PV:=.sl 1 (l.map λr=>[ints r])
def fJ(n:Nat)(xs:I_):I_:=(auX n).map λ(d:Nat)=>((xs.count (d:Int):Nat):Int)
theorem jI(n:Nat)(xs:I_):(fJ n xs).length=n:=by simp[fJ]
theorem d9(n:Nat):fJ n []=avA n 0:=by
 refine axZ (by simp[fJ]) λi e l=>by simp[fJ]
theorem YI{n:Nat}(xs:I_){d:Nat}(h:d<n):(fJ n xs)[d]'(by rw[jI];exact h)=((xs.count (d:Int):Nat):Int):=by simp[fJ]
theorem va{n:Nat}(xs:I_){d:Nat}(h:d<n):(fJ n xs).set d (((xs.count (d:Int):Nat):Int)+1)=fJ n (xs++[(d:Int)]):=by
 refine axZ (by simp[fJ]) λi l u=>?_;simp only[fJ,List.getElem_set,awW,List.getElem_range,List.count_append];by_cases e:d=i;subst e;simp;have:((d:Nat):Int)≠(i:Int):=Om;rw[aC e];simp[List.count_cons,this]
theorem GT{n:Nat}(xs:I_){x:Int}(h:¬(0<=x/\x<n)):fJ n (xs++[x])=fJ n xs:=by
 refine axZ (by simp[fJ]) λi l e=>?_;simp only[fJ,awW,List.getElem_range,List.count_append];have hi:i<n:=by simpa[fJ]using e
 have:x≠(i:Int):=Om;simp[List.count_cons,this]
def iF(f:aD)(l:L2_):I_:=fJ f.atH.length l.flatten
structure iV(l:L2_):Prop where
 rows:Z' l<=16777216
 all:Z' l.flatten<=16777216
theorem yD(l:L2_){i:Nat}(h:i<Z' l):(l.take (i+1)).flatten=(l.take i).flatten++l[i]:=by
 rw[awP h,List.flatten_append];simp only[azE,List.flatten_nil,awJ]
theorem GY(l:L2_)(i:Nat):(l.take i).flatten.length<=Z' l.flatten:=by
 have:l.flatten=(l.take i).flatten++(l.drop i).flatten:=by rw[<-List.flatten_append,ayK]
 rw[this,auZ];omega
def Fi(l:L2_)(n o i:Nat):PF:=((((n_.set 5 (.osl o 1 0 n)).set 14 (lay l)).set 15 (.int .i64 (Z' l:Nat))).set 16 (.int .i64 i))
def vn(l:L2_)(n o i:Nat)(row:I_)(k:Nat):PF:=(((((((n_.set 5 (.osl o 1 0 n)).set 14 (lay l)).set 15 (.int .i64 (Z' l:Nat))).set 16 (.int .i64 i)).set 20 (ints row)).set 21 (.int .i64 (Z' row:Nat))).set 22 (.int .i64 k))
theorem V5(f:aD)(hd:Z' f.atH<=24)(l:L2_)(Z:iV l) :
  c8.wp C (aW oH.res (cC (ints (iF f l)))) (g_ [.agg f.cells,lay l]) .nil:=by
 have O:(Z' f.atH:Int)*((8:Nat):Int)<=140737488355328:=Om;have R:(Z' f.atH:Int)<=9223372036854775807:=Om;obtain⟨β,γ⟩:=Z;simp only[go_sem,c8,oH,auW,O,R];refine aS λo ho=>?_;simp only[go_sem];generalize hn:Z' f.atH=n at *
 refine wp_loop (α:=Nat) (λi=>Fi l n o i) (λi=>h_.set o (.rows 1 (aT (fJ n (l.take i).flatten)))) (λi=>i<=Z' l) (λi=>Z' l-i) 0 (auY _) ?_ ?_ ?_;unfold Fi;exact lM;refine e_ a_ ?_;simp only[go_sem,List.take_zero,List.flatten_nil];rw[d9,tG];intro i hi;simp only[go_sem,Fi];by_cases hlt:i<Z' l;have u:(i:Int)<(Z' l:Nat):=Om;have hr:(l.map λr=>[ints r])[i]?=some [ints l[i]]:=by simp[hlt]
 have K:=yD l hlt;have S:=GY l (i+1);rw[K,auZ]at S;generalize V:l[i]=row at *
 simp only[go_sem,u,hr,auW];refine wp_loop (α:=Nat) (λk=>vn l n o i row k) (λk=>h_.set o (.rows 1 (aT (fJ n ((l.take i).flatten++row.take k))))) (λk=>k<=Z' row) (λk=>Z' row-k) 0 (auY _) ?_ ?_ ?_;unfold vn;exact lM;rw[List.take_zero,awJ];exact b_;intro k hk;simp only[go_sem,vn];by_cases A:k<Z' row;have e:(k:Int)<(Z' row:Nat):=Om;have B:(row.map λn=>[PV.int .i64 n])[k]?=some [.j row[k]]:=by simp[A]
 have E:(l.take i).flatten++row.take (k+1)=((l.take i).flatten++row.take k)++[row[k]]:=by rw[awP A,awB]
 have fin:∀(F:PF),(vn l n o i row (k+1)).le F->∀H:PH,H o=some (.rows 1 (aT (fJ n ((l.take i).flatten++row.take (k+1))))) ->
   fL (λk=>vn l n o i row k) (λk=>h_.set o (.rows 1 (aT (fJ n ((l.take i).flatten++row.take k))))) (λk=>k<=Z' row) (λk=>Z' row-k) (Z' row-k)
    (fA 2 (fA 1 (fZ C (aI.wp C (.region RU)) (fL (λi=>Fi l n o i) (λi=>h_.set o (.rows 1 (aT (fJ n (l.take i).flatten)))) (λi=>i<=Z' l) (λi=>Z' l-i) (Z' l-i) (fA 0 (fZ C (aI.wp C (.seq (.region RV) .ret)) (aW [.tmp 4] (cC (ints (iF f l)))))))))) .normal F H:=by
  intro F W H X;exact aE (k+1) A Om W (e_ a_ X)
 unfold vn Fi at fin;generalize hx:row[k]=x at *
 by_cases N:x>=0;by_cases U:x<(n:Nat);obtain⟨d,rfl⟩:∃d:Nat,x=d:=⟨x.toNat,by omega⟩;have y:d<n:=Om;have J:=sG (l:=fJ n ((l.take i).flatten++row.take k)) (i:=d) (by rw[jI];exact y);rw[YI _ y]at J;have Y:((l.take i).flatten++row.take k).count (d:Int)<=16777216:=by refine avZ (List.count_le_length ..) ?_;rw[auZ,avN];omega
 have M:=va ((l.take i).flatten++row.take k) y;rw[<-E]at M;have hw:i_.wrap (((((l.take i).flatten++row.take k).count (d:Int):Nat):Int)+1)=((((l.take i).flatten++row.take k).count (d:Int):Nat):Int)+1:=wrap_i64 Om Om;simp only[go_sem,e,B,N,U,avK,J,hw,mG,M,wZz k];exact fin _ Lq _ Sq;have w:=GT (n:=n) ((l.take i).flatten++row.take k) (x:=x) Om;simp only[go_sem,e,B,N,U,wZz k];exact fin _ Lq _ (by rw[E,w];simp only[go_sem]);have w:=GT (n:=n) ((l.take i).flatten++row.take k) (x:=x) Om;simp only[go_sem,e,B,N,wZz k];exact fin _ Lq _ (by rw[E,w];simp only[go_sem]);have e:¬(k:Int)<(Z' row:Nat):=Om;have:k=Z' row:=Om;subst this;simp only[go_sem,e,RU,wZz i,avW];refine aE (i+1) hlt Om ?_ ?_;exact Lq;refine e_ a_ ?_;rw[K];simp only[go_sem];have u:¬(i:Int)<(Z' l:Nat):=Om;have:i=Z' l:=Om;subst this;simp only[go_sem,u,RV,avW];refine QW (.inr rfl) (o:=o) (s:=1) (k:=n) (rs:=aT (fJ n l.flatten)) Sq Sq (by rw[cJ,jI];omega) ⟨?_,rfl⟩;rw[pe,avT (by rw[cJ,jI];omega),iF,hn];exact .refl _
structure Dg(C:Ctx):Prop extends M2 C where
 room:∀(f:aD)(room:I_),f.Ok->aH C 152 [.agg f.cells,ints room] .nil (aL (ints (sO f room)))
 loads:∀(f:aD)(l:L2_),Z' f.atH<=24->iV l->aH C 157 [.agg f.cells,lay l] .nil (aL (ints (iF f l)))
def HF(f:aD)(l:L2_):I_:=if cM f then iF f l else[]
structure jE where
 kind:Int
 vol:Int
 wher:Int
abbrev jE.cells(x:jE):V_:=[.int .i64 x.kind,.int .i64 x.vol,.int .i64 x.wher]
abbrev LK(l:List jE):PV:=.sl 3 (l.map jE.cells)
def gO(p:Int->Bool):I_->Nat->O_
 |[],_=>none
 |x::t,i=>if p x then some i else gO p t (i+1)
def kW(f:aD)(d:Int):Bool:=decide (d < -1)||decide (d>=(Z' f.atH:Nat))
def sZ(f:aD)(l:L2_)(v:Nat):Option jE:=
 if((l.getD v []).length:Int)=fT f v then(gO (kW f) (l.getD v []) 0).map λ(i:Nat)=>⟨1,v,i⟩else some ⟨1,v,((l.getD v []).length:Nat)⟩
def shV:Option jE->PV
 |some x=>.tup [.agg x.cells,.bool true]
 |none=>.tup [.agg [.int .i64 0,.int .i64 0,.int .i64 0],.bool false]
def abK(f:aD)(o:Nat)(v:Nat)(row:I_)(k:Nat):PF:=((((((n_.set 2 (.int .i64 v)).set 3 (.aX f.cells)).set 6 (.ptr o 3 0 0)).set 29 (ints row)).set 30 (.int .i64 (Z' row:Nat))).set 31 (.int .i64 k))
theorem V8(L:Dg C)(f:aD)(hV:VF f)(l:L2_)(R:iV l)(v:Nat)(E:v<Z' l)(J:v<Z' f.atJ) :
  c9.wp C (aW NA.res (cC (shV (sZ f l v)))) (g_ [.agg f.cells,lay l,.j v]) .nil:=by
 have B:(l.map λr=>[ints r])[v]?=some [ints l[v]]:=by simp[E]
 have O:l.getD v []=l[v]:=by simp[avI,E]
 have S:(l[v]).length<=16777216:=by have K:=GY l (v+1);have:=R.all;rw[yD l E,auZ]at K;omega
 unfold sZ;rw[O];simp only[go_sem,c9];refine aS λo V=>?_;simp only[go_sem];refine bK .nil (toS f) a_ ?_;generalize l[v]=row at *
 have fin:∀(x:jE)(F:PF)(H:PH),F 6=some (.ptr o 3 0 0)->F 7=some (.bool true)->H o=some (.rows 3 [x.cells])->aW NA.res (cC (shV (some x))) .ret F H:=by intro x F H M h7 N;refine bC (.inr rfl) .nil (vs:=[.agg x.cells,.bool true]) ?_ a_ ⟨.refl _,rfl⟩;simp only[go_sem,NA,M,h7,N]
 simp only[go_sem,B,auW];refine cB (abG f v) (L.fh f v hV J) rfl a_ ?_;by_cases c:(Z' row:Int)=fT f v;rw[aF c];simp only[go_sem,cF c,B,auW];refine wp_loop (α:=Nat) (λk=>abK f o v row k) (λk=>h_.set o (.rows 3 [[.j 0,.j 0,.j 0]])) (λk=>k<=Z' row/\gO (kW f) row 0=gO (kW f) (row.drop k) k) (λk=>Z' row-k) 0 ⟨auY _,rfl⟩ ?_ b_ ?_;unfold abK;exact lM;rintro k ⟨U,hb⟩;simp only[go_sem,abK];by_cases hlt:k<Z' row;have e:(k:Int)<(Z' row:Nat):=Om;have u:(row.map λn=>[PV.int .i64 n])[k]?=some [.j row[k]]:=by simp[hlt]
 have A:gO (kW f) (row.drop k) k=if kW f row[k]then some k else gO (kW f) (row.drop (k+1)) (k+1):=by rw[axB hlt,gO]
 rw[A]at hb;by_cases w:row[k] < -1;have i:kW f row[k]=true:=by simp[kW,w]
 rw[i]at hb;simp only[go_sem,e,u,w];rw[hb];exact fin ⟨1,v,k⟩ _ _ rfl rfl Sq;by_cases y:row[k]>=(Z' f.atH:Nat);have i:kW f row[k]=true:=by simp[kW,y]
 rw[i]at hb;simp only[go_sem,e,u,w,auW,y];rw[hb];exact fin ⟨1,v,k⟩ _ _ rfl rfl Sq;have i:kW f row[k]=false:=by simp[kW];omega
 rw[i]at hb;simp only[go_sem,e,u,w,auW,y,wZz k];refine aE (k+1) ⟨hlt,hb⟩ Om ?_ b_;exact Lq;have e:¬(k:Int)<(Z' row:Nat):=Om;have:k=Z' row:=Om;subst this;rw[List.drop_length,gO]at hb;simp only[go_sem,e];rw[hb];refine bC (.inr rfl) .nil (vs:=[.agg [.j 0,.j 0,.j 0],.bool false]) ?_ a_ ⟨.refl _,rfl⟩;simp only[go_sem,NA];rw[aC c];simp only[go_sem,cY c,B,auW];exact fin ⟨1,v,(Z' row:Nat)⟩ _ _ rfl rfl Sq
structure Rz(C:Ctx):Prop extends Dg C where
 shape:∀(f:aD)(l:L2_) (v:Nat),VF f->iV l->v<Z' l->v<Z' f.atJ->aH C 160 [.agg f.cells,lay l,.int .i64 v] .nil (aL (shV (sZ f l v)))
section
variable {C:Ctx} {F:PF} {H:PH}
theorem AE{name:Nat}{vs cs:V_}{r:PV}{i:PH}{args:List aR}{d:O_}{K:K_}(h:aH C name (vs++cs) i (λr' H'=>r'=r/\H'=i))(l:aR.evs F args=some vs)(e:i.le H)
  (u:K (F.put d r) H):jS C name args cs d K F H:=by
 refine .inl ⟨vs++cs,i,_,by rw[l];rfl,e,h,?_⟩;rintro r' H' ⟨rfl,rfl⟩ -;rw[PH.over_self _ e];exact u
theorem bF.ne{s s':Nat}{v:PV}{rows:P2_}{o:Nat}{y:P2_}(h:bF H s v rows)(w:H o=some (.rows s' y))(x:s≠s'):∀l,v≠.osl o s 0 l:=by
 intro l e;rcases h with⟨_,i⟩|⟨q,rs,h1,i,_⟩
 rw[i]at e;cases e;rw[h1]at e;injection e with u
 subst u;rw[w]at i;injection i with i
 injection i with i
 exact x i.symm
theorem bF.set{s s':Nat}{v:PV}{rows:P2_}{o:Nat}{y:P2_}{x:aV}(h:bF H s v rows)(u:H o=some (.rows s' y))(w:s≠s'):bF (H.set o x) s v rows:=by
 have l:=h.ne u w;rcases h with⟨e,i⟩|⟨q,rs,e,i,h3,h4⟩
 exact .inl ⟨e,i⟩;refine .inr ⟨q,rs,e,?_,h3,h4⟩;have:q≠o:=by rintro rfl;exact l _ e
 simp only[aP,aC this,i]
def Dis(s:Nat)(v u:PV):Prop:=∀q l e i,v=.osl q s 0 l->u=.osl e s 0 i->q≠e
theorem Dis.nil{s:Nat}:Dis s .aJ .aJ:=λ_ _ _ _ h=>by cases h
theorem Dis.symm{s:Nat}{v u:PV}(h:Dis s v u):Dis s u v:=λq l x w e i=>(h x w q l i e).symm
theorem pZ{s b:Nat}{v u y:PV}{rows rows' src:P2_}{K:R_}(h:bF H s v rows)(M:bF H s u rows')(O:Dis s v u)(W:dH H s y=some src)(V:roomFor rows.length src.length b)
  (R:∀v' H',bF H' s v' (rows++src)->bF H' s u rows'->Dis s v' u->(∀o s' z,s≠s'->H o=some (.rows s' z)->H' o=some (.rows s' z))->K v' H'):kJ H s b v y K:=by
 have w:∀{H':PH}{t:PV}{r:P2_},bF H s t r->(∀o x,H o=some x->(∀l,t=.osl o s 0 l->False)\/H' o=some x)->bF H' s t r:=by
  intro H' t r Z hp;rcases Z with⟨a,b⟩|⟨q,rs,a,b,c,d⟩
  exact .inl ⟨a,b⟩;refine .inr ⟨q,rs,a,?_,c,d⟩;rcases hp q _ b with e|e
  exact(e _ a).elim;exact e
 have gone:∀{o:Nat}{x:aV},H o=none->H o=some x->False:=λa b=>by rw[a]at b;cases b
 have N:∀{o:Nat}{l:Nat},u=.osl o s 0 l->∃x,H o=some x:=by
  intro o l e;rcases M with⟨a,b⟩|⟨q,rs,a,b,c,d⟩
  rw[b]at e;cases e;rw[a]at e;injection e with e;subst e;exact⟨_,b⟩
 rcases h with⟨rfl,rfl⟩|⟨q,rs,rfl,h1,h2,h3⟩
 refine⟨src,W,V,λe=>?_,λe o J=>?_⟩;subst e;exact R _ _ (.inl ⟨rfl,rfl⟩) M O λo s' z _ i=>i;refine R _ _ (.inr ⟨o,src,rfl,by simp only[aP,if_true],avD _,by simp⟩) (w M λo' x B=>.inr ?_) ?_ λo' s' z _ i=>?_;have:o'≠o:=by rintro rfl;exact gone J B
 simp only[aP,aC this,B];intro q l Y X A e2;injection A with A
 subst A;rintro rfl;obtain⟨x,B⟩:=N e2;exact gone J B;have:o'≠o:=by rintro rfl;exact gone J i
 simp only[aP,aC this,i];have E:(rows++src).length=Z' rows+Z' src:=auZ;refine⟨src,W,rfl,rfl,V,rs,h1,h2,?_,λo J=>?_⟩;rw[h3];refine R _ _ (.inr ⟨q,rows++src,by rw[E],by simp only[aP,if_true],avD _,avW⟩) (w M λo' x B=>?_) ?_ λo' s' z U i=>?_;by_cases e:o'=q;exact .inl λl S=>O q _ o' l rfl S e.symm;exact .inr (by simp only[aP,aC e,B]);intro q1 l Y X A e2;injection A with A
 subst A;exact O _ _ _ _ rfl e2;have:o'≠q:=by
  rintro rfl;rw[h1]at i;injection i with i
  injection i with i
  exact U i
 simp only[aP,aC this,i];rw[h3];refine R _ _ (.inr ⟨o,rows++src,by rw[E],by simp only[aP,if_true],avD _,avW⟩) (w M λo' x B=>?_) ?_ λo' s' z U i=>?_;by_cases e:o'=q;exact .inl λl S=>O q _ o' l rfl S e.symm;have e2:o'≠o:=by rintro rfl;exact gone J B
 exact .inr (by simp only[aP,aC e,aC e2,B]);intro q1 l Y X A e2;injection A with A
 subst A;rintro rfl;obtain⟨x,B⟩:=N e2;exact gone J B;have A:o'≠q:=by
  rintro rfl;rw[h1]at i;injection i with i
  injection i with i
  exact U i
 have e2:o'≠o:=by rintro rfl;exact gone J i
 simp only[aP,aC A,aC e2,i]
end
abbrev dX(l:List jE):P2_:=l.map jE.cells
def cD(kind v:Int)(n:Nat)(p:Nat->Bool):List jE:=((auX n).filter p).map λ(i:Nat)=>⟨kind,v,i⟩
theorem jL(kind v:Int)(n:Nat)(p:Nat->Bool):cD kind v (n+1) p=if p n then cD kind v n p++[⟨kind,v,n⟩]else cD kind v n p:=by
 unfold cD;rw[axV,List.filter_append,avU];by_cases h:p n;rw[aF h];simp[h];rw[aC h];simp[h]
theorem fH(kind v:Int)(n:Nat)(p:Nat->Bool):(cD kind v n p).length<=n:=by
 unfold cD;rw[auW];exact avZ (azI _ _) aZ
theorem iM(l:List jE):(dX l).length=Z' l:=by simp[dX]
theorem mB(l:List jE)(x:jE):dX l++[x.cells]=dX (l++[x]):=by simp[dX]
def Gy(o5:Nat)(v:Nat):PH:=h_.set o5 (.rows 1 [[.int .i64 v]])
theorem Wa(o5 v:Nat)(k w:Int):db.wp C (aW tc.res (λr H'=>r=.agg [.j k,.j v,.j w]/\H'=Gy o5 v)) (g_ [.j k,.j w,.ptr o5 1 0 0]) (Gy o5 v):=by
 simp only[go_sem,db,Gy];refine aS λo i=>?_;have e:o5≠o:=by rintro rfl;simp only[aP,if_true]at i;cases i
 simp only[go_sem,e];refine bC (.inr rfl) (h_.set o5 (.rows 1 [[.j v]])) (vs:=[.agg [.j k,.j v,.j w]]) ?_ (e_ a_ ?_) ⟨rfl,rfl⟩;simp only[go_sem,tc];simp only[go_sem,e]
def lP(f:aD)(i:Nat)(d:Int):Bool:=decide (0<=d)&&decide (dE f d.toNat (lvl f i)=i)
def kX(f:aD)(xs:I_)(i:Nat):Int:=if i=0 then 0 else((xs.countP (lP f i):Nat):Int)
def fO(f:aD)(xs:I_):I_:=(auX f.atK.length).map (kX f xs)
def xK(f:aD)(xs:I_)(d:Nat)(k:Nat):I_:=(auX f.atK.length).map λi=>if 4-(k:Int)<lvl f i then kX f (xs++[(d:Int)]) i else kX f xs i
theorem CG(f:aD)(xs:I_):(fO f xs).length=Z' f.atK:=by simp[fO]
theorem VF.qF{f:aD}(h:VF f){i:Nat}(hi:i<Z' f.atK):0<=lvl f i/\lvl f i<=4/\(lvl f i=0↔i=0):=by
 rcases axJ i with e|e
 subst e;rw[h.root.2.1];simp;have:=h.dom i e hi;omega
theorem Sm{f:aD}(h:VF f)(xs:I_)(d:Nat):xK f xs d 0=fO f xs:=by
 refine axZ (by simp[xK,fO]) λi l e=>?_;simp only[xK,fO,awW,List.getElem_range];have hi:i<Z' f.atK:=by simpa[fO]using e
 have:=h.qF hi;rw[aC Om]
theorem Sl{f:aD}(h:VF f)(xs:I_)(d:Nat):xK f xs d 4=fO f (xs++[(d:Int)]):=by
 refine axZ (by simp[xK,fO]) λi u l=>?_;simp only[xK,fO,awW,List.getElem_range];have hi:i<Z' f.atK:=by simpa[fO]using l
 have:=h.qF hi;by_cases e:i=0;subst e;rw[aC Om];simp[kX];rw[aF Om]
theorem xt(f:aD)(xs:I_)(d:Nat){i:Nat}(hi:i≠0):kX f (xs++[(d:Int)]) i=kX f xs i+if dE f d (lvl f i)=i then 1 else 0:=by
 unfold kX;rw[aC hi,aC hi,List.countP_append];by_cases h:dE f d (lvl f i)=i;rw[aF h];simp[lP,h];rw[aC h];simp[lP,h]
theorem aeF{f:aD}(h:VF f)(xs:I_){d:Nat}(A:d<Z' f.atH){k:Nat}(J:k<4) :
  (xK f xs d k)[upN f k (eJ f d)]?=some (kX f xs (upN f k (eJ f d))) /\
  (xK f xs d k).set (upN f k (eJ f d)) (kX f xs (upN f k (eJ f d))+1)=xK f xs d (k+1):=by
 obtain⟨B,x⟩:=CW h A (k:=k) Om;constructor;simp only[xK,avO,axO B,avS];rw[aC Om];refine axZ (by simp[xK]) λi E y=>?_;have hi:i<Z' f.atK:=by simpa[xK]using y
 simp only[xK,List.getElem_set,awW,List.getElem_range];have K:=h.qF hi;by_cases e:upN f k (eJ f d)=i;rw[aF e];subst e;rw[aF Om];have l:upN f k (eJ f d)≠0:=by intro e;rw[e,h.root.2.1]at x;omega
 rw[xt f xs d l,dE,x];have:4-(4-(k:Int)).toNat=k:=Om;rw[this,aF rfl];rw[aC e];by_cases c:4-(k:Int)<lvl f i;rw[aF c,aF Om];rw[aC c];by_cases u:4-((k+1:Nat):Int)<lvl f i;rw[aF u];have w:lvl f i=4-(k:Int):=Om;have l:i≠0:=by intro e;subst e;rw[h.root.2.1]at w;omega
 rw[xt f xs d l,dE,w];have:4-(4-(k:Int)).toNat=k:=Om;rw[this,aC e];simp;rw[aC u]
theorem aeE(f:aD)(xs:I_)(i:Nat):0<=kX f xs i/\kX f xs i<=Z' xs:=by
 unfold kX;have:=List.countP_le_length (p:=lP f i) (l:=xs);split<;>omega
structure LQ(C:Ctx):Prop extends Rz C where
 bad:∀(o5 v:Nat)(k w:Int),aH C 159 [.int .i64 k,.int .i64 w,.ptr o5 1 0 0] (Gy o5 v) (λr H'=>r=.agg [.int .i64 k,.int .i64 v,.int .i64 w]/\H'=Gy o5 v)
structure Obs where
 o5:Nat
 o7:Nat
 o8:Nat
 oD:Nat
 oB:Nat
structure Obs.Ne(o:Obs):Prop where
 a1:o.o5≠o.oD
 a2:o.o5≠o.oB
 a3:o.o7≠o.oD
 a4:o.o7≠o.oB
 a5:o.o8≠o.oD
 a6:o.o8≠o.oB
 a7:o.oD≠o.oB
structure nS(H:PH)(o:Obs)(v:Nat)(p:cO)(A:List Bool)(D B:I_):Prop where
 h5:H o.o5=some (.rows 1 [[.int .i64 v]])
 h7:H o.o7=some (.rows 17 [p.cells])
 h8:H o.o8=some (.rows 1 (dW A))
 hD:H o.oD=some (.rows 1 (aT D))
 hB:H o.oB=some (.rows 1 (aT B))
theorem nS.keep{H H':PH}{o:Obs}{v:Nat}{p:cO}{A:List Bool}{D B:I_}(h:nS H o v p A D B)(e:∀q s' z,3≠s'->H q=some (.rows s' z)->H' q=some (.rows s' z)):nS H' o v p A D B:=
 ⟨e _ _ _ aU h.h5,e _ _ _ aU h.h7,e _ _ _ aU h.h8,e _ _ _ aU h.hD,e _ _ _ aU h.hB⟩
theorem nS.asB{H:PH}{o:Obs}{v:Nat}{p:cO}{A:List Bool}{D B:I_}(h:nS H o v p A D B)(e:o.Ne)(B':I_):nS (H.set o.oB (.rows 1 (aT B'))) o v p A D B':=
 ⟨by simp only[aP,aC e.a2,h.h5],by simp only[aP,aC e.a4,h.h7],by simp only[aP,aC e.a6,h.h8],by simp only[aP,aC e.a7,h.hD],by simp only[aP,if_true]⟩
theorem nS.asC{H:PH}{o:Obs}{v:Nat}{p:cO}{A:List Bool}{D B:I_}(h:nS H o v p A D B)(e:o.Ne)(i:I_):nS (H.set o.oD (.rows 1 (aT i))) o v p A i B:=
 ⟨by simp only[aP,aC e.a1,h.h5],by simp only[aP,aC e.a3,h.h7],by simp only[aP,aC e.a5,h.h8],by simp only[aP,if_true],by simp only[aP,aC (Ne.symm e.a7),h.hB]⟩
def oP(f:aD)(o:Obs)(e i:PV)(row:I_)(k:Nat):PF:=
 ((((((((((((n_.set 3 (.aX f.cells)).set 5 (.ptr o.o5 1 0 0)).set 7 (.ptr o.o7 17 0 0)).set 8 (.osl o.o8 1 0 f.atI.length)).set 11 (.fn 159 [.ptr o.o5 1 0 0])).set 12 (e)).set 13 (i)).set 14 (.osl o.oD 1 0 f.atH.length)).set 15 (.osl o.oB 1 0 f.atK.length)).set 62 (ints row)).set 63 (.int .i64 (Z' row:Nat))).set 64 (.int .i64 k))
def Qb(f:aD)(o:Obs)(e i:PV)(row:I_)(k:Nat)(at_:Nat):PF:=
 (((((((((((((n_.set 3 (.aX f.cells)).set 5 (.ptr o.o5 1 0 0)).set 7 (.ptr o.o7 17 0 0)).set 8 (.osl o.o8 1 0 f.atI.length)).set 11 (.fn 159 [.ptr o.o5 1 0 0])).set 12 (e)).set 13 (i)).set 14 (.osl o.oD 1 0 f.atH.length)).set 15 (.osl o.oB 1 0 f.atK.length)).set 62 (ints row)).set 63 (.int .i64 (Z' row:Nat))).set 64 (.int .i64 k)).set 18 (.int .i64 at_))
theorem akY(f:aD)(hV:VF f)(o:Obs)(hn:o.Ne)(v:Nat)(p:cO)(A:List Bool)(D:I_)(i l:PV)(u w:P2_)(row:I_)(k:Nat)(xs:I_)(γ:Z' xs<=16777216)(d:Nat)(V:d<Z' f.atH)(K:bZ)(F:PF)(H:PH)
  (X:(Qb f o i l row k (eJ f d)).le F) (Y:nS H o v p A D (fO f xs)) (J:bF H 3 i u) (M:bF H 3 l w)
  (Z:∀U H',(oP f o i l row k).le U->nS H' o v p A D (fO f (xs++[(d:Int)]))->bF H' 3 i u->bF H' 3 l w->K .normal U H') :
  aI.wp C (.block 4 (.loop JH)) K F H:=by
 simp only[go_sem];refine wp_loop (α:=Nat × PH) (λt=>Qb f o i l row k (upN f t.1 (eJ f d))) (λt=>t.2) (λt=>t.1<=4/\nS t.2 o v p A D (xK f xs d t.1)/\bF t.2 3 i u/\bF t.2 3 l w) (λt=>4-t.1) (0,H) ⟨auY _,by rw[Sm hV];exact Y,J,M⟩ (by rw[upN];exact X) b_ ?_;rintro⟨j,H0⟩ ⟨W,B,x,y⟩;simp only at W B x y ⊢;obtain⟨E,u2⟩:=CW hV V (k:=j) W;simp only[go_sem,JH,Qb];by_cases hlt:j<4;have S:0<upN f j (eJ f d):=by
  rcases axJ (upN f j (eJ f d))with e|e
  rw[e,hV.root.2.1]at u2;omega;exact e
 have O:((upN f j (eJ f d):Nat):Int)>0:=Om;obtain⟨b1,b2⟩:=aeF hV xs V hlt;have N:(aT (xK f xs d j))[upN f j (eJ f d)]?=some [.j (kX f xs (upN f j (eJ f d)))]:=by unfold aT;rw[avO,b1];rfl
 have β:=aeE f xs (upN f j (eJ f d));have hw:i_.wrap (kX f xs (upN f j (eJ f d))+1)=kX f xs (upN f j (eJ f d))+1:=wrap_i64 Om Om;have R:((upN f j (eJ f d):Nat):Int)<(Z' f.atK:Nat):=Om;simp only[go_sem,O,R,avK,B.hB,N,hw,mG,b2,gR E,qt E,hV.ZE S E];refine aE (j+1,_) ⟨hlt,B.asB hn _,x.set B.hB aU,y.set B.hB aU⟩ sO_ ?_ b_
 (repeat' (first|exact d_|refine c_ ?_ ?_))<;>first|(simp only[go_sem,upN]<;>rfl)|rfl
 have:j=4:=Om;subst this;have h0:upN f 4 (eJ f d)=0:=by have:=hV.qF E;omega
 have O:¬((upN f 4 (eJ f d):Nat):Int)>0:=Om;simp only[go_sem,O];rw[Sl hV]at B;refine Z _ _ ?_ B x y;unfold oP;exact Lq
structure BE(f:aD)(row:I_):Prop where
 len:Z' row<=16777216
 at_:∀x∈row,-1<=x/\x<(Z' f.atH:Nat)
def home(row:I_)(i:Nat):Bool:=decide (row.getD i 0<0)
def dZ(f:aD)(p:cO)(row:I_)(i:Nat):Bool:=decide (0<=row.getD i 0)&&!p.atI.contains ((mdl f (row.getD i 0).toNat:Nat):Int)
theorem Sk(f:aD)(xs:I_){x:Int}(h:x<0):fO f (xs++[x])=fO f xs:=by
 refine axZ (by simp[fO]) λi e l=>?_;simp only[fO,awW,List.getElem_range,kX,List.countP_append];have:lP f i x=false:=by simp[lP];omega
 simp[this]
theorem aaJ(L:LQ C)(f:aD)(hV:VF f)(o:Obs)(hn:o.Ne)(v:Nat)(p:cO)(hp:∀m∈p.atI,0<=m/\m<Z' f.atI)(row:I_)(hr:BE f row)(K:bZ)(F:PF)(H:PH)
  (W:(oP f o .aJ .aJ row 0).le F) (hH:nS H o v p (marks f.atI.length p.atI) (fJ f.atH.length []) (fO f []))
  (hK:∀y E F' H',(oP f o y E row row.length).le F'->nS H' o v p (marks f.atI.length p.atI) (fJ f.atH.length row) (fO f row)->bF H' 3 y (dX (cD 2 v row.length (home row)))->bF H' 3 E (dX (cD 4 v row.length (dZ f p row)))->Dis 3 y E->K (.exit 2) F' H') :
  aI.wp C (.loop yO) K F H:=by
 obtain⟨σ,ξ⟩:=hr;refine wp_loop (α:=Nat × PV × PV × PH) (λt=>oP f o t.2.1 t.2.2.1 row t.1) (λt=>t.2.2.2)
  (λt=>t.1<=Z' row/\nS t.2.2.2 o v p (marks f.atI.length p.atI) (fJ f.atH.length (row.take t.1)) (fO f (row.take t.1))/\bF t.2.2.2 3 t.2.1 (dX (cD 2 v t.1 (home row)))/\bF t.2.2.2 3 t.2.2.1 (dX (cD 4 v t.1 (dZ f p row)))/\Dis 3 t.2.1 t.2.2.1)
  (λt=>Z' row-t.1) (0,.aJ,.aJ,H) ⟨auY _,by rw[List.take_zero];exact hH,.nil,.nil,.nil⟩ W b_ ?_
 rintro⟨k,y,E,H0⟩ ⟨hk,M,N,O,hd⟩;simp only at hk M N O hd ⊢;by_cases hlt:k<Z' row;have A:(k:Int)<(Z' row:Nat):=Om;have Y:(row.map λn=>[PV.int .i64 n])[k]?=some [.j row[k]]:=by simp[hlt]
 have hg:row.getD k 0=row[k]:=by simp[avI,hlt]
 have ζ:row.take (k+1)=row.take k++[row[k]]:=awP hlt;have hx:=ξ row[k] (avB hlt);have e2:=jL 2 v k (home row);have Z:=jL 4 v k (dZ f p row);have hh:home row k=decide (row[k]<0):=by rw[home,hg]
 have ha:dZ f p row k=(decide (0<=row[k])&&!p.atI.contains ((mdl f (row[k]).toNat:Nat):Int)):=by rw[dZ,hg]
 have l2:=fH 2 v k (home row);have l4:=fH 4 v k (dZ f p row);have fin:∀B e (F:PF) (J:PH),(oP f o B e row (k+1)).le F->nS J o v p (marks f.atI.length p.atI) (fJ f.atH.length (row.take (k+1))) (fO f (row.take (k+1)))->bF J 3 B (dX (cD 2 v (k+1) (home row)))->bF J 3 e (dX (cD 4 v (k+1) (dZ f p row)))->Dis 3 B e ->
   fL (λ(t:Nat × PV × PV × PH)=>oP f o t.2.1 t.2.2.1 row t.1) (λt=>t.2.2.2)
    (λt=>t.1<=Z' row/\nS t.2.2.2 o v p (marks f.atI.length p.atI) (fJ f.atH.length (row.take t.1)) (fO f (row.take t.1))/\bF t.2.2.2 3 t.2.1 (dX (cD 2 v t.1 (home row)))/\bF t.2.2.2 3 t.2.2.1 (dX (cD 4 v t.1 (dZ f p row)))/\Dis 3 t.2.1 t.2.2.1)
    (λt=>Z' row-t.1) (Z' row-k) K .normal F J:=
  λB e F J W M h1 h2 h3=>aE (α:=Nat × PV × PV × PH) (k+1,B,e,J) ⟨hlt,M,h1,h2,h3⟩ sO_ W b_
 generalize τ:row[k]=x at *
 by_cases c:x<0;have o1:=GT (n:=Z' f.atH) (row.take k) (x:=x) Om;have o2:=Sk f (row.take k) c;rw[ζ,o1,o2]at fin;rw[aF (by rw[hh];simp[c])]at e2;rw[aC (by rw[ha];simp;omega)]at Z;rw[e2,Z]at fin;simp only[go_sem,yO,oP,A,Y,c];refine AE (vs:=[.j 2,.j k]) (L.bad o.o5 v 2 k) Sq (e_ a_ M.h5) ?_;have R:(1:Nat)*3<=16777216:=by decide
 simp only[go_sem,R];refine pZ (src:=[(⟨2,v,k⟩:jE).cells]) N O hd Sq (by unfold roomFor;rw[iM];simp only[avG,maxLen];omega) λv' H' g1 g2 g3 g4=>?_;rw[mB]at g1;unfold oP at fin;simp only[go_sem,JI,wZz k];exact fin v' E _ H' Lq (M.keep g4) g1 g2 g3
 ·obtain⟨d,rfl⟩:∃d:Nat,x=d:=⟨x.toNat,by omega⟩;have w:d<Z' f.atH:=Om;have ε:(d:Int)<(Z' f.atH:Nat):=Om;obtain⟨w1,w2,w3,w4,w5⟩:=hV.drive d w;have c0:(0:Int)<=(d:Int):=Om;rw[aC (by rw[hh];simp)]at e2;rw[bG c0,avR,axA]at ha;have ρ:(row.take k).count (d:Int)<=16777216:=avZ (List.count_le_length ..) (by rw[avN];omega);have hw:i_.wrap ((((row.take k).count (d:Int):Nat):Int)+1)=(((row.take k).count (d:Int):Nat):Int)+1:=wrap_i64 Om Om;have V:=sG (l:=fJ f.atH.length (row.take k)) (i:=d) (by rw[jI];exact w);rw[YI _ w]at V;have δ:=va (row.take k) w;have ο:(row.take k).length<=16777216:=by rw[avN];omega
  rw[e2,ζ]at fin;have tail:∀e (F:PF) (J:PH),(oP f o y e row k).le F->F 17=some (.j d)->nS J o v p (marks f.atI.length p.atI) (fJ f.atH.length (row.take k)) (fO f (row.take k))->bF J 3 y (dX (cD 2 v k (home row)))->bF J 3 e (dX (cD 4 v (k+1) (dZ f p row)))->Dis 3 y e ->
    aI.wp C (.seq (.region XA) (.seq (.region XB) (.block 4 (.loop JH)))) (fA 3 (fZ C (aI.wp C (.region JI)) (fL (λ(t:Nat × PV × PV × PH)=>oP f o t.2.1 t.2.2.1 row t.1) (λt=>t.2.2.2)
    (λt=>t.1<=Z' row/\nS t.2.2.2 o v p (marks f.atI.length p.atI) (fJ f.atH.length (row.take t.1)) (fO f (row.take t.1))/\bF t.2.2.2 3 t.2.1 (dX (cD 2 v t.1 (home row)))/\bF t.2.2.2 3 t.2.2.1 (dX (cD 4 v t.1 (dZ f p row)))/\Dis 3 t.2.1 t.2.2.1)
    (λt=>Z' row-t.1) (Z' row-k) K))) F J:=by
   intro e F J W η S ι κ gd;have f3:F 3=some (.aX f.cells):=W 3 _ (by unfold oP;simp only[go_sem]);have f14:F 14=some (.osl o.oD 1 0 f.atH.length):=W 14 _ (by unfold oP;simp only[go_sem]);simp only[go_sem,XA,f14,η,ε,avK,S.hD,V,hw,mG,δ,XB,f3,mF w,hV.MN w];have up:=akY (C:=C) f hV o hn v p (marks f.atI.length p.atI) (fJ f.atH.length (row.take k++[(d:Int)])) y e (dX (cD 2 v k (home row))) (dX (cD 4 v (k+1) (dZ f p row))) row k (row.take k) ο d w;simp only[aI.wp,go_sem]at up;refine up _ _ _ ?_ (S.asC hn _) (ι.set S.hD aU) (κ.set S.hD aU) ?_;have g:=λ(q:Nat) u h=>W q u h;unfold oP at g;unfold Qb;refine c_ (c_ (c_ (c_ (c_ (c_ (c_ (c_ (c_ (c_ (c_ (c_ (c_ d_ ?_) ?_) ?_) ?_) ?_) ?_) ?_) ?_) ?_) ?_) ?_) ?_) ?_;simp only[go_sem];exact g 3 _ Sq;simp only[go_sem];exact g 5 _ Sq;simp only[go_sem];exact g 7 _ Sq;simp only[go_sem];exact g 8 _ Sq;simp only[go_sem];exact g 11 _ Sq;simp only[go_sem];exact g 12 _ Sq;simp only[go_sem];exact g 13 _ Sq;simp only[go_sem];exact g 14 _ Sq;simp only[go_sem];exact g 15 _ Sq;simp only[go_sem];exact g 62 _ Sq;simp only[go_sem];exact g 63 _ Sq;simp only[go_sem];exact g 64 _ Sq;simp only[go_sem];intro F' H' μ ν β γ;have g:=λ(q:Nat) u h=>μ q u h;unfold oP at g;have θ:F' 64=some (.j k):=g 64 _ Sq;simp only[go_sem,JI,θ,wZz k];refine fin y e _ H' ?_ ν β γ gd;unfold oP;refine c_ (c_ (c_ (c_ (c_ (c_ (c_ (c_ (c_ (c_ (c_ (c_ d_ ?_) ?_) ?_) ?_) ?_) ?_) ?_) ?_) ?_) ?_) ?_) ?_;simp only[go_sem];exact g 3 _ Sq;simp only[go_sem];exact g 5 _ Sq;simp only[go_sem];exact g 7 _ Sq;simp only[go_sem];exact g 8 _ Sq;simp only[go_sem];exact g 11 _ Sq;simp only[go_sem];exact g 12 _ Sq;simp only[go_sem];exact g 13 _ Sq;simp only[go_sem];exact g 14 _ Sq;simp only[go_sem];exact g 15 _ Sq;simp only[go_sem];exact g 62 _ Sq;simp only[go_sem];exact g 63 _ Sq;simp only[go_sem]
  simp only[aI.wp,go_sem]at tail;have X:((mdl f d:Nat):Int)<(Z' f.atI:Nat):=Om;have U:(dW (marks f.atI.length p.atI))[mdl f d]?=some [.bool (p.atI.contains ((mdl f d:Nat):Int))]:=by have:=HH (n:=Z' f.atI) (l:=p.atI) (m:=((mdl f d:Nat):Int)) Om X;rw[axA]at this;unfold dW;rw[avO,this];rfl
  cases hb:p.atI.contains ((mdl f d:Nat):Int)with
  |true =>rw[hb]at U ha;rw[aC (by rw[ha];simp)]at Z;rw[Z]at tail;simp only[go_sem,yO,oP,A,Y,c,mF w,hV.MO w,X,avK,M.h8,U,avH];exact tail E _ H0 (by unfold oP;exact Lq) Sq M N O hd
  |false=>
   rw[hb]at U ha;rw[aF (by rw[ha];simp)]at Z;rw[Z]at tail;simp only[go_sem,yO,oP,A,Y,c,mF w,hV.MO w,X,avK,M.h8,U,avP];refine AE (vs:=[.j 4,.j k]) (L.bad o.o5 v 4 k) Sq (e_ a_ M.h5) ?_;have R:(1:Nat)*3<=16777216:=by decide
   simp only[go_sem,R];refine pZ (src:=[(⟨4,v,k⟩:jE).cells]) O N hd.symm Sq (by unfold roomFor;rw[iM];simp only[avG,maxLen];omega) λv' H' g1 g2 g3 g4=>?_;rw[mB]at g1;exact tail v' _ H' (by unfold oP;exact Lq) Sq (M.keep g4) g2 g1 g3.symm
 have A:¬(k:Int)<(Z' row:Nat):=Om;have:k=Z' row:=Om;subst this;rw[avW]at M;simp only[go_sem,yO,oP,A];exact hK y E _ _ (by unfold oP;exact Lq) M N O hd
def lY(f:aD)(row:I_)(d:Nat):Bool:=decide ((fJ f.atH.length row).getD d 0>1)
def eN(f:aD)(p:cO)(i:Nat):Int:=p.spread (lvl f i).toNat
def nM(f:aD)(p:cO)(row:I_)(i:Nat):Bool:=decide (eN f p i>0)&&decide ((fO f row).getD i 0>eN f p i)
def tB(f:aD)(p:cO)(v:Nat)(row:I_):List jE:=
 cD 2 v row.length (home row)++cD 3 v f.atH.length (lY f row)++cD 4 v row.length (dZ f p row)++cD 5 v f.atK.length (nM f p row)
def RA(f:aD)(o:Obs)(e i:PV)(k:Nat):PF:=
 ((((((((((n_.set 3 (.aX f.cells)).set 5 (.ptr o.o5 1 0 0)).set 7 (.ptr o.o7 17 0 0)).set 11 (.fn 159 [.ptr o.o5 1 0 0])).set 13 (e)).set 15 (.osl o.oB 1 0 f.atK.length)).set 19 (i)).set 121 (.osl o.oD 1 0 f.atH.length)).set 122 (.int .i64 (Z' f.atH:Nat))).set 123 (.int .i64 k))
def Cj(f:aD)(o:Obs)(e:PV)(k:Nat):PF:=
 ((((((((n_.set 3 (.aX f.cells)).set 5 (.ptr o.o5 1 0 0)).set 7 (.ptr o.o7 17 0 0)).set 11 (.fn 159 [.ptr o.o5 1 0 0])).set 19 (e)).set 140 (.osl o.oB 1 0 f.atK.length)).set 141 (.int .i64 (Z' f.atK:Nat))).set 142 (.int .i64 k))
theorem Vd(L:LQ C)(f:aD)(hV:VF f)(o:Obs)(v:Nat)(p:cO)(A:List Bool)(B:I_)(row:I_)(R:List jE)(β:Z' R<=16777216)(e y:PV)(E:P2_)(K:bZ)(F:PF)(H:PH)
  (hF:(RA f o e y 0).le F) (hH:nS H o v p A (fJ f.atH.length row) B) (U:bF H 3 y (dX R)) (S:bF H 3 e E) (hd:Dis 3 y e)
  (hK:∀v' X H',(RA f o e v' f.atH.length).le X->nS H' o v p A (fJ f.atH.length row) B->bF H' 3 v' (dX (R++cD 3 v f.atH.length (lY f row)))->bF H' 3 e E->Dis 3 v' e->K (.exit 6) X H') :
  aI.wp C (.loop WY) K F H:=by
 have hs:=hV.small.atH;refine wp_loop (α:=T3_) (λt=>RA f o e t.2.1 t.1) (λt=>t.2.2) (λt=>t.1<=Z' f.atH/\nS t.2.2 o v p A (fJ f.atH.length row) B/\bF t.2.2 3 t.2.1 (dX (R++cD 3 v t.1 (lY f row)))/\bF t.2.2 3 e E/\Dis 3 t.2.1 e) (λt=>Z' f.atH-t.1) (0,y,H)
  ⟨auY _,hH,by rw[show cD 3 v 0 (lY f row)=[]from rfl,awJ];exact U,S,hd⟩ hF b_ ?_
 rintro⟨k,v',Z⟩ ⟨hk,J,u,x,O⟩;simp only at hk J u x O ⊢;simp only[go_sem,WY,RA];by_cases hlt:k<Z' f.atH;have w:(k:Int)<(Z' f.atH:Nat):=Om;have V:=sG (l:=fJ f.atH.length row) (i:=k) (by rw[jI];exact hlt);have W:(fJ f.atH.length row).getD k 0=(fJ f.atH.length row)[k]'(by rw[jI];exact hlt):=by rw[avI,avF (by rw[jI];exact hlt)];rfl
 have N:=jL 3 v k (lY f row);have Y:lY f row k=decide ((fJ f.atH.length row)[k]'(by rw[jI];exact hlt)>1):=by rw[lY,W]
 have γ:=fH 3 v k (lY f row);simp only[go_sem,w,avK,J.hD,V];by_cases c:(fJ f.atH.length row)[k]'(by rw[jI];exact hlt)>1;rw[aF (by rw[Y];simp[c])]at N;simp only[go_sem,c];refine AE (vs:=[.j 3,.j k]) (L.bad o.o5 v 3 k) Sq (e_ a_ J.h5) ?_;have M:(1:Nat)*3<=16777216:=by decide
 simp only[go_sem,M];refine pZ (src:=[(⟨3,v,k⟩:jE).cells]) u x O Sq (by unfold roomFor;rw[iM,auZ];simp only[avG,maxLen];omega) λv' H' k1 k2 k3 k4=>?_;rw[mB,awB,<-N]at k1;simp only[go_sem,wZz k];refine aE (k+1,v',H') ⟨hlt,J.keep k4,k1,k2,k3⟩ sO_ ?_ b_;exact Lq;rw[aC (by rw[Y];simp;omega)]at N;rw[<-N]at u;simp only[go_sem,c,wZz k];refine aE (k+1,v',Z) ⟨hlt,J,u,x,O⟩ sO_ ?_ b_;exact Lq;have w:¬(k:Int)<(Z' f.atH:Nat):=Om;have:k=Z' f.atH:=Om;subst this;simp only[go_sem,w];exact hK v' _ _ (by unfold RA;exact Lq) J u x O
theorem Qc(f:aD)(hV:VF f)(o:Obs)(v:Nat)(p:cO)(A:List Bool)(D B:I_)(i:Nat)(hi:i<Z' f.atK)(K:K_)(F:PF)(H:PH)
  (y:nS H o v p A D B) (x:F 3=some (.aX f.cells)) (f7:F 7=some (.ptr o.o7 17 0 0)) (l:F 22=some (.j i))
  (w:∀e:PF,e 24=some (.j (eN f p i))->(∀j,j<147->j≠24->e j=F j)->K e H):wpOps C XC K F H:=by
 obtain⟨M,Z,-⟩:=hV.qF hi;have h5:((lvl f i)<((5:Nat):Int)):=Om;unfold eN at w;simp only[go_sem,XC,x,f7,l,gR hi,wU hi,M,h5,ayG];have E:lvl f i=0\/lvl f i=1\/lvl f i=2\/lvl f i=3\/lvl f i=4:=Om;have fin:∀(e:PF),e 24=some (.j (p.spread (lvl f i).toNat))->(∀j,j<147->j≠24->e j=F j)->K e H:=w;have low:∀(j:Nat),j<147->j≠147/\j≠148/\j≠149/\j≠150/\j≠151/\j≠152/\j≠153/\j≠154/\j≠155:=Om;rcases E with h|h|h|h|h
 all_goals
  rw[h]at fin ⊢;simp only[go_sem,y.h7];refine fin _ (by simp only[go_sem];rfl) λj J u=>?_;obtain⟨N,O,R,S,U,V,W,X,Y⟩:=low j J;simp only[go_sem,u,N,O,R,S,U,V,W,X,Y]
theorem Vc(L:LQ C)(f:aD)(hV:VF f)(o:Obs)(v:Nat)(p:cO)(A:List Bool)(D:I_)(row:I_)(Y:List jE)(ζ:Z' Y<=100000000)(R:PV)(K:bZ)(F:PF)(H:PH)
  (hF:(Cj f o R 0).le F) (hH:nS H o v p A D (fO f row)) (γ:bF H 3 R (dX Y))
  (hK:∀v' F' H',F' 19=some v'->bF H' 3 v' (dX (Y++cD 5 v f.atK.length (nM f p row)))->K (.exit 8) F' H') :
  aI.wp C (.loop WZ) K F H:=by
 have hs:=hV.small.atK;refine wp_loop (α:=T3_) (λt=>Cj f o t.2.1 t.1) (λt=>t.2.2) (λt=>t.1<=Z' f.atK/\nS t.2.2 o v p A D (fO f row)/\bF t.2.2 3 t.2.1 (dX (Y++cD 5 v t.1 (nM f p row)))) (λt=>Z' f.atK-t.1) (0,R,H)
  ⟨auY _,hH,by rw[show cD 5 v 0 (nM f p row)=[]from rfl,awJ];exact γ⟩ hF b_ ?_
 rintro⟨k,v',H0⟩ ⟨hk,O,e⟩;simp only at hk O e ⊢;simp only[go_sem,WZ,Cj];by_cases hlt:k<Z' f.atK;have B:(k:Int)<(Z' f.atK:Nat):=Om;have δ:=sG (l:=fO f row) (i:=k) (by rw[CG];exact hlt);have ε:(fO f row).getD k 0=(fO f row)[k]'(by rw[CG];exact hlt):=by rw[avI,avF (by rw[CG];exact hlt)];rfl
 have S:=jL 5 v k (nM f p row);have η:=fH 5 v k (nM f p row);have ht:nM f p row k=(decide (eN f p k>0)&&decide ((fO f row)[k]'(by rw[CG];exact hlt)>eN f p k)):=by rw[nM,ε]
 generalize(fO f row)[k]'(by rw[CG];exact hlt)=β at *
 simp only[go_sem,B,avK,O.hB,δ];refine Qc f hV o v p A D (fO f row) k hlt _ _ _ O Sq Sq Sq λF' N U=>?_;have g:=λ(q:Nat)(h1:q<147)(h2:q≠24)=>U q h1 h2;have Z:=g 3 aU aU;have q5:=g 5 aU aU;have q7:=g 7 aU aU;have E:=g 11 aU aU;have J:=g 19 aU aU;have w:=g 140 aU aU;have x:=g 141 aU aU;have y:=g 142 aU aU;have W:=g 22 aU aU;have M:=g 23 aU aU;simp only[go_sem,Nat.reduceEqDiff,reduceIte]at Z q5 q7 E J w x y W M;by_cases X:eN f p k>0;by_cases c2:β>eN f p k;rw[aF (by rw[ht];simp[X,c2])]at S;simp only[go_sem,N,M,X,c2,J,E,W];refine AE (vs:=[.j 5,.j k]) (L.bad o.o5 v 5 k) Sq (e_ a_ O.h5) ?_;have V:(1:Nat)*3<=16777216:=by decide
 simp only[go_sem,V];refine pZ (rows':=[]) (u:=.aJ) (src:=[(⟨5,v,k⟩:jE).cells]) e .nil (λ_ _ _ _ _ h=>by cases h) Sq (by unfold roomFor;rw[iM,auZ];simp only[avG,maxLen];omega) λv' H' k1 k2 k3 k4=>?_;rw[mB,awB,<-S]at k1;simp only[go_sem,y,wZz k];refine aE (k+1,v',H') ⟨hlt,O.keep k4,k1⟩ sO_ ?_ b_;exact lE6 Z q5 q7 E w x;rw[aC (by rw[ht];simp;omega)]at S;rw[<-S]at e;simp only[go_sem,N,M,X,c2,y,wZz k];refine aE (k+1,v',H0) ⟨hlt,O,e⟩ sO_ ?_ b_;exact lE7 Z q5 q7 E J w x;rw[aC (by rw[ht];simp;omega)]at S;rw[<-S]at e;simp only[go_sem,N,M,X,y,wZz k];refine aE (k+1,v',H0) ⟨hlt,O,e⟩ sO_ ?_ b_;exact lE7 Z q5 q7 E J w x;have B:¬(k:Int)<(Z' f.atK:Nat):=Om;have:k=Z' f.atK:=Om;subst this;simp only[go_sem,B];exact hK v' _ _ Sq e
theorem TW(n:Nat):avA n [PV.bool false]=dW (marks n []):=by rw[yl];simp[dW]
theorem Rn(n:Nat):avA n [PV.int .i64 0]=aT (fJ n []):=by rw[d9,tG]
theorem Wv(f:aD):avA f.atK.length [PV.int .i64 0]=aT (fO f []):=by
 have:fO f []=avA f.atK.length 0:=by refine axZ (by simp[fO]) λi e l=>?_;simp[fO,kX]
 rw[this,tG]
def Qa(f:aD)(l:L2_)(o5 o7 o8:Nat)(ms:I_)(k:Nat):PF:=
 ((((((((n_.set 1 (lay l)).set 3 (.aX f.cells)).set 5 (.ptr o5 1 0 0)).set 7 (.ptr o7 17 0 0)).set 8 (.osl o8 1 0 f.atI.length)).set 40 (ints ms)).set 41 (.int .i64 (Z' ms:Nat))).set 42 (.int .i64 k))
theorem abM(L:LQ C)(f:aD)(hV:VF f)(U:∀p∈f.atL,Fits p.atI)(l:L2_)(v:Nat)(hv:v<Z' l)(F:v<Z' f.atJ)(hr:BE f l[v]) :
  td.wp C (aW fQ.res (cC (LK (tB f (cT f v) v l[v])))) (g_ [.agg f.cells,lay l,.j v]) .nil:=by
 obtain⟨hp,he⟩:=mS hV F;have B:=hV.atW _ (avB hp);have φ:=U _ (avB hp);rw[he]at B φ;generalize Ω:cT f v=p at *
 have V:=B.2.2.2.2.2.2.2;have W:(l.map λr=>[ints r])[v]?=some [ints l[v]]:=by simp[hv]
 generalize l[v]=row at *
 have E:=hV.small;have ρ:(Z' f.atI:Int)*((1:Nat):Int)<=140737488355328:=by have:=E.atI;omega
 have σ:(Z' f.atI:Int)<=9223372036854775807:=by have:=E.atI;omega
 have N:(Z' f.atH:Int)*((8:Nat):Int)<=140737488355328:=by have:=E.atH;omega
 have O:(Z' f.atH:Int)<=9223372036854775807:=by have:=E.atH;omega
 have R:(Z' f.atK:Int)*((8:Nat):Int)<=140737488355328:=by have:=E.atK;omega
 have S:(Z' f.atK:Int)<=9223372036854775807:=by have:=E.atK;omega
 simp only[go_sem,td];refine aS λo5 h5=>?_;simp only[go_sem];refine bK (h_.set o5 (.rows 1 [[.j v]])) cS (e_ a_ Sq) ?_;simp only[go_sem,sS F,hV.HO F,oT hp,he];refine aS λo7 h7=>?_;have e:o5≠o7:=by rintro rfl;simp only[aP,if_true]at h7;cases h7
 simp only[go_sem,e];refine⟨e_ a_ (by simp only[go_sem,e]),?_⟩;simp only[go_sem,auW,ρ,σ];refine aS λo8 h8=>?_;have i:o5≠o8:=by rintro rfl;simp only[aP,e,if_true,if_false]at h8;cases h8
 have w:o7≠o8:=by rintro rfl;simp only[aP,if_true]at h8;cases h8
 simp only[go_sem,w,auW];rw[TW];refine wp_loop (α:=Nat) (λk=>Qa f l o5 o7 o8 p.atI k) (λk=>((h_.set o5 (.rows 1 [[.j v]])).set o7 (.rows 17 [p.cells])).set o8 (.rows 1 (dW (marks f.atI.length (p.atI.take k))))) (λk=>k<=Z' p.atI) (λk=>Z' p.atI-k) 0 (auY _) ?_ ?_ ?_;unfold Qa;exact lM;refine e_ (e_ (e_ a_ ?_) ?_) ?_;simp only[go_sem,e,i];simp only[go_sem,w];simp only[go_sem,List.take_zero];intro k hk;simp only[go_sem,Qa];by_cases hlt:k<Z' p.atI;have x:(k:Int)<(Z' p.atI:Nat):=Om;have υ:(p.atI.map λn=>[PV.int .i64 n])[k]?=some [.j p.atI[k]]:=by simp[hlt]
 obtain⟨m1,m2⟩:=V _ (avB hlt);have Ψ:(p.atI[k]).toNat<(dW (marks f.atI.length (p.atI.take k))).length:=by rw[CB,VD];omega
 have τ:(dW (marks f.atI.length (p.atI.take k)))[(p.atI[k]).toNat]?=some [.bool ((p.atI.take k).contains p.atI[k])]:=by unfold dW;rw[avO,HH m1 m2];rfl
 simp only[go_sem,x,υ,m1,m2,avK,τ,kK,VE m1 m2,wZz k];refine aE (k+1) hlt Om ?_ ?_;exact Lq;rw[awP hlt];refine e_ (e_ (e_ a_ ?_) ?_) ?_;simp only[go_sem,e,i];simp only[go_sem,w];simp only[go_sem];have x:¬(k:Int)<(Z' p.atI:Nat):=Om;have:k=Z' p.atI:=Om;subst this;simp only[go_sem,x,avW];refine bK .nil cS a_ ?_;simp only[go_sem,auW,N,O,R,S];refine aS λoD hD=>?_;have y:o5≠oD:=by rintro rfl;simp only[aP,e,i,if_true,if_false]at hD;cases hD
 have K:o7≠oD:=by rintro rfl;simp only[aP,w,if_true,if_false]at hD;cases hD
 have M:o8≠oD:=by rintro rfl;simp only[aP,if_true]at hD;cases hD
 simp only[go_sem,auW,N,O,R,S];refine aS λoB hB=>?_;have J:o5≠oB:=by rintro rfl;simp only[aP,e,i,y,if_true,if_false]at hB;cases hB
 have X:o7≠oB:=by rintro rfl;simp only[aP,w,K,if_true,if_false]at hB;cases hB
 have Y:o8≠oB:=by rintro rfl;simp only[aP,M,if_true,if_false]at hB;cases hB
 have Z:oD≠oB:=by rintro rfl;simp only[aP,if_true]at hB;cases hB
 rw[Rn,Wv];simp only[go_sem,e,i,y,J,W,auW];have χ:(⟨o5,o7,o8,oD,oB⟩:Obs).Ne:=⟨y,J,K,X,M,Y,Z⟩;refine aaJ L f hV ⟨o5,o7,o8,oD,oB⟩ χ v p V row hr _ _ _ ?_ ⟨?_,?_,?_,?_,?_⟩ ?_;unfold oP;exact Lq;simp only[go_sem,e,i,y,J];simp only[go_sem,w,K,X];simp only[go_sem,M,Y];simp only[go_sem,Z];simp only[go_sem];intro Λ Ξ F1 H1 ι ξ ε ζ gd;have g:=λ(q:Nat) u h=>ι q u h;unfold oP at g;have q3:=g 3 _ rfl;have q5:=g 5 _ rfl;have q7:=g 7 _ rfl;have ω:=g 11 _ rfl;have Γ:=g 12 _ rfl;have β:=g 13 _ rfl;have Δ:=g 14 _ rfl;have γ:=g 15 _ rfl;simp only[go_sem,Γ,Δ];have l2:=fH 2 v row.length (home row);have l3:=fH 3 v f.atH.length (lY f row);have l4:=fH 4 v row.length (dZ f p row);have a':=hr.len;have Φ:=E.atH;refine Vd L f hV ⟨o5,o7,o8,oD,oB⟩ v p _ _ row (cD 2 v row.length (home row)) Om Ξ Λ _ _ _ H1 ?_ ξ ε ζ gd ?_;unfold RA;exact Lq;intro b' F2 H2 κ ο η A θ;have g:=λ(q:Nat) u h=>κ q u h;unfold RA at g;have q3:=g 3 _ rfl;have q5:=g 5 _ rfl;have q7:=g 7 _ rfl;have ω:=g 11 _ rfl;have β:=g 13 _ rfl;have γ:=g 15 _ rfl;have Θ:=g 19 _ rfl;simp only[go_sem,Θ,β];refine pZ η A θ A.view (by unfold roomFor;rw[iM,iM,auZ];simp only[maxLen];omega) λδ H3 k1 k2 k3 k4=>?_;simp only[go_sem,γ];have ψ:dX (cD 2 v row.length (home row)++cD 3 v f.atH.length (lY f row))++dX (cD 4 v row.length (dZ f p row))=dX (cD 2 v row.length (home row)++cD 3 v f.atH.length (lY f row)++cD 4 v row.length (dZ f p row)):=by simp only[dX,avU]
 rw[ψ]at k1;refine Vc L f hV ⟨o5,o7,o8,oD,oB⟩ v p _ _ row _ (by simp only[auZ];omega) δ _ _ H3 ?_ (ο.keep k4) k1 ?_;unfold Cj;exact Lq;intro c' F4 H4 μ ν;simp only[go_sem,μ];exact kE (.inr rfl) ν rfl
structure Dh(C:Ctx):Prop extends LQ C where
 row:∀(f:aD)(l:L2_) (v:Nat),VF f->(∀p∈f.atL,Fits p.atI)->(h:v<Z' l)->v<Z' f.atJ->BE f l[v]->aH C 158 [.agg f.cells,lay l,.int .i64 v] .nil (aL (LK (tB f (cT f v) v l[v])))
def uO(f:aD)(l:L2_)(v:Nat):List jE:=match sZ f l v with
 |some x=>[x]
 |none=>tB f (cT f v) v (l.getD v [])
def qW(f:aD)(l:L2_)(n:Nat):List jE:=(auX n).flatMap (uO f l)
def over(f:aD)(l:L2_)(room:I_)(d:Nat):Bool:=decide ((iF f l).getD d 0>(iE f room).getD d 0)
def adN(f:aD)(l:L2_)(room:I_):List jE:=qW f l l.length++cD 6 (-1) f.atH.length (over f l room)
def sQ(f:aD)(l:L2_)(room:I_):List jE:=
 if cM f then(if l.length=f.atJ.length then adN f l room else[⟨1,-1,(Z' l:Nat)⟩])else[]
theorem xB{p:Int->Bool}:∀{l:I_}{i:Nat},gO p l i=none->∀x∈l,p x=false
 |[],_,_,x,hx=>absurd hx (avY)
 |y::t,i,h,x,hx=>by
  rw[gO]at h;split at h;cases h;rename_i e;rcases avL.1 hx with rfl|hx
  simpa using e;exact xB h x hx
theorem Ad{f:aD}{l:L2_}(w:iV l){v:Nat}(e:v<Z' l)(h:sZ f l v=none):BE f l[v]:=by
 have u:l.getD v []=l[v]:=by simp[avI,e]
 unfold sZ at h;rw[u]at h;split at h;rw[Option.map_eq_none_iff]at h;refine⟨?_,λx y=>?_⟩;have i:=GY l (v+1);have:=w.all;rw[yD l e,auZ]at i;omega;have:=xB h x y;simp[kW]at this;omega;cases h
theorem Rb(f:aD)(p:cO)(v:Nat)(row:I_):(tB f p v row).length<=2*Z' row+Z' f.atH+Z' f.atK:=by
 unfold tB;have e:=fH 2 v row.length (home row);have i:=fH 3 v f.atH.length (lY f row);have l:=fH 4 v row.length (dZ f p row);have u:=fH 5 v f.atK.length (nM f p row);simp only[auZ];omega
theorem i7{f:aD}(e:Small f){l:L2_}(w:iV l){v:Nat}(i:v<Z' l):(uO f l v).length<=100000000:=by
 unfold uO;split;simp;rename_i h;have u:l.getD v []=l[v]:=by simp[avI,i]
 have:=Rb f (cT f v) v (l.getD v []);have x:=(Ad w i h).len;have:=e.atH;have:=e.atK;rw[u]at *
 omega
theorem OD(f:aD)(l:L2_)(n:Nat):qW f l (n+1)=qW f l n++uO f l n:=by
 unfold qW;rw[axV,List.flatMap_append];simp
theorem CH{f:aD}(i:Small f){l:L2_}(e:iV l):∀{n:Nat},n<=Z' l->(qW f l n).length<=n*100000000
 |0,_=>by simp[qW]
 |n+1,h=>by rw[OD,auZ];have:=CH i e (n:=n) Om;have:=i7 i e (v:=n) Om;omega
def viF(f:aD)(l:L2_)(room:I_)(e:PV)(k:Nat):PF:=((((((n_.set 1 (lay l)).set 2 (ints room)).set 3 (.aX f.cells)).set 7 (e)).set 30 (.int .i64 (Z' l:Nat))).set 31 (.int .i64 k))
def viG(f:aD)(l:L2_)(room:I_)(e:PV)(k:Nat):PF:=(((((n_.set 7 (e)).set 11 (ints (iE f room))).set 58 (ints (iF f l))).set 59 (.int .i64 (Z' f.atH:Nat))).set 60 (.int .i64 k))
theorem Wk(f:aD)(hV:VF f)(l:L2_)(room:I_)(B:List jE)(V:Z' B<=2000000000)(E:PV)(K:bZ)(F:PF)(H:PH)
  (O:(viG f l room E 0).le F) (S:bF H 3 E (dX B))
  (R:∀v' J H',J 7=some v'->bF H' 3 v' (dX (B++cD 6 (-1) f.atH.length (over f l room)))->K (.exit 3) J H'):aI.wp C (.loop WX) K F H:=by
 have W:=hV.small.atH;refine wp_loop (α:=T3_) (λt=>viG f l room t.2.1 t.1) (λt=>t.2.2) (λt=>t.1<=Z' f.atH/\bF t.2.2 3 t.2.1 (dX (B++cD 6 (-1) t.1 (over f l room)))) (λt=>Z' f.atH-t.1) (0,E,H)
  ⟨auY _,by rw[show cD 6 (-1) 0 (over f l room)=[]from rfl,awJ];exact S⟩ O b_ ?_
 rintro⟨k,v',N⟩ ⟨U,i⟩;simp only at U i ⊢;simp only[go_sem,WX,viG];by_cases hlt:k<Z' f.atH;have e:(k:Int)<(Z' f.atH:Nat):=Om;have w:k<(iF f l).length:=by rw[iF,jI];exact hlt
 have x:k<(iE f room).length:=by rw[rW];exact hlt
 have a1:((iF f l).map λn=>[PV.int .i64 n])[k]?=some [.j (iF f l)[k]]:=by simp[w]
 have a2:((iE f room).map λn=>[PV.int .i64 n])[k]?=some [.j (iE f room)[k]]:=by simp[x]
 have M:over f l room k=decide ((iF f l)[k]>(iE f room)[k]):=by simp only[over,avI,avF w,avF x,axK]
 have A:=jL 6 (-1) k (over f l room);have Z:=fH 6 (-1) k (over f l room);simp only[go_sem,e,a1,a2];by_cases c:(iF f l)[k]>(iE f room)[k];rw[aF (by rw[M];simp[c])]at A;have y:(1:Nat)*3<=16777216:=by decide
 simp only[go_sem,c,y];refine pZ (rows':=[]) (u:=.aJ) (src:=[(⟨6,-1,k⟩:jE).cells]) i .nil (λ_ _ _ _ _ h=>by cases h) rfl (by unfold roomFor;rw[iM,auZ];simp only[avG,maxLen];omega) λv' H' k1 k2 X Y=>?_;rw[mB,awB,<-A]at k1;simp only[go_sem,wZz k];refine aE (k+1,v',H') ⟨hlt,k1⟩ sO_ ?_ b_;exact Lq;rw[aC (by rw[M];simp;omega)]at A;rw[<-A]at i;simp only[go_sem,c,wZz k];refine aE (k+1,v',N) ⟨hlt,i⟩ sO_ ?_ b_;exact Lq;have e:¬(k:Int)<(Z' f.atH:Nat):=Om;have:k=Z' f.atH:=Om;subst this;simp only[go_sem,e];exact R v' _ _ rfl i
theorem abL(L:Dh C)(f:aD)(S:f.Ok)(l:L2_)(E:iV l)(room:I_) :
  ta.wp C (aW kF.res (cC (LK (sQ f l room)))) (g_ [.agg f.cells,lay l,ints room]) .nil:=by
 simp only[go_sem,ta,kF];refine aB (L.valid f S) rfl ?_;unfold sQ;have β:=E.rows;have J:∀p∈f.atL,Fits p.atI:=λp hp=>(S.atW p hp).atI;cases Y:cM f with
 |false =>simp only[go_sem,avP];exact kE (rows:=[]) (.inr rfl) .nil rfl
 |true=>
  have hV:=VF.of Y;by_cases c:Z' l=Z' f.atJ;have O:((Z' l:Int) != (Z' f.atJ:Int))=false:=cF Om;rw[aF c];have Z:=hV.small.atJ;simp only[go_sem,avH,auW,O];refine wp_loop (α:=T3_) (λt=>viF f l room t.2.1 t.1) (λt=>t.2.2) (λt=>t.1<=Z' l/\bF t.2.2 3 t.2.1 (dX (qW f l t.1))) (λt=>Z' l-t.1) (0,.aJ,.nil) ⟨auY _,.nil⟩ ?_ a_ ?_;unfold viF;exact lM;rintro⟨k,v7,H0⟩ ⟨hk,N⟩;simp only at hk N ⊢;simp only[go_sem,viF];by_cases hlt:k<Z' l
  ·have i:(k:Int)<(Z' l:Nat):=Om;have U:=CH hV.small E (n:=k) Om;have e:=OD f l k;simp only[go_sem,i];refine aB (L.shape f l k hV E hlt Om) rfl ?_;cases F:sZ f l k with
   |some x=>
    have w:uO f l k=[x]:=by rw[uO,F]
    rw[w]at e;simp only[go_sem,shV];refine aS λo W=>?_;have B:(1:Nat)*3<=16777216:=by decide
    simp only[go_sem,B];refine pZ (rows':=[]) (u:=.aJ) (src:=[x.cells]) (N.fresh W _).1 .nil (λ_ _ _ _ _ h=>by cases h) rfl (by unfold roomFor;rw[iM];simp only[avG,maxLen];omega) λv' H' k1 k2 k3 k4=>?_;rw[mB,<-e]at k1;simp only[go_sem,wZz k];refine aE (k+1,v',H') ⟨hlt,k1⟩ sO_ ?_ b_;exact Lq
   |none=>
    have hg:l.getD k []=l[k]:=by simp[avI,hlt]
    have w:uO f l k=tB f (cT f k) k l[k]:=by rw[uO,F,hg]
    have M:=Ad E hlt F;have K:=i7 hV.small E hlt;rw[w]at e K;simp only[go_sem,shV];refine aS λo W=>?_;simp only[go_sem];refine aB (L.row f l k hV J hlt Om M) rfl ?_;simp only[go_sem];refine pZ (rows':=[]) (u:=.aJ) (src:=dX (tB f (cT f k) k l[k])) (N.fresh W _).1 .nil (λ_ _ _ _ _ h=>by cases h) rfl (by unfold roomFor;rw[iM,iM];simp only[maxLen];omega) λv' H' k1 k2 k3 k4=>?_;have X:dX (qW f l k)++dX (tB f (cT f k) k l[k])=dX (qW f l (k+1)):=by rw[e];simp only[dX,avU]
    rw[X]at k1;simp only[go_sem,wZz k];refine aE (k+1,v',H') ⟨hlt,k1⟩ sO_ ?_ b_;exact Lq
  have i:¬(k:Int)<(Z' l:Nat):=Om;have:k=Z' l:=Om;subst this;have U:=CH hV.small E (n:=Z' l) (avD _);have y:=L.room f room S;rw[sO,Y]at y;have A:=L.loads f l hV.small.atH E;simp only[go_sem,i];refine aB y rfl ?_;simp only[go_sem];refine aB A rfl ?_;have V:(iF f l).length=Z' f.atH:=by rw[iF,jI]
  simp only[go_sem,auW,V];refine Wk f hV l room (qW f l l.length) Om v7 _ _ H0 ?_ N ?_;unfold viG;exact Lq;intro v' F' H' h7 R;simp only[go_sem,h7];exact kE (.inr rfl) R rfl;have O:((Z' l:Int) != (Z' f.atJ:Int))=true:=cY Om;have B:(1:Nat)*3<=16777216:=by decide
  rw[aC c];simp only[go_sem,avH,auW,O,B];exact bC (.inr rfl) .nil rfl a_ ⟨.refl _,rfl⟩
structure acV(C:Ctx):Prop extends Dh C where
 viol:∀(f:aD)(l:L2_) (room:I_),f.Ok->iV l->aH C 154 [.agg f.cells,lay l,ints room] .nil (aL (LK (sQ f l room)))
def lO(f:aD)(l:L2_)(room:I_):Bool:=cM f&&decide ((sQ f l room).length=0)
theorem V1(L:acV C)(f:aD)(e:f.Ok)(l:L2_)(i:iV l)(room:I_) :
  c7.wp C (aW sy.res (cC (.bool (lO f l room)))) (g_ [.agg f.cells,lay l,ints room]) .nil:=by
 simp only[go_sem,c7,sy];refine aB (L.valid f e) rfl ?_;unfold lO;cases u:cM f with
 |false =>simp only[go_sem];exact bM rfl rfl
 |true =>simp only[go_sem];refine aB (L.viol f l room e i) rfl ?_;by_cases c:(sQ f l room).length=0;simp only[go_sem,auW,bN (show(((sQ f l room).length:Nat):Int)=0 by omega)];exact bM rfl (by simp[c]);simp only[go_sem,auW,bA (show(((sQ f l room).length:Nat):Int)≠0 by omega)];exact bM rfl (by rw[bS c])
def ia:=bP [] Proofs.Tryz.f11
def vw:=aA ia 3
def yo:aI:=(sq (aA ia 0) (iH (aA ia 1) 5 (.region (aA ia 2)) (sq vw .ret)))
def EN:=bP [] Proofs.Tryz.f8
def ib:=aA EN 1
def QB:aI:=(sq (aA EN 0) (.seq (dq (eH EN 0) (.cond (Tm 18) (sq ib .ret) .skip)) (sq (aA EN 2) (dq (eH EN 1) .ret))))
def B8:=bP [] Proofs.Tryz.f61
def p5:=bV B8
def kZ:=bP [45,63,90,95] Proofs.Tryz.f29
def vr:=aA kZ 6
def vt:=aA kZ 7
def vu:=aA kZ 8
def YX:=aA kZ 9
def gl:=aA kZ 10
def gm:=aA kZ 11
def gn:=aA kZ 12
def gp:=aA kZ 13
def gr:=aA kZ 14
def PX:=aA kZ 15
def gt:=aA kZ 16
def gv:=aA kZ 17
def gw:=aA kZ 21
def gx:=aA kZ 22
def gy:=aA kZ 23
def PW:aI:=(dY (aA kZ 18) 68 2 gy (sq (aA kZ 19) (iH (aA kZ 20) 85 (.region gw) (.region gx))))
def gz:=aA kZ 24
def yn:aI:=(sq (aA kZ 0) (sq (aA kZ 1) (sq (aA kZ 2) (sq (aA kZ 3) (.seq (dD (aA kZ 4) 0 (dY (aA kZ 5) 22 0 (aA kZ 25) (sq vr (iH vt 29 (.region vu) (sq YX (sq gl (sq gm (sq gn (iH gp 58 (.region gr) (sq PX (sq gt (.seq (dD gv 2 PW) (.region gz))))))))))))) (sq (aA kZ 26) .ret))))))
def O7:=bP [16] Proofs.Tryz.f33
def yr:=bV O7
def B9:=bP [] Proofs.Tryz.f30
def p6:=bV B9
def mW:=bP [60,81,113] Proofs.Tryz.f32
def VI:=eH mW 3
def VJ:=aA mW 11
def CP:aI:=(dY (aA mW 5) 28 0 (aA mW 12) (iH (aA mW 6) 32 (iH (aA mW 7) 39 (dq (eH mW 0) (.draw (eH mW 1))) (.exit 1)) (iH (aA mW 8) 78 .ret (dq (eH mW 2) (iH (aA mW 9) 98 (.region (aA mW 10)) (dq VI (.region VJ)))))))
def PU:aI:=(sq (aA mW 0) (sq (aA mW 1) (iH (aA mW 2) 25 (.region (aA mW 3)) (dD (aA mW 4) 0 CP))))
def eK:=bP [40,67,148,154,176] Proofs.Tryz.f12
def VH:aI:=(dY (aA eK 4) 29 0 (aA eK 8) (sq (aA eK 5) (sq (aA eK 6) (.region (aA eK 7)))))
def PK:aI:=(dY (aA eK 11) 48 2 (aA eK 12) (dq (eH eK 0) (.draw (eH eK 1))))
def PO:=aA eK 18
def EI:=eH eK 2
def EJ:=eH eK 3
def EK:=aA eK 19
def EL:=aA eK 20
def PP:=aA eK 21
def EH:aI:=(dY (aA eK 22) 119 6 (aA eK 25) (sq (aA eK 23) (.cond (Tm 124) (.region (aA eK 24)) .skip)))
def PQ:=aA eK 26
def PR:=aA eK 27
def PS:=aA eK 28
def PT:=aA eK 29
def EM:=aA eK 30
def PL:aI:=(dY (aA eK 17) 82 4 (aA eK 31) (sq PO (.seq (dq EI (.draw EJ)) (sq EK (sq EL (.seq (dD PP 6 EH) (sq PQ (sq PR (iH PS 143 (.region PT) (.region EM))))))))))
def PN:aI:=(dY (aA eK 34) 163 8 (aA eK 35) (dq (eH eK 4) (.draw (eH eK 5))))
def b8:aI:=(sq (aA eK 0) (sq (aA eK 1) (sq (aA eK 2) (.seq (dD (aA eK 3) 0 VH) (sq (aA eK 9) (.seq (dD (aA eK 10) 2 PK) (sq (aA eK 13) (sq (aA eK 14) (sq (aA eK 15) (.seq (dD (aA eK 16) 4 PL) (sq (aA eK 32) (.seq (dD (aA eK 33) 8 PN) (sq (aA eK 36) .ret)))))))))))))
def pw:=bP [] Proofs.Tryz.f14
def bv:=bV pw
def Ca:=bP [3,21] Proofs.Tryz.f13
def p8:=bV Ca
def iA:=bP [3,62,66] Proofs.Tryz.f6
def PY:=aA iA 7
def PZ:=aA iA 8
def QA:=aA iA 9
def JY:=aA iA 10
def JZ:=aA iA 11
def KB:=aA iA 12
def KC:=aA iA 13
def BM:=aA iA 14
def KD:=aA iA 15
def BN:=aA iA 16
def KE:=aA iA 17
def JX:aI:=(dY PY 28 2 KE (sq PZ (iH QA 34 (sq JY (sq JZ (.block 4 (sq KB (.cond (Tm 44) (.region KC) (sq BM (.cond (Tm 51) (.region KD) .skip))))))) (.region BN))))
def VK:aI:=(sq (aA iA 0) (sq (aA iA 1) (.seq (dD (aA iA 2) 0 (dY (aA iA 3) 15 0 (aA iA 19) (sq (aA iA 4) (sq (aA iA 5) (.seq (dD (aA iA 6) 2 JX) (.region (aA iA 18))))))) (sq (aA iA 20) .ret))))
def Ck:=bP [2] Proofs.Tryz.f17
def sf:=bV Ck
def JN:=bP [] Proofs.Tryz.f110
def ko:=aA JN 4
def tp:aI:=(sq (aA JN 0) (sq (aA JN 1) (.seq (.block 0 (.loop (.seq (sq (aA JN 2) (.cond (Tm 15) .skip (.exit 0))) (.block 1 (.region (aA JN 3)))))) (sq ko .ret))))
def Cp:=bP [8] Proofs.Tryz.f64
def th:=bV Cp
def tg:=bP [] Proofs.Tryz.f165
def dc:=bV tg
def Qv:=bP [] Proofs.Tryz.f190
def Al:=bV Qv
def eM:=bP [76] Proofs.Tryz.f166
def RY:=aA eM 4
def RZ:=aA eM 5
def SA:=aA eM 6
def KV:aI:=(dY (aA eM 7) 36 0 (aA eM 11) (sq (aA eM 8) (sq (aA eM 9) (.region (aA eM 10)))))
def KW:=aA eM 12
def KX:=aA eM 15
def KY:=aA eM 16
def KZ:=aA eM 17
def LC:=aA eM 18
def BR:aI:=(.seq (dq (eH eM 1) (.cond (Tm 146) .skip (.exit 4))) (.block 5 (.region (aA eM 23))))
def LD:=aA eM 24
def LF:=aA eM 25
def BS:aI:=(dY (aA eM 26) 166 6 (aA eM 30) (sq (aA eM 27) (sq (aA eM 28) (.cond (Tm 177) (.region (aA eM 29)) .skip))))
def LG:=aA eM 31
def LH:=aA eM 32
def BT:aI:=(dY (aA eM 19) 105 2 LH (dq (eH eM 0) (sq (aA eM 20) (iH (aA eM 21) 131 (.region (aA eM 22)) (.seq (.block 4 (.loop BR)) (sq LD (.seq (dD LF 6 BS) (.region LG))))))))
def LJ:=aA eM 33
def XD:aI:=(sq (aA eM 0) (kB (aA eM 1) 23 (aA eM 2) (iH (aA eM 3) 28 (sq RY (sq RZ (.seq (dD SA 0 KV) (sq KW .ret)))) (sq (aA eM 13) (sq (aA eM 14) (sq KX (sq KY (sq KZ (.seq (dD LC 2 BT) (sq LJ .ret))))))))))
def udiv:=bP [] Proofs.Tryz.f112
def Am:=bV udiv
def Qz:=bP [] Proofs.Tryz.f111
def An:=bV Qz
def pW:=bP [16] Proofs.Tryz.f63
def SI:=aA pW 6
def SJ:=aA pW 7
def FA:=aA pW 8
def XQ:aI:=(sq (aA pW 0) (sq (aA pW 1) (kB (aA pW 2) 15 (aA pW 3) (.seq (sq (aA pW 4) (sq (aA pW 5) (.cond (Tm 32) (sq SI (.region SJ)) .skip))) (sq FA .ret)))))
def C0:=bP [] Proofs.Tryz.f65
def t8:=bV C0
def tw:=bP [] Proofs.Tryz.f34
def tx:=bV tw
def Ra:=bP [] Proofs.Tryz.f31
def Av:=bV Ra
def utF(xs:N_)(n:Nat):PF:=((n_.set 0 (aN xs)).set 3 (.int .i64 n))
theorem acA(xs:N_)(R:Lim xs)(S:Z' xs<=35184372087808):tp.wp C (aW JN.res (qV 1 (aO (aM (val xs))))) (g_ [aN xs]) .nil:=by
 simp only[go_sem,tp,JN,auW];refine wp_loop (α:=Nat) (λn=>utF xs n) (λ_=>.nil) (λn=>n<=Z' xs/\∀j x,n<=j->xs[j]?=some x->x=0) (λn=>n) xs.length ⟨avD _,λj x A i=>?_⟩ ?_ a_ ?_
 ·rw[awN A]at i;cases i
 ·unfold utF;exact Lq
 rintro n ⟨N,J⟩;have done:(0<n->∀h:n-1<Z' xs,xs[n-1]≠0)->∀F:PF,(utF xs n).le F->aI.wp C (.seq (.region ko) .ret) (aW [.tmp 2] (qV 1 (aO (aM (val xs))))) F .nil:=by
  intro h F y;have f0:F 0=some (aN xs):=y 0 _ (by unfold utF;simp only[go_sem]);have K:F 3=some (.j n):=y 3 _ (by unfold utF;simp only[go_sem]);have B:xs.take n=aM (val xs):=RT R N J λx u i=>by
   rw[avF Om]at i;injection i with i
   subst i;exact h u Om
  have M:((n:Nat):Int)<=(Z' xs:Nat):=Om;simp only[go_sem,ko,f0,K,auW,M,or_true,awM];refine eX (rows:=[]) (src:=aO (aM (val xs))) .nil ?_ ?_ λv H' O _=>?_
  ·simp only[go_sem];rw[<-B,<-ayN]
  ·unfold roomFor;rw[cQ,<-B,avN];simp only[axC,maxLen];omega
  ·exact QX (.inr rfl) (by simpa using O) rfl
 simp only[aI.wp,go_sem]at done;simp only[go_sem,utF];by_cases u:0<n
 ·have l:((n:Nat):Int)>0:=Om;have hlt:n-1<Z' xs:=Om;have w:=cG xs hlt;have E:i_.wrap ((n:Int)-1)=((n-1:Nat):Int):=DA Om u;simp only[go_sem,l,E,w];by_cases c:xs[n-1]=0
  ·simp only[go_sem,bN (Om:((xs[n-1]:Nat):Int)=0),E];refine aE (n-1) ⟨by omega,λj x A i=>?_⟩ Om ?_ a_
   ·by_cases e:j=n-1
    ·subst e;rw[avF hlt]at i;injection i with i
     omega
    ·exact J j x Om i
   ·exact Lq
  ·simp only[go_sem,bA (Om:((xs[n-1]:Nat):Int)≠0)];exact done (λ_ _=>c) _ (by unfold utF;exact Lq)
 ·have l:¬((n:Nat):Int)>0:=Om;simp only[go_sem,l];exact done (λh=>absurd h u) _ (by unfold utF;exact Lq)
structure vF(C:Ctx):Prop where
 trimM:∀xs,Lim xs->Z' xs<=35184372087808->aH C 38 [aN xs] .nil (qV 1 (aO (aM (val xs))))
theorem vF.trim(L:vF C)(xs:N_)(i:Lim xs)(e:Z' xs<=35184372087808):aH C 38 [aN xs] .nil (aL (aN (aM (val xs)))):=(L.trimM xs i e).freeze
theorem abS(L:vF C)(v:Nat)(E:v<18446744073709551616):th.wp C (aW Cp.res (cC (aN (aM v)))) (g_ [.int .u64 v]) .nil:=by
 have y:IntKind.u32.wrap ((v:Nat):Int)=((v%4294967296:Nat):Int):=dB v;have l:v/4294967296<4294967296:=Om;have A:IntKind.u32.wrap ((v/4294967296:Nat):Int)=((v/4294967296:Nat):Int):=by rw[dB,awT l]
 have B:Lim [v%4294967296,v/4294967296]:=by
  intro x w;simp only[avL,List.mem_nil_iff,or_false]at w;rcases w with rfl|rfl
  exact awY _ aU;exact l
 have e:val [v%4294967296,v/4294967296]=v:=by simp only[val,Nat.mul_zero,awQ];exact Nat.mod_add_div v 4294967296
 have i:shift .shr .u64 (v:Int) 32=some (.int .u64 ((v/4294967296:Nat):Int)):=EV;have hb:(2:Nat)*1<=16777216:=by decide
 simp only[go_sem,th,Cp,y,i,A,hb];have u:=L.trim [v%4294967296,v/4294967296] B aZ;rw[e]at u;refine aB u rfl ?_;simp only[go_sem];exact bC (.inr rfl) .nil rfl a_ ⟨.refl _,rfl⟩
theorem Wd(L:vF C)(xs:N_)(i:Lim xs)(e:Z' xs<=35184372087808):dc.wp C (aW tg.res (cC (.bool (decide (nl (val xs)>512))))) (g_ [aN xs]) .nil:=by
 simp only[go_sem,dc,tg];refine aB (L.trim xs i e) rfl ?_;simp only[go_sem,auW,bJ];refine bM rfl ?_;rw[decide_eq_decide];omega
theorem Nn{a b:Nat}(h:nl a<nl b):eZ a b=-1:=by
 have:a<b:=by
  rcases avX a b with h'|h'
  exact h';have:=iW h';omega
 simp[eZ,this]
theorem Nm{a b:Nat}(h:nl b<nl a):eZ a b=1:=by
 have:b<a:=by
  rcases avX b a with h'|h'
  exact h';have:=iW h';omega
 have e:¬a<b:=Om;simp[eZ,this,e]
def Qw(X Y:N_)(i:Int):PF:=(((n_.set 0 (aN X)).set 1 (aN Y)).set 5 (.int .i64 i))
theorem aiA(L:vF C)(xs ys:N_)(A:Lim xs)(B:Lim ys)(W:Z' xs<=35184372087808)(Z:Z' ys<=35184372087808) :
  Al.wp C (aW Qv.res (aL (.j (eZ (val xs) (val ys))))) (g_ [aN xs,aN ys]) .nil:=by
 simp only[go_sem,Al,Qv];refine aB (L.trim xs A W) Ev ?_;simp only[go_sem];refine aB (L.trim ys B Z) Ev ?_;have bx:=iK A;have J:=iK B;simp only[go_sem,auW,bJ];by_cases u:nl (val xs)≠nl (val ys);simp only[go_sem,cY (show((nl (val xs):Nat):Int)≠(nl (val ys):Nat) by omega)];by_cases K:nl (val xs)<nl (val ys);simp only[go_sem,auW,bJ,show((nl (val xs):Nat):Int)<(nl (val ys):Nat) by omega];refine dN (.inr rfl) Ev ?_;rw[Nn K];rfl;simp only[go_sem,auW,bJ,show ¬((nl (val xs):Nat):Int)<(nl (val ys):Nat) by omega];refine dN (.inr rfl) Ev ?_;rw[Nm Om];rfl;replace u:=Decidable.of_not_not u;simp only[go_sem,cF (show((nl (val xs):Nat):Int)=(nl (val ys):Nat) by omega),auW,bJ];have ex:=aY (val xs);have w:=aY (val ys);have E:=bE (val xs);have F:=bE (val ys);generalize R:aM (val xs)=X at *
 generalize S:aM (val ys)=Y at *
 have U:Z' X=nl (val xs):=by rw[<-R];rfl
 have V:Z' Y=nl (val xs):=by rw[u,<-S];rfl
 refine wp_loop (α:=Nat) (λk=>Qw X Y ((k:Int)-1)) (λ_=>.nil) (λk=>k<=nl (val xs)/\X.drop k=Y.drop k) (λk=>k) (nl (val xs)) ⟨avD _,?_⟩ ?_ a_ ?_;rw[azH Om,azH Om];unfold Qw
 (repeat' (first|exact d_|refine c_ ?_ ?_))<;>first|(simp only[go_sem,wrap_i64 (show -9223372036854775808<=((nl (val xs):Nat):Int)-1 by omega) (show((nl (val xs):Nat):Int)-1<=9223372036854775807 by omega)]<;>rfl)|rfl
 rintro k ⟨hk,e⟩;simp only[go_sem,Qw];by_cases h0:0<k;obtain⟨m,rfl⟩:∃m,k=m+1:=⟨k-1,by omega⟩;have y:((m+1:Nat):Int)-1=(m:Int):=Om;have x:(m:Int)>=0:=Om;have i:m<Z' X:=Om;have l:m<Z' Y:=Om;simp only[go_sem,y,x];refine bK .nil cS a_ ?_;simp only[go_sem,cG X i,cG Y l];by_cases M:X[m]<Y[m];simp only[go_sem,show((X[m]:Nat):Int)<(Y[m]:Nat) by omega];refine dN (.inr rfl) Ev ?_;have:=ml E i l e M;rw[ex,w]at this;simp[bL,eZ,this];simp only[go_sem,show ¬((X[m]:Nat):Int)<(Y[m]:Nat) by omega];refine bK .nil cS a_ ?_;simp only[go_sem,cG X i,cG Y l];by_cases N:X[m]>Y[m];simp only[go_sem,show((X[m]:Nat):Int)>(Y[m]:Nat) by omega];refine dN (.inr rfl) Ev ?_;have:=ml F l i e.symm N;rw[ex,w]at this;have O:¬val xs<val ys:=Om;simp[bL,eZ,this,O];simp only[go_sem,show ¬((X[m]:Nat):Int)>(Y[m]:Nat) by omega];refine aE m ⟨by omega,xu i l e Om⟩ Om ?_ a_
 (repeat' (first|exact d_|refine c_ ?_ ?_))<;>first|(simp only[go_sem,wrap_i64 (Om:-9223372036854775808<=(m:Int)-1) (Om:(m:Int)-1<=9223372036854775807)]<;>rfl)|rfl
 have:k=0:=Om;subst this;have y:¬((0:Nat):Int)-1>=0:=by decide
 simp only[go_sem,y];refine dN (.inr rfl) Ev ?_;rw[awM,awM]at e;have:val xs=val ys:=by rw[<-ex,<-w,e]
 simp[bL,eZ,this]
theorem JJ(n:Nat):(((n:Nat):Int)==0)=decide (n=0):=by
 by_cases h:n=0;subst h;rfl;rw[bA Om,bS h]
structure Db(C:Ctx):Prop extends vF C where
 make:∀v:Nat,v<18446744073709551616->aH C 35 [.int .u64 v] .nil (aL (aN (aM v)))
 large:∀xs,Lim xs->Z' xs<=35184372087808->aH C 41 [aN xs] .nil (aL (.bool (decide (nl (val xs)>512))))
 cmp:∀xs ys,Lim xs->Lim ys->Z' xs<=35184372087808->Z' ys<=35184372087808->aH C 32 [aN xs,aN ys] .nil (aL (.int .i64 (eZ (val xs) (val ys))))
def Q1(a b:Nat):PF:=((n_.set 6 (aN (aM a))).set 7 (aN (aM b)))
structure lz(C:Ctx):Prop extends Db C where
 divide:∀A B:Nat,B≠0->nl A<=512->nl B<=512->aH C 39 [aN (aM A),aN (aM B)] .nil (aL (wG A B))
def N6(a b:Nat):PV:=if fK a b then .tup [aN [],.int .i64 2]else .tup [aN (aM (avC a b)),.int .i64 0]
theorem aiC(L:lz C)(a b:N_)(w:Lim a)(hb:Lim b)(B:Z' a<=35184372087808)(E:Z' b<=35184372087808) :
  An.wp C (aW Qz.res (cC (N6 (val a) (val b)))) (g_ [aN a,aN b]) .nil:=by
 unfold N6;simp only[go_sem,An,Qz];refine aB (L.large a w B) rfl ?_;by_cases e:nl (val a)>512;simp only[go_sem,e];rw[aF (by simp[fK,e])];exact gI rfl;simp only[go_sem,e];refine aB (L.large b hb E) rfl ?_;by_cases i:nl (val b)>512;simp only[go_sem,i];rw[aF (by simp[fK,i])];exact gI rfl;rw[aC (by simp[fK,e,i])];simp only[go_sem,i];refine aB (L.trim a w B) rfl ?_;simp only[go_sem];refine aB (L.trim b hb E) rfl ?_;simp only[go_sem];refine wp_loop (α:=Nat × Nat) (λt=>Q1 t.1 t.2) (λ_=>.nil) (λt=>avC t.1 t.2=avC (val a) (val b)/\nl t.1<=512/\nl t.2<=512) (λt=>t.2) (val a,val b) ⟨rfl,by simp only;omega,by simp only;omega⟩ ?_ a_ ?_;unfold Q1;exact Lq;rintro⟨x,y⟩ ⟨u,F,A⟩;simp only at u F A;simp only[go_sem,Q1,bJ];by_cases l:y=0;subst l;have:¬((nl 0:Nat):Int)>0:=by rw[FY];decide
 simp only[go_sem,this];refine bC (vs:=[aN (aM x),.j 0]) (.inr rfl) .nil rfl a_ ⟨?_,rfl⟩;rw[<-u,Nat.gcd_zero_right];exact .refl _;have J:nl y≠0:=λh=>l (kD.1 h);have:((nl y:Nat):Int)>0:=Om;simp only[go_sem,this];refine aB (L.divide x y l Om Om) rfl ?_;simp only[go_sem,wG];have hlt:x%y<y:=awY _ (axX l);refine aE (y,x%y) ⟨?_,A,?_⟩ hlt ?_ a_;simp only;rw[<-u,Nat.gcd_comm y,<-Nat.gcd_rec y x,Nat.gcd_comm];have:=iW (Nat.le_of_lt hlt);simp only;omega;exact Lq
theorem aiB(L:lz C)(a b:N_)(w:Lim a)(hb:Lim b)(x:Z' a<=35184372087808)(u:Z' b<=35184372087808) :
  Am.wp C (aW udiv.res (cC (qX (val a) (val b)))) (g_ [aN a,aN b]) .nil:=by
 unfold qX;simp only[go_sem,Am,udiv];refine aB (L.large a w x) rfl ?_;by_cases i:nl (val a)>512;simp only[go_sem,i];rw[aF (by simp[fK,i])];exact yG rfl;simp only[go_sem,i];refine aB (L.large b hb u) rfl ?_;by_cases l:nl (val b)>512;simp only[go_sem,l];rw[aF (by simp[fK,l])];exact yG rfl;rw[aC (by simp[fK,i,l])];simp only[go_sem,l];refine aB (L.trim b hb u) rfl ?_;simp only[go_sem,auW,bJ,JJ,kD];by_cases e:val b=0;rw[aF e];simp only[go_sem,bG e];exact yG rfl;rw[aC e];simp only[go_sem,bS e];refine aB (L.trim a w x) rfl ?_;simp only[go_sem];refine aB (L.trim b hb u) rfl ?_;simp only[go_sem];refine aB (L.divide (val a) (val b) e Om Om) rfl ?_;simp only[go_sem,wG];exact bC (.inr rfl) .nil rfl a_ ⟨.refl _,rfl⟩
def qS(neg:Bool)(a b:Nat):FV:=(neg&&decide (a/avC a b≠0),a/avC a b,b/avC a b)
structure Dc(C:Ctx):Prop extends lz C where
 gcd:∀a b,Lim a->Lim b->Z' a<=35184372087808->Z' b<=35184372087808->aH C 34 [aN a,aN b] .nil (aL (N6 (val a) (val b)))
 div:∀a b,Lim a->Lim b->Z' a<=35184372087808->Z' b<=35184372087808->aH C 33 [aN a,aN b] .nil (aL (qX (val a) (val b)))
theorem zN{n:Nat}(h:nl n<=512):(aM n).length<=35184372087808:=by rw[bJ];omega
theorem CN:aM 1=[1]:=tH aU aU
theorem ow{n:Nat}(h:n≠0):aM n=n%4294967296::aM (n/4294967296):=yF h
theorem GZ{n:Nat}(h:n≠0):(nl n>1\/n%4294967296>1)↔n≠1:=by
 constructor;rintro h1 rfl;rcases h1 with h1|h1
 rw[nl,CN]at h1;simp at h1;omega;intro h1;by_cases c:nl n>1;exact .inl c;have:n<4294967296^1:=(kU n 1).1 Om;rw[Nat.pow_one]at this;rw[awT this];exact .inr Om
theorem Rc(L:Dc C)(neg:Bool)(a b:N_)(Z:Lim a)(hb:Lim b)(la:Z' a<=35184372087808)(lb:Z' b<=35184372087808)(E:nl (val a)<=512)(A:nl (val b)<=512)(J:val b≠0) :
  XQ.wp C (aW pW.res (cC (.agg (qS neg (val a) (val b)).rf.cells))) (g_ [.bool neg,aN a,aN b]) .nil:=by
 have i:avC (val a) (val b)≠0:=λh=>J (Nat.eq_zero_of_gcd_eq_zero_right h);have N:avC (val a) (val b)<=val b:=Nat.gcd_le_right _ (axX J);have S:nl (avC (val a) (val b))<=512:=avZ (iW N) A;have O:fK (val a) (val b)=false:=jZ E A;simp only[go_sem,XQ,pW];refine aS λo ho=>?_;simp only[go_sem];refine aB (L.trim a Z la) rfl ?_;simp only[go_sem];refine aB (L.trim b hb lb) rfl ?_;simp only[go_sem,auW,bJ,JJ,kD];by_cases B:val a=0;simp only[go_sem,bG B];have e:(qS neg (val a) (val b)).rf=⟨false,[],[1]⟩:=by rw[B];unfold qS FV.rf;simp[iO,Nat.div_self (axX J),CN]
 rw[e];refine bC (vs:=[.agg [.bool false,.aJ,aN [1]]]) (.inr rfl) .nil ?_ a_ ⟨show Co (.agg _) (.agg _)from CoL.agg (CoL.cons (.refl _) (CoL.cons (.nil 1) (CoL.cons (.refl _) .nil))),rfl⟩;simp only[go_sem];rfl;have l:=L.gcd (aM (val a)) (aM (val b)) (bE _) (bE _) (zN E) (zN A);rw[aY,aY,N6,O]at l;simp only[go_sem,bS B];refine aB l rfl ?_;have fin:∀x y:Nat,x=val a/avC (val a) (val b)->y=val b/avC (val a) (val b)->∀(F:PF)(H:PH),F 0=some (.bool neg)->F 1=some (aN (aM x))->F 2=some (aN (aM y))->F 6=some (.ptr o 3 0 0)->H o=some (.rows 3 [[.bool false,.aJ,.aJ]]) ->
   aI.wp C (.seq (.region FA) .ret) (aW [.cell 6 (some 3)] (cC (.agg (qS neg (val a) (val b)).rf.cells))) F H:=by
  intro x y R hy F H f0 f1 f2 f6 K;subst R;subst hy;simp only[go_sem,FA,f0,f1,f2,f6,K];have hq:val a/avC (val a) (val b)≠0:=by have:=Nat.div_pos (Nat.gcd_le_left (val b) (axX B)) (axX i);omega
  have e:(qS neg (val a) (val b)).rf=⟨neg,aM (val a/avC (val a) (val b)),aM (val b/avC (val a) (val b))⟩:=by unfold qS FV.rf;simp only[hq,ne_eq,not_false_eq_true,decide_true,axP]
  rw[e];refine bC (vs:=[.agg (fU neg (aM (val a/avC (val a) (val b))) (aM (val b/avC (val a) (val b))))]) (.inr rfl) .nil ?_ a_ ⟨.refl _,rfl⟩;simp only[go_sem,f6]
 simp only[aI.wp,go_sem]at fin;have M:=λx (R:nl x<=512)=>L.div (aM x) (aM (avC (val a) (val b))) (bE _) (bE _) (zN R) (zN S);simp only[aY,qX]at M;have tail:avC (val a) (val b)≠1->∀(F:PF)(H:PH),F 0=some (.bool neg)->F 1=some (aN (aM (val a)))->F 2=some (aN (aM (val b)))->F 6=some (.ptr o 3 0 0)->F 7=some (aN (aM (avC (val a) (val b))))->H o=some (.rows 3 [[.bool false,.aJ,.aJ]]) ->
   aI.wp C (.seq (.seq (.region SI) (.region SJ)) (.seq (.region FA) .ret)) (aW [.cell 6 (some 3)] (cC (.agg (qS neg (val a) (val b)).rf.cells))) F H:=by
  intro _ F H f0 f1 f2 f6 f7 K;have W:=M (val a) E;have X:=M (val b) A;rw[jZ E S,aC i]at W;rw[jZ A S,aC i]at X;simp only[go_sem,SI,f1,f7];refine aB W rfl ?_;simp only[go_sem,axH,SJ,f2,f7];refine aB X rfl ?_;simp only[go_sem,axH];exact fin _ _ rfl rfl _ _ (by simp only[go_sem,f0]) rfl rfl (by simp only[go_sem,f6]) K
 simp only[aI.wp,go_sem]at tail;simp only[go_sem,axH,auW,bJ];by_cases U:nl (avC (val a) (val b))>1;have u:((nl (avC (val a) (val b)):Nat):Int)>1:=Om;simp only[go_sem,u];exact tail ((GZ i).1 (.inl U)) _ _ rfl rfl rfl rfl rfl Sq;have u:¬((nl (avC (val a) (val b)):Nat):Int)>1:=Om;simp only[go_sem,u,ow i];by_cases V:avC (val a) (val b)%4294967296>1;have w:((avC (val a) (val b)%4294967296:Nat):Int)>1:=Om;simp only[go_sem,w];exact tail ((GZ i).1 (.inr V)) _ _ rfl rfl rfl rfl (by simp only[go_sem,ow i]) Sq;have w:¬((avC (val a) (val b)%4294967296:Nat):Int)>1:=Om;have Y:avC (val a) (val b)=1:=by
  rcases Decidable.em (avC (val a) (val b)=1)with h|h
  exact h;rcases(GZ i).2 h with h|h
  exact absurd h U;exact absurd h V
 simp only[go_sem,w];exact fin (val a) (val b) (by rw[Y,Nat.div_one]) (by rw[Y,Nat.div_one]) _ _ rfl rfl rfl rfl Sq
theorem acK(v:Int)(u:-9223372036854775808<=v)(w:v<=9223372036854775807) :
  t8.wp C (aW C0.res (aL (.int .u64 (v.natAbs:Nat)))) (g_ [.j v]) .nil:=by
 simp only[go_sem,t8,C0];by_cases c:v<0;have i:i_.wrap (v+1)=v+1:=wrap_i64 Om Om;have e2:i_.wrap (0-(v+1))=-(v+1):=wO_
 have l:u_.wrap (u_.wrap (-(v+1))+1)=(v.natAbs:Int):=by rw[iX,iX];omega
 simp only[go_sem,c,i,e2,l];refine cL ?_;rfl;have e:u_.wrap v=(v.natAbs:Int):=by rw[iX];omega
 simp only[go_sem,c,e];refine cL ?_;rfl
structure M0(C:Ctx):Prop extends Dc C where
 lowest:∀neg a b,Lim a->Lim b->Z' a<=35184372087808->Z' b<=35184372087808->nl (val a)<=512->nl (val b)<=512->val b≠0->aH C 58 [.bool neg,aN a,aN b] .nil (aL (.agg (qS neg (val a) (val b)).rf.cells))
 size:∀v:Int,eI v->aH C 59 [.int .i64 v] .nil (aL (.int .u64 (v.natAbs:Nat)))
def mkT(n d:Int):RF:=(qS (decide (n<0) != decide (d<0)) n.natAbs d.natAbs).rf
def CX(n d:Int):PV:=if d=0 then IL 3 else .tup [.agg (mkT n d).cells,.int .i64 0]
theorem acH(L:M0 C)(n d:Int)(e:eI n)(i:eI d) :
  tx.wp C (aW tw.res (cC (CX n d))) (g_ [.j n,.j d]) .nil:=by
 simp only[go_sem,tx];refine aS λo l=>?_;unfold CX;by_cases c:d=0;subst c;simp only[go_sem];refine kC ?_;simp only[go_sem,tw];rw[aC c];simp only[go_sem,bA c];refine aB (L.size n e) rfl ?_;simp only[go_sem];refine aB (L.make n.natAbs Om) rfl ?_;simp only[go_sem];refine aB (L.size d i) rfl ?_;simp only[go_sem];refine aB (L.make d.natAbs Om) rfl ?_;simp only[go_sem];have u:nl n.natAbs<=2:=sI Om;have w:nl d.natAbs<=2:=sI Om;have low:=L.lowest (decide (n<0) != decide (d<0)) (aM n.natAbs) (aM d.natAbs) (bE _) (bE _) (by rw[bJ];omega) (by rw[bJ];omega);rw[aY,aY]at low;have low:=low Om Om Om;refine aB low rfl ?_;simp only[go_sem];exact bC (.inr rfl) .nil (vs:=[.agg (mkT n d).cells,.j 0]) (by simp only[go_sem,tw];rfl) a_ ⟨.refl _,rfl⟩
structure l6(C:Ctx):Prop extends M0 C where
 fmk:∀n d:Int,eI n->eI d->aH C 50 [.int .i64 n,.int .i64 d] .nil (aL (CX n d))
theorem Mn(L:l6 C)(n:Int)(l:eI n) :
  Av.wp C (aW Ra.res (cC (.agg (mkT n 1).cells))) (g_ [.j n]) .nil:=by
 simp only[go_sem,Av,Ra];refine aS λo u=>?_;simp only[go_sem];refine aB (L.fmk n 1 l (by unfold eI;omega)) rfl ?_;unfold CX;rw[aC aU];simp only[go_sem];refine aS λp hp=>?_;have e:o≠p:=by rintro rfl;simp only[aP,if_true]at hp;cases hp
 have i:p≠o:=λh=>e h.symm;simp only[go_sem,e];refine bC (vs:=[.agg (mkT n 1).cells]) (.inr rfl) .nil ?_ a_ ⟨.refl _,rfl⟩;simp only[go_sem,i]
def aG(l:N_)(n a:Nat):Nat × Nat:=if l.length<=a\/n<2 then(0,a)else(l.getD a 0%n,a+1)
theorem cK(l:N_){n:Nat}(h:0<n)(a:Nat):(aG l n a).1<n:=by
 unfold aG;split;exact h;exact awY _ h
theorem bU(l:N_)(n:Nat){a:Nat}(h:a<=Z' l):(aG l n a).2<=Z' l:=by
 unfold aG;split;exact h;simp only;omega
def iD(l:N_)(a:Nat):RF × Nat:=
 let x:=aG l 6 a
 let y:=aG l 8 x.2
 (mkT ((1+x.1:Nat):Int) ((1+y.1:Nat):Int),y.2)
abbrev mL:RF:=mkT 0 1
def kT(l:N_)(i j a:Nat):RF × Nat:=
 if j=i+1 then iD l a
 else if j=i then(mL,a)
 else let t:=aG l 3 a
  if t.1=0 then iD l t.2 else(mL,t.2)
def fC(l:N_)(i a:Nat):Nat->List RF × Nat
 |0=>([],a)
 |j+1=>let s:=fC l i a j
  let z:=kT l i j s.2
  (s.1++[z.1],z.2)
structure JQ where
 start:List RF
 exit:List RF
 atM:List (List RF)
 left:Nat
 a:Nat
def fB(l:N_)(n i:Nat)(s:JQ):Nat × Nat:=if i+1<n then aG l (s.left+1) s.a else(s.left,s.a)
def gS(l:N_)(n i a:Nat):RF × Nat:=
 let e:=iD l a
 if i+1<n then(let t:=aG l 3 e.2;(if t.1=0 then mL else e.1,t.2))else e
def iT(l:N_)(n a:Nat):Nat->JQ
 |0=>⟨[],[],[],8,a⟩
 |i+1=>let s:=iT l n a i
  let k:=fB l n i s
  let e:=gS l n i k.2
  let r:=fC l i e.2 n
  ⟨s.start++[mkT (k.1:Nat) 8],s.exit++[e.1],s.atM++[r.1],s.left-k.1,r.2⟩
def wI(l:N_)(eN a:Nat):cU × Nat:=
 let t:=aG l eN a
 let s:=iT l (1+t.1) t.2 (1+t.1)
 (⟨[],s.start,s.atM,s.exit⟩,s.a)
def nJ(l:N_)(a:Nat):Nat->List RF × Nat
 |0=>([],a)
 |k+1=>let s:=nJ l a k
  let z:=iD l s.2
  (s.1++[z.1],z.2)
abbrev cP(n:Nat):List UInt8:=Lib.decDigits n
def jP(l:N_)(a:Nat):Nat->List cU × Nat
 |0=>([],a)
 |k+1=>let s:=jP l a k
  let z:=wI l 2 s.2
  (s.1++[{ z.1 with name:=[108,97,119]++cP k }],z.2)
def fV(l:N_)(atQ a:Nat):Nat->List dR × Nat
 |0=>([],a)
 |k+1=>let s:=fV l atQ a k
  let x:=aG l 4 s.2
  let y:=aG l 8 x.2
  let z:=aG l atQ y.2
  (s.1++[⟨[109]++cP k,(1+x.1:Nat),(1+y.1:Nat),(z.1:Nat)⟩],z.2)
structure GS where
 atT:List cR
 auD:List eP
 a:Nat
def mK(l:N_)(mc atH e:Nat)(s:GS):Nat->GS
 |0=>s
 |i+1=>let s:=mK l mc atH e s i
  if s.auD.length<atH then
   let t:=aG l mc s.a
   { s with auD:=s.auD++[⟨[100]++cP s.auD.length,(t.1:Nat),(e:Nat)⟩],a:=t.2 }
  else s
def oW(level:Nat):UInt8:=match level with
 |0=>45
 |1=>115
 |2=>114
 |3=>107
 |_=>109
def rH(l:N_)(level e:Nat)(s:GS):GS:=
 let u:=aG l 16 s.a
 let t:=aG l 3 u.2
 let k:=aG l 6 t.2
 let sh:RF × Nat:=if t.1=0 then(mkT 1 ((2+k.1:Nat):Int),k.2)else(mL,t.2)
 { s with atT:=s.atT++[⟨[oW level]++cP s.atT.length,(level:Nat),(e:Nat),(1+u.1:Nat),sh.1⟩],a:=sh.2 }
def vK(atH:Nat)(s:GS):Bool:=decide (atH<=Z' s.auD)||decide (35<=Z' s.atT)
def jG(l:N_)(level atH e:Nat)(rec:Nat->GS->GS)(s:GS):Nat->GS
 |0=>s
 |i+1=>let s:=jG l level atH e rec s i
  if vK atH s then s else(let s':=rH l level e s;rec (Z' s'.atT-1) s')
def gM(l:N_)(mc atH:Nat):Nat->Nat->GS->GS
 |0,e,s=>let t:=aG l 2 s.a
  mK l mc atH e { s with a:=t.2 } (1+t.1)
 |k+1,e,s=>let t:=aG l 2 s.a
  jG l (4-k) atH e (gM l mc atH k) { s with a:=t.2 } (if 4-k=2 then 1 else 1+t.1)
def pM:cR:=⟨[],0,-1,0,mL⟩
def jQ(l:N_)(a:Nat):Int × Nat:=
 let t:=aG l 3 a
 let k:=aG l 3 t.2
 if t.1=0 then((1+k.1:Nat),k.2)else(0,t.2)
def pV(l:N_)(atI i a:Nat):cO × Nat:=
 let k:=aG l 2 a
 let m:=aG l 3 k.2
 let h:=aG l 4 m.2
 let q:=aG l (m.1+1) h.2
 let r:=nJ l q.2 (max m.1 1)
 let g:=aG l 9 r.2
 let s1:=jQ l g.2
 let s2:=jQ l s1.2
 let s3:=jQ l s2.2
 let s4:=jQ l s3.2
 let f:=aG l atI s4.2
 let b:=aG l 2 f.2
 let ms:I_ × Nat:=if 1<atI then(if b.1=0 then([(f.1:Int),1-(f.1:Int)],b.2)else([(f.1:Int)],b.2))else([(f.1:Int)],f.2)
 (⟨[112]++cP i,(1+k.1:Nat),(m.1:Nat),(1+k.1+q.1:Nat),0,s1.1,s2.1,s3.1,s4.1,ms.1,r.1,mkT (g.1:Nat) 8,mkT ((1+h.1:Nat):Int) 1⟩,ms.2)
def fG(l:N_)(atI a:Nat):Nat->List cO × Nat
 |0=>([],a)
 |k+1=>let s:=fG l atI a k
  let z:=pV l atI k s.2
  (s.1++[z.1],z.2)
def fX(l:N_)(pols a:Nat):Nat->List gN × Nat
 |0=>([],a)
 |k+1=>let s:=fX l pols a k
  let z:=aG l pols s.2
  (s.1++[⟨[118]++cP k,(z.1:Nat)⟩],z.2)
def jJ(l:N_)(atH atJ a:Nat):aD × Nat:=
 let e:=aG l 2 a
 let u:=aG l 2 e.2
 let atQ:=jP l u.2 (1+u.1)
 let i:=aG l 2 atQ.2
 let atI:=fV l (1+u.1) i.2 (1+i.1)
 let g:=gM l (1+i.1) atH 4 0 ⟨[pM],[],atI.2⟩
 let pl:=aG l 2 g.a
 let pols:=fG l (1+i.1) pl.2 (1+pl.1)
 let w:=aG l (atJ+1) pols.2
 let vols:=fX l (1+pl.1) w.2 w.1
 (⟨(1+e.1:Nat),atQ.1,atI.1,g.atT,g.auD,pols.1,vols.1⟩,vols.2)
def qI(l:N_)(a:Nat):Nat->I_ × Nat
 |0=>([],a)
 |k+1=>let s:=qI l a k
  let z:=aG l 7 s.2
  (s.1++[(z.1:Int)-1],z.2)
def tZ(l:N_)(f:aD)(a:Nat):I_ × Nat:=
 let t:=aG l 4 a
 if t.1=0 then([],t.2)else qI l t.2 f.atH.length
def tW(l:N_)(atH at_ i a:Nat):Int × Nat:=
 if atH=0 then(-1,a)else
  let t:=aG l 6 a
  if t.1=0 then(let z:=aG l atH t.2;((z.1:Int),z.2))
  else if t.1=1 then(let z:=aG l (atH+1) t.2;((z.1:Int)-1,z.2))
  else(((at_+i)%atH:Nat),t.2)
def nN(l:N_)(atH at_ a:Nat):Nat->I_ × Nat
 |0=>([],a)
 |i+1=>let s:=nN l atH at_ a i
  let z:=tW l atH at_ i s.2
  (s.1++[z.1],z.2)
def eG(l:N_)(f:aD)(a:Nat):Nat->L2_ × Nat
 |0=>([],a)
 |v+1=>let s:=eG l f a v
  let t:=aG l (Z' f.atH+1) s.2
  let r:=nN l f.atH.length t.1 t.2 (fT f v).toNat
  (s.1++[r.1],r.2)
abbrev kG(l:N_):P2_:=l.map λ(n:Nat)=>[PV.int .u8 (n:Int)]
theorem XK(l:N_):(kG l).length=Z' l:=by simp
theorem abZ(l:N_){i:Nat}(h:i<Z' l):(kG l)[i]?=some [.int .u8 (l[i]:Nat)]:=by simp[h]
abbrev bB(v:PV)(a:Nat):aV:=.rows 2 [[v,.int .i64 a]]
structure Tp(l:N_)(v:PV):Prop where
 seen:Seen 1 v (kG l)
 byte:∀x∈l,x<256
 len:Z' l<=400
def uq(l:N_)(r:PV)(H:PH):Prop:=∃o v,r=.ptr o 2 0 0/\Tp (l.take 400) v/\H=h_.set o (bB v 0)
theorem Bb{t q s:Nat}{rs:P2_}{F:PF}{H H2:PH}{R:R_}{v:PV}{e:lG}(he:e=.normal\/e=.ret)(A:F t=some v)(hq:H q=some (.rows s rs))(x:H2.le (H.frz q s rs))(y:R (PV.frz q s rs v) H2):aW [.tmp t] R e F H:=by
 have i:∃vs,eE.evs F H [.tmp t]=some vs/\∃l w H2,jH (n_.set 0 (bL vs)) H l w/\H2.le w/\∃u,l 0=some u/\R u H2:=by refine⟨[v],by rw[nZ,rP,A,tK],_,_,H2,.step q hq (.refl _ _),x,PV.frz q s rs v,?_,y⟩;rw[wQ,mO,aF rfl,avS];rfl
 rcases he with rfl|rfl<;>exact i
theorem agC(l:N_)(hb:∀x∈l,x<256)(O:Z' l<=9223372036854775807):yo.wp C (aW ia.res (uq l)) (g_ [.sl 1 (kG l)]) .nil:=by
 simp only[go_sem,yo,ia,auW];have fin:∀F:PF,F 0=some (.sl 1 (kG (l.take 400)))->aI.wp C (.seq (.region vw) .ret) (aW [.tmp 2] (uq l)) F .nil:=by
  intro F f0;have y:(l.take 400).length<=400:=by rw[avN];omega
  have w:∀x∈l.take 400,x<256:=λx M=>hb x (List.mem_of_mem_take M);have A:∀o v,Seen 1 v (kG (l.take 400))->uq l (.ptr o 2 0 0) (h_.set o (bB v 0)):=λo v K=>⟨o,v,rfl,⟨K,w,y⟩,rfl⟩;generalize N:l.take 400=L at *
  simp only[go_sem,vw,f0];refine uY (src:=kG L) rfl ?_ (λh=>?_) λh o J=>?_;unfold roomFor;rw[XK];simp only[maxLen];omega;simp only[go_sem,avL,avY,or_false,forall_eq];refine aS λo J=>?_;simp only[go_sem];exact bC (vs:=[.ptr o 2 0 0]) (.inr rfl) (h_.set o (bB .aJ 0)) rfl b_ (A o .aJ (.inl ⟨h,rfl⟩));simp only[go_sem,avL,avY,or_false,forall_eq];refine aS λp hp=>?_;have e:¬p=o:=(kO.1 hp).1;have i:¬o=p:=λh=>e h.symm;simp only[go_sem];refine Bb (v:=.ptr p 2 0 0) (q:=o) (s:=1) (rs:=kG L) (H2:=h_.set p (bB (.sl 1 (kG L)) 0)) (.inr rfl) rfl (by simp only[go_sem,i]) (e_ a_ ?_) (A p _ (.inr rfl));have E:(kG L).take L.length=kG L:=avT (by rw[XK];exact avD _);simp only[go_sem,e,aV.frz,PV.dL,auW,E];rfl
 simp only[aI.wp,go_sem]at fin;by_cases c:Z' l>400;have u:(Z' l:Int)>400:=Om;have B:(400:Int)<=(Z' l:Int):=Om;simp only[go_sem,u,auW,B];refine fin _ ?_;rw[mO,aF rfl];simp[kG];have u:¬(Z' l:Int)>400:=Om;simp only[go_sem,u];refine fin _ ?_;rw[avT Om];simp only[go_sem]
def lk(l:N_)(v:PV)(o n a:Nat)(r:PV)(H:PH):Prop:=r=.int .i64 ((aG l n a).1:Nat)/\H=h_.set o (bB v (aG l n a).2)
theorem Zk{l:N_}{v:PV}(T:Tp l v)(o n a:Nat)(V:n<=1000000)(S:a<=Z' l):QB.wp C (aW EN.res (lk l v o n a)) (g_ [.ptr o 2 0 0,.j n]) (h_.set o (bB v a)):=by
 obtain⟨O,hb,U⟩:=T;have zero:(Z' l<=a\/n<2)->∀F,aI.wp C (.seq (.region ib) .ret) (aW [.tmp 4] (lk l v o n a)) F (h_.set o (bB v a)):=by
  intro h F;have e:aG l n a=(0,a):=by unfold aG;rw[aF h]
  simp only[go_sem,ib];exact bC (vs:=[.j 0]) (.inr rfl) _ rfl b_ ⟨by rw[e];rfl,by rw[e]⟩
 simp only[aI.wp,go_sem]at zero;rcases O with⟨M,rfl⟩|rfl
 have R:Z' l=0:=by rw[<-XK,M];rfl
 have x:(a:Int)>=0:=Om;simp only[go_sem,QB,EN];refine bK .nil cS a_ ?_;simp only[go_sem,x];exact zero (.inl Om) _;simp only[go_sem,QB,EN];refine bK .nil cS a_ ?_;by_cases A:Z' l<=a;have i:(a:Int)>=(Z' l:Nat):=Om;simp only[go_sem,auW,i];exact zero (.inl A) _;have i:¬(a:Int)>=(Z' l:Nat):=Om;simp only[go_sem,auW,i];by_cases B:n<2;have u:(n:Int)<2:=Om;simp only[go_sem,u];exact zero (.inr B) _;have u:¬(n:Int)<2:=Om;have w:a<Z' l:=Om;have e:aG l n a=(l[a]%n,a+1):=by unfold aG;rw[aC Om];simp[avI,w]
 have K:i_.wrap ((a:Int)+1)=((a+1:Nat):Int):=eC Om;have J:i_.wrap (((a+1:Nat):Int)-1)=((a:Nat):Int):=wO_
 have N:=abZ l w;have W:=hb _ (avB w);have E:i_.wrap ((l[a]:Nat):Int)=((l[a]:Nat):Int):=kp Om;have y:¬((n:Nat):Int)=0:=Om;have em:Int.tmod ((l[a]:Nat):Int) ((n:Nat):Int)=((l[a]%n:Nat):Int):=rfl;simp only[go_sem,u,K];refine bK .nil cS a_ ?_;simp only[go_sem,J,N,E,y,em];exact bC (vs:=[.j (l[a]%n:Nat)]) (.inr rfl) _ rfl b_ ⟨by rw[e];rfl,by rw[e]⟩
def PV.oid:PV->O_
 | .osl q _ _ _=>some q
 |_=>none
abbrev LI:=PV × Nat × P2_
abbrev BX:=Nat × aV
def gE(B:List BX):N_:=B.map (·.1)
def fN(L:List LI):N_:=L.filterMap λx=>x.1.oid
structure aQ(H:PH)(B:List BX)(L:List LI):Prop where
 box:∀b∈B,H b.1=some b.2
 lst:∀x∈L,bF H x.2.1 x.1 x.2.2
 nd:(gE B++fN L).Nodup
section
variable {C:Ctx} {H:PH} {B:List BX} {L:List LI} {K:R_}
theorem bF.id{s q:Nat}{v:PV}{rows:P2_}(h:bF H s v rows)(hq:v.oid=some q):∃rs,H q=some (.rows s rs)/\v=.osl q s 0 rows.length/\Z' rows<=Z' rs/\rs.take rows.length=rows:=by
 rcases h with⟨_,rfl⟩|⟨p,rs,rfl,h1,h2,h3⟩
 cases hq;cases hq;exact⟨rs,h1,rfl,h2,h3⟩
theorem bF.same{s:Nat}{v:PV}{rows:P2_}{H':PH}(h:bF H s v rows)(e:∀q,v.oid=some q->H' q=H q):bF H' s v rows:=by
 rcases h with h|⟨p,rs,rfl,h1,h2,h3⟩
 exact .inl h;exact .inr ⟨p,rs,rfl,by rw[e p rfl];exact h1,h2,h3⟩
theorem pE{x:LI}{q:Nat}(h:x∈L)(hq:x.1.oid=some q):q∈fN L:=List.mem_filterMap.2 ⟨x,h,hq⟩
theorem AP{b:BX}(h:b∈B):b.1∈gE B:=avV.2 ⟨b,h,rfl⟩
theorem aQ.nil:aQ H [] []:=⟨by simp,by simp,by simp[gE,fN]⟩
theorem aQ.at(h:aQ H B L)(i:Nat){o:Nat}{x:aV}(hi:B[i]?=some (o,x)):H o=some x:=h.box _ (axF hi)
theorem aQ.own(h:aQ H B L)(i:Nat){s:Nat}{v:PV}{rows:P2_}(hi:L[i]?=some (v,s,rows)):bF H s v rows:=h.lst _ (axF hi)
theorem aQ.ndB(h:aQ H B L):(gE B).Nodup:=(ayC.1 h.nd).1
theorem aQ.ndL(h:aQ H B L):(fN L).Nodup:=(ayC.1 h.nd).2.1
theorem aQ.ndX(h:aQ H B L){o q:Nat}(e:o∈gE B)(hq:q∈fN L):o≠q:=(ayC.1 h.nd).2.2 o e q hq
theorem aQ.ne(h:aQ H B L)(i j:Nat){o p:Nat}{x y:aV}(hi:B[i]?=some (o,x))(J:B[j]?=some (p,y))(l:i≠j):o≠p:=by
 intro e;have E:(gE B)[i]?=some o:=by unfold gE;rw[avO,hi];rfl
 have F:(gE B)[j]?=some p:=by unfold gE;rw[avO,J];rfl
 obtain⟨w,u⟩:=awD.1 E;obtain⟨A,e2⟩:=awD.1 F;have hp:=List.pairwise_iff_getElem.1 h.ndB;rcases Nat.lt_or_gt_of_ne l with g|g
 exact hp i j w A g (by rw[u,e2,e]);exact hp j i A w g (by rw[u,e2,e])
theorem aQ.neL(h:aQ H B L)(i j:Nat){o q:Nat}{x:aV}{y:LI}(hi:B[i]?=some (o,x))(e:L[j]?=some y)(hq:y.1.oid=some q):o≠q:=
 h.ndX (AP (axF hi)) (pE (axF e) hq)
theorem aQ.fresh(h:aQ H B L){o:Nat}(i:H o=none):o ∉ gE B/\o ∉ fN L:=by
 refine⟨λl=>?_,λl=>?_⟩;obtain⟨b,hb,rfl⟩:=avV.1 l;rw[h.box b hb]at i;cases i;obtain⟨x,w,e⟩:=List.mem_filterMap.1 l;obtain⟨rs,u,_⟩:=(h.lst x w).id e;rw[u]at i;cases i
theorem aQ.keep(h:aQ H B L){H':PH}(e:∀q,q∈gE B\/q∈fN L->H' q=H q):aQ H' B L:=
 ⟨λb hb=>by rw[e _ (.inl (AP hb))];exact h.box b hb,λx i=>(h.lst x i).same λq hq=>e q (.inr (pE i hq)),h.nd⟩
theorem Yp{i:Nat}{o:Nat}{x y:aV}(hi:B[i]?=some (o,x)):gE (B.set i (o,y))=gE B:=by
 unfold gE;rw[ayE];refine List.ext_getElem? λj=>?_;rw[ayZ];split;rename_i e;subst e;rw[avO,hi];have:=(awD.1 hi).1;simp[this];rfl
theorem aQ.set(h:aQ H B L)(i:Nat){o:Nat}{x:aV}(hi:B[i]?=some (o,x))(y:aV):aQ (H.set o y) (B.set i (o,y)) L:=by
 have w:o∈gE B:=AP (axF hi);refine⟨λb hb=>?_,λz A=>(h.lst z A).same λq hq=>?_,by rw[Yp hi];exact h.nd⟩;obtain⟨j,l⟩:=List.mem_iff_getElem?.1 hb;rw[ayZ]at l;split at l;split at l;cases l;simp only[aP,if_true];cases l;rename_i u;have:b.1≠o:=λe=>h.ne i j hi (show B[j]?=some (b.1,b.2)from l) u e.symm;rw[aP,aC this];exact h.box b (axF l);have:q≠o:=λe=>h.ndX w (pE A hq) e.symm;rw[aP,aC this]
theorem aQ.new(h:aQ H B L){o:Nat}(l:H o=none)(y:aV):aQ (H.set o y) (B++[(o,y)]) L:=by
 obtain⟨f1,f2⟩:=h.fresh l;refine⟨λb hb=>?_,λz i=>(h.lst z i).same λq hq=>?_,?_⟩;rw[awH,awL]at hb;rcases hb with hb|rfl
 have:b.1≠o:=λe=>f1 (e ▸ AP hb);rw[aP,aC this];exact h.box b hb;simp only[aP,if_true];have:q≠o:=λe=>f2 (e ▸ pE i hq);rw[aP,aC this];have:=h.nd;simp only[gE,avU,awE,axD]at *
 rw[awB,ayC]at *
 obtain⟨a,b,c⟩:=this;refine⟨a,?_,λp hp q hq=>?_⟩;rw[List.singleton_append,List.nodup_cons];exact⟨f2,b⟩;rw[List.singleton_append,avL]at hq;rcases hq with rfl|hq
 intro e;subst e;exact f1 hp;exact c p hp q hq
theorem oR(L1 L2:List LI):fN (L1++L2)=fN L1++fN L2:=List.filterMap_append ..
theorem aQ.nT(h:aQ H B L)(s:Nat):aQ H B (L++[(.aJ,s,[])]):=by
 refine⟨h.box,λz e=>?_,?_⟩;rw[awH,awL]at e;rcases e with e|rfl
 exact h.lst z e;exact .nil;rw[oR,show fN [((.aJ:PV),s,([]:P2_))]=[]from rfl,awJ];exact h.nd
theorem aQ.Ph(h:aQ H B L){o s:Nat}{rows:P2_}(l:H o=none):aQ (H.set o (.rows s rows)) B (L++[(.osl o s 0 rows.length,s,rows)]):=by
 obtain⟨f1,f2⟩:=h.fresh l;have i:=h.keep (H':=H.set o (.rows s rows)) λq hq=>by
  have:q≠o:=by rintro rfl;exact hq.elim f1 f2
  rw[aP,aC this]
 refine⟨i.box,λz e=>?_,?_⟩;rw[awH,awL]at e;rcases e with e|rfl
 exact i.lst z e;exact .inr ⟨o,rows,rfl,by simp only[aP,if_true],avD _,avW⟩;rw[oR,show fN [((.osl o s 0 rows.length:PV),s,rows)]=[o]from rfl,<-awB,ayC];refine⟨h.nd,by simp,λp hp q hq=>?_⟩;rw[awL]at hq;subst hq;rintro rfl;rcases awH.1 hp with hp|hp
 exact f1 hp;exact f2 hp
theorem Ey{i:Nat}{v v':PV}{s s':Nat}{rows rows':P2_}(hi:L[i]?=some (v,s,rows)):∃L1 L2,L=L1++(v,s,rows)::L2/\L.set i (v',s',rows')=L1++(v',s',rows')::L2:=by
 obtain⟨e,he⟩:=awD.1 hi;refine⟨L.take i,L.drop (i+1),?_,?_⟩;rw[<-he,<-axB e,ayK];rw[List.set_eq_take_append_cons_drop,aF e]
theorem aQ.RX(h:aQ H B L)(i:Nat){s:Nat}{v:PV}{rows:P2_}(hi:L[i]?=some (v,s,rows)){s':Nat}{v':PV}{rows':P2_}{H':PH}(N:bF H' s' v' rows')
  (F:∀q,v'.oid=some q->v.oid=some q\/H q=none) (M:∀q,q∈gE B\/q∈fN L->(∀p,v.oid=some p->q≠p)->H' q=H q):aQ H' B (L.set i (v',s',rows')):=by
 obtain⟨L1,L2,J,e2⟩:=Ey (v':=v') (s':=s') (rows':=rows') hi;rw[e2];subst J;have l:=h.nd;have A:fN (L1++(v,s,rows)::L2)=fN L1++(v.oid.toList++fN L2):=by rw[oR];congr 1;unfold fN;rw[List.filterMap_cons];cases e:v.oid<;>simp
 have E:fN (L1++(v',s',rows')::L2)=fN L1++(v'.oid.toList++fN L2):=by rw[oR];congr 1;unfold fN;rw[List.filterMap_cons];cases e:v'.oid<;>simp
 rw[A]at l;have x:∀q,q∈gE B\/q∈fN L1\/q∈fN L2->∀p,v.oid=some p->q≠p:=by
  intro q hq p hp e;subst e;rw[hp]at l;simp only[Option.toList_some]at l;rw[ayC]at l;obtain⟨a,b,c⟩:=l;rw[ayC]at b;obtain⟨b1,b2,y⟩:=b;rw[List.singleton_append,List.nodup_cons]at b2;rcases hq with hq|hq|hq
  exact c q hq q aZ rfl;exact y q hq q aZ rfl;exact b2.1 hq
 have u:∀q,q∈gE B\/q∈fN L1\/q∈fN L2->H' q=H q:=by
  intro q hq;refine M q ?_ (x q hq);rw[A];simp only[awH];rcases hq with hq|hq|hq
  exact .inl hq;exact .inr (.inl hq);exact .inr (.inr (.inr hq))
 refine⟨λb hb=>by rw[u _ (.inl (AP hb))];exact h.box b hb,λz hz=>?_,?_⟩;rw[awH,avL]at hz;rcases hz with hz|rfl|hz
 exact(h.lst z (by simp[hz])).same λq hq=>u q (.inr (.inl (pE hz hq)));exact N;exact(h.lst z (by simp[hz])).same λq hq=>u q (.inr (.inr (pE hz hq)))
 ·rw[E];cases e:v'.oid with
  |none =>simp only[Option.toList_none,azA];refine List.Nodup.sublist ?_ l;exact axN.append (axN.refl _) (axN.append (axN.refl _) (List.sublist_append_right _ _))
  |some q=>
   rcases F q e with O|hn
   rw[O]at l;exact l;obtain⟨f1,f2⟩:=h.fresh hn;rw[A]at f2;simp only[awH,not_or]at f2;have w:(gE B++(fN L1++fN L2)).Nodup:=List.Nodup.sublist (axN.append (axN.refl _) (axN.append (axN.refl _) (List.sublist_append_right _ _))) l;simp only[Option.toList_some];rw[ayC]at w ⊢;obtain⟨a,b,c⟩:=w;rw[ayC]at b;obtain⟨b1,b2,y⟩:=b;refine⟨a,?_,?_⟩;rw[ayC];refine⟨b1,by rw[List.singleton_append,List.nodup_cons];exact⟨f2.2.2,b2⟩,λp hp r hr=>?_⟩;rw[List.singleton_append,avL]at hr;rcases hr with rfl|hr
   rintro rfl;exact f2.1 hp;exact y p hp r hr;intro p hp r hr;rw[awH,List.singleton_append,avL]at hr;rcases hr with hr|rfl|hr
   exact c p hp r (by simp[hr]);rintro rfl;exact f1 hp;exact c p hp r (by simp[hr])
theorem aQ.append(h:aQ H B L)(i:Nat){s b:Nat}{v y:PV}{rows src:P2_}(hi:L[i]?=some (v,s,rows))(E:dH H s y=some src)(A:roomFor rows.length src.length b)
  (w:∀v' H',aQ H' B (L.set i (v',s,rows++src))->(src≠[]->∃q,v'=.osl q s 0 (rows++src).length)->K v' H'):kJ H s b v y K:=by
 rcases h.own i hi with⟨rfl,rfl⟩|⟨q,rs,rfl,h1,h2,h3⟩
 refine⟨src,E,A,λe=>?_,λe o u=>?_⟩;subst e;refine w _ _ ?_ λh=>absurd rfl h;exact h.RX i hi (.inl ⟨rfl,rfl⟩) (λq hq=>by cases hq) λq _ _=>rfl;refine w _ _ (h.RX i hi (.inr ⟨o,src,rfl,by simp only[aP,if_true],avD _,avW⟩) (λq hq=>by cases hq;exact .inr u) λq hq _=>?_) λ_=>⟨o,rfl⟩;obtain⟨f1,f2⟩:=h.fresh u;have:q≠o:=by rintro rfl;exact hq.elim f1 f2
 rw[aP,aC this];have l:(rows++src).length=Z' rows+Z' src:=auZ;refine⟨src,E,rfl,rfl,A,rs,h1,h2,?_,λo u=>?_⟩;rw[h3];refine w _ _ (h.RX i hi (.inr ⟨q,rows++src,by rw[l],by simp only[aP,if_true],avD _,avW⟩) (λp hp=>by cases hp;exact .inl rfl) λp _ hp=>?_) λ_=>⟨q,by rw[l]⟩;rw[aP,aC (hp q rfl)];rw[h3];refine w _ _ (h.RX i hi (.inr ⟨o,rows++src,by rw[l],by simp only[aP,if_true],avD _,avW⟩) (λp hp=>by cases hp;exact .inr u) λp x hp=>?_) λ_=>⟨o,by rw[l]⟩;obtain⟨f1,f2⟩:=h.fresh u;have F:p≠o:=by rintro rfl;exact x.elim f1 f2
 rw[aP,aC F]
theorem aQ.sub(h:aQ H B L){B':List BX}{L':List LI}(hB:B'.Sublist B)(e:L'.Sublist L):aQ H B' L':=
 ⟨λb hb=>h.box b (hB.subset hb),λx i=>h.lst x (e.subset i),List.Nodup.sublist (axN.append (hB.map _) (e.filterMap _)) h.nd⟩
theorem aQ.xA(h:aQ H B L)(i:Nat):aQ H (B.eraseIdx i) L:=h.sub (List.eraseIdx_sublist ..) (axN.refl _)
theorem aQ.Ns(h:aQ H B L)(i:Nat):aQ H B (L.eraseIdx i):=h.sub (axN.refl _) (List.eraseIdx_sublist ..)
end
section
variable {C:Ctx} {F:PF} {H:PH} {B:List BX} {L:List LI}
theorem aQ.ZM(h:aQ H B L){q:Nat}(hq:q∈gE B\/q∈fN L):∃x,H q=some x:=by
 rcases hq with hq|hq
 obtain⟨b,hb,rfl⟩:=avV.1 hq;exact⟨_,h.box b hb⟩;obtain⟨x,l,e⟩:=List.mem_filterMap.1 hq;obtain⟨rs,i,_⟩:=(h.lst x l).id e;exact⟨_,i⟩
theorem aQ.perm(h:aQ H B L){B':List BX}{L':List LI}(hB:B.Perm B')(e:L.Perm L'):aQ H B' L':=
 ⟨λb hb=>h.box b (hB.mem_iff.2 hb),λx i=>h.lst x (e.mem_iff.2 i),(axY.nodup_iff ((hB.map _).append (e.filterMap _))).1 h.nd⟩
theorem aQ.only(h:aQ H B L){B1:List BX}{L1:List LI}(hB:B1.Sublist B)(e:L1.Sublist L):aQ (H.only (gE B1++fN L1)) B1 L1:=by
 refine(h.sub hB e).keep λq hq=>?_;rw[yH];rw[aF (awH.2 hq)]
theorem akJ{a b c d:N_}(i:(a++c).Nodup)(l:(b++d).Nodup)(u:∀q,q∈a\/q∈c->q∈b\/q∈d->False):((a++b)++(c++d)).Nodup:=by
 have e:axY ((a++b)++(c++d)) ((a++c)++(b++d)):=by rw[awB,awB];exact axY.append_left a (by rw[<-awB,<-awB];exact axY.append_right d List.perm_append_comm)
 rw[e.nodup_iff,ayC];refine⟨i,l,λp hp q hq=>?_⟩;rintro rfl;exact u p (awH.1 hp) (awH.1 hq)
theorem aQ.frame{H':PH}{B1 B2 B':List BX}{L1 L2 L':List LI}(h:aQ H (B1++B2) (L1++L2))(w:aQ H' B' L')(K:pI H (H.only (gE B1++fN L1)) H'):aQ (H.over (H.only (gE B1++fN L1)) H') (B'++B2) (L'++L2):=by
 have E:aQ H B2 L2:=h.sub (List.sublist_append_right ..) (List.sublist_append_right ..);have l:∀q,q∈gE B2\/q∈fN L2->¬(q∈gE B1++fN L1):=by
  intro q hq M;have i:=h.nd;rw[show gE (B1++B2)=gE B1++gE B2 from avU,oR]at i;have e:axY ((gE B1++gE B2)++(fN L1++fN L2)) ((gE B1++fN L1)++(gE B2++fN L2)):=by rw[awB,awB];exact axY.append_left _ (by rw[<-awB,<-awB];exact axY.append_right _ List.perm_append_comm)
  rw[e.nodup_iff,ayC]at i;exact i.2.2 q M q (awH.2 hq) rfl
 have new:∀q,q∈gE B'\/q∈fN L'->(H.over (H.only (gE B1++fN L1)) H') q=H' q:=by intro q hq;obtain⟨x,hx⟩:=w.ZM hq;rw[jV,hx]
 have J:∀q,q∈gE B2\/q∈fN L2->(H.over (H.only (gE B1++fN L1)) H') q=H q:=by
  intro q hq;obtain⟨x,hx⟩:=E.ZM hq;have A:(H.only (gE B1++fN L1)) q=none:=by rw[yH,aC (l q hq)]
  rw[jV];cases e:H' q with
  |none=>simp only[A]
  |some y =>have:=K q y e A;rw[hx]at this;cases this
 have k1:=w.keep new;have k2:=E.keep J;refine⟨λb hb=>?_,λx hx=>?_,?_⟩;rcases awH.1 hb with hb|hb
 exact k1.box b hb;exact k2.box b hb;rcases awH.1 hx with hx|hx
 exact k1.lst x hx;exact k2.lst x hx;rw[show gE (B'++B2)=gE B'++gE B2 from avU,oR];refine akJ w.nd E.nd λq hq u=>?_;obtain⟨x,hx⟩:=w.ZM hq;obtain⟨y,N⟩:=E.ZM u;have A:(H.only (gE B1++fN L1)) q=none:=by rw[yH,aC (l q u)]
 have:=K q x hx A;rw[N]at this;cases this
theorem LN{name:Nat}{vs:V_}{args:List aR}{d:O_}{K:K_}{B1 B2:List BX}{L1 L2:List LI}{Q:PV->List BX->List LI->Prop}(h:aQ H (B1++B2) (L1++L2))
  (w:∀i,aQ i B1 L1->aH C name vs i (λr H'=>∃B' L',Q r B' L'/\aQ H' B' L')) (u:aR.evs F args=some vs)
  (x:∀r B' L' H',Q r B' L'->aQ H' (B'++B2) (L'++L2)->K (F.put d r) H'):jS C name args [] d K F H:=by
 refine iS (w (H.only (gE B1++fN L1)) (h.only (List.sublist_append_left ..) (List.sublist_append_left ..))) u (ZC H _) ?_;rintro r H' ⟨B',L',hq,l⟩ e;exact x r B' L' _ hq (h.frame l e)
theorem aQ.LX{B:List BX}{o:Nat}{x:aV}(h:aQ H (B++[(o,x)]) L):H o=some x:=h.box (o,x) aZ
theorem aQ.ZK{B:List BX}{o:Nat}{x:aV}(h:aQ H (B++[(o,x)]) L)(y:aV):aQ (H.set o y) (B++[(o,y)]) L:=by
 have:=h.set B.length (o:=o) (x:=x) aZ y
 rwa[ayF _ _ (avD _),axT]at this
theorem aQ.dropLast{B:List BX}{b:BX}(h:aQ H (B++[b]) L):aQ H B L:=h.sub (List.sublist_append_left ..) (axN.refl _)
theorem aQ.ahP{B:List BX}{o:Nat}{x:aV}(h:aQ H ((o,x)::B) L)(y:aV):aQ (H.set o y) ((o,y)::B) L:=h.set 0 rfl y
theorem aQ.ajQ{B:List BX}{o:Nat}{x:aV}(h:aQ H ((o,x)::B) L):H o=some x:=h.at 0 rfl
theorem oV{name o:Nat}{x y:aV}{r:PV}{vs:V_}{args:List aR}{d:O_}{K:K_}(h:aH C name vs (h_.set o x) (λr' H'=>r'=r/\H'=h_.set o y))(l:H o=some x)(e:aR.evs F args=some vs)
  (i:K (F.put d r) (H.set o y)):jS C name args [] d K F H:=by
 refine iS h e (e_ a_ l) ?_;rintro r' H' ⟨rfl,rfl⟩ -;rw[PH.uS];exact i
theorem D1{Hs:PH}{S:Spec}{name o:Nat}{x y:aV}{r:PV}{vs:V_}{R:PH->R_}{args:List aR}{st:Bool}{d:O_}{K:K_}(N:S name vs=some ([o],R))(M:H o=some x)
  (h:aH C name vs (h_.set o x) (λr' H'=>r'=r/\H'=h_.set o y)) (i:R (h_.set o x) r (h_.set o y)) (w:∀r' H',R (h_.set o x) r' H'->r'=r/\H'=h_.set o y) (O:aR.evs F args=some vs)
  (A:Hs.le (H.set o y)) (U:K (F.put d r) (H.set o y)):dOp C Hs S st (.call name args) d K F H:=by
 have e:=i8 M;refine⟨vs,[o],_,O,N,λq hq=>?_,?_,λG=>⟨r,_,by rw[e];exact i,λq z J u=>?_⟩,λr' H' l _=>?_⟩;simp at hq;subst hq;exact⟨x,M⟩;rw[e];exact h.post λr' H' l=>⟨r',.refl _,by rw[l.1,l.2];exact i⟩;rw[e]at u;rw[aP]at J u;split at u;cases u;rename_i E;rw[aC E]at J;cases J;rw[e]at l;obtain⟨rfl,rfl⟩:=w r' H' l;rw[e,PH.uS];exact⟨A,U⟩
theorem abC{s:Nat}{q z:Nat}{rs:P2_}{v:PV}{rows:P2_}(h:bF H s v rows)(l:v.oid≠some q):bF (H.frz q z rs) s v (rows.map λr=>r.map (PV.dL q z rs)):=by
 rcases h with⟨rfl,rfl⟩|⟨p,rs',rfl,h1,h2,h3⟩
 exact .inl ⟨rfl,rfl⟩;have i:¬p=q:=λe=>l (by rw[e];rfl);refine .inr ⟨p,rs'.map λr=>r.map (PV.dL q z rs),by rw[auW],?_,by simpa using h2,?_⟩;rw[FS,aC i,h1];rfl;rw[auW,<-ayN,h3]
theorem aQ.frz(h:aQ H B L)(i:Nat){q s k:Nat}{rows:P2_}(hi:L[i]?=some (.osl q s 0 k,s,rows)):∃rs,H q=some (.rows s rs)/\PV.dL q s rs (.osl q s 0 k)=.sl s rows/\PV.frz q s rs (.osl q s 0 k)=.sl s rows/\(∀j x,j≠i->L[j]?=some x->PV.dL q s rs x.1=x.1) /\
  aQ (H.frz q s rs) (B.map λb=>(b.1,b.2.frz q s rs)) ((L.eraseIdx i).map λx=>(x.1,x.2.1,x.2.2.map λr=>r.map (PV.dL q s rs))):=by
 obtain⟨rs,V,W,X,Y⟩:=(h.own i hi).id rfl;injection W with _ _ _ hk
 subst hk;have e:PV.frz q s rs (.osl q s 0 rows.length)=.sl s rows:=by rw[AM X,Y]
 refine⟨rs,V,e,e,?_⟩;refine⟨λj x K S=>?_,?_⟩;have u:x.1.oid≠some q:=by
  intro u;obtain⟨M,he⟩:=awD.1 hi;obtain⟨β,Z⟩:=awD.1 S;have w:x∈L.eraseIdx i:=List.mem_eraseIdx_iff_getElem?.2 ⟨j,K,S⟩;have l:=h.ndL;have O:L=L.take i++(L[i]::L.drop (i+1)):=by rw[<-axB M,ayK]
  rw[List.eraseIdx_eq_take_drop_succ]at w;rw[O,oR]at l;have J:fN (L[i]::L.drop (i+1))=q::fN (L.drop (i+1)):=by rw[he];rfl
  rw[J,ayC]at l;obtain⟨a,b,c⟩:=l;rcases awH.1 w with hx|hx
  exact c q (pE hx u) q aZ rfl;exact(List.nodup_cons.1 b).1 (pE hx u)
 cases hx:x.1<;>try rfl
 rename_i p z off len;have:¬p=q:=λe=>u (by rw[hx,e];rfl);simp only[PV.dL,aC this];obtain⟨L1,L2,e1,e2⟩:=Ey (v':=.aJ) (s':=s) (rows':=rows) hi;have α:i=Z' L1\/True:=.inr trivial;have y:(L.eraseIdx i).Sublist L:=List.eraseIdx_sublist ..;have N:∀x∈L.eraseIdx i,x.1.oid≠some q:=by
  intro x hx u;obtain⟨M,he⟩:=awD.1 hi;have l:=h.ndL;have O:L=L.take i++(L[i]::L.drop (i+1)):=by rw[<-axB M,ayK]
  rw[List.eraseIdx_eq_take_drop_succ]at hx;rw[O,oR]at l;have J:fN (L[i]::L.drop (i+1))=q::fN (L.drop (i+1)):=by rw[he];rfl
  rw[J,ayC]at l;obtain⟨a,b,c⟩:=l;rcases awH.1 hx with hx|hx
  exact c q (pE hx u) q aZ rfl;exact(List.nodup_cons.1 b).1 (pE hx u)
 refine⟨λb hb=>?_,λx hx=>?_,?_⟩;obtain⟨R,A,rfl⟩:=avV.1 hb;have:¬R.1=q:=h.ndX (AP A) (pE (axF hi) rfl);simp only;rw[FS,aC this,h.box R A];rfl;obtain⟨U,E,rfl⟩:=avV.1 hx;exact abC (h.lst U (y.subset E)) (N U E);have i1:gE (B.map λb=>(b.1,b.2.frz q s rs))=gE B:=by unfold gE;rw[ayD];rfl
 have i2:fN ((L.eraseIdx i).map λx=>(x.1,x.2.1,x.2.2.map λr=>r.map (PV.dL q s rs)))=fN (L.eraseIdx i):=by unfold fN;rw[List.filterMap_map];rfl
 rw[i1,i2];exact List.Nodup.sublist (axN.append (axN.refl _) (y.filterMap _)) h.nd
def Flat(rows:P2_):Prop:=∀q s rs,rows.map (λr=>r.map (PV.dL q s rs))=rows
theorem Flat.nil:Flat []:=λ_ _ _=>rfl
theorem Flat.of{rows:P2_}(h:∀r∈rows,∀c∈r,∀q s rs,PV.dL q s rs c=c):Flat rows:=λq s rs=>by
 conv=>rhs;rw[<-List.map_id rows]
 refine ayB λr i=>?_
 conv=>rhs;rw[id,<-List.map_id r]
 exact ayB λc e=>h r i c e q s rs
theorem Flat.map{α:Type}{f:α->V_}(l:List α)(h:∀x,∀c∈f x,∀q s rs,PV.dL q s rs c=c):Flat (l.map f):=Flat.of λr e=>by
 obtain⟨x,_,rfl⟩:=avV.1 e;exact h x
theorem Flat.append{r1 r2:P2_}(e:Flat r1)(i:Flat r2):Flat (r1++r2):=λq s rs=>by rw[avU,e,i]
theorem aQ.flat{φ:PV->P2_}(h:aQ H B L):aQ H B L:=h
def yS(v:PV)(H:PH)(R:R_):Prop:=∃e i H2,jH (n_.set 0 v) H e i/\H2.le i/\∃u,e 0=some u/\R u H2
theorem yS.done{v:PV}{H2:PH}{R:R_}(i:R v H2)(e:H2.le H):yS v H R:=⟨_,_,H2,.refl _ _,e,v,by rw[mO,aF rfl],i⟩
theorem yS.step{v:PV}{q s:Nat}{rs:P2_}{R:R_}(hq:H q=some (.rows s rs))(h:yS (PV.frz q s rs v) (H.frz q s rs) R):yS v H R:=by
 obtain⟨l,u,H2,w,x,y⟩:=h;have e:(n_.set 0 v).frz q s rs=n_.set 0 (PV.frz q s rs v):=by funext i;rw[wQ,mO,mO];split<;>rfl
 exact⟨l,u,H2,.step q hq (by rw[e];exact w),x,y⟩
theorem rO{res:List eE}{R:R_}{vs:V_}{e:lG}(he:e=.normal\/e=.ret)(h:eE.evs F H res=some vs)(x:yS (bL vs) H R):aW res R e F H:=by
 have i:∃vs,eE.evs F H res=some vs/\∃l w H2,jH (n_.set 0 (bL vs)) H l w/\H2.le w/\∃u,l 0=some u/\R u H2:=⟨vs,h,x⟩;rcases he with rfl|rfl<;>exact i
theorem nu{u:PV}(h:u.oid=none)(q s:Nat)(rs:P2_):PV.dL q s rs u=u:=by
 cases u<;>first|rfl|(simp[PV.oid]at h)
theorem Seen.co{s:Nat}{v:PV}{rows:P2_}(h:Seen s v rows):Co v (.sl s rows):=by
 rcases h with⟨rfl,rfl⟩|rfl
 exact .nil s;exact .refl _
theorem aQ.giveUp:∀(L:List LI){H:PH}{B:List BX},aQ H B L->(∀x∈L,Flat x.2.2)->(∀b∈B,∀q s rs,aV.frz q s rs b.2=b.2) ->
  ∃(φ:PV->PV)(l:PH),(∀x∈L,Seen x.2.1 (φ x.1) x.2.2)/\(∀u,u.oid=none->φ u=u)/\aQ l B []/\∀cs R,yS (.agg (cs.map φ)) l R->yS (.agg cs) H R
 |[],H,B,h,_,_=>⟨id,H,by simp,λ_ _=>rfl,h,λcs R E=>by rwa[List.map_id]at E⟩
 |(w,s,rows)::L,H,B,h,A,hB=>by
  have i:∀q z rs,(L.map λx=>(x.1,x.2.1,x.2.2.map λr=>r.map (PV.dL q z rs)))=L:=λq z rs=>by
   conv=>rhs;rw[<-List.map_id L]
   refine ayB λx hx=>?_;rw[A x (by simp[hx]) q z rs];rfl
  rcases h.own 0 rfl with⟨y,S⟩|⟨q,rs,y,_⟩
  ·obtain⟨φ,l,k1,k2,J,K⟩:=aQ.giveUp L (h.Ns 0) (λx hx=>A x (by simp[hx])) hB;refine⟨φ,l,λx hx=>?_,k2,J,K⟩;rw[avL]at hx;rcases hx with rfl|hx
   ·exact .inl ⟨y,by simp only;rw[S];exact k2 _ rfl⟩
   ·exact k1 x hx
  ·subst y;obtain⟨rs,V,W,Z,X,N⟩:=h.frz 0 rfl;have Y:aQ (H.frz q s rs) B L:=by
    have O:(B.map λb=>(b.1,b.2.frz q s rs))=B:=by
     conv=>rhs;rw[<-List.map_id B]
     refine ayB λb hb=>?_;rw[hB b hb q s rs];rfl
    rw[O]at N;have:=N;simp only[List.eraseIdx_cons_zero]at this
    rwa[i q s rs]at this
   obtain⟨φ,l,k1,k2,J,K⟩:=aQ.giveUp L Y (λx hx=>A x (by simp[hx])) hB;refine⟨λu=>φ (PV.dL q s rs u),l,λx hx=>?_,λu M=>?_,J,λcs R E=>?_⟩
   ·rw[avL]at hx;rcases hx with rfl|hx
    ·simp only;rw[W];exact .inr (k2 _ rfl)
    ·obtain⟨j,U⟩:=List.mem_iff_getElem?.1 hx;have:=X (j+1) x Om (by simpa using U);simp only;rw[this];exact k1 x hx
   ·simp only;rw[nu M,k2 u M]
   ·refine .step V ?_;have e:PV.frz q s rs (.agg cs)=.agg (cs.map (PV.dL q s rs)):=rfl;rw[e];refine K _ R ?_;rw[ayD];exact E
theorem VB{K:bZ}{α:Type}{e:α->PF}{Hs:α->PH}{i:α->Prop}{m:α->Nat}{n q s:Nat}{rs:P2_}(a:α)(hq:H q=some (.rows s rs))(l:i a)(x:m a<n)(u:(e a).le (F.frz q s rs))(w:(Hs a).le (H.frz q s rs)):fL e Hs i m n K .normal F H:=
 ⟨a,_,_,.step q hq (.refl _ _),l,x,u,w⟩
end
structure yV(C:Ctx):Prop extends l6 C where
 int:∀n:Int,eI n->aH C 47 [.int .i64 n] .nil (aL (.agg (mkT n 1).cells))
 itoa:∀n:Nat,n<100->aH C 195 [.int .i64 n] .nil (aL (.str (cP n)))
 next:∀(l:N_)(v:PV),Tp l v->∀(o n a:Nat),n<=1000000->a<=Z' l->aH C 4 [.ptr o 2 0 0,.int .i64 n] (h_.set o (bB v a)) (lk l v o n a)
section
variable {C:Ctx} {F:PF} {H:PH} {l:N_} {v:PV} {o a:Nat}
theorem dQ(i:yV C)(T:Tp l v){n:Nat}{args:List aR}{d:O_}{K:K_}(x:n<=1000000)(u:a<=Z' l)(e:aR.evs F args=some [.ptr o 2 0 0,.j n])(y:H o=some (bB v a))
  (w:K (F.put d (.j ((aG l n a).1:Nat))) (H.set o (bB v (aG l n a).2))):jS C 4 args [] d K F H:=
 oV (i.next l v T o n a x u) y e w
end
def acQ(l:N_)(v:PV)(o a:Nat)(r:PV)(H:PH):Prop:=r=.agg (iD l a).1.cells/\H=h_.set o (bB v (iD l a).2)
theorem AL(l:N_){a:Nat}(h:a<=Z' l):(iD l a).2<=Z' l:=bU l 8 (bU l 6 h)
theorem Zb(i:yV C){l:N_}{v:PV}(T:Tp l v)(o a:Nat)(x:a<=Z' l):p5.wp C (aW B8.res (acQ l v o a)) (g_ [.ptr o 2 0 0]) (h_.set o (bB v a)):=by
 simp only[go_sem,p5,B8];refine aS λp hp=>?_;have y:¬p=o:=(kO.1 hp).1;have e:¬o=p:=λh=>y h.symm;have K:=cK l (show 0<6 by decide) a;have a1:=bU l 6 x;simp only[go_sem];refine dQ i T (o:=o) (n:=6) (a:=a) aU x rfl (by simp only[go_sem,e]) ?_;have E:i_.wrap (1+((aG l 6 a).1:Int))=((1+(aG l 6 a).1:Nat):Int):=wO_
 simp only[go_sem,E];have M:=cK l (show 0<8 by decide) (aG l 6 a).2;refine dQ i T (o:=o) (n:=8) (a:=(aG l 6 a).2) aU a1 rfl Sq ?_;have e2:i_.wrap (1+((aG l 8 (aG l 6 a).2).1:Int))=((1+(aG l 8 (aG l 6 a).2).1:Nat):Int):=wO_
 simp only[go_sem,e2];refine aB (i.fmk ((1+(aG l 6 a).1:Nat):Int) ((1+(aG l 8 (aG l 6 a).2).1:Nat):Int) (by unfold eI;omega) (by unfold eI;omega)) rfl ?_;have J:¬((1+(aG l 8 (aG l 6 a).2).1:Nat):Int)=0:=Om;unfold CX;rw[aC J];simp only[go_sem];refine aS λq hq=>?_;have A:¬q=o:=(kO.1 hq).1;have B:¬q=p:=(kO.1 (kO.1 hq).2).1;have w:¬p=q:=λh=>B h.symm;have u:¬o=q:=λh=>A h.symm;simp only[go_sem,y,e,A,B,w];refine bC (vs:=[.agg (iD l a).1.cells]) (.inr rfl) (h_.set o (bB v (iD l a).2)) ?_ (e_ a_ ?_) ⟨rfl,rfl⟩;simp only[go_sem];rfl;simp only[go_sem,e,u];rfl
structure C8(C:Ctx):Prop extends yV C where
 frac:∀(l:N_)(v:PV),Tp l v->∀(o a:Nat),a<=Z' l->aH C 1 [.ptr o 2 0 0] (h_.set o (bB v a)) (acQ l v o a)
abbrev iZ(l:List RF):P2_:=l.map RF.cells
theorem EB(l:List RF)(x:RF):iZ l++[x.cells]=iZ (l++[x]):=by simp[iZ]
theorem OG(l:List RF):Flat (iZ l):=Flat.map l λx c e q s rs=>by
 simp only[RF.cells,fU,avL,avY,or_false]at e;rcases e with rfl|rfl|rfl<;>rfl
theorem qD(l:List RF):(iZ l).length=Z' l:=by simp[iZ]
theorem Tp.frz{l:N_}{v:PV}(T:Tp l v)(q s:Nat)(rs:P2_):PV.dL q s rs v=v:=by
 rcases T.seen with⟨_,rfl⟩|rfl<;>rfl
theorem MU(l:N_){a:Nat}(h:a<=Z' l):∀k,(nJ l a k).2<=Z' l
 |0=>h
 |k+1=>AL l (MU l h k)
theorem Hl(l:N_)(a:Nat):∀k,(nJ l a k).1.length=k
 |0=>rfl
 |k+1=>by simp only[nJ,auZ,avG,Hl l a k]
def ajI(l:N_)(v:PV)(o a k:Nat)(r:PV)(H:PH):Prop:=r=frs (nJ l a k).1/\H=h_.set o (bB v (nJ l a k).2)
def O8(o:Nat)(m:Nat)(w:PV)(i:Nat):PF:=((((n_.set 0 (.ptr o 2 0 0)).set 1 (.int .i64 m)).set 5 (w)).set 6 (.int .i64 i))
theorem agE(N:C8 C){l:N_}{v:PV}(T:Tp l v)(o a m:Nat)(X:m<=1000)(S:a<=Z' l):yr.wp C (aW O7.res (ajI l v o a (max m 1))) (g_ [.ptr o 2 0 0,.j m]) (h_.set o (bB v a)):=by
 have y:∀i:Nat,((i:Int)<(if(m:Int)<1 then 1 else(m:Int)))↔i<max m 1:=by intro i;split<;>omega
 simp only[go_sem,yr,O7];have O:aQ (h_.set o (bB v a)) [(o,bB v a)] [(.aJ,3,iZ [])]:=(aQ.nil.new (H:=h_) rfl (bB v a)).nT 3;refine wp_loop (α:=T3_) (λt=>O8 o m t.2.1 t.1) (λt=>t.2.2) (λt=>t.1<=max m 1/\aQ t.2.2 [(o,bB v (nJ l a t.1).2)] [(t.2.1,3,iZ (nJ l a t.1).1)]) (λt=>max m 1-t.1) (0,.aJ,h_.set o (bB v a)) ⟨auY _,O⟩ ?_ b_ ?_;unfold O8;exact Lq;rintro⟨k,w,W⟩ ⟨U,x⟩;simp only at U x ⊢;simp only[go_sem,O8];have J:=MU l S k;have u:=Hl l a k;by_cases hlt:k<max m 1;have E:=(y k).2 hlt;simp only[go_sem,E];refine oV (N.frac l v T o _ J) (x.at 0 rfl) rfl ?_;have B:=x.set 0 rfl (bB v (iD l (nJ l a k).2).2);have A:(1:Nat)*3<=16777216:=by decide
 simp only[go_sem,A];refine B.append 0 (src:=[(iD l (nJ l a k).2).1.cells]) rfl rfl (by unfold roomFor;rw[qD,u];simp only[avG,maxLen];omega) λV H' M _=>?_;rw[EB]at M;simp only[go_sem,wZz k];refine aE (k+1,V,H') ⟨hlt,M⟩ sO_ ?_ b_;exact Lq;have E:¬((k:Int)<(if(m:Int)<1 then 1 else(m:Int))):=λh=>hlt ((y k).1 h);have e:k=max m 1:=Om;subst e;simp only[go_sem,E];have K:iZ (nJ l a (max m 1)).1≠[]:=λh=>by have:=congrArg List.length h;rw[qD,u]at this;simp at this
 rcases x.own 0 rfl with⟨R,_⟩|⟨q,rs,rfl,_⟩
 exact absurd R K;obtain⟨rs,g1,g2,g3,-,g4⟩:=x.frz 0 rfl;refine rO (vs:=[.osl q 3 0 (iZ (nJ l a (max m 1)).1).length]) (.inr rfl) rfl (.step g1 (.done (H2:=h_.set o (bB v (nJ l a (max m 1)).2)) ?_ (e_ a_ ?_)));rw[bL,g3];exact⟨rfl,rfl⟩;have:=g4.at 0 rfl;rw[this];simp only[aV.frz,awE,axD,T.frz];rfl
theorem Zj(i:yV C)(s:List UInt8)(n:Nat)(x:Z' s<=100)(u:n<100):p6.wp C (aW B9.res (aL (.str (s++cP n)))) (g_ [.str s,.j n]) .nil:=by
 have w:(cP n).length<=2:=by unfold cP;rw[Lib.decDigits];split;simp;rw[Lib.decDigits,dif_pos Om];simp
 have e:¬(((Z' s+(cP n).length:Nat):Int)>9223372036854775807):=Om;simp only[go_sem,p6,B9];refine aB (i.itoa n u) rfl ?_;simp only[go_sem,Nf,e];refine cL ?_;rfl
structure yW(C:Ctx):Prop extends C8 C where
 rep:∀(l:N_)(v:PV),Tp l v->∀(o a m:Nat),m<=1000->a<=Z' l->aH C 5 [.ptr o 2 0 0,.int .i64 m] (h_.set o (bB v a)) (ajI l v o a (max m 1))
 name:∀(s:List UInt8)(n:Nat),Z' s<=100->n<100->aH C 29 [.str s,.int .i64 n] .nil (aL (.str (s++cP n)))
theorem Xd(l:N_)(i j:Nat){a:Nat}(h:a<=Z' l):(kT l i j a).2<=Z' l:=by
 unfold kT;split;exact AL l h;split;exact h;simp only;split;exact AL l (bU l 3 h);exact bU l 3 h
theorem xb(l:N_)(i:Nat){a:Nat}(h:a<=Z' l):∀j,(fC l i a j).2<=Z' l
 |0=>h
 |j+1=>Xd l i j (xb l i h j)
theorem jw(l:N_)(i a:Nat):∀j,(fC l i a j).1.length=j
 |0=>rfl
 |j+1=>by simp only[fC,auZ,avG,jw l i a j]
theorem gf(l:N_)(n i:Nat)(s:JQ)(h:s.a<=Z' l):(fB l n i s).2<=Z' l/\(fB l n i s).1<=s.left:=by
 unfold fB;split;exact⟨bU l _ h,by have:=cK l (Om:0<s.left+1) s.a;omega⟩;exact⟨h,avD _⟩
theorem Ee(l:N_)(n i:Nat){a:Nat}(h:a<=Z' l):(gS l n i a).2<=Z' l:=by
 unfold gS;simp only;split;exact bU l 3 (AL l h);exact AL l h
theorem vm(l:N_)(n:Nat){a:Nat}(h:a<=Z' l):∀i,(iT l n a i).a<=Z' l/\(iT l n a i).left<=8/\(iT l n a i).start.length=i/\(iT l n a i).exit.length=i/\(iT l n a i).atM.length=i
 |0=>⟨h,avD _,rfl,rfl,rfl⟩
 |i+1=>by obtain⟨e,y,u,w,h5⟩:=vm l n h i;have x:=gf l n i (iT l n a i) e;refine⟨?_,?_,?_,?_,?_⟩;exact xb l i (Ee l n i x.1) n;simp only[iT];omega;simp only[iT,auZ,avG,u];simp only[iT,auZ,avG,w];simp only[iT,auZ,avG,h5]
abbrev AW(l:List (List RF)):P2_:=l.map λr=>[frs r]
theorem Aa(l:List (List RF)):Flat (AW l):=Flat.map l λx c e q s rs=>by
 simp only[avL,avY,or_false]at e;subst e;rfl
abbrev ge(e i l:PV):aV:=.rows 4 [[.str [],e,i,l]]
abbrev E9:aV:=.rows 4 [[.str [],.aJ,.aJ,.aJ]]
def iI(o o4 o6 n left i:Nat)(w:PV)(j:Nat):PF:=((((((((n_.set 0 (.ptr o 2 0 0)).set 4 (.ptr o4 4 0 0)).set 5 (.int .i64 n)).set 6 (.ptr o6 4 0 0)).set 7 (.int .i64 left)).set 8 (.int .i64 i)).set 13 (w)).set 14 (.int .i64 j))
def eF(o o4 o6 n left i:Nat):PF:=((((((n_.set 0 (.ptr o 2 0 0)).set 4 (.ptr o4 4 0 0)).set 5 (.int .i64 n)).set 6 (.ptr o6 4 0 0)).set 7 (.int .i64 left)).set 8 (.int .i64 i))
theorem gk{l:List RF}(h:Z' l<=1000):roomFor (iZ l).length 1 56:=by
 unfold roomFor;rw[qD];simp only[maxLen];omega
theorem Zf(X:yW C){l:N_}{v:PV}(T:Tp l v)(o o4 o6 n left i a:Nat)(ha:a<=Z' l)(hn:n<=100)(hi:i<n)(B:List BX)(L:List LI)(K:bZ)(F:PF)(H:PH)
  (hF:(iI o o4 o6 n left i .aJ 0).le F) (R:aQ H ((o,bB v a)::B) L)
  (hK:∀w y H',(iI o o4 o6 n left i w n).le y->aQ H' ((o,bB v (fC l i a n).2)::B) (L++[(w,3,iZ (fC l i a n).1)])->K (.exit 2) y H') :
  aI.wp C (.loop PW) K F H:=by
 refine wp_loop (α:=T3_) (λt=>iI o o4 o6 n left i t.2.1 t.1) (λt=>t.2.2) (λt=>t.1<=n/\aQ t.2.2 ((o,bB v (fC l i a t.1).2)::B) (L++[(t.2.1,3,iZ (fC l i a t.1).1)])) (λt=>n-t.1) (0,.aJ,H) ⟨auY _,R.nT 3⟩ hF b_ ?_;rintro⟨j,w,H0⟩ ⟨hj,R⟩;simp only at hj R ⊢;have O:=xb l i ha j;have ζ:=jw l i a j;have e1:i_.wrap ((i:Int)+1)=((i+1:Nat):Int):=eC Om;simp only[go_sem,PW,iI];by_cases hlt:j<n;have J:(j:Int)<(n:Nat):=Om;simp only[go_sem,J];refine aB (X.int 0 (by unfold eI;omega)) rfl ?_;simp only[go_sem];refine aS λp hp=>?_;have A:=R.new hp (.rows 3 [mL.cells]);simp only[go_sem,e1];have fin:∀(y:PF)(H':PH),(iI o o4 o6 n left i w j).le y->y 15=some (.ptr p 3 0 0)->aQ H' ((o,bB v (kT l i j (fC l i a j).2).2)::B++[(p,.rows 3 [(kT l i j (fC l i a j).2).1.cells])]) (L++[(w,3,iZ (fC l i a j).1)]) ->
   aI.wp C (.region gx) (fA 3 (fZ C (aI.wp C (.region gy)) (fL (λ(t:T3_)=>iI o o4 o6 n left i t.2.1 t.1) (λt=>t.2.2) (λt=>t.1<=n/\aQ t.2.2 ((o,bB v (fC l i a t.1).2)::B) (L++[(t.2.1,3,iZ (fC l i a t.1).1)])) (λt=>n-t.1) (n-j) K))) y H':=by
  intro y H' e M S;have f0:y 0=some (.ptr o 2 0 0):=e 0 _ (by unfold iI;simp only[go_sem]);have f4:y 4=some (.ptr o4 4 0 0):=e 4 _ (by unfold iI;simp only[go_sem]);have f5:y 5=some (.j n):=e 5 _ (by unfold iI;simp only[go_sem]);have f6:y 6=some (.ptr o6 4 0 0):=e 6 _ (by unfold iI;simp only[go_sem]);have f7:y 7=some (.j left):=e 7 _ (by unfold iI;simp only[go_sem]);have f8:y 8=some (.j i):=e 8 _ (by unfold iI;simp only[go_sem]);have f13:y 13=some w:=e 13 _ (by unfold iI;simp only[go_sem]);have f14:y 14=some (.j j):=e 14 _ (by unfold iI;simp only[go_sem]);have δ:H' p=some (.rows 3 [(kT l i j (fC l i a j).2).1.cells]):=S.box (p,.rows 3 [(kT l i j (fC l i a j).2).1.cells]) aZ;have Z:(1:Nat)*3<=16777216:=by decide
  simp only[go_sem,gx,f13,M,δ,Z];refine S.append (v:=w) (s:=3) (rows:=iZ (fC l i a j).1) L.length (src:=[(kT l i j (fC l i a j).2).1.cells]) aZ rfl (gk Om) λw' H2 h2 _=>?_;rw[EB,ayF _ _ (avD _),axT]at h2;simp only[go_sem,gy,f14,wZz j];refine aE (α:=T3_) (j+1,w',H2) ⟨hlt,h2.sub (List.sublist_append_left ..) (axN.refl _)⟩ sO_ ?_ b_;unfold iI;exact Lq
 simp only[aI.wp,go_sem]at fin;have W:∀x:RF,PH.set (PH.set H0 p (.rows 3 [mL.cells])) p (.rows 3 [x.cells])=PH.set H0 p (.rows 3 [x.cells]):=λx=>PH.set_set p _ _;have draw:∀(y:PF)(U:PH)(a1:Nat),a1<=Z' l->(iI o o4 o6 n left i w j).le y->y 15=some (.ptr p 3 0 0)->aQ U ((o,bB v a1)::B++[(p,.rows 3 [mL.cells])]) (L++[(w,3,iZ (fC l i a j).1)])->kT l i j (fC l i a j).2=iD l a1->∀K',(∀N H2,(iI o o4 o6 n left i w j).le N->N 15=some (.ptr p 3 0 0)->aQ H2 ((o,bB v (kT l i j (fC l i a j).2).2)::B++[(p,.rows 3 [(kT l i j (fC l i a j).2).1.cells])]) (L++[(w,3,iZ (fC l i a j).1)])->K' N H2) ->
   wpOps C gw K' y U:=by
  intro y U a1 γ e M A he K' β;have f0:y 0=some (.ptr o 2 0 0):=e 0 _ (by unfold iI;simp only[go_sem]);simp only[go_sem,gw,f0];refine oV (X.frac l v T o a1 γ) (A.at 0 rfl) rfl ?_;have E:aQ (U.set o (bB v (iD l a1).2)) ((o,bB v (iD l a1).2)::B++[(p,.rows 3 [mL.cells])]) (L++[(w,3,iZ (fC l i a j).1)]):=A.set 0 rfl _;have ε:=E.LX;simp only[go_sem,M,ε];refine β _ _ ?_ (by simp only[go_sem,M]) ?_;have g:=λ(q:Nat) u h=>e q u h;unfold iI at g ⊢;refine c_ (c_ (c_ (c_ (c_ (c_ (c_ (c_ d_ ?_) ?_) ?_) ?_) ?_) ?_) ?_) ?_;simp only[go_sem,f0];simp only[go_sem,g 4 _ rfl];simp only[go_sem,g 5 _ rfl];simp only[go_sem,g 6 _ rfl];simp only[go_sem,g 7 _ rfl];simp only[go_sem,g 8 _ rfl];simp only[go_sem,g 13 _ rfl];simp only[go_sem,g 14 _ rfl];rw[he];exact E.ZK (.rows 3 [(iD l a1).1.cells])
 by_cases V:j=i+1;have he:kT l i j (fC l i a j).2=iD l (fC l i a j).2:=by unfold kT;rw[aF V]
 simp only[go_sem,bN (Om:(j:Int)=((i+1:Nat):Int))];refine draw _ _ _ O (by unfold iI;exact Lq) rfl A he _ ?_;intro N H2 k1 k2 k3;exact fin N H2 k1 k2 k3;simp only[go_sem,bA (Om:¬(j:Int)=((i+1:Nat):Int))];by_cases Y:j=i;have he:kT l i j (fC l i a j).2=(mL,(fC l i a j).2):=by unfold kT;rw[aC V,aF Y]
 simp only[go_sem,cF (Om:(j:Int)=(i:Int))];exact fin _ _ (by unfold iI;exact Lq) rfl (by rw[he];exact A);simp only[go_sem,cY (Om:¬(j:Int)=(i:Int))];refine dQ X.toyV T (o:=o) (n:=3) (a:=(fC l i a j).2) aU O rfl (A.at 0 rfl) ?_;have E:aQ _ ((o,bB v (aG l 3 (fC l i a j).2).2)::B++[(p,.rows 3 [mL.cells])]) (L++[(w,3,iZ (fC l i a j).1)]):=A.set 0 rfl _;by_cases c3:(aG l 3 (fC l i a j).2).1=0;have he:kT l i j (fC l i a j).2=iD l (aG l 3 (fC l i a j).2).2:=by unfold kT;rw[aC V,aC Y];simp only[c3,if_true]
 simp only[go_sem,bN (show(((aG l 3 (fC l i a j).2).1:Nat):Int)=0 by omega)];refine draw _ _ _ (bU l 3 O) (by unfold iI;exact Lq) rfl E he _ ?_;intro N H2 k1 k2 k3;exact fin N H2 k1 k2 k3;have he:kT l i j (fC l i a j).2=(mL,(aG l 3 (fC l i a j).2).2):=by unfold kT;rw[aC V,aC Y];simp only[c3,if_false]
 simp only[go_sem,bA (show ¬(((aG l 3 (fC l i a j).2).1:Nat):Int)=0 by omega)];exact fin _ _ (by unfold iI;exact Lq) rfl (by rw[he];exact E);have J:¬(j:Int)<(n:Nat):=Om;have:j=n:=Om;subst this;simp only[go_sem,J];exact hK w _ _ (by unfold iI;exact Lq) R
abbrev xC(o o4 o6:Nat)(v e i l:PV)(a:Nat):List BX:=[(o,bB v a),(o4,E9),(o6,ge e i l)]
abbrev BI(s:JQ)(e i l:PV):List LI:=[(e,3,iZ s.start),(i,1,AW s.atM),(l,3,iZ s.exit)]
theorem T2(M:yW C){l:N_}{v:PV}(T:Tp l v)(o o4 o6 n i:Nat)(s:JQ)(J:s.a<=Z' l)(W:s.left<=8)(X:n<=100)(hi:i<n)(B:List BX)(L:List LI)(rest:aI)(K:bZ)(F:PF)(H:PH)
  (e:(eF o o4 o6 n s.left i).le F) (A:aQ H ((o,bB v s.a)::B) L)
  (w:∀x H',(eF o o4 o6 n (s.left-(fB l n i s).1) i).le x->x 9=some (.j ((fB l n i s).1:Nat))->aQ H' ((o,bB v (fB l n i s).2)::B) L->aI.wp C rest K x H') :
  aI.wp C (.seq (.region vr) (.seq (.seq (.region vt) (.cond (.tmp 29) (.region vu) .skip)) (.seq (.region YX) rest))) K F H:=by
 have f0:F 0=some (.ptr o 2 0 0):=e 0 _ (by unfold eF;simp only[go_sem]);have U:F 4=some (.ptr o4 4 0 0):=e 4 _ (by unfold eF;simp only[go_sem]);have R:F 5=some (.j n):=e 5 _ (by unfold eF;simp only[go_sem]);have f6:F 6=some (.ptr o6 4 0 0):=e 6 _ (by unfold eF;simp only[go_sem]);have f7:F 7=some (.j s.left):=e 7 _ (by unfold eF;simp only[go_sem]);have S:F 8=some (.j i):=e 8 _ (by unfold eF;simp only[go_sem]);have N:i_.wrap ((i:Int)+1)=((i+1:Nat):Int):=eC Om;have V:=(gf l n i s J).2;have u:i_.wrap ((s.left:Int)-((fB l n i s).1:Int))=((s.left-(fB l n i s).1:Nat):Int):=wO_
 simp only[go_sem,vr,f7,vt,S,R,N];by_cases c:i+1<n;have y:((i+1:Nat):Int)<(n:Nat):=Om;have he:fB l n i s=aG l (s.left+1) s.a:=by unfold fB;rw[aF c]
 have O:i_.wrap ((s.left:Int)+1)=((s.left+1:Nat):Int):=eC Om;rw[he]at w u;simp only[go_sem,y,vu,f0,f7,O];refine dQ M.toyV T (o:=o) (n:=s.left+1) (a:=s.a) Om J rfl A.ajQ ?_;have E:=A.ahP (bB v (aG l (s.left+1) s.a).2);simp only[go_sem,YX,f7,u];refine w _ _ ?_ rfl E;unfold eF;exact Lq;have y:¬((i+1:Nat):Int)<(n:Nat):=Om;have he:fB l n i s=(s.left,s.a):=by unfold fB;rw[aC c]
 rw[he]at w u;simp only at w u;simp only[go_sem,y,YX,f7,u];refine w _ _ ?_ rfl A;unfold eF;exact Lq
theorem O5(S:yW C){l:N_}{v:PV}(o o4 o6 n i left k a:Nat)(hk:k<=8)(hi:i<n)(hn:n<=100)(s:JQ)(hs:Z' s.start=i)(R x A:PV)(B:List BX)(rest:aI)(K:bZ)(F:PF)(H:PH)
  (w:(eF o o4 o6 n left i).le F) (U:F 9=some (.j k)) (Y:aQ H (xC o o4 o6 v R x A a++B) (BI s R x A))
  (Z:∀u O H' B',(eF o o4 o6 n left i).le O->aQ H' (xC o o4 o6 v u x A a++B') (BI { s with start:=s.start++[mkT (k:Nat) 8] } u x A)->aI.wp C rest K O H') :
  aI.wp C (.seq (.region gl) (.seq (.region gm) rest)) K F H:=by
 have f0:F 0=some (.ptr o 2 0 0):=w 0 _ (by unfold eF;simp only[go_sem]);have f4:F 4=some (.ptr o4 4 0 0):=w 4 _ (by unfold eF;simp only[go_sem]);have f5:F 5=some (.j n):=w 5 _ (by unfold eF;simp only[go_sem]);have f6:F 6=some (.ptr o6 4 0 0):=w 6 _ (by unfold eF;simp only[go_sem]);have f7:F 7=some (.j left):=w 7 _ (by unfold eF;simp only[go_sem]);have f8:F 8=some (.j i):=w 8 _ (by unfold eF;simp only[go_sem]);simp only[go_sem,gl,U];refine aB (S.fmk (k:Int) 8 (by unfold eI;omega) (by unfold eI;omega)) rfl ?_;unfold CX;rw[aC aU];simp only[go_sem];refine aS λp hp=>?_;have e:=Y.new hp (.rows 3 [(mkT (k:Nat) 8).cells]);have V:=e.at 2 rfl;have W:=e.LX;have J:(1:Nat)*3<=16777216:=by decide
 have α:∀y,PH.set (PH.set H p (.rows 3 [[PV.bool false,PV.aJ,PV.aJ]])) p y=PH.set H p y:=λy=>PH.set_set p _ _;simp only[go_sem,gm,f6,V,W,J];refine e.append 0 (src:=[(mkT (k:Nat) 8).cells]) rfl rfl (gk Om) λu H2 M N=>?_;rw[EB]at M N;rw[qD]at N;obtain⟨q,rfl⟩:=N aZ;have E:=M.at 2 rfl;simp only[go_sem,E,avL,avY,or_false,forall_eq];have X:=M.set 2 rfl (ge (.osl q 3 0 (s.start++[mkT (k:Nat) 8]).length) x A);refine Z _ _ _ (B++[(p,.rows 3 [(mkT (k:Nat) 8).cells])]) ?_ X;unfold eF;exact Lq
theorem T1(O:yW C){l:N_}{v:PV}(T:Tp l v)(o o4 o6 n i left a:Nat)(ha:a<=Z' l)(hi:i<n)(hn:n<=100)(s:JQ)(hs:Z' s.exit=i)(w x N:PV)(B:List BX)(rest:aI)(K:bZ)(F:PF)(H:PH)
  (M:(eF o o4 o6 n left i).le F) (hH:aQ H (xC o o4 o6 v w x N a++B) (BI s w x N))
  (hK:∀J e H' B',(eF o o4 o6 n left i).le e->aQ H' (xC o o4 o6 v w x J (gS l n i a).2++B') (BI { s with exit:=s.exit++[(gS l n i a).1] } w x J)->aI.wp C rest K e H') :
  aI.wp C (.seq (.region gn) (.seq (.seq (.region gp) (.cond (.tmp 58) (.region gr) .skip)) (.seq (.region PX) rest))) K F H:=by
 have f0:F 0=some (.ptr o 2 0 0):=M 0 _ (by unfold eF;simp only[go_sem]);have f4:F 4=some (.ptr o4 4 0 0):=M 4 _ (by unfold eF;simp only[go_sem]);have f5:F 5=some (.j n):=M 5 _ (by unfold eF;simp only[go_sem]);have f6:F 6=some (.ptr o6 4 0 0):=M 6 _ (by unfold eF;simp only[go_sem]);have f7:F 7=some (.j left):=M 7 _ (by unfold eF;simp only[go_sem]);have f8:F 8=some (.j i):=M 8 _ (by unfold eF;simp only[go_sem]);have e1:i_.wrap ((i:Int)+1)=((i+1:Nat):Int):=eC Om;simp only[go_sem,gn,f0];refine oV (O.frac l v T o a ha) (hH.at 0 rfl) rfl ?_;have Y:=hH.set 0 rfl (bB v (iD l a).2);simp only[go_sem];refine aS λp hp=>?_;have A:=Y.new hp (.rows 3 [(iD l a).1.cells]);simp only[go_sem,gp,f8,f5,e1];have fin:∀(e:PF)(H':PH),(eF o o4 o6 n left i).le e->e 12=some (.ptr p 3 0 0)->aQ H' (xC o o4 o6 v w x N (gS l n i a).2++B++[(p,.rows 3 [(gS l n i a).1.cells])]) (BI s w x N)->wpOps C PX (aI.wp C rest K) e H':=by
  intro e H' u S y;have q0:e 0=some (.ptr o 2 0 0):=u 0 _ (by unfold eF;simp only[go_sem]);have q4:e 4=some (.ptr o4 4 0 0):=u 4 _ (by unfold eF;simp only[go_sem]);have q5:e 5=some (.j n):=u 5 _ (by unfold eF;simp only[go_sem]);have q6:e 6=some (.ptr o6 4 0 0):=u 6 _ (by unfold eF;simp only[go_sem]);have q7:e 7=some (.j left):=u 7 _ (by unfold eF;simp only[go_sem]);have q8:e 8=some (.j i):=u 8 _ (by unfold eF;simp only[go_sem]);have g6:=y.at 2 rfl;have V:=y.LX;have W:(1:Nat)*3<=16777216:=by decide
  simp only[go_sem,PX,q6,g6,S,V,W];refine y.append 2 (src:=[(gS l n i a).1.cells]) rfl rfl (gk Om) λJ H2 X hw=>?_;rw[EB]at X hw;rw[qD]at hw;obtain⟨q,rfl⟩:=hw aZ;have U:=X.at 2 rfl;simp only[go_sem,U,avL,avY,or_false,forall_eq];have h3:=X.set 2 rfl (ge w x (.osl q 3 0 (s.exit++[(gS l n i a).1]).length));refine hK _ _ _ (B++[(p,.rows 3 [(gS l n i a).1.cells])]) ?_ h3;unfold eF;exact Lq
 by_cases c:i+1<n;have R:((i+1:Nat):Int)<(n:Nat):=Om;have Z:=AL l ha;simp only[go_sem,R,f0];refine dQ O.toyV T (o:=o) (n:=3) (a:=(iD l a).2) aU Z rfl (A.at 0 rfl) ?_;have E:=A.set 0 rfl (bB v (aG l 3 (iD l a).2).2);by_cases c3:(aG l 3 (iD l a).2).1=0;have he:gS l n i a=(mL,(aG l 3 (iD l a).2).2):=by unfold gS;simp only[aF c,c3,if_true]
 have V:=aQ.LX (B:=xC o o4 o6 v w x N (aG l 3 (iD l a).2).2++B) E;simp only[go_sem,bN (show(((aG l 3 (iD l a).2).1:Nat):Int)=0 by omega),gr];refine aB (O.int 0 (by unfold eI;omega)) rfl ?_;simp only[go_sem,V];refine fin _ _ ?_ rfl ?_;unfold eF;exact Lq;rw[he];exact aQ.ZK (B:=xC o o4 o6 v w x N (aG l 3 (iD l a).2).2++B) E (.rows 3 [mL.cells]);have he:gS l n i a=((iD l a).1,(aG l 3 (iD l a).2).2):=by unfold gS;simp only[aF c,c3,if_false]
 simp only[go_sem,bA (show ¬(((aG l 3 (iD l a).2).1:Nat):Int)=0 by omega)];refine fin _ _ ?_ rfl ?_;unfold eF;exact Lq;rw[he];exact E;have R:¬((i+1:Nat):Int)<(n:Nat):=Om;have he:gS l n i a=iD l a:=by unfold gS;simp only[aC c]
 simp only[go_sem,R];refine fin _ _ ?_ rfl ?_;unfold eF;exact Lq;rw[he];exact A
def W4(l:N_)(v:PV)(o eN a:Nat)(r:PV)(H:PH):Prop:=r=.agg (wI l eN a).1.cells/\H=h_.set o (bB v (wI l eN a).2)
theorem Vg{l:List (List RF)}(h:Z' l<=1000):roomFor (AW l).length 1 24:=by
 unfold roomFor;simp only[auW,maxLen];omega
theorem Vh(l:List (List RF))(x:List RF):AW l++[[frs x]]=AW (l++[x]):=by simp[AW]
theorem O4(Lb:yW C){l:N_}{v:PV}(T:Tp l v)(o o4 o6 n left i a:Nat)(ha:a<=Z' l)(hn:n<=100)(hi:i<n)(s:JQ)(hs:Z' s.atM=i)(A R M:PV)(B:List BX)(K:bZ)(F:PF)(H:PH)
  (N:(eF o o4 o6 n left i).le F) (hH:aQ H (xC o o4 o6 v A R M a++B) (BI s A R M))
  (hK:∀J E Y H' B',(eF o o4 o6 n left i).le Y->(∃q,E=.osl q 3 0 n)->aQ H' (xC o o4 o6 v A J M (fC l i a n).2++B') [(A,3,iZ s.start),(J,1,AW s.atM++[[E]]),(M,3,iZ s.exit),(E,3,iZ (fC l i a n).1)]->K .normal Y H') :
  aI.wp C (.seq (.region gt) (.seq (.seq (.region gv) (.block 2 (.loop PW))) (.region gz))) K F H:=by
 have f0:F 0=some (.ptr o 2 0 0):=N 0 _ (by unfold eF;simp only[go_sem]);have f4:F 4=some (.ptr o4 4 0 0):=N 4 _ (by unfold eF;simp only[go_sem]);have f5:F 5=some (.j n):=N 5 _ (by unfold eF;simp only[go_sem]);have f6:F 6=some (.ptr o6 4 0 0):=N 6 _ (by unfold eF;simp only[go_sem]);have f7:F 7=some (.j left):=N 7 _ (by unfold eF;simp only[go_sem]);have f8:F 8=some (.j i):=N 8 _ (by unfold eF;simp only[go_sem]);simp only[go_sem,gt,gv];refine Zf (C:=C) Lb T o o4 o6 n left i a ha hn hi ([(o4,E9),(o6,ge A R M)]++B) (BI s A R M) _ _ H ?_ hH ?_;unfold iI;exact lE6 f0 f4 f5 f6 f7 f8;intro w x H1 e y;have u:=jw l i a n;have hw:∃q,w=.osl q 3 0 n:=by
  rcases y.own (v:=w) 3 rfl with⟨O,_⟩|⟨q,rs,O,_⟩
  have:=congrArg List.length O;rw[qD,u]at this;simp at this;omega;rw[qD,u]at O;exact⟨q,O⟩
 obtain⟨q,rfl⟩:=hw;have g0:x 0=some (.ptr o 2 0 0):=e 0 _ (by unfold iI;simp only[go_sem]);have g4:x 4=some (.ptr o4 4 0 0):=e 4 _ (by unfold iI;simp only[go_sem]);have g5:x 5=some (.j n):=e 5 _ (by unfold iI;simp only[go_sem]);have Z:x 6=some (.ptr o6 4 0 0):=e 6 _ (by unfold iI;simp only[go_sem]);have g7:x 7=some (.j left):=e 7 _ (by unfold iI;simp only[go_sem]);have g8:x 8=some (.j i):=e 8 _ (by unfold iI;simp only[go_sem]);have U:x 13=some (.osl q 3 0 n):=e 13 _ (by unfold iI;simp only[go_sem]);have b6:=y.at 2 rfl;have V:(1:Nat)*1<=16777216:=by decide
 simp only[go_sem,gz,Z,b6,U,V,avL,avY,or_false,forall_eq];refine y.append 1 (src:=[[.osl q 3 0 n]]) rfl Sq (Vg Om) λJ H2 h2 X=>?_;obtain⟨q2,rfl⟩:=X aZ;have S:=h2.at 2 rfl;simp only[go_sem,S,avL,avY,or_false,forall_eq];have h3:=h2.set 2 rfl (ge A (.osl q2 1 0 (AW s.atM++[[PV.osl q 3 0 n]]).length) M);have W:(AW s.atM++[[(PV.osl q 3 0 n:PV)]]).length=Z' s.atM+1:=by simp
 rw[W]at h3 ⊢;refine hK (.osl q2 1 0 (Z' s.atM+1)) (.osl q 3 0 n) _ _ B ?_ ⟨q,rfl⟩ h3;unfold eF;exact lE6 g0 g4 g5 Z g7 g8
theorem afZ(N:yW C){l:N_}{v:PV}(T:Tp l v)(o eN a:Nat)(hm:0<eN)(η:eN<=50)(ha:a<=Z' l):yn.wp C (aW kZ.res (W4 l v o eN a)) (g_ [.ptr o 2 0 0,.j eN]) (h_.set o (bB v a)):=by
 have h0:aQ (h_.set o (bB v a)) [(o,bB v a)] []:=aQ.nil.new (H:=h_) rfl (bB v a);simp only[go_sem,yn,kZ];refine aS λo4 ε=>?_;have M:=h0.new ε E9;simp only[go_sem];refine dQ N.toyV T (o:=o) (n:=eN) (a:=a) Om ha Sq (M.at 0 rfl) ?_;have h2:=M.set 0 rfl (bB v (aG l eN a).2);have hN:=cK l hm a;have γ:=bU l eN ha;have e1:i_.wrap (1+((aG l eN a).1:Int))=((1+(aG l eN a).1:Nat):Int):=wO_
 have δ:∀s:JQ,s=iT l (1+(aG l eN a).1) (aG l eN a).2 (1+(aG l eN a).1)->wI l eN a=(⟨[],s.start,s.atM,s.exit⟩,s.a):=λs hs=>by rw[hs];rfl
 have β:∀r H,W4 l v o eN a r H↔r=.agg (wI l eN a).1.cells/\H=h_.set o (bB v (wI l eN a).2):=λ_ _=>Iff.rfl;generalize hn:1+(aG l eN a).1=n at *
 generalize hb:(aG l eN a).2=b at *
 have θ:0<n:=Om;have e:n<=100:=Om;simp only[go_sem,e1];refine aS λo6 ζ=>?_;have h3:=((h2.new ζ E9).nT 3).nT 1;have h4:=h3.nT 3;simp only[go_sem];refine wp_loop (α:=Nat × PV × PV × PV × PH) (λt=>eF o o4 o6 n (iT l n b t.1).left t.1) (λt=>t.2.2.2.2)
  (λt=>t.1<=n/\aQ t.2.2.2.2 (xC o o4 o6 v t.2.1 t.2.2.1 t.2.2.2.1 (iT l n b t.1).a) (BI (iT l n b t.1) t.2.1 t.2.2.1 t.2.2.2.1)) (λt=>n-t.1) (0,.aJ,.aJ,.aJ,_) ⟨auY _,h4⟩ ?_ b_ ?_
 unfold eF
 (repeat' (first|exact d_|refine c_ ?_ ?_))<;>first|(simp only[go_sem,iT]<;>rfl)|rfl
 rintro⟨i,w1,O,R,H0⟩ ⟨hi,J⟩;simp only at hi J ⊢;obtain⟨k1,k2,k3,k4,k5⟩:=vm l n γ i;simp only[go_sem,eF];by_cases hlt:i<n;have E:(i:Int)<(n:Nat):=Om;have F:iT l n b (i+1)=⟨(iT l n b i).start++[mkT ((fB l n i (iT l n b i)).1:Nat) 8],(iT l n b i).exit++[(gS l n i (fB l n i (iT l n b i)).2).1],(iT l n b i).atM++[(fC l i (gS l n i (fB l n i (iT l n b i)).2).2 n).1],(iT l n b i).left-(fB l n i (iT l n b i)).1,(fC l i (gS l n i (fB l n i (iT l n b i)).2).2 n).2⟩:=rfl;have kl:=gf l n i (iT l n b i) k1;have ke:=Ee l n i kl.1;generalize hs:iT l n b i=s at *
 simp only[go_sem,E];refine T2 (C:=C) N T o o4 o6 n i s k1 k2 e hlt [(o4,E9),(o6,ge w1 O R)] (BI s w1 O R) _ _ _ H0 (by unfold eF;exact Lq) J ?_;intro F1 H1 S f9 W;refine O5 (C:=C) (l:=l) N o o4 o6 n i _ (fB l n i s).1 (fB l n i s).2 Om hlt e s k3 w1 O R [] _ _ F1 H1 S f9 W ?_;intro u F2 H2 B2 U X;refine T1 (C:=C) N T o o4 o6 n i _ (fB l n i s).2 kl.1 hlt e { s with start:=s.start++[mkT ((fB l n i s).1:Nat) 8] } k4 u O R B2 _ _ F2 H2 U X ?_;intro y F3 H3 B3 V Y;refine O4 (C:=C) N T o o4 o6 n _ i (gS l n i (fB l n i s).2).2 ke e hlt { s with start:=s.start++[mkT ((fB l n i s).1:Nat) 8],exit:=s.exit++[(gS l n i (fB l n i s).2).1] } k5 u O y B3 _ F3 H3 V Y ?_;rintro B ι K H4 B4 A ⟨q,rfl⟩ Z;have g0:K 0=some (.ptr o 2 0 0):=A 0 _ (by unfold eF;simp only[go_sem]);have g4:K 4=some (.ptr o4 4 0 0):=A 4 _ (by unfold eF;simp only[go_sem]);have g5:K 5=some (.j n):=A 5 _ (by unfold eF;simp only[go_sem]);have g6:K 6=some (.ptr o6 4 0 0):=A 6 _ (by unfold eF;simp only[go_sem]);have g7:K 7=some (.j (s.left-(fB l n i s).1:Nat)):=A 7 _ (by unfold eF;simp only[go_sem]);have g8:K 8=some (.j i):=A 8 _ (by unfold eF;simp only[go_sem]);obtain⟨rs,z1,z2,z3,z4,z5⟩:=Z.frz 3 rfl;have y1:=z4 0 _ aU rfl;have y2:=z4 1 _ aU rfl;have y3:=z4 2 _ aU rfl;simp only at y1 y2 y3;have y4:=T.frz q 3 rs;simp only[go_sem,g8,wZz i];refine VB (i+1,u,B,y,H4.frz q 3 rs) z1 ⟨hlt,?_⟩ sO_ ?_ b_;rw[F];have eB:(xC o o4 o6 v u B y (fC l i (gS l n i (fB l n i s).2).2 n).2).map (λb=>(b.1,b.2.frz q 3 rs))=xC o o4 o6 v u B y (fC l i (gS l n i (fB l n i s).2).2 n).2:=by simp only[awE,axD,aV.frz,y1,y2,y3,y4];rfl
 have eL:([(u,3,iZ (s.start++[mkT ((fB l n i s).1:Nat) 8])),(B,1,AW s.atM++[[.osl q 3 0 n]]),(y,3,iZ (s.exit++[(gS l n i (fB l n i s).2).1]))]:List LI).map (λx=>(x.1,x.2.1,x.2.2.map λr=>r.map (PV.dL q 3 rs))) =
   BI ⟨s.start++[mkT ((fB l n i s).1:Nat) 8],s.exit++[(gS l n i (fB l n i s).2).1],s.atM++[(fC l i (gS l n i (fB l n i s).2).2 n).1],s.left-(fB l n i s).1,(fC l i (gS l n i (fB l n i s).2).2 n).2⟩ u B y:=by
  have e2:(AW s.atM++[[PV.osl q 3 0 n]]).map (λr=>r.map (PV.dL q 3 rs))=AW (s.atM++[(fC l i (gS l n i (fB l n i s).2).2 n).1]):=by rw[avU,Aa,awE,axD,awE,axD,z2,Vh]
  show([(u,3,(iZ (s.start++[mkT ((fB l n i s).1:Nat) 8])).map (λr=>r.map (PV.dL q 3 rs))),(B,1,(AW s.atM++[[PV.osl q 3 0 n]]).map (λr=>r.map (PV.dL q 3 rs))),(y,3,(iZ (s.exit++[(gS l n i (fB l n i s).2).1])).map (λr=>r.map (PV.dL q 3 rs)))]:List LI)=_;rw[OG,e2,OG]
 rw[<-eB,<-eL];exact z5.sub (by rw[avU];exact List.sublist_append_left ..) (axN.refl _);rw[F];exact lE6 g0 g4 g5 g6 g7 g8;have E:¬(i:Int)<(n:Nat):=Om;have:i=n:=Om;subst this;simp only[go_sem,E];have b4:=J.at 1 rfl;have b6:=J.at 2 rfl;have osl:∀{w:PV}{z:Nat}{rows:P2_},Z' rows=i->bF H0 z w rows->∃q,w=.osl q z 0 i:=by
  intro w z rows hr hO;rcases hO with⟨M,_⟩|⟨q,rs,M,_⟩
  rw[M]at hr;simp at hr;omega;exact⟨q,by rw[M,hr]⟩
 obtain⟨q1,rfl⟩:=osl (by rw[qD,k3]) (J.own 0 rfl);obtain⟨q2,rfl⟩:=osl (by rw[auW,k5]) (J.own 1 rfl);obtain⟨q3,rfl⟩:=osl (by rw[qD,k4]) (J.own 2 rfl);have hR:=δ (iT l i b i) rfl;simp only[go_sem,b6,b4,avL,avY,or_false,forall_eq,forall_eq_or_imp];have x1:=J.set 1 rfl (ge (.osl q1 3 0 i) (.osl q2 1 0 i) (.osl q3 3 0 i));obtain⟨r1,s1,s2,s3,s4,s5⟩:=x1.frz 0 rfl;have u2:=s4 1 _ aU rfl;have u3:=s4 2 _ aU rfl;simp only at u2 u3;have u4:=T.frz q1 3 r1;obtain⟨r2,t1,t2,t3,t4,t5⟩:=s5.frz 0 rfl;have m3:=t4 1 _ aU rfl;simp only at m3;have m4:=T.frz q2 1 r2;obtain⟨r3,n1,n2,n3,n4,n5⟩:=t5.frz 0 rfl;have n4:=T.frz q3 3 r3;refine rO (vs:=[.agg [.str [],.osl q1 3 0 i,.osl q2 1 0 i,.osl q3 3 0 i]]) (.inr rfl) ?_ (.step s1 (.step t1 (.step n1 (.done (H2:=h_.set o (bB v (iT l i b i).a)) ?_ (e_ a_ ?_)))));simp only[go_sem];rw[β,hR];refine⟨?_,rfl⟩;simp only[bL,PV.frz,PV.qR,awE,axD,s2,u2,u3,t2,m3,n2];simp only[PV.dL,OG _ _ _ _,Aa _ _ _ _];have:=n5.at 0 rfl;rw[this];simp only[aV.frz,awE,axD,u4,m4,n4];rfl
structure rC(C:Ctx):Prop extends yW C where
 law:∀(l:N_)(v:PV),Tp l v->∀(o eN a:Nat),0<eN->eN<=50->a<=Z' l->aH C 2 [.ptr o 2 0 0,.int .i64 eN] (h_.set o (bB v a)) (W4 l v o eN a)
structure GOk(l:N_)(atH:Nat)(s:GS):Prop where
 atT:Z' s.atT<=35
 auD:Z' s.auD<=atH
 a:s.a<=Z' l
theorem fp{l:N_}{mc atH dom:Nat}{s:GS}(h:GOk l atH s):∀i,GOk l atH (mK l mc atH dom s i)/\(mK l mc atH dom s i).atT=s.atT
 |0=>⟨h,rfl⟩
 |i+1=>by obtain⟨⟨e,x,u⟩,w⟩:=fp (mc:=mc) (dom:=dom) h i;simp only[mK];split;exact⟨⟨e,by simp only[auZ,avG];omega,bU l mc u⟩,w⟩;exact⟨⟨e,x,u⟩,w⟩
theorem Kz{l:N_}{level dom atH:Nat}{s:GS}(h:GOk l atH s)(e:vK atH s=false):GOk l atH (rH l level dom s)/\∃x:cR,(rH l level dom s).atT=s.atT++[x]/\x.level=(level:Int)/\x.parent=(dom:Int):=by
 obtain⟨w,i,u⟩:=h;unfold vK at e;rw[Bool.or_eq_false_iff]at e;have y:=of_decide_eq_false e.2;refine⟨⟨?_,i,?_⟩,_,rfl,rfl,rfl⟩;simp only[rH,auZ,avG];omega;have a1:=bU l 3 (bU l 16 u);simp only[rH];split;exact bU l 6 a1;exact a1
theorem fq{l:N_}{level atH dom:Nat}{rec:Nat->GS->GS}(e:∀d t,GOk l atH t->GOk l atH (rec d t)/\∃u,(rec d t).atT=t.atT++u){s:GS}(h:GOk l atH s) :
  ∀i,GOk l atH (jG l level atH dom rec s i)/\∃u,(jG l level atH dom rec s i).atT=s.atT++u
 |0=>⟨h,[],by simp[jG]⟩
 |i+1=>by obtain⟨w,u,y⟩:=fq e h i;simp only[jG];split;exact⟨w,u,y⟩;rename_i A;obtain⟨g1,x,g2,-⟩:=Kz (level:=level) (dom:=dom) w (by simpa using A);obtain⟨k1,B,k2⟩:=e ((rH l level dom (jG l level atH dom rec s i)).atT.length-1) _ g1;exact⟨k1,u++[x]++B,by rw[k2,g2,y];simp⟩
theorem OL{l:N_}{mc atH:Nat}:∀(k dom:Nat){s:GS},GOk l atH s->GOk l atH (gM l mc atH k dom s)/\∃u,(gM l mc atH k dom s).atT=s.atT++u
 |0,dom,s,h=>by have e:GOk l atH { s with a:=(aG l 2 s.a).2 }:=⟨h.atT,h.auD,bU l 2 h.a⟩;obtain⟨i,w⟩:=fp (mc:=mc) (dom:=dom) e (1+(aG l 2 s.a).1);exact⟨i,[],by simp only[gM];rw[w];simp⟩
 |k+1,dom,s,h=>by have e:GOk l atH { s with a:=(aG l 2 s.a).2 }:=⟨h.atT,h.auD,bU l 2 h.a⟩;exact fq (level:=4-k) (dom:=dom) (λd t x=>OL k d x) e (if 4-k=2 then 1 else 1+(aG l 2 s.a).1)
theorem Ob {l : N_} {level atH dom : Nat} {rec : Nat -> GS -> GS} {s : GS} {i : Nat} (h : vK atH (jG l level atH dom rec s i) = true) : ∀ n, i <= n -> jG l level atH dom rec s n = jG l level atH dom rec s i := by
  intro n hn
  induction n with
  | zero => have : i = 0 := Om
            subst this; rfl
  | succ n ih =>
    rcases avX n i with h' | h'
    · have : i = n + 1 := Om
      subst this; rfl
    · have e := ih h'
      simp only [jG];rw [e, aF h]
def mkS(l:N_)(v:PV):Spec:=λname vs=>match name,vs with
 |29,[.str s,.int _ i]=>some ([],λ_=>aL (.str (s++cP i.toNat)))
 |47,[.int _ n]=>some ([],λ_=>aL (.agg (mkT n 1).cells))
 |4,[.ptr o _ _ _,.int _ n]=>some ([o],λe r H'=>∀a,e o=some (bB v a)->lk l v o n.toNat a r H')
 |_,_=>none
section
variable {C:Ctx} {F:PF} {H Hs:PH} {l:N_} {v:PV} {o a:Nat}
theorem xJ(w:yV C)(T:Tp l v){n:Nat}{st:Bool}{args:List aR}{d:O_}{K:K_}(E:n<=1000000)(A:a<=Z' l)(e:aR.evs F args=some [.ptr o 2 0 0,.j n])(J:H o=some (bB v a))
  (i:Hs.le (H.set o (bB v (aG l n a).2))) (B:K (F.put d (.j ((aG l n a).1:Nat))) (H.set o (bB v (aG l n a).2))):dOp C Hs (mkS l v) st (.call 4 args) d K F H:=by
 refine D1 (x:=bB v a) (y:=bB v (aG l n a).2) (r:=.j ((aG l n a).1:Nat)) (R:=λu r H'=>∀a,u o=some (bB v a)->lk l v o n a r H') rfl J (w.next l v T o n a E A) ?_ ?_ e i B;intro b hb;rw[cE]at hb;injection hb with hb
 injection hb with _ hb
 injection hb with hb _
 injection hb with _ hb
 injection hb with hb _
 injection hb with _ hb
 have:a=b:=Om;subst this;exact⟨rfl,rfl⟩;intro r' H' M;exact M a (by rw[cE])
theorem NW(u:yW C){s:List UInt8}{n:Nat}{st:Bool}{args:List aR}{d:O_}{K:K_}(y:Z' s<=100)(x:n<100)(e:aR.evs F args=some [.str s,.j n])(i:Hs.le H)(w:K (F.put d (.str (s++cP n))) H) :
  dOp C Hs (mkS l v) st (.call 29 args) d K F H:=
 cB (v:=.str (s++cP n)) rfl (u.name s n y x) e i w
theorem aeB(u:yV C){n:Int}{st:Bool}{args:List aR}{d:O_}{K:K_}(x:eI n)(e:aR.evs F args=some [.j n])(i:Hs.le H)(w:K (F.put d (.agg (mkT n 1).cells)) H) :
  dOp C Hs (mkS l v) st (.call 47 args) d K F H:=
 cB (v:=.agg (mkT n 1).cells) rfl (u.int n x) e i w
end
theorem bF.tO{H:PH}{s:Nat}{v:PV}{rows:P2_}(h:bF H s v rows):PV.tO v=some (.j (Z' rows:Nat)):=by
 rcases h with⟨rfl,rfl⟩|⟨q,rs,rfl,_⟩<;>rfl
abbrev nC(l:List cR):P2_:=l.map cR.cells
abbrev qB(l:List eP):P2_:=l.map eP.cells
abbrev flB(ext wl i e l wp wv:PV):aV:=.rows 7 [[ext,wl,i,e,l,wp,wv]]
structure GE where
 o:Nat
 fo:Nat
 qm:Nat
 ext:PV
 wl:PV
 wp:PV
 wv:PV
abbrev GE.boxes(G:GE)(v:PV)(mc:Nat)(e i:PV)(a:Nat):List BX:=[(G.o,bB v a),(G.fo,flB G.ext G.wl (.osl G.qm 4 0 mc) e i G.wp G.wv)]
abbrev pJ(s:GS)(e i:PV):List LI:=[(e,7,nC s.atT),(i,3,qB s.auD)]
def gT(G:GE)(dom atH level n i:Nat):PF:=(((((((n_.set 0 (.ptr G.o 2 0 0)).set 1 (.ptr G.fo 7 0 0)).set 2 (.int .i64 dom)).set 3 (.int .i64 atH)).set 8 (.int .i64 level)).set 9 (.int .i64 n)).set 10 (.int .i64 i))
theorem bF.one{H:PH}{s:Nat}{v:PV}{rows:P2_}(h:bF H s v rows)(e:0<Z' rows):∃q,v=.osl q s 0 rows.length:=by
 rcases h with⟨rfl,_⟩|⟨q,rs,rfl,_⟩
 simp at e;exact⟨q,rfl⟩
theorem F9(V:rC C){l:N_}{v:PV}(T:Tp l v)(G:GE)(mc atH dom n:Nat)(δ:0<mc)(β:mc<=1000)(γ:atH<=60)(hn:n<=10)(s:GS)(hs:GOk l atH s)(x A:PV)(K:bZ)(F:PF)(H:PH)
  (hF:(gT G dom atH 5 n 0).le F) (y:aQ H (G.boxes v mc x A s.a) (pJ s x A))
  (hK:∀N E F' H',aQ H' (G.boxes v mc N E (mK l mc atH dom s n).a) (pJ (mK l mc atH dom s n) N E)->K (.exit 0) F' H') :
  aI.wp C (.loop CP) K F H:=by
 refine wp_loop (α:=Nat × PV × PV × PH) (λt=>gT G dom atH 5 n t.1) (λt=>t.2.2.2) (λt=>t.1<=n/\aQ t.2.2.2 (G.boxes v mc t.2.1 t.2.2.1 (mK l mc atH dom s t.1).a) (pJ (mK l mc atH dom s t.1) t.2.1 t.2.2.1)) (λt=>n-t.1) (0,x,A,H) ⟨auY _,y⟩ hF b_ ?_;rintro⟨i,x,A,U⟩ ⟨hi,y⟩;simp only at hi y ⊢;obtain⟨R,-⟩:=fp (mc:=mc) (dom:=dom) hs i;have u:mK l mc atH dom s (i+1)=(if(mK l mc atH dom s i).auD.length<atH then{ mK l mc atH dom s i with auD:=(mK l mc atH dom s i).auD++[⟨[100]++cP (mK l mc atH dom s i).auD.length,((aG l mc (mK l mc atH dom s i).a).1:Nat),(dom:Nat)⟩],a:=(aG l mc (mK l mc atH dom s i).a).2 }else mK l mc atH dom s i):=rfl;simp only[go_sem,CP,gT];by_cases hlt:i<n;have w:(i:Int)<(n:Nat):=Om;generalize hg:mK l mc atH dom s i=g at *
 have b1:=y.at 1 rfl;have S:=(y.own 1 rfl).tO;rw[auW]at S;have W:=wZz i;simp only[go_sem,w,show(((5:Nat):Int)==5)=true from rfl,b1,S];by_cases Z:Z' g.auD<atH;have B:(Z' g.auD:Int)<(atH:Nat):=Om;rw[aF Z]at u;simp only[go_sem,B];have M:(h_.set G.fo (flB G.ext G.wl (.osl G.qm 4 0 mc) x A G.wp G.wv)).le U:=e_ a_ b1;refine bK (h_.set G.fo (flB G.ext G.wl (.osl G.qm 4 0 mc) x A G.wp G.wv)) (mkS l v) M ?_;simp only[go_sem,b1,S];refine NW V.toyW (s:=[100]) (n:=Z' g.auD) aU (by have:=R.auD;omega) rfl M ?_;simp only[go_sem];have ho:=y.at 0 rfl;have X:=y.set 0 rfl (bB v (aG l mc g.a).2);have O:=X.at 1 rfl;refine xJ V.toyV T (o:=G.o) (n:=mc) (a:=g.a) Om R.a rfl ho (e_ a_ O) ?_;have J:(1:Nat)*3<=16777216:=by decide
 simp only[go_sem,J,avL,avY,or_false,forall_eq,forall_eq_or_imp];refine X.append 1 (src:=[(⟨[100]++cP g.auD.length,((aG l mc g.a).1:Nat),(dom:Nat)⟩:eP).cells]) rfl rfl (by unfold roomFor;rw[auW];have:=R.auD;simp only[avG,maxLen];omega) λE H2 Y hw=>?_;obtain⟨q,rfl⟩:=hw aZ;have b2:=Y.at 1 rfl;refine⟨e_ a_ b2,?_⟩;refine bK .nil cS a_ ?_;simp only[go_sem,b2,avL,avY,or_false,forall_eq];have h3:=Y.set 1 rfl (flB G.ext G.wl (.osl G.qm 4 0 mc) x (.osl q 3 0 (qB g.auD++[(⟨[100]++cP g.auD.length,((aG l mc g.a).1:Nat),(dom:Nat)⟩:eP).cells]).length) G.wp G.wv);refine⟨a_,?_⟩;simp only[go_sem,W];refine aE (i+1,x,.osl q 3 0 (qB g.auD++[(⟨[100]++cP g.auD.length,((aG l mc g.a).1:Nat),(dom:Nat)⟩:eP).cells]).length,_) ⟨hlt,?_⟩ sO_ ?_ b_;rw[u];have e:qB (g.auD++[(⟨[100]++cP g.auD.length,((aG l mc g.a).1:Nat),(dom:Nat)⟩:eP)])=qB g.auD++[(⟨[100]++cP g.auD.length,((aG l mc g.a).1:Nat),(dom:Nat)⟩:eP).cells]:=by simp[qB]
 unfold pJ;simp only;rw[e];exact h3;exact Lq;have B:¬(Z' g.auD:Int)<(atH:Nat):=Om;rw[aC Z]at u;simp only[go_sem,B,W];refine aE (i+1,x,A,U) ⟨hlt,by rw[u];exact y⟩ sO_ ?_ b_;exact Lq;have w:¬(i:Int)<(n:Nat):=Om;have:i=n:=Om;subst this;simp only[go_sem,w];exact hK x A _ _ y
def My(G:GE)(v:PV)(mc:Nat)(s':GS)(r:PV)(B':List BX)(L':List LI):Prop:=r=.tup []/\∃e i,B'=G.boxes v mc e i s'.a/\L'=pJ s' e i
def lg(C:Ctx)(l:N_)(v:PV)(mc atH k:Nat):Prop:=
 ∀(G:GE)(i u:PV)(s:GS)(dom:Nat)(x:cR),GOk l atH s->s.atT[dom]?=some x->x.level=4-(k:Int)->∀e,aQ e (G.boxes v mc i u s.a) (pJ s i u) ->
  aH C 7 [.ptr G.o 2 0 0,.ptr G.fo 7 0 0,.int .i64 dom,.int .i64 atH] e (λr H'=>∃B' L',My G v mc (gM l mc atH k dom s) r B' L'/\aQ H' B' L')
theorem To{lv:Nat}(h:lv<=4):([45,115,114,107,109]:List UInt8)[lv]?=some (oW lv):=by
 match lv,h with
 |0,_=>rfl
 |1,_=>rfl
 |2,_=>rfl
 |3,_=>rfl
 |4,_=>rfl
theorem b9{l:N_}{v:PV}(G:GE)(mc atH dom lv n i k p:Nat)(γ:lv=4-k)(hk:k<4)(A:lg C l v mc atH k)(g:GS)(x:cR)(a:Nat)(X:GOk l atH { g with atT:=g.atT++[x],a:=a })(hx:x.level=(lv:Nat))(Y y:PV)(β:atH<=60)(K:bZ)(F:PF)(H:PH)
  (u:(gT G dom atH lv n i).le F) (f11:F 11=some (.ptr p 7 0 0)) (M:aQ H (G.boxes v mc Y y a++[(p,.rows 7 [x.cells])]) (pJ g Y y))
  (hK:∀w B V H',(gT G dom atH lv n i).le V->aQ H' (G.boxes v mc w B (gM l mc atH k g.atT.length { g with atT:=g.atT++[x],a:=a }).a) (pJ (gM l mc atH k g.atT.length { g with atT:=g.atT++[x],a:=a }) w B)->K .normal V H') :
  aI.wp C (.draw VI) (fZ C (aI.wp C (.region VJ)) K) F H:=by
 have f0:F 0=some (.ptr G.o 2 0 0):=u 0 _ (by unfold gT;simp only[go_sem]);have f1:F 1=some (.ptr G.fo 7 0 0):=u 1 _ (by unfold gT;simp only[go_sem]);have f2:F 2=some (.j dom):=u 2 _ (by unfold gT;simp only[go_sem]);have f3:F 3=some (.j atH):=u 3 _ (by unfold gT;simp only[go_sem]);have f8:F 8=some (.j lv):=u 8 _ (by unfold gT;simp only[go_sem]);have f9:F 9=some (.j n):=u 9 _ (by unfold gT;simp only[go_sem]);have α:F 10=some (.j i):=u 10 _ (by unfold gT;simp only[go_sem]);have R:=X.atT;simp only[auZ,avG]at R;have b1:=M.at 1 rfl;have b2:=M.at 2 rfl;have E:(1:Nat)*7<=16777216:=by decide
 refine bK .nil cS a_ ?_;simp only[go_sem,VI,f1,f11,b1,b2,E,avL,avY,or_false,forall_eq,forall_eq_or_imp];refine M.append 0 (src:=[x.cells]) rfl rfl (by unfold roomFor;rw[auW];simp only[avG,maxLen];omega) λw H2 J hw=>?_;obtain⟨q,rfl⟩:=hw aZ;have hl:(nC g.atT++[x.cells]).length=Z' g.atT+1:=by simp
 rw[hl]at J ⊢;have c1:=J.at 1 rfl;refine⟨a_,?_⟩;simp only[go_sem,c1,avL,avY,or_false,forall_eq];have W:=J.set 1 rfl (flB G.ext G.wl (.osl G.qm 4 0 mc) (.osl q 7 0 (Z' g.atT+1)) y G.wp G.wv);have c2:=W.at 1 rfl;refine⟨a_,?_⟩;have e:nC (g.atT++[x])=nC g.atT++[x.cells]:=by simp[nC]
 have ew:i_.wrap (((Z' g.atT+1:Nat):Int)-1)=(Z' g.atT:Int):=wO_
 simp only[go_sem,VJ,f0,f1,f3,ew];have h4:aQ (H2.set G.fo (flB G.ext G.wl (.osl G.qm 4 0 mc) (.osl q 7 0 (Z' g.atT+1)) y G.wp G.wv)) (G.boxes v mc (.osl q 7 0 (Z' g.atT+1)) y a++[(p,.rows 7 [x.cells])]) (pJ { g with atT:=g.atT++[x],a:=a } (.osl q 7 0 (Z' g.atT+1)) y++[]):=by unfold pJ;simp only;rw[e];exact W
 refine LN h4 (λZ O=>A G _ y { g with atT:=g.atT++[x],a:=a } g.atT.length x X aZ (by rw[hx];omega) Z O) rfl ?_;rintro r B' L' H' ⟨rfl,S,U,rfl,rfl⟩ N;refine hK S U _ _ ?_ (N.sub (List.sublist_append_left ..) (by rw[awJ];exact axN.refl _));unfold gT;exact Lq
theorem TD(W:rC C){l:N_}{v:PV}(T:Tp l v)(G:GE)(mc atH dom n k:Nat)(hk:k<4)(Y:atH<=60)(hn:n<=10)(S:lg C l v mc atH k)(s:GS)(hs:GOk l atH s)(ζ:0<Z' s.atT)(O R:PV)(K:bZ)(F:PF)(H:PH)
  (hF:(gT G dom atH (4-k) n 0).le F) (E:aQ H (G.boxes v mc O R s.a) (pJ s O R))
  (hK:∀e A B y H',(e=.exit 0\/e=.ret)->aQ H' (G.boxes v mc A B (jG l (4-k) atH dom (gM l mc atH k) s n).a) (pJ (jG l (4-k) atH dom (gM l mc atH k) s n) A B)->K e y H') :
  aI.wp C (.loop CP) K F H:=by
 obtain⟨lv,V⟩:∃lv,lv=4-k:=⟨_,rfl⟩;rw[<-V]at hF hK;refine wp_loop (α:=Nat × PV × PV × PH) (λt=>gT G dom atH lv n t.1) (λt=>t.2.2.2) (λt=>t.1<=n/\aQ t.2.2.2 (G.boxes v mc t.2.1 t.2.2.1 (jG l lv atH dom (gM l mc atH k) s t.1).a) (pJ (jG l lv atH dom (gM l mc atH k) s t.1) t.2.1 t.2.2.1)) (λt=>n-t.1) (0,O,R,H) ⟨auY _,E⟩ hF b_ ?_;rintro⟨i,O,R,H0⟩ ⟨hi,E⟩;simp only at hi E ⊢;obtain⟨gs,u,gu⟩:=fq (level:=lv) (dom:=dom) (λd t ht=>OL (mc:=mc) k d ht) hs i;have M:=λh=>Ob (l:=l) (level:=lv) (atH:=atH) (dom:=dom) (rec:=gM l mc atH k) (s:=s) (i:=i) h n hi;have x:jG l lv atH dom (gM l mc atH k) s (i+1)=(if vK atH (jG l lv atH dom (gM l mc atH k) s i)then jG l lv atH dom (gM l mc atH k) s i else gM l mc atH k ((rH l lv dom (jG l lv atH dom (gM l mc atH k) s i)).atT.length-1) (rH l lv dom (jG l lv atH dom (gM l mc atH k) s i))):=rfl;simp only[go_sem,CP,gT];by_cases hlt:i<n;have N:(i:Int)<(n:Nat):=Om;generalize hg:jG l lv atH dom (gM l mc atH k) s i=g at *
 have ε:0<Z' g.atT:=by rw[gu,auZ];omega
 have b1:=E.at 1 rfl;have lr:=(E.own 1 rfl).tO;have ld:=(E.own 0 rfl).tO;rw[auW]at lr ld;have ei:=wZz i;simp only[go_sem,N,bA (Om:((lv:Nat):Int)≠5),b1,lr];by_cases c1:atH<=Z' g.auD;have X:vK atH g=true:=by unfold vK;simp[c1]
 simp only[go_sem,show(Z' g.auD:Int)>=(atH:Nat) by omega];exact hK _ O R _ _ (.inr rfl) (by rw[M X];exact E);simp only[go_sem,show ¬(Z' g.auD:Int)>=(atH:Nat) by omega,b1,ld];by_cases c2:35<=Z' g.atT;have X:vK atH g=true:=by unfold vK;simp[c2]
 simp only[go_sem,show(Z' g.atT:Int)>=35 by omega];exact hK _ O R _ _ (.inr rfl) (by rw[M X];exact E);have X:vK atH g=false:=by unfold vK;simp[c1,c2]
 rw[aC (by rw[X];decide)]at x;simp only[go_sem,show ¬(Z' g.atT:Int)>=35 by omega];have ls:=To (Om:lv<=4);refine bK .nil (mkS l v) a_ ?_;have γ:uJ [[PV.int IntKind.u8 (((oW lv).toNat:Nat):Int)]]=some [oW lv]:=by simp[uJ]
 obtain⟨Z,x0,β,-⟩:=Kz (level:=lv) (dom:=dom) gs X;have δ:(rH l lv dom g).atT.length-1=Z' g.atT:=by rw[β];simp
 rw[δ]at x;have h1:=E.set 0 rfl (bB v (aG l 16 g.a).2);have a1:=bU l 16 gs.a;have n1:=cK l (show 0<16 by decide) g.a;have e1:i_.wrap (1+((aG l 16 g.a).1:Int))=((1+(aG l 16 g.a).1:Nat):Int):=wO_
 simp only[go_sem,ls,γ,b1,ld];refine NW W.toyW (s:=[oW lv]) (n:=Z' g.atT) aZ (by have:=gs.atT;omega) rfl a_ ?_;simp only[go_sem];refine xJ W.toyV T (o:=G.o) (n:=16) (a:=g.a) Om gs.a rfl (E.at 0 rfl) a_ ?_;simp only[go_sem,e1];refine aeB W.toyV (n:=0) (by unfold eI;omega) rfl a_ ?_;simp only[go_sem,avL,avY,or_false,forall_eq,forall_eq_or_imp];refine aS λp hp=>?_;have h2:=h1.new hp (.rows 7 [(⟨[oW lv]++cP g.atT.length,(lv:Nat),(dom:Nat),(1+(aG l 16 g.a).1:Nat),mL⟩:cR).cells]);simp only[go_sem,avL,avY,or_false,forall_eq,forall_eq_or_imp];refine⟨a_,?_⟩
 try simp only[go_sem]
 refine dQ W.toyV T (o:=G.o) (n:=3) (a:=(aG l 16 g.a).2) aU a1 rfl (h2.at 0 rfl) ?_;have h3:=h2.set 0 rfl (bB v (aG l 3 (aG l 16 g.a).2).2);have a2:=bU l 3 a1;by_cases c3:(aG l 3 (aG l 16 g.a).2).1=0;have hd:rH l lv dom g={ g with atT:=g.atT++[⟨[oW lv]++cP g.atT.length,(lv:Nat),(dom:Nat),(1+(aG l 16 g.a).1:Nat),mkT 1 ((2+(aG l 6 (aG l 3 (aG l 16 g.a).2).2).1:Nat):Int)⟩],a:=(aG l 6 (aG l 3 (aG l 16 g.a).2).2).2 }:=by unfold rH;simp only[c3,if_true]
 rw[hd]at x Z;have n2:=cK l (show 0<6 by decide) (aG l 3 (aG l 16 g.a).2).2;have e2:i_.wrap (2+((aG l 6 (aG l 3 (aG l 16 g.a).2).2).1:Int))=((2+(aG l 6 (aG l 3 (aG l 16 g.a).2).2).1:Nat):Int):=wO_
 simp only[go_sem,bN (show(((aG l 3 (aG l 16 g.a).2).1:Nat):Int)=0 by omega)];refine dQ W.toyV T (o:=G.o) (n:=6) (a:=(aG l 3 (aG l 16 g.a).2).2) aU a2 rfl (h3.at 0 rfl) ?_;have h4:=h3.set 0 rfl (bB v (aG l 6 (aG l 3 (aG l 16 g.a).2).2).2);rw[PH.set_set]at h4;simp only[go_sem,e2];refine aB (W.fmk 1 ((2+(aG l 6 (aG l 3 (aG l 16 g.a).2).2).1:Nat):Int) (by unfold eI;omega) (by unfold eI;omega)) rfl ?_;unfold CX;rw[aC Om];simp only[go_sem,show ¬p=G.o from h4.ne 2 0 rfl rfl aU];have h5:=h4.set 2 rfl (.rows 7 [(⟨[oW lv]++cP g.atT.length,(lv:Nat),(dom:Nat),(1+(aG l 16 g.a).1:Nat),mkT 1 ((2+(aG l 6 (aG l 3 (aG l 16 g.a).2).2).1:Nat):Int)⟩:cR).cells])
 try simp only[xj]
 refine b9 G mc atH dom lv n i k p V hk S g _ _ Z rfl O R Y _ _ _ (by unfold gT;exact Lq) rfl h5 ?_;intro A B y H' w J;rw[<-x]at J;have U:y 10=some (.j i):=w 10 _ (by unfold gT;simp only[go_sem]);have g0:y 0=some (.ptr G.o 2 0 0):=w 0 _ (by unfold gT;simp only[go_sem]);have g1:y 1=some (.ptr G.fo 7 0 0):=w 1 _ (by unfold gT;simp only[go_sem]);have g2:y 2=some (.j dom):=w 2 _ (by unfold gT;simp only[go_sem]);have g3:y 3=some (.j atH):=w 3 _ (by unfold gT;simp only[go_sem]);have g8:y 8=some (.j lv):=w 8 _ (by unfold gT;simp only[go_sem]);have g9:y 9=some (.j n):=w 9 _ (by unfold gT;simp only[go_sem]);simp only[go_sem,U,ei];refine aE (i+1,A,B,H') ⟨hlt,J⟩ sO_ ?_ b_;exact Lq;have hd:rH l lv dom g={ g with atT:=g.atT++[⟨[oW lv]++cP g.atT.length,(lv:Nat),(dom:Nat),(1+(aG l 16 g.a).1:Nat),mL⟩],a:=(aG l 3 (aG l 16 g.a).2).2 }:=by unfold rH;simp only[c3,if_false]
 rw[hd]at x Z;simp only[go_sem,bA (show ¬(((aG l 3 (aG l 16 g.a).2).1:Nat):Int)=0 by omega)]
 try simp only[xj]
 refine b9 G mc atH dom lv n i k p V hk S g _ _ Z rfl O R Y _ _ _ (by unfold gT;exact Lq) rfl h3 ?_;intro A B y H' w J;rw[<-x]at J;have U:y 10=some (.j i):=w 10 _ (by unfold gT;simp only[go_sem]);have g0:y 0=some (.ptr G.o 2 0 0):=w 0 _ (by unfold gT;simp only[go_sem]);have g1:y 1=some (.ptr G.fo 7 0 0):=w 1 _ (by unfold gT;simp only[go_sem]);have g2:y 2=some (.j dom):=w 2 _ (by unfold gT;simp only[go_sem]);have g3:y 3=some (.j atH):=w 3 _ (by unfold gT;simp only[go_sem]);have g8:y 8=some (.j lv):=w 8 _ (by unfold gT;simp only[go_sem]);have g9:y 9=some (.j n):=w 9 _ (by unfold gT;simp only[go_sem]);simp only[go_sem,U,ei];refine aE (i+1,A,B,H') ⟨hlt,J⟩ sO_ ?_ b_;exact Lq;have N:¬(i:Int)<(n:Nat):=Om;have:i=n:=Om;subst this;simp only[go_sem,N];exact hK _ O R _ _ (.inl rfl) E
theorem Ga(R:rC C){l:N_}{v:PV}(T:Tp l v)(mc atH k:Nat)(W:0<mc)(K:mc<=1000)(E:atH<=60)(hk:k<=4)(N:∀k',k=k'+1->lg C l v mc atH k')(G:GE)(Y O:PV)(s:GS)(dom:Nat)(x:cR)
  (S:GOk l atH s) (hx:s.atT[dom]?=some x) (hl:x.level=4-(k:Int)) (U:PH) (J:aQ U (G.boxes v mc Y O s.a) (pJ s Y O)) :
  PU.wp C (aW mW.res (λr H'=>∃B' L',My G v mc (gM l mc atH k dom s) r B' L'/\aQ H' B' L')) (g_ [.ptr G.o 2 0 0,.ptr G.fo 7 0 0,.j dom,.j atH]) U:=by
 have B:dom<Z' s.atT:=(awD.1 hx).1;have b1:=J.at 1 rfl;have fin:∀(e:lG)(i u:PV)(y:PF)(H':PH),(e=.exit 0\/e=.ret)->aQ H' (G.boxes v mc i u (gM l mc atH k dom s).a) (pJ (gM l mc atH k dom s) i u) ->
   fA 0 (aW mW.res (λr H'=>∃B' L',My G v mc (gM l mc atH k dom s) r B' L'/\aQ H' B' L')) e y H':=by
  intro e i u y H' he w;rcases he with rfl|rfl
  rw[JR,aF rfl];exact bC (vs:=[]) (.inl rfl) H' rfl b_ ⟨_,_,⟨rfl,i,u,rfl,rfl⟩,w⟩;exact bC (vs:=[]) (.inr rfl) H' rfl b_ ⟨_,_,⟨rfl,i,u,rfl,rfl⟩,w⟩
 obtain⟨q,rs,e1,e2,e3,e4⟩:∃q rs,Y=.osl q 7 0 s.atT.length/\U q=some (.rows 7 rs)/\Z' s.atT<=Z' rs/\rs.take s.atT.length=nC s.atT:=by
  rcases J.own 0 rfl with⟨A,_⟩|⟨q,rs,A,h2,h3,h4⟩
  have:=congrArg List.length A;rw[auW]at this;simp at this;rw[this]at B;simp at B;rw[auW]at A h3 h4;exact⟨q,rs,A,h2,h3,h4⟩
 have X:rs[dom]?=some x.cells:=by
  have:(nC s.atT)[dom]?=some x.cells:=by simp[nC,hx]
  rw[<-e4,List.getElem?_take_of_lt B]at this;exact this
 subst e1;have c1:(dom:Int)<(Z' s.atT:Nat):=Om;have ew:i_.wrap (x.level+1)=((5-k:Nat):Int):=by rw[hl,wrap_i64 Om Om];omega
 have β:=cK l (show 0<2 by decide) s.a;have en:i_.wrap (1+((aG l 2 s.a).1:Int))=((1+(aG l 2 s.a).1:Nat):Int):=wO_
 have A:=J.set 0 rfl (bB v (aG l 2 s.a).2);have F:GOk l atH { s with a:=(aG l 2 s.a).2 }:=⟨S.atT,S.auD,bU l 2 S.a⟩;have α:¬q=G.o:=λh=>J.neL 0 0 rfl rfl rfl h.symm;simp only[go_sem,PU,b1,c1,e2,X,ew];refine dQ R.toyV T (o:=G.o) (n:=2) (a:=s.a) aU S.a (by simp only[go_sem];rfl) (J.at 0 rfl) ?_;simp only[go_sem,en];cases k with
 |zero =>simp only[go_sem,bA (Om:¬((5-0:Nat):Int)=2)];refine F9 (C:=C) R T G mc atH dom (1+(aG l 2 s.a).1) W K E Om { s with a:=(aG l 2 s.a).2 } F _ O _ _ _ ?_ A ?_;unfold gT;exact Lq;intro i u y H' w;exact fin _ i u y H' (.inl rfl) w
 |succ k=>
  have M:=N k rfl;by_cases Z:4-k=2;have V:gM l mc atH (k+1) dom s=jG l (4-k) atH dom (gM l mc atH k) { s with a:=(aG l 2 s.a).2 } 1:=by simp only[gM,aF Z]
  simp only[go_sem,bN (show((5-(k+1):Nat):Int)=2 by omega)];refine TD (C:=C) R T G mc atH dom 1 k Om E aU M { s with a:=(aG l 2 s.a).2 } F sO_ _ O _ _ _ ?_ A ?_;unfold gT
  (repeat' (first|exact d_|refine c_ ?_ ?_))<;>first|(simp only[go_sem,show 4-k=5-(k+1) by omega]<;>rfl)|rfl
  intro e i u y H' he w;rw[<-V]at w;exact fin e i u y H' he w;have V:gM l mc atH (k+1) dom s=jG l (4-k) atH dom (gM l mc atH k) { s with a:=(aG l 2 s.a).2 } (1+(aG l 2 s.a).1):=by simp only[gM,aC Z]
  simp only[go_sem,bA (show ¬((5-(k+1):Nat):Int)=2 by omega)];refine TD (C:=C) R T G mc atH dom (1+(aG l 2 s.a).1) k Om E Om M { s with a:=(aG l 2 s.a).2 } F sO_ _ O _ _ _ ?_ A ?_;unfold gT
  (repeat' (first|exact d_|refine c_ ?_ ?_))<;>first|(simp only[go_sem,show 4-k=5-(k+1) by omega]<;>rfl)|rfl
  intro e i u y H' he w;rw[<-V]at w;exact fin e i u y H' he w
theorem Ew(A:rC C){l:N_}{v:PV}(T:Tp l v)(mc atH:Nat)(w:0<mc)(i:mc<=1000)(u:atH<=60)
  (B:∀(args:V_)(H:PH)(R:R_),Z' args=4->PU.wp C (aW mW.res R) (g_ args) H->aH C 7 args H R):∀k,k<=4->lg C l v mc atH k
 |0,h=>λG M N s dom x J K F y E=>B _ _ _ rfl (Ga A T mc atH 0 w i u h (λ_ e=>by omega) G M N s dom x J K F y E)
 |k+1,h=>λG M N s dom x J K F y E=>B _ _ _ rfl (Ga A T mc atH (k+1) w i u h (λO e=>by have:O=k:=Om;subst this;exact Ew A T mc atH w i u B O Om) G M N s dom x J K F y E)
theorem afQ(l:N_)(eN:Nat){a:Nat}(h:a<=Z' l):(wI l eN a).2<=Z' l:=(vm l (1+(aG l eN a).1) (bU l eN h) (1+(aG l eN a).1)).1
theorem OX(l:N_){a:Nat}(h:a<=Z' l):∀k,(jP l a k).2<=Z' l/\(jP l a k).1.length=k
 |0=>⟨h,rfl⟩
 |k+1=>by obtain⟨e,i⟩:=OX l h k;exact⟨afQ l 2 e,by simp only[jP,auZ,avG,i]⟩
theorem EO(l:N_)(atQ:Nat){a:Nat}(h:a<=Z' l):∀k,(fV l atQ a k).2<=Z' l/\(fV l atQ a k).1.length=k
 |0=>⟨h,rfl⟩
 |k+1=>by obtain⟨e,i⟩:=EO l atQ h k;exact⟨bU l atQ (bU l 8 (bU l 4 e)),by simp only[fV,auZ,avG,i]⟩
structure FE where
 o:Nat
 o6:Nat
 o7:Nat
 atH:Nat
 atJ:Nat
abbrev flZ:aV:=flB (.int .i64 0) .aJ .aJ .aJ .aJ .aJ .aJ
abbrev FE.boxes(E:FE)(v ext e i l u w x:PV)(a:Nat):List BX:=[(E.o,bB v a),(E.o7,flB ext e i l u w x),(E.o6,flZ)]
def iP(E:FE):PF:=(((((n_.set 0 (.ptr E.o 2 0 0)).set 1 (.int .i64 E.atH)).set 2 (.int .i64 E.atJ)).set 6 (.ptr E.o6 7 0 0)).set 7 (.ptr E.o7 7 0 0))
abbrev jY(l:List cU):P2_:=l.map cU.cells
abbrev mN(l:List dR):P2_:=l.map dR.cells
theorem YW{E:FE}{F:PF}(e:F 0=some (.ptr E.o 2 0 0))(i:F 1=some (.j E.atH))(l:F 2=some (.j E.atJ))(u:F 6=some (.ptr E.o6 7 0 0))(h7:F 7=some (.ptr E.o7 7 0 0)):(iP E).le F:=
 c_ (c_ (c_ (c_ (c_ d_ e) i) l) u) h7
theorem Y8(R:rC C){l:N_}{v:PV}(T:Tp l v)(E:FE)(n a:Nat)(hn:n<=10)(Y:a<=Z' l)(ext:PV)(K:bZ)(F:PF)(H:PH)
  (W:(((iP E).set 8 (.j n)).set 9 (.j 0)).le F) (y:aQ H (E.boxes v ext .aJ .aJ .aJ .aJ .aJ .aJ a) [])
  (X:∀M O H',(iP E).le O->aQ H' (E.boxes v ext M .aJ .aJ .aJ .aJ .aJ (jP l a n).2) [(M,4,jY (jP l a n).1)]->K (.exit 0) O H') :
  aI.wp C (.loop VH) K F H:=by
 refine wp_loop (α:=T3_) (λt=>((iP E).set 8 (.j n)).set 9 (.j t.1)) (λt=>t.2.2) (λt=>t.1<=n/\aQ t.2.2 (E.boxes v ext t.2.1 .aJ .aJ .aJ .aJ .aJ (jP l a t.1).2) [(t.2.1,4,jY (jP l a t.1).1)]) (λt=>n-t.1) (0,.aJ,H) ⟨auY _,y.nT 4⟩ W b_ ?_;rintro⟨i,M,H0⟩ ⟨hi,y⟩;simp only at hi y ⊢;obtain⟨k1,k2⟩:=OX l Y i;have x:jP l a (i+1)=((jP l a i).1++[{ (wI l 2 (jP l a i).2).1 with name:=[108,97,119]++cP i }],(wI l 2 (jP l a i).2).2):=rfl;simp only[go_sem,VH,iP];by_cases hlt:i<n;have u:(i:Int)<(n:Nat):=Om;generalize hg:jP l a i=g at *
 simp only[go_sem,u];refine oV (R.law l v T E.o 2 g.2 aU aU k1) (y.at 0 rfl) rfl ?_;have U:=y.set 0 rfl (bB v (wI l 2 g.2).2);generalize hz:wI l 2 g.2=z at *
 simp only[go_sem];refine aS λp hp=>?_;have V:=U.new hp (.rows 4 [z.1.cells]);simp only[go_sem,avL,avY,or_false,forall_eq,forall_eq_or_imp];refine aB (R.name [108,97,119] i aU Om) rfl ?_;have A:=V.set 3 rfl (.rows 4 [({ z.1 with name:=[108,97,119]++cP i }:cU).cells]);rw[PH.set_set]at A;have b1:=A.at 1 rfl;have J:¬E.o7=p:=A.ne 1 3 rfl rfl aU;have w:¬E.o7=E.o:=A.ne 1 0 rfl rfl aU;simp only[aP,aC J,aC w]at b1;have N:(1:Nat)*4<=16777216:=by decide
 simp only[go_sem,J,w,b1,N,avL,avY,or_false,forall_eq,forall_eq_or_imp];refine A.append 0 (src:=[({ z.1 with name:=[108,97,119]++cP i }:cU).cells]) rfl rfl (by unfold roomFor;rw[auW];simp only[avG,maxLen];omega) λw' H2 S Z=>?_;obtain⟨q,rfl⟩:=Z aZ;have b2:=S.at 1 rfl;simp only[go_sem,b2,avL,avY,or_false,forall_eq];have h5:=S.set 1 rfl (flB ext (.osl q 4 0 (jY g.1++[({ z.1 with name:=[108,97,119]++cP i }:cU).cells]).length) .aJ .aJ .aJ .aJ .aJ);simp only[go_sem,wZz i];refine aE (i+1,.osl q 4 0 (jY g.1++[({ z.1 with name:=[108,97,119]++cP i }:cU).cells]).length,_) ⟨hlt,?_⟩ sO_ ?_ b_;rw[x];have e:jY (g.1++[{ z.1 with name:=[108,97,119]++cP i }])=jY g.1++[({ z.1 with name:=[108,97,119]++cP i }:cU).cells]:=by simp[jY]
 simp only;rw[e];exact h5.dropLast (B:=E.boxes v ext _ .aJ .aJ .aJ .aJ .aJ z.2);exact Lq;have u:¬(i:Int)<(n:Nat):=Om;have:i=n:=Om;subst this;simp only[go_sem,u];exact X M _ _ (YW rfl rfl rfl rfl rfl) y
theorem O2(U:rC C){l:N_}{v:PV}(T:Tp l v)(E:FE)(n a nl:Nat)(hn:n<=10)(β:nl<=1000)(ha:a<=Z' l)(ext w:PV)(atQ:List cU)(Y:Z' atQ=nl)(K:bZ)(F:PF)(H:PH)
  (hF:(((iP E).set 11 (.j n)).set 12 (.j 0)).le F) (A:aQ H (E.boxes v ext w .aJ .aJ .aJ .aJ .aJ a) [(w,4,jY atQ)])
  (hK:∀M V H',(iP E).le V->V 11=some (.j n)->aQ H' (E.boxes v ext w M .aJ .aJ .aJ .aJ (fV l nl a n).2) [(w,4,jY atQ),(M,4,mN (fV l nl a n).1)]->K (.exit 2) V H') :
  aI.wp C (.loop PK) K F H:=by
 refine wp_loop (α:=T3_) (λt=>((iP E).set 11 (.j n)).set 12 (.j t.1)) (λt=>t.2.2) (λt=>t.1<=n/\aQ t.2.2 (E.boxes v ext w t.2.1 .aJ .aJ .aJ .aJ (fV l nl a t.1).2) [(w,4,jY atQ),(t.2.1,4,mN (fV l nl a t.1).1)]) (λt=>n-t.1) (0,.aJ,H) ⟨auY _,A.nT 4⟩ hF b_ ?_;rintro⟨i,M,H0⟩ ⟨hi,A⟩;simp only at hi A ⊢;obtain⟨k1,k2⟩:=EO l nl ha i;have B:fV l nl a (i+1)=((fV l nl a i).1++[⟨[109]++cP i,(1+(aG l 4 (fV l nl a i).2).1:Nat),(1+(aG l 8 (aG l 4 (fV l nl a i).2).2).1:Nat),((aG l nl (aG l 8 (aG l 4 (fV l nl a i).2).2).2).1:Nat)⟩],(aG l nl (aG l 8 (aG l 4 (fV l nl a i).2).2).2).2):=rfl;simp only[go_sem,PK,iP];by_cases hlt:i<n;have u:(i:Int)<(n:Nat):=Om;generalize hg:fV l nl a i=g at *
 have hx:=cK l (show 0<4 by decide) g.2;have Z:=bU l 4 k1;have hy:=cK l (show 0<8 by decide) (aG l 4 g.2).2;have ay:=bU l 8 Z;have az:=bU l nl ay;have W:=A.set 0 rfl (bB v (aG l 4 g.2).2);have J:=W.set 0 rfl (bB v (aG l 8 (aG l 4 g.2).2).2);have h3:=J.set 0 rfl (bB v (aG l nl (aG l 8 (aG l 4 g.2).2).2).2);generalize O:aG l 4 g.2=x at *
 generalize R:aG l 8 x.2=y at *
 generalize S:aG l nl y.2=z at *
 have b1:=A.at 1 rfl;have lw:=(A.own 0 rfl).tO;rw[auW,Y]at lw;have N:(h_.set E.o7 (flB ext w M .aJ .aJ .aJ .aJ)).le H0:=e_ a_ b1;have ex:i_.wrap (1+(x.1:Int))=((1+x.1:Nat):Int):=wO_
 have ey:i_.wrap (1+(y.1:Int))=((1+y.1:Nat):Int):=wO_
 simp only[go_sem,u];refine bK (h_.set E.o7 (flB ext w M .aJ .aJ .aJ .aJ)) (mkS l v) N ?_;simp only[go_sem];refine NW U.toyW (s:=[109]) (n:=i) aU Om rfl N ?_;simp only[go_sem];refine xJ U.toyV T (o:=E.o) (n:=4) (a:=g.2) aU k1 rfl (A.at 0 rfl) ?_ ?_;rw[O];exact e_ a_ (W.at 1 rfl);rw[O];simp only[go_sem,ex];refine xJ U.toyV T (o:=E.o) (n:=8) (a:=x.2) aU Z rfl (W.at 0 rfl) ?_ ?_;rw[R];exact e_ a_ (J.at 1 rfl);rw[R];simp only[go_sem,ey,lw];rw[PH.set_set]at J;refine xJ U.toyV T (o:=E.o) (n:=nl) (a:=y.2) Om ay rfl (J.at 0 rfl) ?_ ?_;rw[S];exact e_ a_ ((J.set 0 rfl (bB v z.2)).at 1 rfl);rw[S];have h4:=J.set 0 rfl (bB v z.2);have X:(1:Nat)*4<=16777216:=by decide
 simp only[go_sem,X,avL,avY,or_false,forall_eq,forall_eq_or_imp];rw[PH.set_set]at h4;refine h4.append 1 (src:=[(⟨[109]++cP i,(1+x.1:Nat),(1+y.1:Nat),(z.1:Nat)⟩:dR).cells]) rfl rfl (by unfold roomFor;rw[auW];simp only[avG,maxLen];omega) λw' H2 h5 hw=>?_;obtain⟨q,rfl⟩:=hw aZ;have b2:=h5.at 1 rfl;refine⟨e_ a_ b2,?_⟩;refine bK .nil cS a_ ?_;simp only[go_sem,b2,avL,avY,or_false,forall_eq];have h6:=h5.set 1 rfl (flB ext w (.osl q 4 0 (mN g.1++[(⟨[109]++cP i,(1+x.1:Nat),(1+y.1:Nat),(z.1:Nat)⟩:dR).cells]).length) .aJ .aJ .aJ .aJ);refine⟨a_,?_⟩;simp only[go_sem,wZz i];refine aE (i+1,.osl q 4 0 (mN g.1++[(⟨[109]++cP i,(1+x.1:Nat),(1+y.1:Nat),(z.1:Nat)⟩:dR).cells]).length,_) ⟨hlt,?_⟩ sO_ ?_ b_;rw[B];have e:mN (g.1++[⟨[109]++cP i,(1+x.1:Nat),(1+y.1:Nat),(z.1:Nat)⟩])=mN g.1++[(⟨[109]++cP i,(1+x.1:Nat),(1+y.1:Nat),(z.1:Nat)⟩:dR).cells]:=by simp[mN]
 simp only;rw[e];exact h6;exact Lq;have u:¬(i:Int)<(n:Nat):=Om;have:i=n:=Om;subst this;simp only[go_sem,u];exact hK M _ _ (YW rfl rfl rfl rfl rfl) rfl A
abbrev DH(x:cO)(w:PV):V_:=[.str x.name,.int .i64 x.k,.int .i64 x.m,.int .i64 x.auI,.int .i64 x.s0,.int .i64 x.s1,.int .i64 x.s2,.int .i64 x.s3,.int .i64 x.s4,w,frs x.repair,
 .bool x.target.neg,aN x.target.num,aN x.target.den,.bool x.atU.neg,aN x.atU.num,aN x.atU.den]
def vq(E:FE)(mc n i:Nat):PF:=(((iP E).set 11 (.int .i64 mc)).set 13 (.int .i64 n)).set 14 (.int .i64 i)
structure PAt(E:FE)(mc n i:Nat)(F:PF):Prop where
 f0:F 0=some (.ptr E.o 2 0 0)
 f1:F 1=some (.int .i64 E.atH)
 f2:F 2=some (.int .i64 E.atJ)
 f6:F 6=some (.ptr E.o6 7 0 0)
 f7:F 7=some (.ptr E.o7 7 0 0)
 f11:F 11=some (.int .i64 mc)
 f13:F 13=some (.int .i64 n)
 f14:F 14=some (.int .i64 i)
def wM(l:N_)(a:Nat):Nat->I_ × Nat
 |0=>([],a)
 |j+1=>let s:=wM l a j
  let t:=jQ l s.2
  (s.1++[t.1],t.2)
theorem zZ(l:N_){a:Nat}(h:a<=Z' l):(jQ l a).2<=Z' l:=by
 unfold jQ;simp only;split;exact bU l 3 (bU l 3 h);exact bU l 3 h
theorem xf(l:N_){a:Nat}(h:a<=Z' l):∀j,(wM l a j).2<=Z' l/\(wM l a j).1.length=j
 |0=>⟨h,rfl⟩
 |j+1=>by obtain⟨e,i⟩:=xf l h j;exact⟨zZ l e,by simp only[wM,auZ,avG,i]⟩
abbrev wL(pre post:V_)(s:I_):V_:=pre++(s.map λx=>PV.int .i64 x)++avA (4-Z' s) (.int .i64 0)++post
theorem ahS{pre post:V_}{s:I_}(hp:Z' pre=5)(i:Z' s<4)(x:Int):(wL pre post s).set (5+Z' s) (.j x)=wL pre post (s++[x]):=by
 obtain⟨k,e⟩:∃k,4-Z' s=k+1:=⟨3-Z' s,by omega⟩;unfold wL;rw[auZ,avG,show 4-(Z' s+1)=k by omega,e,List.replicate_succ,avU,awE,axD];rw[List.set_append_left _ _ (by simp[hp]),ayF _ _ (by simp[hp])];have:5+Z' s-(pre++s.map λx=>PV.int .i64 x).length=0:=by simp[hp]
 rw[this,azB];simp
theorem aaZ{pre post:V_}{s:I_}(hp:Z' pre=5)(i:Z' s<4):wL pre post s=wL pre post (s++[0]):=by
 obtain⟨k,e⟩:∃k,4-Z' s=k+1:=⟨3-Z' s,by omega⟩;unfold wL;rw[auZ,avG,show 4-(Z' s+1)=k by omega,e,List.replicate_succ,avU,awE,axD];simp
theorem O3(Lb:rC C){l:N_}{v:PV}(T:Tp l v)(E:FE)(mc n i a p:Nat)(ha:a<=Z' l)(B:List BX)(L:List LI)(pre post:V_)(e:Z' pre=5)(A:Z' post=8)(K:bZ)(F:PF)(H:PH)
  (w:PAt E mc n i F) (V:F 15=some (.ptr p 17 0 0)) (W:F 16=some (.j 1)) (J:aQ H ((E.o,bB v a)::B++[(p,.rows 17 [wL pre post []])]) L)
  (hK:∀S H',PAt E mc n i S->S 15=some (.ptr p 17 0 0)->aQ H' ((E.o,bB v (wM l a 4).2)::B++[(p,.rows 17 [wL pre post (wM l a 4).1])]) L->K (.exit 6) S H') :
  aI.wp C (.loop EH) K F H:=by
 refine wp_loop (α:=Nat × PH) (λt=>((vq E mc n i).set 15 (.ptr p 17 0 0)).set 16 (.j (t.1+1:Nat))) (λt=>t.2) (λt=>t.1<=4/\aQ t.2 ((E.o,bB v (wM l a t.1).2)::B++[(p,.rows 17 [wL pre post (wM l a t.1).1])]) L) (λt=>4-t.1) (0,H) ⟨auY _,J⟩ ?_ b_ ?_;unfold vq iP
 (repeat' (first|exact d_|refine c_ ?_ ?_))<;>first|(simp only[go_sem,w.f0,w.f1,w.f2,w.f6,w.f7,w.f11,w.f13,w.f14,V,W]<;>rfl)|rfl
 rintro⟨j,H0⟩ ⟨hj,J⟩;simp only at hj J ⊢;obtain⟨k1,k2⟩:=xf l ha j;have u:wM l a (j+1)=((wM l a j).1++[(jQ l (wM l a j).2).1],(jQ l (wM l a j).2).2):=rfl;simp only[go_sem,EH,vq,iP];by_cases hlt:j<4;generalize hg:wM l a j=g at *
 have ei:=eC (Om:j+1<9223372036854775807);simp only[go_sem,show((j+1:Nat):Int)<5 by omega];refine dQ Lb.toyV T (o:=E.o) (n:=3) (a:=g.2) aU k1 (by simp only[go_sem];rfl) (J.at 0 rfl) ?_;have O:aQ _ ((E.o,bB v (aG l 3 g.2).2)::B++[(p,.rows 17 [wL pre post g.1])]) L:=J.set 0 rfl (bB v (aG l 3 g.2).2);by_cases c:(aG l 3 g.2).1=0;have hs:jQ l g.2=(((1+(aG l 3 (aG l 3 g.2).2).1:Nat):Int),(aG l 3 (aG l 3 g.2).2).2):=by unfold jQ;simp only[c,if_true]
 have n2:=cK l (show 0<3 by decide) (aG l 3 g.2).2;have e2:i_.wrap (1+((aG l 3 (aG l 3 g.2).2).1:Int))=((1+(aG l 3 (aG l 3 g.2).2).1:Nat):Int):=wO_
 simp only[go_sem,bN (show(((aG l 3 g.2).1:Nat):Int)=0 by omega)];refine dQ Lb.toyV T (o:=E.o) (n:=3) (a:=(aG l 3 g.2).2) aU (bU l 3 k1) (by simp only[go_sem];rfl) (O.at 0 rfl) ?_;have R:aQ _ ((E.o,bB v (aG l 3 (aG l 3 g.2).2).2)::B++[(p,.rows 17 [wL pre post g.1])]) L:=O.set 0 rfl (bB v (aG l 3 (aG l 3 g.2).2).2);have U:=R.LX;rw[PH.set_set]at U R;have N:¬p=E.o:=λh=>by have Z:=R.ndB;simp[gE,h]at Z
 simp only[aP,aC N]at U;have Y:((j+1:Nat):Int)<((5:Nat):Int):=Om;have X:(0:Int)<=((j+1:Nat):Int):=Om;have β:(wL pre post g.1).length=17:=by simp[wL,e,A,k2];omega
 have x:=ahS (pre:=pre) (post:=post) (s:=g.1) e Om ((1+(aG l 3 (aG l 3 g.2).2).1:Nat):Int);rw[k2]at x;have M:4+(j+1)*1=5+j:=Om;have y:5+j+1<=17:=Om;simp only[go_sem,e2,Y,X,M,N,U,y,avL,avY,or_false,forall_eq,x,ei];refine aE (j+1,_) ⟨hlt,?_⟩ sO_ ?_ b_;rw[u,hs];exact R.ZK _;exact Lq;have hs:jQ l g.2=(0,(aG l 3 g.2).2):=by unfold jQ;simp only[c,if_false]
 simp only[go_sem,bA (show ¬(((aG l 3 g.2).1:Nat):Int)=0 by omega),ei];refine aE (j+1,_) ⟨hlt,?_⟩ sO_ ?_ b_;rw[aaZ (pre:=pre) (post:=post) (s:=g.1) e Om]at O;rw[u,hs];exact O;exact Lq;have:j=4:=Om;subst this;simp only[go_sem,show ¬((4+1:Nat):Int)<5 by decide];exact hK _ _ ⟨s_,s_,s_,s_,s_,s_,s_,s_⟩ Sq J
theorem aQ.uI{E:FE}{v ext e i l u w x:PV}{a:Nat}{H:PH}{B:List BX}{L:List LI}(h:aQ H (E.boxes v ext e i l u w x a++B) L)(b:Nat):aQ (H.set E.o (bB v b)) (E.boxes v ext e i l u w x b++B) L:=h.set 0 rfl _
abbrev ja(s:List UInt8)(k m q:Int)(w r e i l:PV)(h:RF):V_:=[.str s,.int .i64 k,.int .i64 m,.int .i64 q,.int .i64 0,.int .i64 0,.int .i64 0,.int .i64 0,.int .i64 0,w,r,e,i,l,.bool h.neg,aN h.num,aN h.den]
theorem Y9 {C : Ctx} (Lb : rC C) {l : N_} {v : PV} (T : Tp l v) (E : FE) (mc n i a : Nat) (ha : a <= l.length) (hi : i < 50) (ext w1 w2 w3 w4 w5 w6 : PV) (L : List LI) (rest : aI) (K : bZ) (F : PF) (H : PH)
    (hF : PAt E mc n i F) (hH : aQ H (E.boxes v ext w1 w2 w3 w4 w5 w6 a) L)
    (hK : ∀ p F' H', PAt E mc n i F' -> F' 15 = some (.ptr p 17 0 0) ->
      (let k := aG l 2 a; let m := aG l 3 k.2; let h := aG l 4 m.2; let q := aG l (m.1 + 1) h.2; let r := nJ l q.2 (max m.1 1); let g := aG l 9 r.2
       aQ H' (E.boxes v ext w1 w2 w3 w4 w5 w6 g.2 ++ [(p, .rows 17 [wL [.str ([112] ++ cP i), .j (1 + k.1 : Nat), .j (m.1 : Nat), .j (1 + k.1 + q.1 : Nat), .j 0]
        ([.aJ, frs r.1] ++ (mkT (g.1 : Nat) 8).cells ++ (mkT ((1 + h.1 : Nat) : Int) 1).cells) []])]) L) -> aI.wp C rest K F' H') :
    aI.wp C (.seq (.region PO) (.seq (.seq (.draw EI) (.draw EJ)) (.seq (.region EK) (.seq (.region EL) rest)))) K F H := by
  obtain ⟨f0, f1, f2, f6, f7, f11, f13, f14⟩ := hF;have nk := cK l (show 0 < 2 by decide) a;have ak := bU l 2 ha;have nm := cK l (show 0 < 3 by decide) (aG l 2 a).2;have am := bU l 3 ak;simp only at hK;generalize hk : aG l 2 a = k at *
  generalize hm : aG l 3 k.2 = m at *
  have nh := cK l (show 0 < 4 by decide) m.2;have ah := bU l 4 am;generalize hh : aG l 4 m.2 = h at *
  have nq := cK l (Om : 0 < m.1 + 1) h.2;have aq := bU l (m.1 + 1) ah;generalize hq : aG l (m.1 + 1) h.2 = q at *
  have ar := MU l aq (max m.1 1);generalize hr : nJ l q.2 (max m.1 1) = r at *
  have ng := cK l (show 0 < 9 by decide) r.2;have ag := bU l 9 ar;generalize hg : aG l 9 r.2 = g at *
  have ek : i_.wrap (1 + (k.1 : Int)) = ((1 + k.1 : Nat) : Int) := by rw [wrap_i64 Om Om]; omega
  have eh : i_.wrap (1 + (h.1 : Int)) = ((1 + h.1 : Nat) : Int) := by rw [wrap_i64 Om Om]; omega
  have em : i_.wrap ((m.1 : Int) + 1) = ((m.1 + 1 : Nat) : Int) := eC Om;have eq' : i_.wrap (((1 + k.1 : Nat) : Int) + (q.1 : Int)) = ((1 + k.1 + q.1 : Nat) : Int) := by rw [wrap_i64 Om Om]; omega
  have h0 : aQ H (E.boxes v ext w1 w2 w3 w4 w5 w6 a ++ []) L := by rw [awJ]; exact hH
  simp only[go_sem,PO,f14];refine aB (Lb.name [112] i aU Om) rfl ?_;simp only[go_sem,f0];refine dQ Lb.toyV T (o := E.o) (n := 2) (a := a) aU ha rfl (h0.at 0 rfl) ?_;have g1 := h0.uI k.2;rw [hk];simp only[go_sem,ek,f0];refine dQ Lb.toyV T (o := E.o) (n := 3) (a := k.2) aU ak rfl (g1.at 0 rfl) ?_;have g2 := g1.uI m.2;rw [hm];rw [PH.set_set] at g2;simp only[go_sem,f0];refine dQ Lb.toyV T (o := E.o) (n := 4) (a := m.2) aU am rfl (g2.at 0 rfl) ?_;have g3 := g2.uI h.2;rw [hh];rw [PH.set_set] at g3;simp only[go_sem,eh];refine aB (Lb.int ((1 + h.1 : Nat) : Int) (by unfold eI; omega)) rfl ?_;simp only[go_sem,avL,avY,or_false,forall_eq,forall_eq_or_imp];refine aS fun p hp => ?_;have g4 := g3.new hp (.rows 17 [ja ([112] ++ cP i) (1 + k.1 : Nat) (m.1 : Nat) 0 .aJ .aJ (.bool false) .aJ .aJ (mkT ((1 + h.1 : Nat) : Int) 1)]);have hpo : ¬ p = E.o := g4.ne 3 0 rfl rfl aU;have hop : ¬ E.o = p := fun e => hpo e.symm;have q2 : ∀ (F2 : PF) (H2 : PH), PAt E mc n i F2 -> F2 15 = some (.ptr p 17 0 0) -> aQ H2 (E.boxes v ext w1 w2 w3 w4 w5 w6 h.2 ++ [(p, .rows 17 [ja ([112] ++ cP i) (1 + k.1 : Nat) (m.1 : Nat) 0 .aJ .aJ (.bool false) .aJ .aJ (mkT ((1 + h.1 : Nat) : Int) 1)])]) L ->
      aI.wp C (.seq (.seq (.draw EI) (.draw EJ)) (.seq (.region EK) (.seq (.region EL) rest))) K F2 H2 := by
    intro F2 H2 hF2 f15 hH2;obtain ⟨f0, f1, f2, f6, f7, f11, f13, f14⟩ := hF2;have bp := hH2.at 3 rfl;have hHs : (h_.set p (.rows 17 [ja ([112] ++ cP i) (1 + k.1 : Nat) (m.1 : Nat) 0 .aJ .aJ (.bool false) .aJ .aJ (mkT ((1 + h.1 : Nat) : Int) 1)])).le H2 := e_ a_ bp;simp only[go_sem];refine bK _ (mkS l v) hHs ?_;simp only[go_sem,EI,f15,bp,em,f0];refine xJ Lb.toyV T (o := E.o) (n := m.1 + 1) (a := h.2) Om ah rfl (hH2.at 0 rfl) ?_ ?_
    · rw [hq]; exact e_ a_ ((hH2.uI q.2).at 3 rfl)
    rw [hq];have g5 := hH2.uI q.2;simp only[go_sem,eq',f15];refine bK .nil cS a_ ?_;simp only[go_sem,EJ,hpo,bp];refine ⟨a_, ?_⟩;have g6 : aQ _ (E.boxes v ext w1 w2 w3 w4 w5 w6 q.2 ++ [(p, .rows 17 [ja ([112] ++ cP i) (1 + k.1 : Nat) (m.1 : Nat) (1 + k.1 + q.1 : Nat) .aJ .aJ (.bool false) .aJ .aJ (mkT ((1 + h.1 : Nat) : Int) 1)])]) L := g5.set 3 rfl (.rows 17 [ja ([112] ++ cP i) (1 + k.1 : Nat) (m.1 : Nat) (1 + k.1 + q.1 : Nat) .aJ .aJ (.bool false) .aJ .aJ (mkT ((1 + h.1 : Nat) : Int) 1)]);have bq := g6.at 3 rfl;simp only[go_sem,EK,f0,f15];refine oV (Lb.rep l v T E.o q.2 m.1 Om aq) (g6.at 0 rfl) rfl ?_;have g7 := g6.uI r.2;rw [hr];simp only[go_sem,hpo,f15];have g8 : aQ _ (E.boxes v ext w1 w2 w3 w4 w5 w6 r.2 ++ [(p, .rows 17 [ja ([112] ++ cP i) (1 + k.1 : Nat) (m.1 : Nat) (1 + k.1 + q.1 : Nat) .aJ (frs r.1) (.bool false) .aJ .aJ (mkT ((1 + h.1 : Nat) : Int) 1)])]) L := g7.set 3 rfl (.rows 17 [ja ([112] ++ cP i) (1 + k.1 : Nat) (m.1 : Nat) (1 + k.1 + q.1 : Nat) .aJ (frs r.1) (.bool false) .aJ .aJ (mkT ((1 + h.1 : Nat) : Int) 1)]);simp only[go_sem,EL,f0];refine dQ Lb.toyV T (o := E.o) (n := 9) (a := r.2) aU ar rfl (g8.at 0 rfl) ?_;have g9 := g8.uI g.2;rw [hg];simp only[go_sem];refine aB (Lb.fmk (g.1 : Int) 8 (by unfold eI; omega) (by unfold eI; omega)) rfl ?_;unfold CX;rw [aC aU];simp only[go_sem,f15,hpo];have g10 := g9.set 3 rfl (.rows 17 [wL [.str ([112] ++ cP i), .j (1 + k.1 : Nat), .j (m.1 : Nat), .j (1 + k.1 + q.1 : Nat), .j 0]
        ([.aJ, frs r.1] ++ (mkT (g.1 : Nat) 8).cells ++ (mkT ((1 + h.1 : Nat) : Int) 1).cells) []])
    refine hK p _ _ ⟨by simp only[go_sem,f0], by simp only[go_sem,f1], by simp only[go_sem,f2], by simp only[go_sem,f6], by simp only[go_sem,f7], by simp only[go_sem,f11], by simp only[go_sem,f13], by simp only[go_sem,f14]⟩ (by simp only[go_sem,f15]) g10
  simp only [aI.wp, go_sem] at q2;simp only[go_sem,avL,avY,or_false,forall_eq,forall_eq_or_imp];exact q2 _ _ ⟨by simp only[go_sem,f0], by simp only[go_sem,f1], by simp only[go_sem,f2], by simp only[go_sem,f6], by simp only[go_sem,f7], by simp only[go_sem,f11], by simp only[go_sem,f13], by simp only[go_sem,f14]⟩ rfl g4
abbrev FE.lists(x y A B E:PV)(l:List cU)(u:List dR)(e:List cR)(i:List eP)(w:P2_):List LI:=[(x,4,jY l),(y,4,mN u),(A,7,nC e),(B,3,qB i),(E,17,w)]
theorem Za(Lb:rC C){l:N_}{v:PV}(T:Tp l v)(E:FE)(mc n i a:Nat)(ha:a<=Z' l)(ι:0<mc)(ξ:mc<=50)(ext A B J M w5:PV)(lw:List cU)(md:List dR)(dm:List cR)(dv:List eP)(pr:P2_)(τ:Z' pr<=50)
  (s:List UInt8) (k m q:Int) (r t h:RF) (O:List RF) (p:Nat) (K:bZ) (F:PF) (H:PH)
  (hF:PAt E mc n i F) (x:F 15=some (.ptr p 17 0 0))
  (hH:aQ H (E.boxes v ext A B J M w5 .aJ a++[(p,.rows 17 [wL [.str s,.j k,.j m,.j q,.j 0] ([.aJ,frs O]++t.cells++h.cells) []])]) (FE.lists A B J M w5 lw md dm dv pr))
  (X:(let N:=wM l a 4;let f:=aG l mc N.2;let b:=aG l 2 f.2
   let ms:I_ × Nat:=if 1<mc then(if b.1=0 then([(f.1:Int),1-(f.1:Int)],b.2)else([(f.1:Int)],b.2))else([(f.1:Int)],f.2)
   ∀(w u:PV)(Y:PF)(H':PH)(B':List BX),PAt E mc n i Y->(∃o,w=.osl o 1 0 ms.1.length)->aQ H' (E.boxes v ext A B J M u .aJ ms.2++B')
    (FE.lists A B J M u lw md dm dv (pr++[DH ⟨s,k,m,q,0,(N.1.getD 0 0),(N.1.getD 1 0),(N.1.getD 2 0),(N.1.getD 3 0),ms.1,O,t,h⟩ w])++[(w,1,aT ms.1)])->K .normal Y H')) :
  aI.wp C (.seq (.seq (.region PP) (.block 6 (.loop EH))) (.seq (.region PQ) (.seq (.region PR) (.seq (.seq (.region PS) (.cond (.tmp 143) (.region PT) .skip)) (.region EM))))) K F H:=by
 obtain⟨f0,f1,f2,f6,f7,f11,f13,f14⟩:=hF;simp only[go_sem,PP];refine O3 (C:=C) Lb T E mc n i a p ha [(E.o7,flB ext A B J M w5 .aJ),(E.o6,flZ)] _ _ _ rfl rfl _ _ H ⟨by simp only[go_sem,f0],by simp only[go_sem,f1],by simp only[go_sem,f2],by simp only[go_sem,f6],by simp only[go_sem,f7],by simp only[go_sem,f11],by simp only[go_sem,f13],by simp only[go_sem,f14]⟩ (by simp only[go_sem,x]) rfl hH ?_;clear f0 f1 f2 f6 f7 f11 f13 f14 x hH;intro F1 H1 η x y;obtain⟨f0,f1,f2,f6,f7,f11,f13,f14⟩:=η;obtain⟨γ,ls⟩:=xf l ha 4;have μ:∃R S U V,(wM l a 4).1=[R,S,U,V]:=⟨_,_,_,_,rfl⟩;simp only at X;generalize ο:wM l a 4=N at *
 obtain⟨R,S,U,V,hx⟩:=μ;rw[hx]at X y;replace y:aQ H1 (E.boxes v ext A B J M w5 .aJ N.2++[(p,.rows 17 [DH ⟨s,k,m,q,0,R,S,U,V,[],O,t,h⟩ .aJ])]) (FE.lists A B J M w5 lw md dm dv pr):=y;have nf:=cK l ι N.2;have af:=bU l mc γ;generalize hf:aG l mc N.2=f at *
 have ab:=bU l 2 af;generalize hb:aG l 2 f.2=b at *
 have β:¬p=E.o:=y.ne 3 0 rfl rfl aU;have κ:¬p=E.o7:=y.ne 3 1 rfl rfl aU;have σ:¬E.o7=p:=λe=>κ e.symm;have ρ:¬E.o7=E.o:=y.ne 1 0 rfl rfl aU;simp only[go_sem,PQ,f0,f11];refine dQ Lb.toyV T (o:=E.o) (n:=mc) (a:=N.2) Om γ rfl (y.at 0 rfl) ?_;have h2:=y.set 0 rfl (bB v f.2);rw[hf];simp only[go_sem,PR];refine aS λo ho=>?_;have h3:=h2.Ph (s:=1) (rows:=aT [(f.1:Int)]) ho;have b3:=h3.at 3 rfl;have ob:¬p=o:=h3.neL 3 5 rfl rfl rfl;have υ:¬E.o7=o:=h3.neL 1 5 rfl rfl rfl;have φ:¬E.o=o:=h3.neL 0 5 rfl rfl rfl;simp only[aP,aC ob,aC β]at b3;simp only[go_sem,x,ob,β,b3,avL,avY,or_false,forall_eq];have h4:=h3.set 3 rfl (.rows 17 [DH ⟨s,k,m,q,0,R,S,U,V,[],O,t,h⟩ (.osl o 1 0 1)]);have fin:∀(w:PV)(ms:I_)(a':Nat)(Y:PF)(H':PH),PAt E mc n i Y->Y 15=some (.ptr p 17 0 0)->(∃o,w=.osl o 1 0 ms.length) ->
   aQ H' (E.boxes v ext A B J M w5 .aJ a'++[(p,.rows 17 [DH ⟨s,k,m,q,0,R,S,U,V,ms,O,t,h⟩ w])]) (FE.lists A B J M w5 lw md dm dv pr++[(w,1,aT ms)]) ->
   (∀(u:PV)(W:PF)(H2:PH),PAt E mc n i W->aQ H2 (E.boxes v ext A B J M u .aJ a'++[(p,.rows 17 [DH ⟨s,k,m,q,0,R,S,U,V,ms,O,t,h⟩ w])]) (FE.lists A B J M u lw md dm dv (pr++[DH ⟨s,k,m,q,0,R,S,U,V,ms,O,t,h⟩ w])++[(w,1,aT ms)])->K .normal W H2) ->
   wpOps C EM (K .normal) Y H':=by
  intro w ms a' Y H' ζ x hw α θ;obtain⟨wo,rfl⟩:=hw;obtain⟨f0,f1,f2,f6,f7,f11,f13,f14⟩:=ζ;have c1:=α.at 1 rfl;have c3:=α.at 3 rfl;have ε:(1:Nat)*17<=16777216:=by decide
  simp only[go_sem,EM,f7,x,c1,c3,ε,avL,avY,or_false,forall_eq,forall_eq_or_imp];refine α.append 4 (src:=[DH ⟨s,k,m,q,0,R,S,U,V,ms,O,t,h⟩ (.osl wo 1 0 ms.length)]) rfl rfl (by unfold roomFor;simp only[avG,maxLen];omega) λu H2 h5 ν=>?_;obtain⟨q5,rfl⟩:=ν aZ;have c2:=h5.at 1 rfl;simp only[go_sem,c2,avL,avY,or_false,forall_eq];exact θ _ _ _ ⟨by simp only[go_sem,f0],by simp only[go_sem,f1],by simp only[go_sem,f2],by simp only[go_sem,f6],by simp only[go_sem,f7],by simp only[go_sem,f11],by simp only[go_sem,f13],by simp only[go_sem,f14]⟩ (h5.set 1 rfl (flB ext A B J M _ .aJ))
 simp only[go_sem,PS,f11];by_cases c:1<mc;have c':(mc:Int)>1:=Om;simp only[go_sem,c',f0];refine dQ Lb.toyV T (o:=E.o) (n:=2) (a:=f.2) aU af rfl (h4.at 0 rfl) ?_;have h5:=h4.set 0 rfl (bB v b.2);rw[hb];by_cases c2:b.1=0;have Z:(b.1:Int)=0:=Om;rw[aF c,aF c2]at X;have e1:i_.wrap (1-(f.1:Int))=1-(f.1:Int):=wrap_i64 Om Om;have c3:=h5.at 3 rfl;have δ:(1:Nat)*1<=16777216:=by decide
 simp only[go_sem,bN Z,PT,x,β,e1,δ];refine h5.append 5 (src:=[[.j (1-(f.1:Int))]]) rfl rfl (by unfold roomFor;simp only[aT,auW,avG,maxLen];omega) λw' H2 h6 hw=>?_;obtain⟨q2,rfl⟩:=hw aZ;have c4:=h6.at 3 rfl;simp only[go_sem,c4,x,avL,avY,or_false,forall_eq];have h7:=h6.set 3 rfl (.rows 17 [DH ⟨s,k,m,q,0,R,S,U,V,[(f.1:Int),1-(f.1:Int)],O,t,h⟩ (.osl q2 1 0 2)]);exact fin (.osl q2 1 0 2) [(f.1:Int),1-(f.1:Int)] b.2 _ _ ⟨by simp only[go_sem,f0],by simp only[go_sem,f1],by simp only[go_sem,f2],by simp only[go_sem,f6],by simp only[go_sem,f7],by simp only[go_sem,f11],by simp only[go_sem,f13],by simp only[go_sem,f14]⟩ (by simp only[go_sem,x]) ⟨q2,rfl⟩ h7 (λu W H2 g1 g2=>X _ u W H2 _ g1 ⟨q2,rfl⟩ g2);have Z:¬(b.1:Int)=0:=Om;rw[aF c,aC c2]at X;simp only[go_sem,bA Z];exact fin (.osl o 1 0 1) [(f.1:Int)] b.2 _ _ ⟨by simp only[go_sem,f0],by simp only[go_sem,f1],by simp only[go_sem,f2],by simp only[go_sem,f6],by simp only[go_sem,f7],by simp only[go_sem,f11],by simp only[go_sem,f13],by simp only[go_sem,f14]⟩ (by simp only[go_sem,x]) ⟨o,rfl⟩ h5 (λu W H2 g1 g2=>X _ u W H2 _ g1 ⟨o,rfl⟩ g2);have c':¬(mc:Int)>1:=Om;rw[aC c]at X;simp only[go_sem,c'];exact fin (.osl o 1 0 1) [(f.1:Int)] f.2 _ _ ⟨by simp only[go_sem,f0],by simp only[go_sem,f1],by simp only[go_sem,f2],by simp only[go_sem,f6],by simp only[go_sem,f7],by simp only[go_sem,f11],by simp only[go_sem,f13],by simp only[go_sem,f14]⟩ (by simp only[go_sem,x]) ⟨o,rfl⟩ h4 (λu W H2 g1 g2=>X _ u W H2 _ g1 ⟨o,rfl⟩ g2)
abbrev pL(l:List cO):P2_:=l.map cO.cells
abbrev tC(l:List gN):P2_:=l.map gN.cells
theorem sK{rows:P2_}(h:∀r∈rows,∀c∈r,c.oid=none):Flat rows:=Flat.of λr i c e q s rs=>nu (h r i c e) q s rs
theorem Lf(l:List cU):Flat (jY l):=sK λr i c e=>by
 obtain⟨x,_,rfl⟩:=avV.1 i;simp only[cU.cells,avL,avY,or_false]at e;rcases e with rfl|rfl|rfl|rfl<;>rfl
theorem Lh(l:List dR):Flat (mN l):=sK λr i c e=>by
 obtain⟨x,_,rfl⟩:=avV.1 i;simp only[dR.cells,avL,avY,or_false]at e;rcases e with rfl|rfl|rfl|rfl<;>rfl
theorem Ky(l:List cR):Flat (nC l):=sK λr i c e=>by
 obtain⟨x,_,rfl⟩:=avV.1 i;simp only[cR.cells,avL,avY,or_false]at e;rcases e with rfl|rfl|rfl|rfl|rfl|rfl|rfl<;>rfl
theorem K0(l:List eP):Flat (qB l):=sK λr i c e=>by
 obtain⟨x,_,rfl⟩:=avV.1 i;simp only[eP.cells,avL,avY,or_false]at e;rcases e with rfl|rfl|rfl<;>rfl
theorem aiJ(l:List gN):Flat (tC l):=sK λr i c e=>by
 obtain⟨x,_,rfl⟩:=avV.1 i;simp only[gN.cells,avL,avY,or_false]at e;rcases e with rfl|rfl<;>rfl
theorem Lz(l:List cO):Flat (pL l):=sK λr i c e=>by
 obtain⟨x,_,rfl⟩:=avV.1 i;simp only[cO.cells,avL,avY,or_false]at e;rcases e with rfl|rfl|rfl|rfl|rfl|rfl|rfl|rfl|rfl|rfl|rfl|rfl|rfl|rfl|rfl|rfl|rfl<;>rfl
theorem Py(l:N_)(mc i:Nat){a:Nat}(h:a<=Z' l):(pV l mc i a).2<=Z' l:=by
 have u:=bU l 9 (MU l (bU l ((aG l 3 (aG l 2 a).2).1+1) (bU l 4 (bU l 3 (bU l 2 h)))) (max (aG l 3 (aG l 2 a).2).1 1));have e:=bU l mc (zZ l (zZ l (zZ l (zZ l u))));unfold pV;simp only;split;split;exact bU l 2 e;exact bU l 2 e;exact e
theorem zT(l:N_)(mc:Nat){a:Nat}(h:a<=Z' l):∀k,(fG l mc a k).2<=Z' l/\(fG l mc a k).1.length=k
 |0=>⟨h,rfl⟩
 |k+1=>by obtain⟨e,i⟩:=zT l mc h k;exact⟨Py l mc k e,by simp only[fG,auZ,avG,i]⟩
theorem LL(l:N_)(pc:Nat){a:Nat}(h:a<=Z' l):∀k,(fX l pc a k).2<=Z' l/\(fX l pc a k).1.length=k
 |0=>⟨h,rfl⟩
 |k+1=>by obtain⟨e,i⟩:=LL l pc h k;exact⟨bU l pc e,by simp only[fX,auZ,avG,i]⟩
theorem F8(Lb:rC C){l:N_}{v:PV}(T:Tp l v)(E:FE)(mc n a:Nat)(hn:n<=10)(κ:0<mc)(γ:mc<=50)(ha:a<=Z' l)(R:Int)(u y A B:PV)(V:List cU)(W:List dR)(S:List cR)(U:List eP)(K:bZ)(F:PF)(H:PH)
  (N:PAt E mc n 0 F) (Y:aQ H (E.boxes v (.j R) u y A B .aJ .aJ a) [(u,4,jY V),(y,4,mN W),(A,7,nC S),(B,3,qB U)])
  (hK:∀X F' H',(iP E).le F'->aQ H' (E.boxes v (.j R) u y A B X .aJ (fG l mc a n).2) (FE.lists u y A B X V W S U (pL (fG l mc a n).1))->K (.exit 4) F' H') :
  aI.wp C (.loop PL) K F H:=by
 refine wp_loop (α:=T3_) (λt=>vq E mc n t.1) (λt=>t.2.2) (λt=>t.1<=n/\aQ t.2.2 (E.boxes v (.j R) u y A B t.2.1 .aJ (fG l mc a t.1).2) (FE.lists u y A B t.2.1 V W S U (pL (fG l mc a t.1).1))) (λt=>n-t.1) (0,.aJ,H) ⟨auY _,Y.nT 17⟩ ?_ b_ ?_;unfold vq iP
 (repeat' (first|exact d_|refine c_ ?_ ?_))<;>first|(simp only[go_sem,N.f0,N.f1,N.f2,N.f6,N.f7,N.f11,N.f13,N.f14]<;>rfl)|rfl
 rintro⟨i,X,H0⟩ ⟨hi,Y⟩;simp only at hi Y ⊢;obtain⟨k1,k2⟩:=zT l mc ha i;have M:fG l mc a (i+1)=((fG l mc a i).1++[(pV l mc i (fG l mc a i).2).1],(pV l mc i (fG l mc a i).2).2):=rfl;simp only[go_sem,PL,vq,iP];by_cases hlt:i<n;have J:(i:Int)<(n:Nat):=Om;generalize hg:fG l mc a i=g at *
 simp only[go_sem,J];refine Y9 (C:=C) Lb T E mc n i g.2 k1 Om (.j R) u y A B X .aJ _ _ _ _ H0 ⟨s_,s_,s_,s_,s_,s_,s_,s_⟩ Y ?_;intro p F1 H1 ε δ Z;simp only at Z;have μ:pV l mc i g.2=_:=rfl;have β:=bU l 9 (MU l (bU l ((aG l 3 (aG l 2 g.2).2).1+1) (bU l 4 (bU l 3 (bU l 2 k1)))) (max (aG l 3 (aG l 2 g.2).2).1 1));refine Za (C:=C) Lb T E mc n i _ β κ γ (.j R) u y A B X V W S U _ (by rw[auW,k2];omega) _ _ _ _ (mkT 0 1) _ _ _ p _ F1 H1 ε δ Z ?_;intro O f b ms w e F2 H2 B' ζ hw η;obtain⟨o,rfl⟩:=hw;have hP:pV l mc i g.2=(⟨[112]++cP i,(1+(aG l 2 g.2).1:Nat),((aG l 3 (aG l 2 g.2).2).1:Nat),(1+(aG l 2 g.2).1+(aG l ((aG l 3 (aG l 2 g.2).2).1+1) (aG l 4 (aG l 3 (aG l 2 g.2).2).2).2).1:Nat),0,O.1.getD 0 0,O.1.getD 1 0,O.1.getD 2 0,O.1.getD 3 0,ms.1,(nJ l (aG l ((aG l 3 (aG l 2 g.2).2).1+1) (aG l 4 (aG l 3 (aG l 2 g.2).2).2).2).2 (max (aG l 3 (aG l 2 g.2).2).1 1)).1,mkT ((aG l 9 (nJ l (aG l ((aG l 3 (aG l 2 g.2).2).1+1) (aG l 4 (aG l 3 (aG l 2 g.2).2).2).2).2 (max (aG l 3 (aG l 2 g.2).2).1 1)).2).1:Nat) 8,mkT ((1+(aG l 4 (aG l 3 (aG l 2 g.2).2).2).1:Nat):Int) 1⟩,ms.2):=rfl;rw[hP]at M;generalize θ:(⟨[112]++cP i,(1+(aG l 2 g.2).1:Nat),((aG l 3 (aG l 2 g.2).2).1:Nat),(1+(aG l 2 g.2).1+(aG l ((aG l 3 (aG l 2 g.2).2).1+1) (aG l 4 (aG l 3 (aG l 2 g.2).2).2).2).1:Nat),0,O.1.getD 0 0,O.1.getD 1 0,O.1.getD 2 0,O.1.getD 3 0,ms.1,(nJ l (aG l ((aG l 3 (aG l 2 g.2).2).1+1) (aG l 4 (aG l 3 (aG l 2 g.2).2).2).2).2 (max (aG l 3 (aG l 2 g.2).2).1 1)).1,mkT ((aG l 9 (nJ l (aG l ((aG l 3 (aG l 2 g.2).2).1+1) (aG l 4 (aG l 3 (aG l 2 g.2).2).2).2).2 (max (aG l 3 (aG l 2 g.2).2).1 1)).2).1:Nat) 8,mkT ((1+(aG l 4 (aG l 3 (aG l 2 g.2).2).2).1:Nat):Int) 1⟩:cO)=P at *
 have ι:P.atI=ms.1:=by rw[<-θ]
 obtain⟨rs,z1,z2,z3,z4,z5⟩:=η.frz 5 rfl;have y1:=z4 0 _ aU rfl;have y2:=z4 1 _ aU rfl;have y3:=z4 2 _ aU rfl;have y4:=z4 3 _ aU rfl;have y5:=z4 4 _ aU rfl;simp only at y1 y2 y3 y4 y5;have y0:=T.frz o 1 rs;obtain⟨f0,f1,f2,f6,f7,f11,f13,f14⟩:=ζ;simp only[go_sem,f14,wZz i];refine VB (i+1,e,H2.frz o 1 rs) z1 ⟨hlt,?_⟩ sO_ ?_ b_;rw[M];have eB:(E.boxes v (.j R) u y A B e .aJ ms.2).map (λb=>(b.1,b.2.frz o 1 rs))=E.boxes v (.j R) u y A B e .aJ ms.2:=by show[(E.o,aV.rows 2 [[PV.dL o 1 rs v,.j ms.2]]),(E.o7,aV.rows 7 [[.j R,PV.dL o 1 rs u,PV.dL o 1 rs y,PV.dL o 1 rs A,PV.dL o 1 rs B,PV.dL o 1 rs e,.aJ]]),(E.o6,flZ)]=_;rw[y0,y1,y2,y3,y4,y5]
 have e5:(pL g.1++[DH P (.osl o 1 0 ms.1.length)]).map (λr=>r.map (PV.dL o 1 rs))=pL (g.1++[P]):=by
  rw[avU,Lz];have:([DH P (.osl o 1 0 ms.1.length)]:P2_).map (λr=>r.map (PV.dL o 1 rs))=[P.cells]:=by show[[PV.str P.name,.j P.k,.j P.m,.j P.auI,.j P.s0,.j P.s1,.j P.s2,.j P.s3,.j P.s4,PV.dL o 1 rs (.osl o 1 0 ms.1.length),frs P.repair,.bool P.target.neg,aN P.target.num,aN P.target.den,.bool P.atU.neg,aN P.atU.num,aN P.atU.den]]=_;rw[z2,<-ι];rfl
  rw[this];simp[pL]
 have eL:(FE.lists u y A B e V W S U (pL g.1++[DH P (.osl o 1 0 ms.1.length)])).map (λx=>(x.1,x.2.1,x.2.2.map λr=>r.map (PV.dL o 1 rs)))=FE.lists u y A B e V W S U (pL (g.1++[P])):=by show[(u,4,(jY V).map _),(y,4,(mN W).map _),(A,7,(nC S).map _),(B,3,(qB U).map _),(e,17,(pL g.1++[DH P (.osl o 1 0 ms.1.length)]).map _)]=_;rw[Lf,Lh,Ky,K0,e5]
 rw[<-eB,<-eL];exact z5.sub (by rw[avU];exact List.sublist_append_left ..) (axN.refl _);exact lE7 f0 f1 f2 f6 f7 f11 f13;have J:¬(i:Int)<(n:Nat):=Om;have:i=n:=Om;subst this;simp only[go_sem,J];exact hK X _ _ (YW Sq Sq Sq Sq Sq) Y
theorem Jr(X:rC C){l:N_}{v:PV}(T:Tp l v)(E:FE)(pc n a:Nat)(hn:n<=60)(β:pc<=50)(ha:a<=Z' l)(ext J M N O u:PV)(B:List cO)(V:Z' B=pc)(L:List LI)(K:bZ)(F:PF)(H:PH)
  (hF:(((iP E).set 18 (.j n)).set 19 (.j 0)).le F) (y:aQ H (E.boxes v ext J M N O u .aJ a) ((u,17,pL B)::L))
  (hK:∀x W H',(iP E).le W->aQ H' (E.boxes v ext J M N O u x (fX l pc a n).2) ((u,17,pL B)::L++[(x,2,tC (fX l pc a n).1)])->K (.exit 8) W H') :
  aI.wp C (.loop PN) K F H:=by
 refine wp_loop (α:=T3_) (λt=>((iP E).set 18 (.j n)).set 19 (.j t.1)) (λt=>t.2.2) (λt=>t.1<=n/\aQ t.2.2 (E.boxes v ext J M N O u t.2.1 (fX l pc a t.1).2) ((u,17,pL B)::L++[(t.2.1,2,tC (fX l pc a t.1).1)])) (λt=>n-t.1) (0,.aJ,H) ⟨auY _,y.nT 2⟩ hF b_ ?_;rintro⟨i,x,H0⟩ ⟨hi,y⟩;simp only at hi y ⊢;obtain⟨k1,k2⟩:=LL l pc ha i;have A:fX l pc a (i+1)=((fX l pc a i).1++[⟨[118]++cP i,((aG l pc (fX l pc a i).2).1:Nat)⟩],(aG l pc (fX l pc a i).2).2):=rfl;simp only[go_sem,PN,iP];by_cases hlt:i<n;have w:(i:Int)<(n:Nat):=Om;generalize hg:fX l pc a i=g at *
 have Y:=y.set 0 rfl (bB v (aG l pc g.2).2);generalize S:aG l pc g.2=z at *
 have b1:=y.at 1 rfl;have Z:=(y.own 0 rfl).tO;rw[auW,V]at Z;have R:(h_.set E.o7 (flB ext J M N O u x)).le H0:=e_ a_ b1;simp only[go_sem,w];refine bK (h_.set E.o7 (flB ext J M N O u x)) (mkS l v) R ?_;simp only[go_sem];refine NW X.toyW (s:=[118]) (n:=i) aU Om rfl R ?_;simp only[go_sem,Z];refine xJ X.toyV T (o:=E.o) (n:=pc) (a:=g.2) Om k1 rfl (y.at 0 rfl) ?_ ?_;rw[S];exact e_ a_ (Y.at 1 rfl);rw[S];have U:(1:Nat)*2<=16777216:=by decide
 simp only[go_sem,U,avL,avY,or_false,forall_eq,forall_eq_or_imp];refine Y.append (v:=x) (s:=2) (rows:=tC g.1) (Z' L+1) (src:=[(⟨[118]++cP i,(z.1:Nat)⟩:gN).cells]) aZ rfl (by unfold roomFor;rw[auW];simp only[avG,maxLen];omega) λw' H2 h5 hw=>?_;obtain⟨q,rfl⟩:=hw aZ;rw[show((u,17,pL B)::L++[(x,2,tC g.1)])=((u,17,pL B)::L)++[(x,2,tC g.1)]from rfl,ayF _ _ aZ,show L.length+1-((u,17,pL B)::L).length=0 by simp]at h5;have b2:=h5.at 1 rfl;refine⟨e_ a_ b2,?_⟩;refine bK .nil cS a_ ?_;simp only[go_sem,b2,avL,avY,or_false,forall_eq];have h6:=h5.set 1 rfl (flB ext J M N O u (.osl q 2 0 (tC g.1++[(⟨[118]++cP i,(z.1:Nat)⟩:gN).cells]).length));refine⟨a_,?_⟩;simp only[go_sem,wZz i];refine aE (i+1,.osl q 2 0 (tC g.1++[(⟨[118]++cP i,(z.1:Nat)⟩:gN).cells]).length,_) ⟨hlt,?_⟩ sO_ ?_ b_;rw[A];have e:tC (g.1++[⟨[118]++cP i,(z.1:Nat)⟩])=tC g.1++[(⟨[118]++cP i,(z.1:Nat)⟩:gN).cells]:=by simp[tC]
 simp only;rw[e];exact h6;exact Lq;have w:¬(i:Int)<(n:Nat):=Om;have:i=n:=Om;subst this;simp only[go_sem,w];exact hK x _ _ (YW rfl rfl rfl rfl rfl) y
def TL(l:N_)(v:PV)(o atH atJ a:Nat)(r:PV)(H:PH):Prop:=Co r (.agg (jJ l atH atJ a).1.cells)/\H=h_.set o (bB v (jJ l atH atJ a).2)
structure C9(C:Ctx):Prop extends rC C where
 grow:∀(l:N_)(v:PV),Tp l v->∀(mc atH:Nat),0<mc->mc<=1000->atH<=60->lg C l v mc atH 4
theorem Tz(S:C9 C){l:N_}{v:PV}(T:Tp l v)(o atH atJ a:Nat)(Δ:atH<=60)(Ψ:atJ<=50)(ha:a<=Z' l) :
  b8.wp C (aW eK.res (TL l v o atH atJ a)) (g_ [.ptr o 2 0 0,.j atH,.j atJ]) (h_.set o (bB v a)):=by
 have hT:jJ l atH atJ a=jJ l atH atJ a:=rfl
 conv at hT=>rhs;unfold jJ
 dsimp only at hT;have hR:∀r H,TL l v o atH atJ a r H↔Co r (.agg (jJ l atH atJ a).1.cells)/\H=h_.set o (bB v (jJ l atH atJ a).2):=λ_ _=>Iff.rfl;have ne:=cK l (show 0<2 by decide) a;have ae:=bU l 2 ha;generalize he:aG l 2 a=e at *
 have Ω:=cK l (show 0<2 by decide) e.2;have ζ:=bU l 2 ae;generalize Θ:aG l 2 e.2=R at *
 obtain⟨U,δ⟩:=OX l ζ (1+R.1);generalize α:jP l R.2 (1+R.1)=atQ at *
 have a':=cK l (show 0<2 by decide) atQ.2;have η:=bU l 2 U;generalize Λ:aG l 2 atQ.2=u at *
 obtain⟨V,Z⟩:=EO l (1+R.1) η (1+u.1);generalize X:fV l (1+R.1) u.2 (1+u.1)=atI at *
 have κ:GOk l atH ⟨[pM],[],atI.2⟩:=⟨by simp,auY _,V⟩;obtain⟨hG,-⟩:=OL (mc:=1+u.1) 4 0 κ;generalize hg:gM l (1+u.1) atH 4 0 ⟨[pM],[],atI.2⟩=g at *
 have b':=cK l (show 0<2 by decide) g.a;have θ:=bU l 2 hG.a;generalize Φ:aG l 2 g.a=pl at *
 obtain⟨W,ε⟩:=zT l (1+u.1) θ (1+pl.1);generalize β:fG l (1+u.1) pl.2 (1+pl.1)=pols at *
 have c':=cK l (Om:0<atJ+1) pols.2;have σ:=bU l (atJ+1) W;generalize ο:aG l (atJ+1) pols.2=vo at *
 generalize γ:fX l (1+pl.1) vo.2 vo.1=vols at *
 have ee:i_.wrap (1+(e.1:Int))=((1+e.1:Nat):Int):=wO_
 have τ:i_.wrap (1+(R.1:Int))=((1+R.1:Nat):Int):=wO_
 have υ:i_.wrap (1+(u.1:Int))=((1+u.1:Nat):Int):=wO_
 have χ:i_.wrap (1+(pl.1:Int))=((1+pl.1:Nat):Int):=wO_
 have ψ:i_.wrap ((atJ:Int)+1)=((atJ+1:Nat):Int):=eC Om;have h0:aQ (h_.set o (bB v a)) [(o,bB v a)] []:=aQ.nil.new (H:=h_) rfl (bB v a);simp only[go_sem,b8,eK];refine aS λo6 μ=>?_;have w:=h0.new μ flZ;simp only[go_sem];refine dQ S.toyV T (o:=o) (n:=2) (a:=a) aU ha rfl (w.at 0 rfl) ?_;have A:=w.set 0 rfl (bB v e.2);rw[he];simp only[go_sem,ee];refine aS λo7 ν=>?_;have K:=A.new ν (flB (.j (1+e.1:Nat)) .aJ .aJ .aJ .aJ .aJ .aJ);simp only[go_sem,avL,avY,or_false,forall_eq,forall_eq_or_imp];refine dQ S.toyV T (o:=o) (n:=2) (a:=e.2) aU ae rfl (K.at 0 rfl) ?_;have h4:=K.set 0 rfl (bB v R.2);rw[Θ];have h5:=h4.perm (B':=FE.boxes ⟨o,o6,o7,atH,atJ⟩ v (.j (1+e.1:Nat)) .aJ .aJ .aJ .aJ .aJ .aJ R.2) (L':=[]) (axY.cons _ (axY.swap _ _ _)) (axY.refl _);obtain⟨E,i⟩:∃E:FE,E=⟨o,o6,o7,atH,atJ⟩:=⟨_,rfl⟩;rw[<-i]at h5;simp only[go_sem,τ];refine Y8 (C:=C) S.torC T E (1+R.1) R.2 Om ζ _ _ _ _ ?_ h5 ?_
 ·rw[i];unfold iP;exact Lq
 clear h5 h4 K A w h0 μ ν;intro y F1 H1 M w;rw[α]at w;have f0:F1 0=some (.ptr o 2 0 0):=M 0 _ (by rw[i];unfold iP;simp only[go_sem]);have f1:F1 1=some (.j atH):=M 1 _ (by rw[i];unfold iP;simp only[go_sem]);have f2:F1 2=some (.j atJ):=M 2 _ (by rw[i];unfold iP;simp only[go_sem]);have f6:F1 6=some (.ptr o6 7 0 0):=M 6 _ (by rw[i];unfold iP;simp only[go_sem]);have f7:F1 7=some (.ptr o7 7 0 0):=M 7 _ (by rw[i];unfold iP;simp only[go_sem]);have q0:=w.at 0 rfl;rw[i]at q0;simp only[go_sem,f0];refine dQ S.toyV T (o:=o) (n:=2) (a:=atQ.2) aU U rfl q0 ?_;have A:=w.set 0 rfl (bB v u.2);rw[Λ];simp only[go_sem,υ];refine O2 (C:=C) S.torC T E (1+u.1) u.2 (1+R.1) Om Om η (.j (1+e.1:Nat)) y atQ.1 δ _ _ _ ?_ (by rw[i]at A ⊢;exact A) ?_
 ·rw[i];unfold iP;exact Lq
 clear q0 A w f0 f1 f2 f6 f7 M;intro w2 F2 H2 N f11 A;rw[X]at A;have f0:F2 0=some (.ptr o 2 0 0):=N 0 _ (by rw[i];unfold iP;simp only[go_sem]);have f1:F2 1=some (.j atH):=N 1 _ (by rw[i];unfold iP;simp only[go_sem]);have f2:F2 2=some (.j atJ):=N 2 _ (by rw[i];unfold iP;simp only[go_sem]);have f6:F2 6=some (.ptr o6 7 0 0):=N 6 _ (by rw[i];unfold iP;simp only[go_sem]);have f7:F2 7=some (.ptr o7 7 0 0):=N 7 _ (by rw[i];unfold iP;simp only[go_sem]);obtain⟨qm,ξ⟩:=(A.own 1 rfl).one (by rw[auW];omega);rw[auW,Z]at ξ;subst ξ;have ω:(1:Nat)*7<=16777216:=by decide
 simp only[go_sem];refine aB (S.int 0 (by unfold eI;omega)) rfl ?_;simp only[go_sem,avL,avY,or_false,forall_eq,forall_eq_or_imp,ω];refine aS λod Ξ=>?_;have K:=A.Ph (s:=7) (rows:=nC [pM]) Ξ;have b7:=A.at 1 rfl;rw[i]at b7;have n7:¬o7=od:=by have:=K.neL 1 2 rfl rfl rfl;rw[i]at this;exact this
 simp only[go_sem,f7,b7,n7,avL,avY,or_false,forall_eq];have h4:=(K.set 1 rfl (flB (.j (1+e.1:Nat)) y (.osl qm 4 0 (1+u.1)) (.osl od 7 0 1) .aJ .aJ .aJ)).nT 3;rw[i]at h4;have h5:=h4.perm (B':=(GE.mk o o7 qm (.j (1+e.1:Nat)) y .aJ .aJ).boxes v (1+u.1) (.osl od 7 0 1) .aJ atI.2++[(o6,flZ)]) (L':=pJ ⟨[pM],[],atI.2⟩ (.osl od 7 0 1) .aJ++[(y,4,jY atQ.1),(.osl qm 4 0 (1+u.1),4,mN atI.1)]) (axY.refl _)
  (List.perm_append_comm (l₁:=[(y,4,jY atQ.1),(.osl qm 4 0 (1+u.1),4,mN atI.1)]) (l₂:=pJ ⟨[pM],[],atI.2⟩ (.osl od 7 0 1) .aJ))
 simp only[go_sem,f0,f1,f7];refine LN h5 (λH0 Γ=>S.grow l v T (1+u.1) atH Om Om Δ (GE.mk o o7 qm (.j (1+e.1:Nat)) y .aJ .aJ) (.osl od 7 0 1) .aJ ⟨[pM],[],atI.2⟩ 0 pM κ rfl rfl H0 Γ) (by simp only[go_sem,f0,f1,f7];rfl) ?_;rintro r B' L' H3 ⟨rfl,F,J,rfl,rfl⟩ h6;rw[hg]at h6;have h7:=h6.perm (B':=E.boxes v (.j (1+e.1:Nat)) y (.osl qm 4 0 (1+u.1)) F J .aJ .aJ g.a) (L':=[(y,4,jY atQ.1),(.osl qm 4 0 (1+u.1),4,mN atI.1),(F,7,nC g.atT),(J,3,qB g.auD)]) (by rw[i];exact axY.refl _)
  (List.perm_append_comm (l₁:=pJ g F J) (l₂:=[(y,4,jY atQ.1),(.osl qm 4 0 (1+u.1),4,mN atI.1)]))
 have q0:=h7.at 0 rfl;rw[i]at q0;simp only[go_sem,f0];refine dQ S.toyV T (o:=o) (n:=2) (a:=g.a) aU hG.a rfl q0 ?_;have h8:=h7.set 0 rfl (bB v pl.2);rw[Φ];simp only[go_sem,χ];refine F8 (C:=C) S.torC T E (1+u.1) (1+pl.1) pl.2 Om Om Om θ ((1+e.1:Nat):Int) y (.osl qm 4 0 (1+u.1)) F J atQ.1 atI.1 g.atT g.auD _ _ _ (by rw[i];exact⟨by simp only[go_sem,f0],by simp only[go_sem,f1],by simp only[go_sem,f2],by simp only[go_sem,f6],by simp only[go_sem,f7],by simp only[go_sem,f11],s_,by simp only[go_sem];rfl⟩) (by rw[i]at h8 ⊢;exact h8) ?_;clear h8 h7 h6 h5 h4 K A q0 b7 f0 f1 f2 f6 f7 N;intro w5 F4 H4 O w;rw[β]at w;have f0:F4 0=some (.ptr o 2 0 0):=O 0 _ (by rw[i];unfold iP;simp only[go_sem]);have f1:F4 1=some (.j atH):=O 1 _ (by rw[i];unfold iP;simp only[go_sem]);have f2:F4 2=some (.j atJ):=O 2 _ (by rw[i];unfold iP;simp only[go_sem]);have f6:F4 6=some (.ptr o6 7 0 0):=O 6 _ (by rw[i];unfold iP;simp only[go_sem]);have f7:F4 7=some (.ptr o7 7 0 0):=O 7 _ (by rw[i];unfold iP;simp only[go_sem]);have q0:=w.at 0 rfl;rw[i]at q0;simp only[go_sem,f0,f2,ψ];refine dQ S.toyV T (o:=o) (n:=atJ+1) (a:=pols.2) Om W rfl q0 ?_;have A:=w.set 0 rfl (bB v vo.2);rw[ο];have K:=A.perm (B':=E.boxes v (.j (1+e.1:Nat)) y (.osl qm 4 0 (1+u.1)) F J w5 .aJ vo.2) (L':=(w5,17,pL pols.1)::[(y,4,jY atQ.1),(.osl qm 4 0 (1+u.1),4,mN atI.1),(F,7,nC g.atT),(J,3,qB g.auD)]) (axY.refl _)
  (List.perm_append_comm (l₁:=[(y,4,jY atQ.1),(.osl qm 4 0 (1+u.1),4,mN atI.1),(F,7,nC g.atT),(J,3,qB g.auD)]) (l₂:=[(w5,17,pL pols.1)]))
 simp only[go_sem];refine Jr (C:=C) S.torC T E (1+pl.1) vo.1 vo.2 Om Om σ _ _ _ _ _ w5 pols.1 ε _ _ _ _ ?_ (by rw[i]at K ⊢;exact K) ?_
 ·rw[i];unfold iP;exact Lq
 clear K A w q0 f0 f1 f2 f6 f7 O;intro w6 F5 H5 ι w;rw[γ]at w;have f6:F5 6=some (.ptr o6 7 0 0):=ι 6 _ (by rw[i];unfold iP;simp only[go_sem]);have f7:F5 7=some (.ptr o7 7 0 0):=ι 7 _ (by rw[i];unfold iP;simp only[go_sem]);rw[i]at w;have b7:=w.at 1 rfl;have b6:=w.at 2 rfl;have one:∀(x:PV),x∈[y,F,J,w5,w6]->(∃q s n,x=.osl q s 0 n)\/x=.aJ:=by
  intro x hx;have Y:∀{s:Nat}{rows:P2_},bF H5 s x rows->(∃q s n,x=.osl q s 0 n)\/x=.aJ:=by
   rintro s rows (⟨_,h⟩|⟨q,rs,h,_⟩)
   ·exact .inr h
   ·exact .inl ⟨q,s,_,h⟩
  simp only[avL,avY,or_false]at hx;rcases hx with rfl|rfl|rfl|rfl|rfl
  ·exact Y (w.own 1 rfl)
  ·exact Y (w.own 3 rfl)
  ·exact Y (w.own 4 rfl)
  ·exact Y (w.own 0 rfl)
  ·exact Y (w.own 5 rfl)
 have B:∀(x:PV),x∈[y,F,J,w5,w6]->PV.one x=true:=λx hx=>by rcases one x hx with⟨q,s,n,rfl⟩|rfl<;>rfl
 have o1:=B y aZ;have o3:=B F aZ;have o4:=B J aZ;have o5:=B w5 aZ;have ρ:=B w6 aZ;simp only[PV.one]at o1 o3 o4 o5 ρ;simp only[go_sem,f6,f7,b7,b6,avL,avY,or_false,forall_eq,forall_eq_or_imp,o1,o3,o4,o5,ρ];have A:=w.set 2 rfl (flB (.j (1+e.1:Nat)) y (.osl qm 4 0 (1+u.1)) F J w5 w6);have K:=A.sub (B':=[(o,bB v vols.2)]) (axN.cons_cons _ (List.nil_sublist _)) (axN.refl _);obtain⟨φ,H6,k1,k2,k3,k4⟩:=aQ.giveUp _ K (λx hx=>by
  simp only[ayQ,azA,avL,avY,or_false]at hx;rcases hx with rfl|rfl|rfl|rfl|rfl|rfl
  ·exact Lz _
  ·exact Lf _
  ·exact Lh _
  ·exact Ky _
  ·exact K0 _
  ·exact aiJ _) (λb hb q s rs=>by
  simp only[avL,avY,or_false]at hb;subst hb;simp only[aV.frz,awE,axD,T.frz];rfl)
 refine rO (vs:=[.agg [.j (1+e.1:Nat),y,.osl qm 4 0 (1+u.1),F,J,w5,w6]]) (.inr rfl) (by simp only[go_sem,f6]) (k4 _ _ (.done (H2:=h_.set o (bB v vols.2)) ?_ (e_ a_ (k3.at 0 rfl))));rw[hR,hT];refine⟨CoL.agg ?_,rfl⟩;have s5:=k1 (w5,17,pL pols.1) aZ;have s1:=k1 (y,4,jY atQ.1) aZ;have s2:=k1 (.osl qm 4 0 (1+u.1),4,mN atI.1) aZ;have s3:=k1 (F,7,nC g.atT) aZ;have s4:=k1 (J,3,qB g.auD) aZ;have s6:=k1 (w6,2,tC vols.1) aZ;have s0:φ (.j (1+e.1:Nat))=.j (1+e.1:Nat):=k2 _ rfl;show CoL [φ (.j (1+e.1:Nat)),φ y,φ (.osl qm 4 0 (1+u.1)),φ F,φ J,φ w5,φ w6] _;rw[s0];exact CoL.cons (.refl _) (CoL.cons s1.co (CoL.cons s2.co (CoL.cons s3.co (CoL.cons s4.co (CoL.cons s5.co (CoL.cons s6.co .nil))))))
structure Ru(C:Ctx):Prop extends C9 C where
 new:∀(l:N_),(∀x∈l,x<256)->Z' l<=9223372036854775807->aH C 28 [.sl 1 (kG l)] .nil (uq l)
 fleet:∀(l:N_)(v:PV),Tp l v->∀(o atH atJ a:Nat),atH<=60->atJ<=50->a<=Z' l ->
  aH C 0 [.ptr o 2 0 0,.int .i64 atH,.int .i64 atJ] (h_.set o (bB v a)) (λr H=>r=.agg (jJ l atH atJ a).1.cells/\H=h_.set o (bB v (jJ l atH atJ a).2))
theorem TL.exact{name:Nat}{args:V_}{H:PH}{l:N_}{v:PV}{o atH atJ a:Nat}(h:aH C name args H (TL l v o atH atJ a)):aH C name args H (λr H=>r=.agg (jJ l atH atJ a).1.cells/\H=h_.set o (bB v (jJ l atH atJ a).2)):=
 h.post λr H' e=>⟨_,e.1,rfl,e.2⟩
theorem Tx(y:Ru C)(l:N_)(hb:∀x∈l,x<256)(B:Z' l<=9223372036854775807)(atH atJ:Nat)(i:atH<=60)(w:atJ<=50) :
  bv.wp C (aW pw.res (cC (.agg (jJ (l.take 400) atH atJ 0).1.cells))) (g_ [.sl 1 (kG l),.j atH,.j atJ]) .nil:=by
 simp only[go_sem,bv,pw];refine aS λo6 E=>?_;simp only[go_sem];refine iS (y.new l hb B) rfl a_ ?_;rintro r H' ⟨o,v,rfl,T,rfl⟩ A;have u:¬o6=o:=by intro e;subst e;have:=A o6 (bB v 0) (by rw[aP,aF rfl]) rfl;rw[aP,aF rfl]at this;cases this
 rw[PH.pG];simp only[go_sem];refine oV (y.fleet _ v T o atH atJ 0 i w (auY _)) (by rw[aP,aF rfl]) rfl ?_;simp only[go_sem,u];exact bC (vs:=[.agg (jJ (l.take 400) atH atJ 0).1.cells]) (.inr rfl) .nil Sq a_ ⟨.refl _,rfl⟩
theorem CoL.arN:CoL [] []:=⟨rfl,λj p q h=>by simp at h⟩
theorem CoL.No{p q:PV}{ps i:V_}(h:Co p q)(e:CoL ps i):CoL (p::ps) (q::i):=by
 refine⟨by simp[e.len],λj x y a b=>?_⟩;cases j with
 |zero =>simp only[List.getElem?_cons_zero,awV.injEq]at a b;subst a;subst b;exact h
 |succ j=>exact e.at_ j x y (by simpa using a) (by simpa using b)
theorem aH.seen{name:Nat}{args:V_}{H:PH}{v:PV}(h:aH C name args H (cC v)):aH C name args H (aL v):=
 h.post λr H' e=>⟨v,e.1,rfl,e.2⟩
def ZH(x:RF):Bool:=(x.num.all (λn=>decide (n<4294967296))&&x.den.all λn=>decide (n<4294967296))&&(decide (Z' x.num<=9)&&decide (Z' x.den<=9))
theorem QZ{x:RF}(h:ZH x=true):x.Ok:=by
 simp only[ZH,avE,awA,dT_]at h;exact⟨h.1.1,h.1.2,by omega,by omega⟩
def MX(l:List RF):Bool:=decide (Z' l<=9)&&l.all ZH
theorem IX{l:List RF}(h:MX l=true):mP l:=by
 simp only[MX,avE,awA,dT_]at h;exact⟨by unfold Fits;omega,λx e=>QZ (h.2 x e)⟩
def E8(x:cU):Bool:=(MX x.start&&MX x.exit)&&(decide (Z' x.atM<=9)&&x.atM.all MX)
theorem Th{x:cU}(h:E8 x=true):x.Ok:=by
 simp only[E8,avE,awA,dT_]at h;exact⟨IX h.1.1,IX h.1.2,by unfold Fits;omega,λr e=>IX (h.2.2 r e)⟩
def G9(x:cO):Bool:=(decide (eI x.k/\eI x.m/\eI x.auI)&&(decide (Z' x.atI<=9)&&x.atI.all λm=>decide (eI m)))&&(MX x.repair&&(ZH x.target&&ZH x.atU))
theorem Uu{x:cO}(h:G9 x=true):x.Ok:=by
 simp only[G9,avE,awA,dT_]at h;exact⟨h.1.1.1,h.1.1.2.1,h.1.1.2.2,by unfold Fits;omega,h.1.2.2,IX h.2.1,QZ h.2.2.1,QZ h.2.2.2⟩
def okB(f:aD):Bool:=(decide (Z' f.atQ<=99/\Z' f.atI<=99/\Z' f.atK<=99/\Z' f.atH<=99/\Z' f.atL<=99/\Z' f.atJ<=99)&&(f.atQ.all E8&&f.atL.all G9)) &&
 (f.atK.all (λx=>ZH x.atZ&&decide (eI x.level/\eI x.parent))&&(f.atH.all (λx=>decide (eI x.model/\eI x.machine))&&f.atJ.all λx=>decide (eI x.atW)))
theorem akM{f:aD}(h:okB f=true):f.Ok:=by
 simp only[okB,avE,awA,dT_]at h;obtain⟨⟨⟨y,A,B,E,F,J⟩,l,u⟩,i,w,h5⟩:=h;exact⟨by unfold Fits;omega,by unfold Fits;omega,by unfold Fits;omega,by unfold Fits;omega,by unfold Fits;omega,by unfold Fits;omega,λx e=>Th (l x e),λx e=>⟨QZ (i x e).1,(i x e).2⟩,w,λx e=>Uu (u x e),h5⟩
def lZ:=bP [43] Proofs.Tryz.f217
def XG:=aA lZ 8
def XH:=aA lZ 9
def SB:=aA lZ 10
def SC:=aA lZ 11
def SD:=aA lZ 12
def EY:=aA lZ 13
def EZ:=aA lZ 14
def dd:aI:=(sq (aA lZ 0) (sq (aA lZ 1) (sq (aA lZ 2) (.seq (dD (aA lZ 3) 0 (dY (aA lZ 4) 13 0 EZ (sq (aA lZ 5) (iH (aA lZ 6) 20 (.region (aA lZ 7)) (sq XG (sq XH (iH SB 35 (sq SC (.region SD)) (.region EY)))))))) (sq (aA lZ 15) .ret)))))
def qM:=bP [51] Proofs.Tryz.f242
def ki:=aA qM 5
def kj:=aA qM 6
def kk:=aA qM 7
def SE:=aA qM 8
def SF:=aA qM 9
def JK:=aA qM 10
def JL:=aA qM 11
def JM:=aA qM 12
def XJ:=aA qM 13
def tk:aI:=(sq (aA qM 0) (sq (aA qM 1) (sq (aA qM 2) (.seq (dD (aA qM 3) 0 (dY (aA qM 4) 22 0 JM (sq ki (iH kj 29 (.region kk) (iH SE 40 (.region SF) (sq JK (.region JL))))))) (sq XJ .ret)))))
def nK:=bP [] Proofs.Tryz.f216
def XL:=aA nK 4
def XM:=aA nK 5
def SG:aI:=(dY (aA nK 6) 25 2 (aA nK 9) (dq (eH nK 0) (sq (aA nK 7) (.region (aA nK 8)))))
def SH:=aA nK 10
def de:aI:=(sq (aA nK 0) (sq (aA nK 1) (.seq (dD (aA nK 2) 0 (dY (aA nK 3) 19 0 (aA nK 11) (sq XL (.seq (dD XM 2 SG) (.region SH))))) (sq (aA nK 12) .ret))))
def Qu:=bP [] Proofs.Tryz.f223
def Ak:=bV Qu
def Q5:=bP [] Proofs.Tryz.f225
def Ar:=bV Q5
def Q2:=bP [] Proofs.Tryz.f226
def Ao:=bV Q2
def Cn:=bP [] Proofs.Tryz.f214
def te:=bV Cn
def uup:=bP [35,42] Proofs.Tryz.f215
def Iv:=bV uup
def sP:=bP [47] Proofs.Tryz.f218
def kf:=aA sP 9
def XF:=aA sP 10
def tf:aI:=(sq (aA sP 0) (kB (aA sP 1) 12 (aA sP 2) (sq (aA sP 3) (.seq (dD (aA sP 4) 0 (dY (aA sP 5) 18 0 XF (sq (aA sP 6) (iH (aA sP 7) 30 (.region (aA sP 8)) (.region kf))))) (sq (aA sP 11) .ret)))))
def ud:=bP [1] Proofs.Tryz.f91
def di:=bV ud
def tu:=bP [1] Proofs.Tryz.f243
def df:=bV tu
def Cv:=bP [1] Proofs.Tryz.f224
def tq:=bV Cv
def ZR:=bP [1] Proofs.Tryz.f145
def XR:=bV ZR
def uc:=bP [] Proofs.Tryz.f189
def dh:=bV uc
def tz:=bP [2,3] Proofs.Tryz.f144
def dg:=bV tz
def Cw:=bP [2,3] Proofs.Tryz.f148
def tv:=bV Cw
def Cy:=bP [2,3] Proofs.Tryz.f143
def t6:=bV Cy
def Cz:=bP [1] Proofs.Tryz.f92
def t7:=bV Cz
def Iw:=bP [2,3] Proofs.Tryz.f188
def XN:=bV Iw
def BC:=bP [] Proofs.Tryz.f142
def Mp:=aA BC 0
def Mq:=aA BC 1
def Mr:=aA BC 2
def Ms:=aA BC 3
def Mt:=eH BC 0
def xh:=aA BC 4
def Mu:=aA BC 5
def Mv:=aA BC 6
def Mw:=aA BC 7
def Mo:aI:=(dY Ms 12 0 Mw (dq Mt (kB xh 25 Mu (.region Mv))))
def I1:=aA BC 8
def Aw:aI:=(sq Mp (sq Mq (.seq (dD Mr 0 Mo) (sq I1 .ret))))
def IZ:=bP [] Proofs.Tryz.f146
def wA:=bV IZ
def ZU:=bP [] Proofs.Tryz.f186
def XW:=bV ZU
def ug:=bP [] Proofs.Tryz.f222
def dj:=bV ug
def ZS:=bP [] Proofs.Tryz.f187
def XU:=bV ZS
def ZT:=bP [] Proofs.Tryz.f139
def XV:=bV ZT
theorem vS(P:N_)(v:Nat):aO P++[[.int .u32 (v:Int)]]=aO (P++[v]):=by simp[aO]
theorem vQ{P:N_}(h:Z' P<=35184372087808):roomFor (aO P).length 1 4:=by
 unfold roomFor;rw[cQ];simp only[maxLen];omega
def ZP(a b:N_)(v:PV)(c i:Nat):PF:=(((((n_.set 0 (aN a)).set 1 (aN b)).set 5 (v)).set 6 (.int .u64 c)).set 7 (.int .i64 i))
theorem We(L:vF C)(a b:N_)(ha:Lim a)(hb:Lim b)(η:val b<=val a)(hl:Z' b<=Z' a)(h1:Z' a<=35184372087808) :
  dd.wp C (aW lZ.res (cC (aN (aM (val a-val b))))) (g_ [aN a,aN b]) .nil:=by
 simp only[go_sem,dd,lZ];refine wp_loop (α:=N_ × T3_) (λs=>ZP a b s.2.2.1 s.2.1 s.1.length) (λs=>s.2.2.2)
  (λs=>s.1.length<=Z' a/\Lim s.1/\s.2.1<=1/\val (a.take s.1.length)+4294967296^s.1.length*s.2.1=val s.1+val (b.take s.1.length)/\bF s.2.2.2 1 s.2.2.1 (aO s.1)) (λs=>Z' a-s.1.length) ([],0,.aJ,.nil) ⟨by simp,by simp[Lim],by simp,by simp[val],.nil⟩ ?_ a_ ?_
 unfold ZP;exact Lq;rintro⟨P,c,v,H0⟩ ⟨hP,i,hc,B,W⟩;simp only at hP i hc B W ⊢;simp only[go_sem,ZP];by_cases X:Z' P<Z' a;have F:(Z' P:Int)<(Z' a:Nat):=Om;have ε:=ha _ (avB X);have δ:=cW a X;have β:(aO a)[Z' P]?=some [.int .u32 ((a[Z' P]:Nat):Int)]:=cG a X;generalize hx:a[Z' P]=x at *
 have ex:u_.wrap ((x:Nat):Int)=((x:Nat):Int):=bT Om;have fin:∀(t:Nat)(E:PF),t<4294967296->val (b.take (Z' P+1))=val (b.take P.length)+4294967296^P.length*t ->
   E 0=some (aN a)->E 1=some (aN b)->E 5=some v->E 8=some (.int .u64 (c+t:Nat))->E 7=some (.j P.length) ->
   ∀K:bZ,(∀A l v' V H2,Z' A=Z' P+1->Lim A->l<=1->val (a.take (Z' P+1))+4294967296^A.length*l=val A+val (b.take (Z' P+1))->(ZP a b v' l A.length).le V->bF H2 1 v' (aO A)->K .normal V H2) ->
   aI.wp C (.seq (.region XG) (.seq (.region XH) (.seq (.seq (.region SB) (.cond (.tmp 35) (.seq (.region SC) (.region SD)) .skip)) (.region EY)))) (fA 1 (fZ C (aI.wp C (.region EZ)) K)) E H0:=by
  intro t E ht w g0 g1 g5 g8 g7 K hK;have step:∀(d l:Nat),d<4294967296->l<=1->x+4294967296*l=d+(c+t)->val (a.take (Z' P+1))+4294967296^(Z' P+1)*l=val (P++[d])+val (b.take (Z' P+1)):=by
   intro d l hd ζ he;have h2:4294967296^P.length*(x+4294967296*l)=4294967296^P.length*(d+(c+t)):=by rw[he]
   rw[avQ,avQ,avQ]at h2;rw[mA,axE,awC,δ,w];omega
  simp only[go_sem,XG,g0,g7,β,ex,XH,SB,g8];by_cases c2:x<c+t;have J:((x:Nat):Int)<((c+t:Nat):Int):=Om;have R:u_.wrap ((x:Int)+4294967296)=((x+4294967296:Nat):Int):=by rw[show(x:Int)+4294967296=((x+4294967296:Nat):Int) by omega];exact bT Om
  have e2:u_.wrap (((x+4294967296:Nat):Int)-((c+t:Nat):Int))=((x+4294967296-(c+t):Nat):Int):=by rw[show((x+4294967296:Nat):Int)-((c+t:Nat):Int)=((x+4294967296-(c+t):Nat):Int) by omega];exact bT Om
  have N:IntKind.u32.wrap ((x+4294967296-(c+t):Nat):Int)=((x+4294967296-(c+t):Nat):Int):=by rw[dB,awT Om]
  have O:(1:Nat)*1<=16777216:=by decide
  simp only[go_sem,J,SC,R,SD,EY,g5,g8,e2,N,O];refine eX (src:=[[.int .u32 ((x+4294967296-(c+t):Nat):Int)]]) W rfl (vQ Om) λv' H' u _=>?_;rw[vS]at u;simp only[go_sem,EZ,g7,eC (Om:Z' P<9223372036854775807)];refine hK _ 1 v' _ H' aZ (i.app λy U=>by simp at U;subst U;omega) (avD _) ?_ ?_ u;rw[auZ,avG];exact step _ 1 Om (avD _) Om;unfold ZP;rw[auZ,avG];exact Lq;have J:¬((x:Nat):Int)<((c+t:Nat):Int):=Om;have e2:u_.wrap (((x:Nat):Int)-((c+t:Nat):Int))=((x-(c+t):Nat):Int):=by rw[show((x:Nat):Int)-((c+t:Nat):Int)=((x-(c+t):Nat):Int) by omega];exact bT Om
  have N:IntKind.u32.wrap ((x-(c+t):Nat):Int)=((x-(c+t):Nat):Int):=by rw[dB,awT Om]
  have O:(1:Nat)*1<=16777216:=by decide
  simp only[go_sem,J,EY,g5,g8,e2,N,O];refine eX (src:=[[.int .u32 ((x-(c+t):Nat):Int)]]) W rfl (vQ Om) λv' H' u _=>?_;rw[vS]at u;simp only[go_sem,EZ,g7,eC (Om:Z' P<9223372036854775807)];refine hK _ 0 v' _ H' aZ (i.app λy U=>by simp at U;subst U;omega) aU ?_ ?_ u;rw[auZ,avG];exact step _ 0 Om aU Om;unfold ZP;rw[auZ,avG];exact Lq
 simp only[aI.wp,go_sem]at fin;simp only[go_sem,F];by_cases Y:Z' P<Z' b;have M:(Z' P:Int)<(Z' b:Nat):=Om;have γ:=hb _ (avB Y);have w:=cW b Y;have eb:u_.wrap ((b[Z' P]:Nat):Int)=((b[Z' P]:Nat):Int):=bT Om;have es:u_.wrap ((c:Int)+(b[Z' P]:Int))=((c+b[Z' P]:Nat):Int):=gW Om;simp only[go_sem,M,cG b Y,eb,es];refine fin b[Z' P] _ γ w rfl rfl rfl rfl rfl _ ?_;intro A l v' V H2 R e2 N S Z e6;rw[<-R]at S;exact aE (α:=N_ × T3_) (A,l,v',H2) ⟨by simp only;omega,e2,N,S,e6⟩ sO_ Z b_;have M:¬(Z' P:Int)<(Z' b:Nat):=Om;have w:val (b.take (Z' P+1))=val (b.take P.length)+4294967296^P.length*0:=by rw[avT Om,avT Om];simp
 simp only[go_sem,M];refine fin 0 _ aU w rfl rfl rfl rfl rfl _ ?_;intro A l v' V H2 R e2 N S Z e6;rw[<-R]at S;exact aE (α:=N_ × T3_) (A,l,v',H2) ⟨by simp only;omega,e2,N,S,e6⟩ sO_ Z b_;have e:Z' P=Z' a:=Om;have F:¬(Z' P:Int)<(Z' a:Nat):=Om;have hV:val P=val a-val b:=by
  rw[e,avW,avT hl]at B;have hlt:=gV i;rw[e]at hlt;rcases axJ c with h|h
  subst h;omega;have:c=1:=Om;subst this;omega
 simp only[go_sem,F];have hs:=L.trim _ i Om;rw[hV]at hs;refine AF hs W rfl λF1 H1 _=>?_;simp only[go_sem];exact bC (.inr rfl) .nil rfl a_ ⟨.refl _,rfl⟩
def xY(a b:N_)(o i:Nat):PF:=((((n_.set 0 (aN a)).set 1 (aN b)).set 5 (.osl o 1 0 (Z' a+Z' b))).set 6 (.int .i64 i))
def utG(a b:N_)(o i c j:Nat):PF:=((((((n_.set 0 (aN a)).set 1 (aN b)).set 5 (.osl o 1 0 (Z' a+Z' b))).set 6 (.int .i64 i)).set 7 (.int .u64 c)).set 8 (.int .i64 j))
theorem Q6(a b:N_)(ha:Lim a)(hb:Lim b)(h1:Z' a<=35184372087808)(h2:Z' b<=35184372087808)(L:N_)(i:Nat)(hi:i<Z' a)(R:LP a b L i)(q:Nat)(K:bZ)(F:PF)(H:PH)(O:(xY a b q i).le F)(hH:H q=some (.rows 1 (aO L)))
  (hK:∀L' F' H',LP a b L' (i+1)->(xY a b q i).le F'->H' q=some (.rows 1 (aO L'))->K .normal F' H') :
  aI.wp C (.block 1 (.seq (.region XL) (.seq (.seq (.region XM) (.block 2 (.loop SG))) (.region SH)))) K F H:=by
 have f0:=O 0 _ (by unfold xY;simp only[go_sem];rfl);have f1:=O 1 _ (by unfold xY;simp only[go_sem];rfl);have f5:=O 5 _ (by unfold xY;simp only[go_sem];rfl);have f6:=O 6 _ (by unfold xY;simp only[go_sem];rfl);have hx:=ha _ (avB hi);have β:=cW a hi;generalize δ:a[i]=x at *
 have Y:(aO a)[i]?=some [.int .u32 ((x:Nat):Int)]:=by rw[cG a hi,δ]
 simp only[go_sem,XL,XM];refine wp_loop (α:=N_ × Nat × Nat) (λt=>utG a b q i t.2.1 t.2.2) (λt=>h_.set q (.rows 1 (aO t.1)))
  (λt=>t.2.2<=Z' b/\t.1.length=Z' a+Z' b/\Lim t.1/\t.2.1<4294967296/\val t.1+4294967296^(i+t.2.2)*t.2.1=val (a.take i)*val b+4294967296^i*(x*val (b.take t.2.2))/\∀j y,i+Z' b<=j->t.1[j]?=some y->y=0) (λt=>Z' b-t.2.2) (L,0,0)
  ⟨by simp,R.len,R.lim,by simp,by simp[val,R.v],R.z⟩ ?_ (e_ a_ hH) ?_
 unfold utG;exact Lq;rintro⟨M,c,j⟩ ⟨hj,X,l,hc,A,U⟩;simp only at hj X l hc A U;simp only[go_sem,SG,utG];by_cases V:j<Z' b;have B:(j:Int)<(Z' b:Nat):=Om;have S:=hb _ (avB V);have γ:=cW b V;generalize ε:b[j]=y at *
 have Z:(aO b)[j]?=some [.int .u32 ((y:Nat):Int)]:=by rw[cG b V,ε]
 have e:i+j<Z' M:=Om;have N:=l _ (avB e);have w:=NB e;generalize ζ:M[i+j]=z at *
 have J:(aO M)[i+j]?=some [.int .u32 ((z:Nat):Int)]:=by rw[cG M e,ζ]
 have ex:u_.wrap ((x:Nat):Int)=((x:Nat):Int):=bT Om;have ey:u_.wrap ((y:Nat):Int)=((y:Nat):Int):=bT Om;have ez:u_.wrap ((z:Nat):Int)=((z:Nat):Int):=bT Om;have em:=Lk hx S;have θ:x*y<=4294967295*4294967295:=ayA Om Om;have e1:u_.wrap (((x*y:Nat):Int)+(z:Int))=((x*y+z:Nat):Int):=gW Om;have e2:u_.wrap (((x*y+z:Nat):Int)+(c:Int))=((x*y+z+c:Nat):Int):=gW Om;have E:i_.wrap ((i:Int)+(j:Int))=((i+j:Nat):Int):=jM Om;have hlt:((i+j:Nat):Int)<((Z' a+Z' b:Nat):Int):=Om;generalize ht:x*y+z+c=t at *
 have η:t<4294967296*4294967296:=Om;have u:(aO M).set (i+j) [.int .u32 ((t%4294967296:Nat):Int)]=aO (M.set (i+j) (t%4294967296)):=iL M (i+j) _;simp only[go_sem,B];refine bK .nil cS a_ ?_;simp only[go_sem,Y,Z,ex,ey,em,E,hlt,J,ez,e1,e2,dB,u,EV,wZz j];refine aE (M.set (i+j) (t%4294967296),t/4294967296,j+1) ⟨by simp only;omega,by simp only[awS];exact X,l.set _ (awY _ aU),by simp only;omega,?_,uj U _ _ Om⟩ sO_ ?_ (e_ a_ Sq);simp only;have W:=w (t%4294967296);have h4:4294967296^(i+(j+1))*(t/4294967296)+4294967296^(i+j)*(t%4294967296)=4294967296^(i+j)*t:=by rw[<-axL,axE,awC,<-avQ,azF]
 have h5:4294967296^(i+j)*t=4294967296^(i+j)*(x*y)+4294967296^(i+j)*z+4294967296^(i+j)*c:=by rw[<-ht,avQ,avQ]
 have h6:4294967296^i*(x*val (b.take (j+1)))=4294967296^i*(x*val (b.take j))+4294967296^(i+j)*(x*y):=by rw[γ,avQ,avQ,Nat.pow_add];congr 1;rw[Nat.mul_left_comm x,awC]
 omega;exact Lq;have he:j=Z' b:=Om;have B:¬(j:Int)<(Z' b:Nat):=Om;subst he;have e:i+Z' b<Z' M:=Om;have N:M[i+Z' b]=0:=U _ _ (avD _) (avF e);have w:=NB e;have J:(aO M)[i+Z' b]?=some [.int .u32 ((0:Nat):Int)]:=by rw[cG M e,N]
 have E:i_.wrap ((i:Int)+(Z' b:Int))=((i+Z' b:Nat):Int):=jM Om;have hlt:((i+Z' b:Nat):Int)<((Z' a+Z' b:Nat):Int):=Om;have u:(aO M).set (i+Z' b) [.int .u32 ((c%4294967296:Nat):Int)]=aO (M.set (i+Z' b) c):=by rw[awT hc];exact iL M _ _
 simp only[go_sem,B,SH,E,dB,hlt,J,u];refine hK (M.set (i+Z' b) c) _ _ ⟨by rw[awS];exact X,l.set _ hc,?_,λj y hj S=>?_⟩ (by unfold xY;exact Lq) Sq;have W:=w c;rw[N,Nat.mul_zero,awQ]at W;rw[W,A,avW,β,awO,awC];rw[List.getElem?_set_ne Om]at S;exact U j y Om S
theorem Wh(L:vF C)(a b:N_)(R:Lim a)(hb:Lim b)(W:Z' a<=8388608)(X:Z' b<=8388608) :
  de.wp C (aW nK.res (cC (aN (aM (val a*val b))))) (g_ [aN a,aN b]) .nil:=by
 have w:i_.wrap ((Z' a:Int)+(Z' b:Int))=((Z' a+Z' b:Nat):Int):=jM Om;have E:((Z' a+Z' b:Nat):Int)*((4:Nat):Int)<=140737488355328:=Om;have F:((Z' a+Z' b:Nat):Int)<=9223372036854775807:=Om;have S:avA (Z' a+Z' b) [PV.int .u32 0]=aO (avA (Z' a+Z' b) 0):=by simp[aO]
 simp only[go_sem,de,nK,auW,w,E,F,S];refine aS λo Y=>?_;simp only[go_sem];refine wp_loop (α:=N_ × Nat) (λt=>xY a b o t.2) (λt=>h_.set o (.rows 1 (aO t.1))) (λt=>t.2<=Z' a/\LP a b t.1 t.2) (λt=>Z' a-t.2) (avA (Z' a+Z' b) 0,0)
  ⟨by simp,by simp,CM _,by simp[val,yP],λj x _ K=>by rw[List.getElem?_replicate]at K;split at K<;>simp_all⟩ ?_ (e_ a_ Sq) ?_
 unfold xY;exact Lq;rintro⟨M,i⟩ ⟨hi,l⟩;simp only at hi l;simp only[go_sem,xY];by_cases N:i<Z' a;have u:(i:Int)<(Z' a:Nat):=Om;have y:=Q6 (C:=C) a b R hb Om Om M i N l o;simp only[go_sem]at y;simp only[go_sem,u];refine y _ _ _ (by unfold xY;exact Lq) Sq ?_;intro L' U H' B e A;have O:=e 6 _ (by unfold xY;simp only[go_sem];rfl);have g0:=e 0 _ (by unfold xY;simp only[go_sem];rfl);have g1:=e 1 _ (by unfold xY;simp only[go_sem];rfl);have V:=e 5 _ (by unfold xY;simp only[go_sem];rfl);simp only[go_sem,O,wZz i];refine aE (L',i+1) ⟨by simp only;omega,B⟩ sO_ ?_ (e_ a_ A);exact Lq;have he:i=Z' a:=Om;subst he;have u:¬(Z' a:Int)<(Z' a:Nat):=Om;have hV:val M=val a*val b:=by rw[l.v,avW]
 simp only[go_sem];have J:=L.trim _ l.lim (by rw[l.len];omega);rw[hV]at J;refine wE (o:=o) (s:=1) (k:=Z' a+Z' b) (rs:=aO M) (v:=aN (aM (val a*val b))) ?_ rfl Sq (by rw[cQ,l.len];exact avD _) ?_;rw[avT (by rw[cQ,l.len];exact avD _)];exact J;simp only[go_sem];exact bC (.inr rfl) .nil rfl a_ ⟨.refl _,rfl⟩
structure Dd(C:Ctx):Prop extends Db C where
 minus:∀a b,Lim a->Lim b->val b<=val a->Z' b<=Z' a->Z' a<=35184372087808->aH C 42 [aN a,aN b] .nil (aL (aN (aM (val a-val b))))
 times:∀a b,Lim a->Lim b->Z' a<=8388608->Z' b<=8388608->aH C 44 [aN a,aN b] .nil (aL (aN (aM (val a*val b))))
theorem aiD(L:Dd C)(a b:N_)(u:Lim a)(hb:Lim b)(y:Z' a<=35184372087808)(A:Z' b<=35184372087808) :
  Ao.wp C (aW Q2.res (cC (opV (fK (val a) (val b)) (val a*val b)))) (g_ [aN a,aN b]) .nil:=by
 unfold opV;simp only[go_sem,Ao,Q2];refine aB (L.large a u y) rfl ?_;by_cases i:nl (val a)>512;simp only[go_sem,i];rw[aF (by simp[fK,i])];exact gI rfl;simp only[go_sem,i];refine aB (L.large b hb A) rfl ?_;by_cases l:nl (val b)>512;simp only[go_sem,l];rw[aF (by simp[fK,l])];exact gI rfl;rw[aC (by simp[fK,i,l])];simp only[go_sem,l];refine aB (L.trim a u y) rfl ?_;simp only[go_sem];refine aB (L.trim b hb A) rfl ?_;simp only[go_sem];have x:=L.times (aM (val a)) (aM (val b)) (bE _) (bE _) (by rw[bJ];omega) (by rw[bJ];omega);rw[aY,aY]at x;refine aB x rfl ?_;have B:=pF (a:=val a) (b:=val b) (m:=512) (n:=512) Om Om;have w:=L.large (aM (val a*val b)) (bE _) (by rw[bJ];omega);rw[aY]at w;simp only[go_sem];refine aB w rfl ?_;unfold szV szL szE;by_cases e:nl (val a*val b)>512;rw[aF e,aF e];simp only[go_sem,e];exact gI rfl;rw[aC e,aC e];simp only[go_sem,e];exact bC (.inr rfl) .nil rfl a_ ⟨.refl _,rfl⟩
def DW(a:N_)(i:Nat):Nat:=a.getD i 0
theorem D3{a:N_}(h:Lim a)(i:Nat):DW a i<4294967296:=by
 unfold DW;rw[avI];rcases avX i a.length with h1|h1
 rw[avF h1];exact h _ (avB h1);rw[awN h1];decide
theorem fa{a:N_}{i:Nat}(h:i<Z' a):DW a i=a[i]:=by simp[DW,avI,h]
theorem UJ{a:N_}{i:Nat}(h:¬i<Z' a):DW a i=0:=by simp[DW,avI,h]
theorem XO(a:N_)(i:Nat):val (a.take (i+1))=val (a.take i)+4294967296^i*DW a i:=by
 rcases avX i a.length with h|h
 rw[fa h];exact cW a h;rw[UJ Om,avT Om,avT Om];simp
def AB(a b:N_)(v:PV)(c i:Nat):PF:=(((((n_.set 0 (aN a)).set 1 (aN b)).set 5 (v)).set 6 (.int .u64 c)).set 7 (.int .i64 i))
theorem abY(L:vF C)(a b:N_)(ha:Lim a)(hb:Lim b)(h1:Z' a<=8388608)(h2:Z' b<=8388608) :
  tk.wp C (aW qM.res (cC (aN (aM (val a+val b))))) (g_ [aN a,aN b]) .nil:=by
 simp only[go_sem,tk,qM];refine wp_loop (α:=N_ × T3_) (λs=>AB a b s.2.2.1 s.2.1 s.1.length) (λs=>s.2.2.2)
  (λs=>s.1.length<=max a.length b.length+1/\(s.1.length<=max a.length b.length\/s.2.1=0)/\Lim s.1/\s.2.1<=1/\val s.1+4294967296^s.1.length*s.2.1=val (a.take s.1.length)+val (b.take s.1.length)/\bF s.2.2.2 1 s.2.2.1 (aO s.1)) (λs=>max a.length b.length+1-s.1.length) ([],0,.aJ,.nil)
  ⟨by simp,by simp,by simp[Lim],by simp,by simp[val],.nil⟩ ?_ a_ ?_
 unfold AB;exact Lq;rintro⟨P,c,v,H0⟩ ⟨hP,η,u,hc,M,hO⟩;simp only at hP η u hc M hO ⊢;have ν:=D3 ha P.length;have ξ:=D3 hb P.length;have κ:=XO a P.length;have μ:=XO b P.length;generalize hx:DW a P.length=x at *
 generalize hy:DW b P.length=y at *
 have ex:u_.wrap ((x:Nat):Int)=((x:Nat):Int):=bT Om;have ey:u_.wrap ((y:Nat):Int)=((y:Nat):Int):=bT Om;have S:u_.wrap ((c:Int)+(x:Int))=((c+x:Nat):Int):=gW Om;have e2:u_.wrap (((c+x:Nat):Int)+(y:Int))=((c+x+y:Nat):Int):=gW Om;have ι:Z' P<Z' a->(aO a)[Z' P]?=some [.int .u32 ((x:Nat):Int)]:=λh=>by rw[cG a h,<-hx,fa h]
 have γ:Z' P<Z' b->(aO b)[Z' P]?=some [.int .u32 ((y:Nat):Int)]:=λh=>by rw[cG b h,<-hy,fa h]
 have δ:¬Z' P<Z' a->x=0:=λh=>by rw[<-hx,UJ h]
 have U:¬Z' P<Z' b->y=0:=λh=>by rw[<-hy,UJ h]
 have body:(Z' P<=max a.length b.length)->∀K:bZ,(∀l A v' V H2,Z' l=Z' P+1->Lim l->A<=1->(Z' P+1<=max a.length b.length\/A=0)->val l+4294967296^l.length*A=val (a.take (Z' P+1))+val (b.take (Z' P+1))->(AB a b v' A l.length).le V->bF H2 1 v' (aO l)->K .normal V H2) ->
   ∀F:PF,(AB a b v c P.length).le F->aI.wp C (.seq (.block 1 (.seq (.region ki) (.seq (.seq (.region kj) (.cond (.tmp 29) (.region kk) .skip)) (.seq (.seq (.region SE) (.cond (.tmp 40) (.region SF) .skip)) (.seq (.region JK) (.region JL)))))) (.region JM)) K F H0:=by
  intro ο K hK F Z;have g0:F 0=some (aN a):=Z 0 _ (by unfold AB;simp only[go_sem]);have g1:F 1=some (aN b):=Z 1 _ (by unfold AB;simp only[go_sem]);have g5:F 5=some v:=Z 5 _ (by unfold AB;simp only[go_sem]);have g6:F 6=some (.int .u64 c):=Z 6 _ (by unfold AB;simp only[go_sem]);have B:F 7=some (.j P.length):=Z 7 _ (by unfold AB;simp only[go_sem]);have fin:∀N:PF,N 0=some (aN a)->N 1=some (aN b)->N 5=some v->N 7=some (.j P.length)->N 8=some (.int .u64 (c+x+y:Nat)) ->
    aI.wp C (.seq (.region JK) (.region JL)) (fA 1 (fZ C (aI.wp C (.region JM)) K)) N H0:=by
   intro N q0 q1 q5 q7 q8;have θ:(1:Nat)*1<=16777216:=by decide
   generalize ht:c+x+y=t at *
   have ρ:t<2*4294967296:=Om;simp only[go_sem,JK,q5,q8,θ,dB];refine eX (src:=[[.int .u32 ((t%4294967296:Nat):Int)]]) hO rfl (vQ Om) λv' H' β _=>?_;rw[vS]at β;simp only[go_sem,JL,q8,EV,JM,q7,eC (Om:Z' P<9223372036854775807)];refine hK (P++[t%4294967296]) (t/4294967296) v' _ H' aZ (u.app λy hy=>by simp at hy;subst hy;omega) Om ?_ ?_ ?_ β;rcases avX P.length (max a.length b.length)with h|h
   exact .inl h;right;have h1:=δ Om;have h2:=U Om;omega;rw[mA,auZ,avG,κ,μ,axE,awC,axL,<-avQ];rw[show t%4294967296+4294967296*(t/4294967296)=t from Nat.mod_add_div t 4294967296];have h3:4294967296^P.length*t=4294967296^P.length*c+4294967296^P.length*x+4294967296^P.length*y:=by rw[<-ht,avQ,avQ]
   omega;unfold AB;rw[auZ,avG];exact Lq
  simp only[aI.wp,go_sem]at fin;simp only[go_sem,ki,g6,kj,B,g0];by_cases c1:Z' P<Z' a;have i:(Z' P:Int)<(Z' a:Nat):=Om;simp only[go_sem,i,kk,g0,B,ι c1,ex,S,SE,g1];by_cases O:Z' P<Z' b;have e:(Z' P:Int)<(Z' b:Nat):=Om;simp only[go_sem,e,SF,g1,B,γ O,ey,e2];exact fin _ (by simp only[go_sem,g0]) (by simp only[go_sem,g1]) (by simp only[go_sem,g5]) (by simp only[go_sem,B]) rfl;have e:¬(Z' P:Int)<(Z' b:Nat):=Om;have h0:=U O;simp only[go_sem,e];exact fin _ (by simp only[go_sem,g0]) (by simp only[go_sem,g1]) (by simp only[go_sem,g5]) (by simp only[go_sem,B]) (by simp only[go_sem,h0]);have i:¬(Z' P:Int)<(Z' a:Nat):=Om;have h0:=δ c1;simp only[go_sem,i,SE,g1,B];by_cases O:Z' P<Z' b;have e:(Z' P:Int)<(Z' b:Nat):=Om;have ε:u_.wrap ((c:Int)+(y:Int))=((c+x+y:Nat):Int):=by rw[h0];exact gW Om
  simp only[go_sem,e,SF,g1,B,γ O,ey,ε];exact fin _ (by simp only[go_sem,g0]) (by simp only[go_sem,g1]) (by simp only[go_sem,g5]) (by simp only[go_sem,B]) rfl;have e:¬(Z' P:Int)<(Z' b:Nat):=Om;have ζ:=U O;simp only[go_sem,e];exact fin _ (by simp only[go_sem,g0]) (by simp only[go_sem,g1]) (by simp only[go_sem,g5]) (by simp only[go_sem,B]) (by simp only[go_sem,h0,ζ])
 simp only[aI.wp,go_sem]at body;have w:¬Z' P<Z' a->¬Z' P<Z' b->c=0->∀F:PF,F 5=some v->aI.wp C (.seq (.region XJ) .ret) (aW [.tmp 4] (cC (aN (aM (val a+val b))))) F H0:=by
  intro n1 n2 n3 F f5;have hV:val P=val a+val b:=by rw[n3,avT Om,avT Om]at M;omega
  have hs:=L.trim _ u Om;rw[hV]at hs;simp only[go_sem,XJ,f5];refine AF hs hO rfl λF1 H1 _=>?_;simp only[go_sem];exact bC (.inr rfl) .nil rfl a_ ⟨.refl _,rfl⟩
 simp only[aI.wp,go_sem]at w;simp only[go_sem,AB];by_cases c1:Z' P<Z' a;have i:(Z' P:Int)<(Z' a:Nat):=Om;simp only[go_sem,i];refine body Om _ ?_ _ (by unfold AB;exact Lq);intro l A v' V H2 S e2 W E J X Y;rw[<-S]at J E;exact aE (α:=N_ × T3_) (l,A,v',H2) ⟨by simp only;omega,E,e2,W,J,Y⟩ sO_ X b_;have i:¬(Z' P:Int)<(Z' a:Nat):=Om;simp only[go_sem,i];by_cases O:Z' P<Z' b;have e:(Z' P:Int)<(Z' b:Nat):=Om;simp only[go_sem,e];refine body Om _ ?_ _ (by unfold AB;exact Lq);intro l A v' V H2 S e2 W E J X Y;rw[<-S]at J E;exact aE (α:=N_ × T3_) (l,A,v',H2) ⟨by simp only;omega,E,e2,W,J,Y⟩ sO_ X b_;have e:¬(Z' P:Int)<(Z' b:Nat):=Om;simp only[go_sem,e];by_cases c3:c=0;have R:¬(c:Int)>0:=Om;simp only[go_sem,R];exact w c1 O c3 _ rfl;have R:(c:Int)>0:=Om;simp only[go_sem,R];refine body Om _ ?_ _ (by unfold AB;exact Lq);intro l A v' V H2 S e2 W E J X Y;rw[<-S]at J E;exact aE (α:=N_ × T3_) (l,A,v',H2) ⟨by simp only;omega,E,e2,W,J,Y⟩ sO_ X b_
structure l7(C:Ctx):Prop extends Dd C where
 plus:∀a b,Lim a->Lim b->Z' a<=8388608->Z' b<=8388608->aH C 43 [aN a,aN b] .nil (aL (aN (aM (val a+val b))))
theorem ahZ(L:l7 C)(a b:N_)(u:Lim a)(hb:Lim b)(y:Z' a<=35184372087808)(A:Z' b<=35184372087808) :
  Ak.wp C (aW Qu.res (cC (opV (fK (val a) (val b)) (val a+val b)))) (g_ [aN a,aN b]) .nil:=by
 unfold opV;simp only[go_sem,Ak,Qu];refine aB (L.large a u y) rfl ?_;by_cases i:nl (val a)>512;simp only[go_sem,i];rw[aF (by simp[fK,i])];exact gI rfl;simp only[go_sem,i];refine aB (L.large b hb A) rfl ?_;by_cases l:nl (val b)>512;simp only[go_sem,l];rw[aF (by simp[fK,l])];exact gI rfl;rw[aC (by simp[fK,i,l])];simp only[go_sem,l];refine aB (L.trim a u y) rfl ?_;simp only[go_sem];refine aB (L.trim b hb A) rfl ?_;simp only[go_sem];have x:=L.plus (aM (val a)) (aM (val b)) (bE _) (bE _) (by rw[bJ];omega) (by rw[bJ];omega);rw[aY,aY]at x;refine aB x rfl ?_;have B:=Gp (a:=val a) (b:=val b) (m:=512) Om Om;have w:=L.large (aM (val a+val b)) (bE _) (by rw[bJ];omega);rw[aY]at w;simp only[go_sem];refine aB w rfl ?_;unfold szV szL szE;by_cases e:nl (val a+val b)>512;rw[aF e,aF e];simp only[go_sem,e];exact gI rfl;rw[aC e,aC e];simp only[go_sem,e];exact bC (.inr rfl) .nil rfl a_ ⟨.refl _,rfl⟩
theorem aiG(L:l7 C)(a b:N_)(u:Lim a)(hb:Lim b)(w:Z' a<=35184372087808)(x:Z' b<=35184372087808) :
  Ar.wp C (aW Q5.res (cC (xW (val a) (val b)))) (g_ [aN a,aN b]) .nil:=by
 unfold xW;simp only[go_sem,Ar,Q5];refine aB (L.large a u w) rfl ?_;by_cases e:nl (val a)>512;simp only[go_sem,e];rw[aF (by simp[fK,e])];exact gI rfl;simp only[go_sem,e];refine aB (L.large b hb x) rfl ?_;by_cases i:nl (val b)>512;simp only[go_sem,i];rw[aF (by simp[fK,i])];exact gI rfl;rw[aC (by simp[fK,e,i])];simp only[go_sem,i];refine aB (L.cmp a b u hb w x) rfl ?_;by_cases l:val a<val b;have:eZ (val a) (val b)=-1:=by simp[eZ,l]
 rw[aF l];simp only[go_sem,this,show((-1:Int)<0) by decide];exact gI rfl;have:¬eZ (val a) (val b)<0:=by unfold eZ;rw[aC l];split<;>decide
 rw[aC l];have B:=iW (Nat.sub_le (val a) (val b));have A:=iW (Om:val b<=val a);simp only[go_sem,this];refine aB (L.trim a u w) rfl ?_;simp only[go_sem];refine aB (L.trim b hb x) rfl ?_;simp only[go_sem];have y:=L.minus (aM (val a)) (aM (val b)) (bE _) (bE _) (by rw[aY,aY];omega) (by rw[bJ,bJ];exact A) (by rw[bJ];omega);rw[aY,aY]at y;refine aB y rfl ?_;rw[HZ Om];simp only[go_sem];exact bC (.inr rfl) .nil rfl a_ ⟨.refl _,rfl⟩
end Go.PM
