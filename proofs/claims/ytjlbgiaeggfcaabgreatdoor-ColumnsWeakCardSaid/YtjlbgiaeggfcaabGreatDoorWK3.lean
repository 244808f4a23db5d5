/-Lemmas for the law. No condition.-/
import Derived.Test.YtjlbgiaeggfcaabGreatDoorWK2
import Derived.Lib.ItoaNum
set_option linter.unusedSimpArgs false
set_option linter.unusedVariables false
open Nat renaming reduceEqDiff->γ,reduceAdd->δ,reduceSub->ε,reduceMul->ζ,reduceLT->η,reduceLeDiff->θ,reduceBEq->τ
open Int renaming reduceLT->ι,reduceLE->κ,reduceEq->μ,reduceToNat->ν,reduceAdd->ξ,reduceNeg->ο,reduceBEq->ρ,reduceBNe->σ
open List renaming reduceReplicate->υ
open List renaming length_map->bhO,range->bhP,getElem_mem->bhS,replicate->bhU,length_append->bhW,getD_eq_getElem?_getD->bhX,all_eq_true->biB,length_singleton->biC,getElem?_eq_getElem->biD,mem_cons->biG,length_take->biI,mem_map->biJ,take_of_length_le->biK,getElem?_map->biL,mem_range->biM,not_mem_nil->biO,take_length->biS,map_cons->biU,map_append->biV,append_assoc->biY,getElem?_eq_some_iff->biZ,mem_append->bjB,getElem_of_mem->bjD,take_succ_eq_append_getElem->bjF,drop_zero->bjG,mem_singleton->bjH,append_nil->bjI,getElem?_eq_none->bjJ,getElem_map->bjK,length_set->bjO,map_nil->bjP,mem_of_getElem?->bjQ,drop_eq_getElem_cons->bjS,length_drop->bjZ,Sublist->bkD,getElem?_append_left->bkE,length_nil->bkK,map_congr_left->bkP,take_append_drop->bkQ,ext_getElem->bkS,map_map->bkT,nodup_append->bkV,map_take->bkY,set_append_right->blC,take_zero->blF,all_cons->blJ,nil_append->blM,countP_append->blO,set_cons_zero->blP,drop_of_length_le->blV,getElem?_range->blX,getElem?_set->blY,mem_of_mem_take->bmB
open Bool renaming and_eq_true->bhQ,false_and->bhY,not_true->bhZ,true_and->biA,not_false->biF,and_false->bjE,false_eq_true->bjW,and_true->bjY,and_assoc->blE
open Nat renaming gcd->bhR,zero_le->bhT,le_refl->bhV,mul_add->biH,zero_add->biN,le_trans->biQ,lt_or_ge->biR,mul_assoc->biT,mul_comm->biW,add_mul->bjC,mod_eq_of_lt->bjM,mod_lt->bjR,pow_succ->bjU,add_zero->bkA,min_eq_left->bkG,mul_le_mul_left->bkH,add_assoc->bkL,eq_zero_or_pos->bkM,pos_of_ne_zero->bkN,sub_self->bkR,pow_pos->bkW,div_le_self->bkZ,mul_le_mul->blA,mul_one->blB,div_lt_iff_lt_mul->blD,div_add_mod->blQ,div_eq_of_lt->blR,pow_le_pow_right->blS
open Option renaming map_some->biP,some->bjV,getD_some->bkC
open Int renaming toNat_natCast->bjN
open Array renaming getElem?_eq_some_iff->blH
open List renaming length->Z'
set_option maxRecDepth 100000
set_option maxHeartbeats 800000
open Go.IntKind renaming i64->i_,u64->u_
open Go.PM.PF renaming nil->n_,args->g_
open Go.PM.PH renaming nil->h_
noncomputable section
namespace Go.PM
open Go Go.Na
structure zw(C:Ctx):Prop extends Xo C where
 ends:∀l:cW,l.Ok->LN l->aH C 102 [.agg l.cells] .nil (aI (.bool (uS l)))
def zE(l:cW)(i:Nat):Bool:=decide ((l.bgI.getD i []).length=Z' l.start)&&(l.bgI.getD i []).all dT&&!((l.bgI.getD i []).map bZ).getD i false
def DN(l:cW):Bool:=match tA (l.start.map RF.v)with
 | .ok (n,a,b)=>decide (sU n a b false 1 1=0)
 | .error _=>false
theorem awZ(l:cW):oV l=(within l.start.length 1 4&&decide (Z' l.exit=Z' l.start)&&decide (Z' l.bgI=Z' l.start)&&l.start.all dT&&l.exit.all dT&&(bhP l.bgI.length).all (zE l)&&DN l&&uS l):=rfl
theorem amF{l:List FV}{e:Int}(h:tA l=.error e):e≠0:=by
 have:∀(l:List FV)(b:FV)(e:Int),l.foldlM gY b=.error e->e≠0:=by
  intro l
  induction l with
  |nil=>intro b e h;cases h
  |cons x t p=>
   intro b e h;rw[List.foldlM_cons]at h;cases d:gY b x with
   |error i=>
    rw[d]at h;have:i=e:=by injection h
    subst this;obtain⟨u,a1,b1⟩:=b;obtain⟨w,a2,b2⟩:=x;simp only[gY]at d;split at d
    ·split at d
     ·rw[VT d];decide
     ·split at d
      ·rw[VT d];decide
      ·rw[VT d];decide
    ·injection d with d;subst d;decide
   |ok y=>rw[d]at h;exact p y e h
 exact this l _ e h
theorem aAV{l:List FV}{r:FV}(h:tA l=.ok r):r.rf.Ok:=by
 have:∀(l:List FV)(b r:FV),b.rf.Ok->l.foldlM gY b=.ok r->r.rf.Ok:=by
  intro l
  induction l with
  |nil=>intro b r hb h;injection h with h;subst h;exact hb
  |cons x t e=>
   intro b r hb h;rw[List.foldlM_cons]at h;cases d:gY b x with
   |error i=>rw[d]at h;cases h
   |ok y=>rw[d]at h;exact e y r (lg d) h
 refine this l _ r ⟨aX _,aX _,?_,?_⟩ h
 ·show(aL 0).length<=_;rw[fG];simp
 ·show(aL 1).length<=_;rw[uI aS aS];simp
theorem VU{neg:Bool}{a b:Nat}{r:FV}(hb:b≠0)(h:jP neg a b=.ok r):cC r.2.1 r.2.2=true:=by
 unfold jP at h;split at h
 ·cases h
 ·rename_i l;injection h with h
  subst h;have d:bhR a b ∣ b:=Nat.gcd_dvd_right _ _;have e:b/bhR a b≠0:=by have:=Nat.div_pos (Nat.le_of_dvd (bkN hb) d) (bkN λh=>hb (Nat.gcd_eq_zero_iff.1 h).2);omega
  have i:=@oP (b/bhR a b);simp only[cC,bhQ,dT_];omega
theorem aEP{x y r:FV}(h:gY x y=.ok r):cC r.2.1 r.2.2=true:=by
 obtain⟨i,a1,b1⟩:=x;obtain⟨l,a2,b2⟩:=y;simp only[gY]at h;split at h
 ·rename_i e;rw[bhQ]at e;have d:b1*b2≠0:=Nat.mul_ne_zero (eY.1 e.1).1 (eY.1 e.2).1;split at h
  ·exact VU d h
  ·split at h
   ·exact VU d h
   ·exact VU d h
 ·cases h
theorem aKI:cC 0 1=true:=by
 have:cX 1=1:=by rw[vH aS,nK]
 simp[cC,this,nK]
theorem Hb{l:List FV}{r:FV}(h:tA l=.ok r):cC r.2.1 r.2.2=true:=by
 have:∀(l:List FV)(b r:FV),cC b.2.1 b.2.2=true->l.foldlM gY b=.ok r->cC r.2.1 r.2.2=true:=by
  intro l
  induction l with
  |nil=>intro b r hb h;injection h with h;subst h;exact hb
  |cons x t e=>
   intro b r hb h;rw[List.foldlM_cons]at h;cases d:gY b x with
   |error i=>rw[d]at h;cases h
   |ok y=>rw[d]at h;exact e y r (aEP d) h
 exact this l _ r aKI h
theorem aTM:(⟨false,[],[]⟩:RF).Ok:=⟨λ_ h=>absurd h (biO),λ_ h=>absurd h (biO),show 0<=35184372087808 by decide,show 0<=35184372087808 by decide⟩
def aUY(l:cW)(k:Nat):PF:=(((((n_.set 1 (.bK l.cells)).set 3 (.int .i64 (Z' l.start:Nat))).set 45 (aJE l.bgI)).set 46 (.int .i64 (Z' l.bgI:Nat))).set 47 (.int .i64 k))
variable{C:Ctx}
theorem aNB(L:zw C)(l:cW)(B:l.Ok)(K:LN l)(F:PF)(A:F 1=some (.bK l.cells)) :
  aC.wp C (.seq (.region vf) (.seq (.region UW) (.seq (.region UX) (.seq (.region CZ) .ret)))) (aZ [.tmp 2] (cM (.bool (DN l&&uS l)))) F .nil:=by
 simp only[go_sem,vf,A];refine aB (L.tot l.start B.start) rfl ?_;obtain⟨E,x,y,e,R⟩:=CV (tA (l.start.map RF.v));have go:∀(z:RF)(e:Int),z.Ok->(e=0->(wQ z.neg (val z.num) (val z.den) false 1 1=.tup [.int .i64 (sU z.neg (val z.num) (val z.den) false 1 1),.int .i64 0])/\DN l=decide (sU z.neg (val z.num) (val z.den) false 1 1=0))->(e≠0->DN l=false) ->
   frV (tA (l.start.map RF.v))=.tup [.agg z.cells,.int .i64 e] ->
   wpOps C [⟨(some 69),.mv (.tmp 72),none⟩,⟨(some 73),.extract (.tmp 69) 0,none⟩,⟨(some 74),.extract (.tmp 69) 1,none⟩,⟨(some 6),.alloc [(.bool false),.aK,.aK],none⟩,⟨none,.store 3 (.tmp 6) (.tmp 73),none⟩,⟨(some 7),.mv (.tmp 74),none⟩]
    (aC.wp C (.seq (.region UW) (.seq (.region UX) (.seq (.region CZ) .ret))) (aZ [.tmp 2] (cM (.bool (DN l&&uS l))))) ((((F.set 70 (.bK [frs l.start,aJE l.bgI,frs l.exit])).set 71 (frs l.start))).set 72 (.tup [.agg z.cells,.int .i64 e])) .nil:=by
  intro z e O H J _;simp only[go_sem];refine aQ λo6 M=>?_;simp only[go_sem,UW];refine aB (L.frac 1 1 aS aS) rfl ?_;rw[afH];simp only[go_sem,frV];refine aQ λo8 p=>?_;have Q:o6≠o8:=by rintro rfl;simp only[bC,if_true]at p;cases p
  simp only[go_sem,UX,Q];refine aB (L.ord z (FV.rf (false,1,1)) O aOT) rfl ?_;rw[show val (FV.rf (false,1,1)).num=1 from aV 1,show val (FV.rf (false,1,1)).den=1 from aV 1,show(FV.rf (false,1,1)).neg=false from rfl];by_cases c:e=0
  ·obtain⟨g1,g2⟩:=H c;rw[g1,g2];by_cases d:sU z.neg (val z.num) (val z.den) false 1 1=0
   ·simp only[go_sem,CZ,bY c,bY d,A];refine aB (L.ends l B K) rfl ?_;simp only[go_sem];exact bQ rfl (by rw[bA d,biA])
   ·simp only[go_sem,CZ,bY c,bL d];exact bQ rfl (by rw[bG d,bhY])
  ·rw[J c];have:∃v w,wQ z.neg (val z.num) (val z.den) false 1 1=.tup [.int .i64 v,.int .i64 w]:=by
    unfold wQ;split
    ·exact⟨_,_,rfl⟩
    ·exact⟨_,_,rfl⟩
   obtain⟨v,w,u⟩:=this;rw[u];simp only[go_sem,CZ,bL c];exact bQ rfl rfl
 cases i:tA (l.start.map RF.v)with
 |error e =>rw[i]at go;exact go ⟨false,[],[]⟩ e aTM (λh=>absurd h (amF i)) (λ_=>by rw[DN,i]) rfl
 |ok r =>obtain⟨n,a,b⟩:=r;rw[i]at go;have N:=aAV i;refine go (FV.rf (n,a,b)) 0 N (λ_=>?_) (λh=>absurd rfl h) rfl;rw[show val (FV.rf (n,a,b)).num=a from aV a,show val (FV.rf (n,a,b)).den=b from aV b,show(FV.rf (n,a,b)).neg=n from rfl];refine⟨?_,by rw[DN,i]⟩;have u:cC a b=true:=Hb i;rw[wQ,u,Ux];rfl
theorem a1T(L:zw C)(l:cW)(y:l.Ok):fa.wp C (aZ aUE.res (cM (.bool (oV l)))) (g_ [.agg l.cells]) .nil:=by
 rw[awZ];simp only[go_sem,fa,avT,avU,aUE,avV,bhO];refine aB (L.inn l.start.length 1 4) rfl ?_;cases N:within l.start.length 1 4 with
 |false =>simp only[go_sem,biF,IE];exact bQ rfl (by simp only[bhY])
 |true=>
  obtain⟨V,W⟩:=within_iff.1 N;by_cases E:Z' l.exit=Z' l.start
  ·rw[bA E];by_cases F:Z' l.bgI=Z' l.start
   ·rw[bA F];simp only[go_sem,bhZ,bhO,cN (Om:(Z' l.exit:Int)=(Z' l.start:Nat)),cN (Om:(Z' l.bgI:Int)=(Z' l.start:Nat))];refine aB (L.aVD l.start y.start) rfl ?_;cases R:l.start.all dT with
    |false =>simp only[go_sem,biF,IE];exact bQ rfl (by simp only[bhY])
    |true=>
     simp only[go_sem,bhZ];refine aB (L.aVD l.exit y.exit) rfl ?_;cases S:l.exit.all dT with
     |false =>simp only[go_sem,biF,IE];exact bQ rfl (by simp only[bhY])
     |true=>
      simp only[go_sem,bhZ,avW,bhO];have x:∀k (h:k<Z' l.bgI),zE l k=(decide ((l.bgI[k]).length=Z' l.start)&&(l.bgI[k]).all dT&&!((l.bgI[k]).map bZ).getD k false):=by
       intro k h;have:l.bgI.getD k []=l.bgI[k]:=by simp[bhX,h]
       rw[zE,this]
      refine wp_loop (α:=Nat) (λk=>aUY l k) (λ_=>.nil) (λk=>k<=Z' l.bgI/\yK (zE l) k) (λk=>Z' l.bgI-k) 0 ⟨bhT _,.zero⟩ ?_ a_ ?_
      ·unfold aUY
       (repeat' (first|exact c_|refine d_ ?_ ?_))<;>first|(simp only[go_sem,bhO]<;>rfl)|rfl
      rintro k ⟨U,M⟩;simp only[go_sem,acN,avX,aUY];by_cases hlt:k<Z' l.bgI
      ·have e:(k:Int)<(Z' l.bgI:Nat):=Om;have B:(l.bgI.map λr=>[frs r])[k]?=some [frs l.bgI[k]]:=by simp[hlt]
       have d:=x k hlt;have u:=y.row l.bgI[k] (bhS hlt);simp only[go_sem,e,avY,B,avZ,bhO];by_cases H:(l.bgI[k]).length=Z' l.start
       ·rw[bA H,biA]at d;simp only[go_sem,cN (show(((l.bgI[k]).length:Nat):Int)=(Z' l.start:Nat) by omega)];refine aB (L.aVD _ u) rfl ?_;cases J:(l.bgI[k]).all dT with
        |false =>rw[J,bhY]at d;simp only[go_sem,biF,ma];refine bQ (b:=false) rfl ?_;have:(bhP l.bgI.length).all (zE l)=false:=gX hlt d;rw[this];simp only[bhY,bjE]
        |true=>
         have w:k<(l.bgI[k]).length:=Om;have Q:((l.bgI[k]).map RF.cells)[k]?=some ((l.bgI[k])[k]).cells:=by simp[w]
         have A:((l.bgI[k]).map bZ).getD k false=bZ (l.bgI[k])[k]:=by simp[bhX,w]
         rw[J,biA,A]at d;simp only[go_sem,bhZ,Q];refine aB (L.wL _ (u.all _ (bhS w))) rfl ?_;cases K:bZ (l.bgI[k])[k]with
         |true =>rw[K]at d;simp only[go_sem,ma];refine bQ (b:=false) rfl ?_;have:(bhP l.bgI.length).all (zE l)=false:=gX hlt d;rw[this];simp only[bhY,bjE]
         |false =>rw[K]at d;simp only[go_sem,awA,wZz k];refine aJ (k+1) ⟨hlt,M.step d⟩ Om ?_ a_;exact Lq
       ·simp only[bG H,bhY]at d;simp only[go_sem,dX (show(((l.bgI[k]).length:Nat):Int)≠(Z' l.start:Nat) by omega),ma];refine bQ (b:=false) rfl ?_;have:(bhP l.bgI.length).all (zE l)=false:=gX hlt d;rw[this];simp only[bhY,bjE]
      ·have e:¬(k:Int)<(Z' l.bgI:Nat):=Om;have:k=Z' l.bgI:=Om;subst this;have p:(bhP l.bgI.length).all (zE l)=true:=M;have O:LN l:=⟨by omega,by omega,λr B=>by obtain⟨i,hi,rfl⟩:=bjD B;have:=biB.1 p i (biM.2 hi);rw[x i hi]at this;simp only[bhQ,dT_]at this;omega⟩
       have tail:=aNB L l y O;simp only[aC.wp,go_sem]at tail;rw[p];simp only[go_sem,e,biA,bjY];exact tail _ rfl
   ·simp only[go_sem,bhZ,bhO,cN (Om:(Z' l.exit:Int)=(Z' l.start:Nat)),dX (Om:(Z' l.bgI:Int)≠(Z' l.start:Nat)),IE];exact bQ rfl (by rw[bG F];simp only[bhY,bjE])
  ·simp only[go_sem,bhZ,bhO,dX (Om:(Z' l.exit:Int)≠(Z' l.start:Nat)),IE];exact bQ rfl (by rw[bG E];simp only[bhY,bjE])
structure pO(C:Ctx):Prop extends zw C where
 law:∀l:cW,l.Ok->aH C 95 [.agg l.cells] .nil (aI (.bool (oV l)))
 pol:∀(p:cE)(n:Nat),p.Ok->n<=4->aH C 112 [.agg p.cells,.int .i64 n] .nil (aI (.bool (mW n p)))
 bgM:∀f:aD,f.Ok->aH C 111 [.agg f.cells] .nil (aI (.bool (tL f)))
abbrev iR(l:List (List UInt8)):P2_:=l.map λs=>[PV.str s]
theorem FC(l:List (List UInt8)){k:Nat}(h:k<Z' l):iR (l.take k)++[[.str l[k]]]=iR (l.take (k+1)):=by
 unfold iR;rw[bjF h,biV];rfl
theorem AE{l:List (List UInt8)}(h:Z' l<=1000):roomFor (iR l).length 1 16:=by
 unfold roomFor iR;simp only[bhO,maxLen];omega
def mM{α:Type}(l:List α)(p:α->Bool)(k:Nat):Bool:=(l.take k).all p
theorem AQ{α:Type}(l:List α)(p:α->Bool):mM l p 0=true:=rfl
theorem AP{α:Type}(l:List α)(p:α->Bool){k:Nat}(h:k<Z' l):mM l p (k+1)=(mM l p k&&p l[k]):=by
 unfold mM;rw[bjF h,List.all_append];simp
theorem EI{α:Type}(l:List α)(p:α->Bool):mM l p l.length=l.all p:=by unfold mM;rw[biS]
def mQ(f:aD)(d e i l p:PV)(ok:Bool):PF:=(((((((n_.set 1 (.bK f.cells)).set 3 (d)).set 4 (e)).set 5 (i)).set 6 (l)).set 7 (p)).set 8 (.bool ok))
structure pT(F:PF)(f:aD)(w3 w4 w5 w6 w7:PV)(ok:Bool):Prop where
 a1:F 1=some (.bK f.cells)
 a3:F 3=some w3
 a4:F 4=some w4
 a5:F 5=some w5
 a6:F 6=some w6
 a7:F 7=some w7
 a8:F 8=some (.bool ok)
theorem aGV(L:pO C)(f:aD)(Q:f.Ok)(W:Z' f.bgK<=4)(B E J M:PV)(K:cF)(F:PF)(H:PH)(l:pT F f .aK B E J M true)
  (x:F 67=some (.sl 4 (f.bgK.map cW.cells))) (y:F 68=some (.int .i64 (Z' f.bgK:Nat))) (A:F 69=some (.int .i64 0))
  (O:∀v N H',pT N f v B E J M (f.bgK.all oV)->cA H' 1 v (iR (f.bgK.map cW.name))->K (.exit 0) N H') :
  aC.wp C (.loop VC) K F H:=by
 refine wp_loop (α:=Nat × PV × PH) (λt=>(((mQ f t.2.1 B E J M (mM f.bgK oV t.1)).set 67 (.sl 4 (f.bgK.map cW.cells))).set 68 (.int .i64 (Z' f.bgK:Nat))).set 69 (.int .i64 t.1)) (λt=>t.2.2)
  (λt=>t.1<=Z' f.bgK/\cA t.2.2 1 t.2.1 (iR ((f.bgK.map cW.name).take t.1))) (λt=>Z' f.bgK-t.1) (0,.aK,.nil) ⟨bhT _,.nil⟩ ?_ a_ ?_
 ·unfold mQ
  (repeat' (first|exact c_|refine d_ ?_ ?_))<;>first|(simp only[go_sem,l.a1,l.a3,l.a4,l.a5,l.a6,l.a7,l.a8,x,y,A,AQ]<;>rfl)|rfl
 rintro⟨k,v,V⟩ ⟨R,w⟩;simp only at R w ⊢;simp only[go_sem,VC,awV,mQ];by_cases hlt:k<Z' f.bgK
 ·have e:(k:Int)<(Z' f.bgK:Nat):=Om;have U:(f.bgK.map cW.cells)[k]?=some (f.bgK[k]).cells:=by simp[hlt]
  have u:=FC (f.bgK.map cW.name) (k:=k) (by simpa using hlt);rw[bjK]at u;simp only[go_sem,e,awW,U];refine aQ λo S=>?_;simp only[go_sem,awX];refine sQ w S (AE (by simp;omega)) λv' H' i p=>?_;rw[u]at i;have d:=AP f.bgK oV hlt;cases hb:mM f.bgK oV k with
  |false =>rw[hb,bhY]at d;simp only[go_sem,K6,p,vm,wZz k];refine aJ (k+1,v',H') ⟨hlt,i⟩ (by simp only;omega) ?_ b_;simp only[d];exact Lq
  |true =>rw[hb,biA]at d;simp only[go_sem,K6,p];refine aB (L.law _ (Q.law _ (bhS hlt))) Ev ?_;simp only[go_sem,vm,wZz k];refine aJ (k+1,v',H') ⟨hlt,i⟩ (by simp only;omega) ?_ b_;simp only[d];exact Lq
 ·have e:¬(k:Int)<(Z' f.bgK:Nat):=Om;have:k=Z' f.bgK:=Om;subst this;rw[biK bH]at w;rw[EI];simp only[go_sem,e];exact O v _ _ ⟨s_,s_,s_,s_,s_,s_,s_⟩ w
theorem NO{n:Nat}(h:n<=1000):i_.wrap ((n:Int)-1)=(n:Int)-1:=wrap_i64 Om Om
theorem aGW(L:pO C)(f:aD)(hs:Z' f.bgE<=4)(hl:Z' f.bgK<=4)(u:Bool)(A B E J:PV)(K:cF)(F:PF)(H:PH)(l:pT F f A .aK B E J u)
  (O:F 85=some (.sl 4 (f.bgE.map dS.cells))) (Q:F 86=some (.int .i64 (Z' f.bgE:Nat))) (R:F 87=some (.int .i64 0))
  (U:∀v p H',pT p f A v B E J (u&&f.bgE.all (oY f))->cA H' 1 v (iR (f.bgE.map dS.name))->K (.exit 2) p H') :
  aC.wp C (.loop VD) K F H:=by
 refine wp_loop (α:=Nat × PV × PH) (λt=>(((mQ f A t.2.1 B E J (u&&mM f.bgE (oY f) t.1)).set 85 (.sl 4 (f.bgE.map dS.cells))).set 86 (.int .i64 (Z' f.bgE:Nat))).set 87 (.int .i64 t.1)) (λt=>t.2.2)
  (λt=>t.1<=Z' f.bgE/\cA t.2.2 1 t.2.1 (iR ((f.bgE.map dS.name).take t.1))) (λt=>Z' f.bgE-t.1) (0,.aK,.nil) ⟨bhT _,.nil⟩ ?_ a_ ?_
 ·unfold mQ
  (repeat' (first|exact c_|refine d_ ?_ ?_))<;>first|(simp only[go_sem,l.a1,l.a3,l.a4,l.a5,l.a6,l.a7,l.a8,O,Q,R,AQ,bjY]<;>rfl)|rfl
 rintro⟨k,v,Z⟩ ⟨W,M⟩;simp only at W M ⊢;simp only[go_sem,VD,adJ,mQ];by_cases hlt:k<Z' f.bgE
 ·have d:(k:Int)<(Z' f.bgE:Nat):=Om;have Y:(f.bgE.map dS.cells)[k]?=some (f.bgE[k]).cells:=by simp[hlt]
  have y:=FC (f.bgE.map dS.name) (k:=k) (by simpa using hlt);rw[bjK]at y;simp only[go_sem,d,adK,Y];refine aQ λo X=>?_;simp only[go_sem,adL];refine sQ M X (AE (by simp;omega)) λv' H' w e=>?_;rw[y]at w;have i:=AP f.bgE (oY f) hlt;have fin:∀(c:Bool)(p:PF),c=(u&&mM f.bgE (oY f) (k+1))->((((mQ f A v' B E J c).set 85 (.sl 4 (f.bgE.map dS.cells))).set 86 (.int .i64 (Z' f.bgE:Nat))).set 87 (.int .i64 (k+1:Nat))).le p ->
    gG (λ(t:Nat × PV × PH)=>(((mQ f A t.2.1 B E J (u&&mM f.bgE (oY f) t.1)).set 85 (.sl 4 (f.bgE.map dS.cells))).set 86 (.int .i64 (Z' f.bgE:Nat))).set 87 (.int .i64 t.1)) (λ(t:Nat × PV × PH)=>t.2.2)  (λ(t:Nat × PV × PH)=>t.1<=Z' f.bgE/\cA t.2.2 1 t.2.1 (iR ((f.bgE.map dS.name).take t.1))) (λ(t:Nat × PV × PH)=>Z' f.bgE-t.1) (Z' f.bgE-k) K .normal p H':=by
   intro c p V x;refine aJ (α:=Nat × PV × PH) (k+1,v',H') ⟨hlt,w⟩ (by simp only;omega) ?_ b_;rw[V]at x;exact x
  unfold mQ at fin;rw[i,<-blE]at fin;have S:oY f f.bgE[k]=(within (f.bgE[k]).bgT 1 16&&within (f.bgE[k]).port 1 64&&within (f.bgE[k]).law 0 ((Z' f.bgK:Int)-1)):=rfl;cases hb:(u&&mM f.bgE (oY f) k)with
  |false =>rw[hb,bhY]at fin;simp only[go_sem,vp,e,JV,wZz k];refine fin false _ rfl ?_;exact Lq
  |true=>
   rw[hb,biA]at fin;simp only[go_sem,vp,e];refine aB (L.inn _ 1 16) Ev ?_;cases N:within (f.bgE[k]).bgT 1 16 with
   |false =>simp only[go_sem,JV,wZz k];refine fin false _ (by rw[S,N];simp only[bhY]) ?_;exact Lq
   |true=>
    simp only[go_sem,e];refine aB (L.inn _ 1 64) Ev ?_;cases e2:within (f.bgE[k]).port 1 64 with
    |false =>simp only[go_sem,JV,wZz k];refine fin false _ (by rw[S,N,e2];simp only[bhY,bjE]) ?_;exact Lq
    |true =>simp only[go_sem,e,bhO,NO (Om:Z' f.bgK<=1000)];refine aB (L.inn _ 0 _) Ev ?_;simp only[go_sem,JV,wZz k];refine fin (within (f.bgE[k]).law 0 ((Z' f.bgK:Int)-1)) _ (by rw[S,N,e2];simp only[biA]) ?_;exact Lq
 ·have d:¬(k:Int)<(Z' f.bgE:Nat):=Om;have:k=Z' f.bgE:=Om;subst this;rw[biK bH]at M;rw[EI];simp only[go_sem,d];exact U v _ _ ⟨s_,s_,s_,s_,s_,s_,s_⟩ M
theorem aGX(L:pO C)(f:aD)(t:List cS)(V:Z' t<=40)(u:Bool)(A B E J:PV)(K:cF)(F:PF)(H:PH)(e:pT F f A B .aK E J u)
  (w:F 119=some (.sl 7 (t.map cS.cells))) (x:F 120=some (.int .i64 (Z' t:Nat))) (y:F 121=some (.int .i64 0))
  (N:∀v M H',pT M f A B v E J u->cA H' 1 v (iR (t.map cS.name))->K (.exit 4) M H') :
  aC.wp C (.loop VE) K F H:=by
 refine wp_loop (α:=Nat × PV × PH) (λa=>(((mQ f A B a.2.1 E J u).set 119 (.sl 7 (t.map cS.cells))).set 120 (.int .i64 (Z' t:Nat))).set 121 (.int .i64 a.1)) (λa=>a.2.2)
  (λa=>a.1<=Z' t/\cA a.2.2 1 a.2.1 (iR ((t.map cS.name).take a.1))) (λa=>Z' t-a.1) (0,.aK,.nil) ⟨bhT _,.nil⟩ ?_ a_ ?_
 ·unfold mQ
  (repeat' (first|exact c_|refine d_ ?_ ?_))<;>first|(simp only[go_sem,e.a1,e.a3,e.a4,e.a5,e.a6,e.a7,e.a8,w,x,y]<;>rfl)|rfl
 rintro⟨k,v,U⟩ ⟨O,p⟩;simp only at O p ⊢;simp only[go_sem,VE,adM,mQ];by_cases hlt:k<Z' t
 ·have d:(k:Int)<(Z' t:Nat):=Om;have S:(t.map cS.cells)[k]?=some (t[k]).cells:=by simp[hlt]
  have l:=FC (t.map cS.name) (k:=k) (by simpa using hlt);rw[bjK]at l;simp only[go_sem,d,adN,S];refine aQ λo Q=>?_;simp only[go_sem,adO];refine sQ p Q (AE (by simp;omega)) λv' H' i R=>?_;rw[l]at i;simp only[go_sem,adP,wZz k];refine aJ (k+1,v',H') ⟨hlt,i⟩ (by simp only;omega) ?_ b_;exact Lq
 ·have d:¬(k:Int)<(Z' t:Nat):=Om;have:k=Z' t:=Om;subst this;rw[biK bH]at p;simp only[go_sem,d];exact N v _ _ ⟨s_,s_,s_,s_,s_,s_,s_⟩ p
theorem aGY(L:pO C)(f:aD)(d:List (List UInt8))(hn:Z' d<=40)(hs:Z' f.bgD<=24)(hm:Z' f.bgE<=4)(hd:Z' f.bgG<=40)(x:Bool)(E J Y M N:PV)(K:cF)(F:PF)(H:PH)(u:pT F f E J Y M N x)
  (h0:cA H 1 Y (iR d))
  (S:F 132=some (.sl 3 (f.bgD.map eJ.cells))) (U:F 133=some (.int .i64 (Z' f.bgD:Nat))) (V:F 134=some (.int .i64 0))
  (hK:∀v w H',pT w f E J v M N (x&&f.bgD.all (mH f))->cA H' 1 v (iR (d++f.bgD.map eJ.name))->K (.exit 6) w H') :
  aC.wp C (.loop VG) K F H:=by
 refine wp_loop (α:=Nat × PV × PH) (λt=>(((mQ f E J t.2.1 M N (x&&mM f.bgD (mH f) t.1)).set 132 (.sl 3 (f.bgD.map eJ.cells))).set 133 (.int .i64 (Z' f.bgD:Nat))).set 134 (.int .i64 t.1)) (λt=>t.2.2)
  (λt=>t.1<=Z' f.bgD/\cA t.2.2 1 t.2.1 (iR (d++(f.bgD.map eJ.name).take t.1))) (λt=>Z' f.bgD-t.1) (0,Y,H) ⟨bhT _,by rw[blF,bjI];exact h0⟩ ?_ b_ ?_
 ·unfold mQ
  (repeat' (first|exact c_|refine d_ ?_ ?_))<;>first|(simp only[go_sem,u.a1,u.a3,u.a4,u.a5,u.a6,u.a7,u.a8,S,U,V,AQ,bjY]<;>rfl)|rfl
 rintro⟨k,v,H0⟩ ⟨hk,R⟩;simp only at hk R ⊢;simp only[go_sem,VG,adQ,mQ];by_cases hlt:k<Z' f.bgD
 ·have e:(k:Int)<(Z' f.bgD:Nat):=Om;have hr:(f.bgD.map eJ.cells)[k]?=some (f.bgD[k]).cells:=by simp[hlt]
  have X:iR (d++(f.bgD.map eJ.name).take k)++[[.str (f.bgD[k]).name]]=iR (d++(f.bgD.map eJ.name).take (k+1)):=by rw[bjF (by simpa using hlt),<-biY,bjK];unfold iR;simp only[biV,biU,bjP]
  simp only[go_sem,e,adR,hr];refine aQ λo ho=>?_;simp only[go_sem,adS];refine sQ R ho (AE (by simp;omega)) λv' H' y l=>?_;rw[X]at y;have p:=AP f.bgD (mH f) hlt;have fin:∀(c:Bool)(w:PF),c=(x&&mM f.bgD (mH f) (k+1))->((((mQ f E J v' M N c).set 132 (.sl 3 (f.bgD.map eJ.cells))).set 133 (.int .i64 (Z' f.bgD:Nat))).set 134 (.int .i64 (k+1:Nat))).le w ->
    gG (λ(t:Nat × PV × PH)=>(((mQ f E J t.2.1 M N (x&&mM f.bgD (mH f) t.1)).set 132 (.sl 3 (f.bgD.map eJ.cells))).set 133 (.int .i64 (Z' f.bgD:Nat))).set 134 (.int .i64 t.1)) (λ(t:Nat × PV × PH)=>t.2.2)  (λ(t:Nat × PV × PH)=>t.1<=Z' f.bgD/\cA t.2.2 1 t.2.1 (iR (d++(f.bgD.map eJ.name).take t.1))) (λ(t:Nat × PV × PH)=>Z' f.bgD-t.1) (Z' f.bgD-k) K .normal w H':=by
   intro c w hc A;refine aJ (α:=Nat × PV × PH) (k+1,v',H') ⟨hlt,y⟩ (by simp only;omega) ?_ b_;rw[hc]at A;exact A
  unfold mQ at fin;rw[p,<-blE]at fin;have i:mH f f.bgD[k]=(within (f.bgD[k]).model 0 ((Z' f.bgE:Int)-1)&&within (f.bgD[k]).machine 0 ((Z' f.bgG:Int)-1)&&decide ((f.bgG.map cS.level).getD (f.bgD[k]).machine.toNat 0=4)):=rfl;cases hb:(x&&mM f.bgD (mH f) k)with
  |false =>rw[hb,bhY]at fin;simp only[go_sem,vt,l,DA,wZz k];refine fin false _ rfl ?_;exact Lq
  |true=>
   rw[hb,biA]at fin;simp only[go_sem,vt,l,bhO,NO (Om:Z' f.bgE<=1000)];refine aB (L.inn _ 0 _) Ev ?_;cases O:within (f.bgD[k]).model 0 ((Z' f.bgE:Int)-1)with
   |false =>simp only[go_sem,DA,wZz k];refine fin false _ (by rw[i,O];simp only[bhY]) ?_;exact Lq
   |true=>
    simp only[go_sem,l,bhO,NO (Om:Z' f.bgG<=1000)];refine aB (L.inn _ 0 _) Ev ?_;cases e2:within (f.bgD[k]).machine 0 ((Z' f.bgG:Int)-1)with
    |false =>simp only[go_sem,DA,wZz k];refine fin false _ (by rw[i,O,e2];simp only[bhY,bjE]) ?_;exact Lq
    |true=>
     obtain⟨Z,i2⟩:=within_iff.1 e2;have i3:(f.bgD[k]).machine.toNat<Z' f.bgG:=Om;have B:(f.bgG.map cS.cells)[(f.bgD[k]).machine.toNat]?=some (f.bgG[(f.bgD[k]).machine.toNat]).cells:=by simp[i3]
     have W:(f.bgG.map cS.level).getD (f.bgD[k]).machine.toNat 0=(f.bgG[(f.bgD[k]).machine.toNat]).level:=by simp[i3]
     rw[W]at i;by_cases Q:(f.bgG[(f.bgD[k]).machine.toNat]).level=4
     ·simp only[go_sem,l,Z,B,bY Q,DA,wZz k];refine fin true _ (by rw[i,O,e2,bA Q];rfl) ?_;exact Lq
     ·simp only[go_sem,l,Z,B,bL Q,DA,wZz k];refine fin false _ (by rw[i,O,e2,bG Q];rfl) ?_;exact Lq
 ·have e:¬(k:Int)<(Z' f.bgD:Nat):=Om;have:k=Z' f.bgD:=Om;subst this;rw[biK bH]at R;rw[EI];simp only[go_sem,e];exact hK v _ _ ⟨s_,s_,s_,s_,s_,s_,s_⟩ R
theorem aGZ(L:pO C)(f:aD)(U:f.Ok)(hs:Z' f.bgH<=4)(W:Z' f.bgE<=4)(p:Bool)(A B E J:PV)(K:cF)(F:PF)(H:PH)(i:pT F f A B E .aK J p)
  (N:F 174=some (.sl 17 (f.bgH.map cE.cells))) (O:F 175=some (.int .i64 (Z' f.bgH:Nat))) (Q:F 176=some (.int .i64 0))
  (R:∀v l H',pT l f A B E v J (p&&f.bgH.all (mW f.bgE.length))->cA H' 1 v (iR (f.bgH.map cE.name))->K (.exit 8) l H') :
  aC.wp C (.loop VH) K F H:=by
 refine wp_loop (α:=Nat × PV × PH) (λt=>(((mQ f A B E t.2.1 J (p&&mM f.bgH (mW f.bgE.length) t.1)).set 174 (.sl 17 (f.bgH.map cE.cells))).set 175 (.int .i64 (Z' f.bgH:Nat))).set 176 (.int .i64 t.1)) (λt=>t.2.2)
  (λt=>t.1<=Z' f.bgH/\cA t.2.2 1 t.2.1 (iR ((f.bgH.map cE.name).take t.1))) (λt=>Z' f.bgH-t.1) (0,.aK,.nil) ⟨bhT _,.nil⟩ ?_ a_ ?_
 ·unfold mQ
  (repeat' (first|exact c_|refine d_ ?_ ?_))<;>first|(simp only[go_sem,i.a1,i.a3,i.a4,i.a5,i.a6,i.a7,i.a8,N,O,Q,AQ,bjY]<;>rfl)|rfl
 rintro⟨k,v,Z⟩ ⟨V,M⟩;simp only at V M ⊢;simp only[go_sem,VH,adT,mQ];by_cases hlt:k<Z' f.bgH
 ·have d:(k:Int)<(Z' f.bgH:Nat):=Om;have Y:(f.bgH.map cE.cells)[k]?=some (f.bgH[k]).cells:=by simp[hlt]
  have y:=FC (f.bgH.map cE.name) (k:=k) (by simpa using hlt);rw[bjK]at y;simp only[go_sem,d,adU,Y];refine aQ λo X=>?_;simp only[go_sem,adV];refine sQ M X (AE (by simp;omega)) λv' H' u x=>?_;rw[y]at u;have e:=AP f.bgH (mW f.bgE.length) hlt;have fin:∀(c:Bool)(l:PF),c=(p&&mM f.bgH (mW f.bgE.length) (k+1))->((((mQ f A B E v' J c).set 174 (.sl 17 (f.bgH.map cE.cells))).set 175 (.int .i64 (Z' f.bgH:Nat))).set 176 (.int .i64 (k+1:Nat))).le l ->
    gG (λ(t:Nat × PV × PH)=>(((mQ f A B E t.2.1 J (p&&mM f.bgH (mW f.bgE.length) t.1)).set 174 (.sl 17 (f.bgH.map cE.cells))).set 175 (.int .i64 (Z' f.bgH:Nat))).set 176 (.int .i64 t.1)) (λ(t:Nat × PV × PH)=>t.2.2)  (λ(t:Nat × PV × PH)=>t.1<=Z' f.bgH/\cA t.2.2 1 t.2.1 (iR ((f.bgH.map cE.name).take t.1))) (λ(t:Nat × PV × PH)=>Z' f.bgH-t.1) (Z' f.bgH-k) K .normal l H':=by
   intro c l S w;refine aJ (α:=Nat × PV × PH) (k+1,v',H') ⟨hlt,u⟩ (by simp only;omega) ?_ b_;rw[S]at w;exact w
  unfold mQ at fin;rw[e,<-blE]at fin;cases hb:(p&&mM f.bgH (mW f.bgE.length) k)with
  |false =>rw[hb,bhY]at fin;simp only[go_sem,vw,x,vz,wZz k];refine fin false _ rfl ?_;exact Lq
  |true =>rw[hb,biA]at fin;simp only[go_sem,vw,x,bhO];refine aB (L.pol _ _ (U.bgP _ (bhS hlt)) W) Ev ?_;simp only[go_sem,vz,wZz k];refine fin _ _ rfl ?_;exact Lq
 ·have d:¬(k:Int)<(Z' f.bgH:Nat):=Om;have:k=Z' f.bgH:=Om;subst this;rw[biK bH]at M;rw[EI];simp only[go_sem,d];exact R v _ _ ⟨s_,s_,s_,s_,s_,s_,s_⟩ M
theorem aHA(L:pO C)(f:aD)(hs:Z' f.bgF<=12)(Z:Z' f.bgH<=4)(p:Bool)(A B E J:PV)(K:cF)(F:PF)(H:PH)(i:pT F f A B E J .aK p)
  (N:F 195=some (.sl 2 (f.bgF.map eG.cells))) (O:F 196=some (.int .i64 (Z' f.bgF:Nat))) (Q:F 197=some (.int .i64 0))
  (R:∀v l H',pT l f A B E J v (p&&f.bgF.all (tY f))->cA H' 1 v (iR (f.bgF.map eG.name))->K (.exit 10) l H') :
  aC.wp C (.loop VI) K F H:=by
 refine wp_loop (α:=Nat × PV × PH) (λt=>(((mQ f A B E J t.2.1 (p&&mM f.bgF (tY f) t.1)).set 195 (.sl 2 (f.bgF.map eG.cells))).set 196 (.int .i64 (Z' f.bgF:Nat))).set 197 (.int .i64 t.1)) (λt=>t.2.2)
  (λt=>t.1<=Z' f.bgF/\cA t.2.2 1 t.2.1 (iR ((f.bgF.map eG.name).take t.1))) (λt=>Z' f.bgF-t.1) (0,.aK,.nil) ⟨bhT _,.nil⟩ ?_ a_ ?_
 ·unfold mQ
  (repeat' (first|exact c_|refine d_ ?_ ?_))<;>first|(simp only[go_sem,i.a1,i.a3,i.a4,i.a5,i.a6,i.a7,i.a8,N,O,Q,AQ,bjY]<;>rfl)|rfl
 rintro⟨k,v,Y⟩ ⟨U,M⟩;simp only at U M ⊢;simp only[go_sem,VI,adW,mQ];by_cases hlt:k<Z' f.bgF
 ·have d:(k:Int)<(Z' f.bgF:Nat):=Om;have X:(f.bgF.map eG.cells)[k]?=some (f.bgF[k]).cells:=by simp[hlt]
  have y:=FC (f.bgF.map eG.name) (k:=k) (by simpa using hlt);rw[bjK]at y;simp only[go_sem,d,adX,X];refine aQ λo W=>?_;simp only[go_sem,adY];refine sQ M W (AE (by simp;omega)) λv' H' u x=>?_;rw[y]at u;have e:=AP f.bgF (tY f) hlt;have fin:∀(c:Bool)(l:PF),c=(p&&mM f.bgF (tY f) (k+1))->((((mQ f A B E J v' c).set 195 (.sl 2 (f.bgF.map eG.cells))).set 196 (.int .i64 (Z' f.bgF:Nat))).set 197 (.int .i64 (k+1:Nat))).le l ->
    gG (λ(t:Nat × PV × PH)=>(((mQ f A B E J t.2.1 (p&&mM f.bgF (tY f) t.1)).set 195 (.sl 2 (f.bgF.map eG.cells))).set 196 (.int .i64 (Z' f.bgF:Nat))).set 197 (.int .i64 t.1)) (λ(t:Nat × PV × PH)=>t.2.2)  (λ(t:Nat × PV × PH)=>t.1<=Z' f.bgF/\cA t.2.2 1 t.2.1 (iR ((f.bgF.map eG.name).take t.1))) (λ(t:Nat × PV × PH)=>Z' f.bgF-t.1) (Z' f.bgF-k) K .normal l H':=by
   intro c l S w;refine aJ (α:=Nat × PV × PH) (k+1,v',H') ⟨hlt,u⟩ (by simp only;omega) ?_ b_;rw[S]at w;exact w
  unfold mQ at fin;rw[e,<-blE]at fin;have V:tY f f.bgF[k]=within (f.bgF[k]).bgP 0 ((Z' f.bgH:Int)-1):=rfl;cases hb:(p&&mM f.bgF (tY f) k)with
  |false =>rw[hb,bhY]at fin;simp only[go_sem,v7,x,v8,wZz k];refine fin false _ rfl ?_;exact Lq
  |true =>rw[hb,biA,V]at fin;simp only[go_sem,v7,x,bhO,NO (Om:Z' f.bgH<=1000)];refine aB (L.inn _ 0 _) Ev ?_;simp only[go_sem,v8,wZz k];refine fin _ _ rfl ?_;exact Lq
 ·have d:¬(k:Int)<(Z' f.bgF:Nat):=Om;have:k=Z' f.bgF:=Om;subst this;rw[biK bH]at M;rw[EI];simp only[go_sem,d];exact R v _ _ ⟨s_,s_,s_,s_,s_,s_,s_⟩ M
theorem sZ{f:aD}(h:¬(Z' f.bgK<=4/\Z' f.bgE<=4/\Z' f.bgG<=40/\Z' f.bgD<=24/\Z' f.bgH<=4/\Z' f.bgF<=12)):sY f=false:=by
 rw[<-Bool.not_eq_true];intro d;simp only[sY,bhQ,dT_]at d;omega
theorem asD{f:aD}(h:Z' f.bgK<=4/\Z' f.bgE<=4/\Z' f.bgG<=40/\Z' f.bgD<=24/\Z' f.bgH<=4/\Z' f.bgF<=12):sY f=within f.bhH 1 4:=by
 obtain⟨d,e,i,l,h5,p⟩:=h;simp[sY,d,e,i,l,h5,p]
theorem tW{t:Nat}{n m:Int}{F:PF}{H:PH}(h:F t=some (.int .i64 n))(e:n=m):aZ [.tmp t] (cM (.int .i64 m)) .ret F H:=by
 subst e;exact bE (.inr rfl) .nil (vs:=[.int .i64 n]) (by rw[pJ,sW,h,uL]) a_ ⟨.refl _,rfl⟩
def uR(f:aD):Int:=if dC f then 0 else 1
theorem Hy{f:aD}(h:dC f=false):uR f=1:=by rw[uR,h];rfl
theorem CJ{F:PF}{H:PH}{name t s:Nat}{v r:PV}{rows:P2_}{d:Option Nat}{K:PF->PH->Prop}(h:aH C name [.sl s rows] .nil (aI r))(x:cA H s v rows)(p:F t=some v)
  (l:∀(e:PF)(w:PH),(∀i u,F i=some u->Pure u->e i=some u)->K (e.put d r) w):lD C name [.tmp t] [] d K F H:=by
 rcases x with⟨rfl,rfl⟩|⟨q,rs,rfl,h1,h2,h3⟩
 ·refine aB (h.aJJ (.inl ⟨rfl,rfl⟩)) (by rw[JO,Df,p,l6]) ?_;exact l F H λi u hi _=>hi
 ·rw[<-h3]at h;refine xK (k:=Z' rows) h p h1 h2 (l _ _ λi u hi hp=>?_);rw[xX,hi,biP,hp q s rs]
theorem Seen.pure{s:Nat}{v:PV}{rows:P2_}(h:Seen s v rows):Pure v:=by
 rcases h with⟨_,rfl⟩|rfl
 ·exact λ_ _ _=>rfl
 ·exact λ_ _ _=>rfl
def bI(b:Bool):Int:=if b then 0 else 1
abbrev mo(f:aD):List (List UInt8):=(f.bgG.drop 1).map cS.name++f.bgD.map eJ.name
def EF(f:aD):Bool:=distinct (f.bgK.map cW.name)&&distinct (f.bgE.map dS.name)&&distinct (mo f)&&distinct (f.bgH.map cE.name)&&distinct (f.bgF.map eG.name)
structure Small(f:aD):Prop where
 bgK:Z' f.bgK<=4
 bgE:Z' f.bgE<=4
 bgG:Z' f.bgG<=40
 bgD:Z' f.bgD<=24
 bgH:Z' f.bgH<=4
 bgF:Z' f.bgF<=12
theorem NE(L:pO C){v:PV}{l:List (List UInt8)}(h:Seen 1 v (iR l))(d:Z' l<=1000):aH C 110 [v] .nil (aI (.bool (distinct l))):=
 (L.uniq l (Om:Z' l<=9223372036854775807)).aJJ h
theorem aUP(L:pO C)(f:aD)(B:Small f)(e i l p u:PV)(ok:Bool)(F:PF)(H:PH)(d:pT F f e i l p u ok)
  (x:Seen 1 e (iR (f.bgK.map cW.name))) (y:Seen 1 i (iR (f.bgE.map dS.name))) (h5:Seen 1 l (iR (mo f))) (A:Seen 1 p (iR (f.bgH.map cE.name))) (h7:cA H 1 u (iR (f.bgF.map eG.name))) :
  aC.wp C (.seq (.seq (.region JW) (.cond (.tmp 243) (.seq (.region tP) .ret) .skip)) (.seq (.region VJ) .ret)) (aZ [.tmp 2] (cM (.int .i64 (bI (ok&&EF f))))) F H:=by
 obtain⟨s1,s2,s3,s4,W,X⟩:=B;have E:(f.bgK.map cW.name).length<=1000:=by simp;omega
 have J:(f.bgE.map dS.name).length<=1000:=by simp;omega
 have K:(mo f).length<=1000:=by simp;omega
 have M:(f.bgH.map cE.name).length<=1000:=by simp;omega
 have N:(f.bgF.map eG.name).length<=9223372036854775807:=by simp;omega
 cases ok with
 |false =>simp only[go_sem,JW,d.a8,tP];exact tW rfl rfl
 |true=>
  simp only[go_sem,JW,d.a8,d.a3];refine aB (NE L x E) rfl ?_;unfold EF;cases Q:distinct (f.bgK.map cW.name)with
  |false =>simp only[go_sem,tP,biF];exact tW rfl rfl
  |true=>
   simp only[go_sem,d.a4,bhZ];refine aB (NE L y J) rfl ?_;cases R:distinct (f.bgE.map dS.name)with
   |false =>simp only[go_sem,tP,biF];exact tW rfl rfl
   |true=>
    simp only[go_sem,d.a5,bhZ];refine aB (NE L h5 K) rfl ?_;cases S:distinct (mo f)with
    |false =>simp only[go_sem,tP,biF];exact tW rfl rfl
    |true=>
     simp only[go_sem,d.a6,bhZ];refine aB (NE L A M) rfl ?_;cases U:distinct (f.bgH.map cE.name)with
     |false =>simp only[go_sem,tP,biF];exact tW rfl rfl
     |true=>
      simp only[go_sem,d.a7,bhZ];refine CJ (L.uniq _ N) h7 rfl λw O hp=>?_;have g:w 239=some (.bool false):=hp 239 _ rfl λ_ _ _=>rfl;cases V:distinct (f.bgF.map eG.name)with
      |false =>simp only[go_sem,tP,biF,g];exact tW rfl rfl
      |true =>simp only[go_sem,VJ,bhZ,g];exact tW rfl rfl
abbrev M2(b:Bool):cF:=aZ [.tmp 2] (cM (.int .i64 (bI b)))
def Xe:aC:=.seq (.seq (.region v6) (.block 10 (.loop VI))) (.seq (.seq (.region JW) (.cond (.tmp 243) (.seq (.region tP) .ret) .skip)) (.seq (.region VJ) .ret))
def Xd:aC:=.seq (.seq (.region vu) (.block 8 (.loop VH))) Xe
def Xc:aC:=.seq (.seq (.region vr) (.block 6 (.loop VG))) Xd
def Xb:aC:=.seq (.seq (.region vq) (.block 4 (.loop VE))) Xc
def Xa:aC:=.seq (.seq (.region vn) (.block 2 (.loop VD))) Xb
def aKH:aC:=.seq (.seq (.region K5) (.block 0 (.loop VC))) Xa
theorem a2G(L:pO C)(f:aD)(u:Small f)(i l p E:PV)(ok:Bool)(F:PF)(H:PH)(d:pT F f i l p E .aK ok)
  (y:Seen 1 i (iR (f.bgK.map cW.name))) (A:Seen 1 l (iR (f.bgE.map dS.name))) (h5:Seen 1 p (iR (mo f))) (N:cA H 1 E (iR (f.bgH.map cE.name))) :
  aC.wp C Xe (M2 (ok&&f.bgF.all (tY f)&&EF f)) F H:=by
 unfold Xe;simp only[go_sem,v6,d.a1,bhO];refine xL N λB x K M Q hp=>?_;refine aHA L f u.bgF u.bgH ok i l p B _ K M ⟨hp 1 _ (by simp only[go_sem,d.a1]) λ_ _ _=>rfl,hp 3 _ (by simp only[go_sem,d.a3]) y.pure,hp 4 _ (by simp only[go_sem,d.a4]) A.pure,hp 5 _ (by simp only[go_sem,d.a5]) h5.pure,Q 6 (by simp only[go_sem,d.a6]),hp 7 _ (by simp only[go_sem,d.a7]) λ_ _ _=>rfl,hp 8 _ (by simp only[go_sem,d.a8]) λ_ _ _=>rfl⟩
  (hp 195 _ rfl λ_ _ _=>rfl) (hp 196 _ rfl λ_ _ _=>rfl) (hp 197 _ rfl λ_ _ _=>rfl) λv J H' w O=>?_
 have e:=aUP L f u i l p B v _ J H' w y A h5 x O;simp only[aC.wp,go_sem]at e;simp only[go_sem];exact e
theorem a2F(L:pO C)(f:aD)(M:f.Ok)(l:Small f)(e i A:PV)(ok:Bool)(F:PF)(H:PH)(d:pT F f e i A .aK .aK ok)
  (w:Seen 1 e (iR (f.bgK.map cW.name))) (x:Seen 1 i (iR (f.bgE.map dS.name))) (h5:cA H 1 A (iR (mo f))) :
  aC.wp C Xd (M2 (ok&&f.bgH.all (mW f.bgE.length)&&f.bgF.all (tY f)&&EF f)) F H:=by
 unfold Xd;simp only[go_sem,vu,d.a1,bhO];refine xL h5 λy u E J N hp=>?_;refine aGZ L f M l.bgH l.bgE ok e i y .aK _ E J ⟨hp 1 _ (by simp only[go_sem,d.a1]) λ_ _ _=>rfl,hp 3 _ (by simp only[go_sem,d.a3]) w.pure,hp 4 _ (by simp only[go_sem,d.a4]) x.pure,N 5 (by simp only[go_sem,d.a5]),hp 6 _ (by simp only[go_sem,d.a6]) λ_ _ _=>rfl,hp 7 _ (by simp only[go_sem,d.a7]) λ_ _ _=>rfl,hp 8 _ (by simp only[go_sem,d.a8]) λ_ _ _=>rfl⟩
  (hp 174 _ rfl λ_ _ _=>rfl) (hp 175 _ rfl λ_ _ _=>rfl) (hp 176 _ rfl λ_ _ _=>rfl) λv B H' p K=>?_
 simp only[go_sem];exact a2G L f l e i y v _ B H' p w x u K
theorem a2E(L:pO C)(f:aD)(B:f.Ok)(e:Small f)(i l u:PV)(ok:Bool)(F:PF)(H:PH)(d:pT F f i l u .aK .aK ok)
  (x:Seen 1 i (iR (f.bgK.map cW.name))) (y:Seen 1 l (iR (f.bgE.map dS.name))) (h5:cA H 1 u (iR ((f.bgG.drop 1).map cS.name))) :
  aC.wp C Xc (M2 (ok&&f.bgD.all (mH f)&&f.bgH.all (mW f.bgE.length)&&f.bgF.all (tY f)&&EF f)) F H:=by
 unfold Xc;simp only[go_sem,vr,d.a1,bhO];refine aGY L f ((f.bgG.drop 1).map cS.name) (by have:=e.bgG;simp;omega) e.bgD e.bgE e.bgG ok i l u .aK .aK _ _ H ⟨by simp only[go_sem,d.a1],by simp only[go_sem,d.a3],by simp only[go_sem,d.a4],by simp only[go_sem,d.a5],by simp only[go_sem,d.a6],by simp only[go_sem,d.a7],by simp only[go_sem,d.a8]⟩ h5
  rfl rfl rfl λv w H' p A=>?_
 simp only[go_sem];exact a2F L f B e i l v _ w H' p x y A
theorem a2D(L:pO C)(f:aD)(N:f.Ok)(x:Small f)(R:0<Z' f.bgG)(i A:PV)(ok:Bool)(F:PF)(H:PH)(d:pT F f i A .aK .aK .aK ok)
  (w:Seen 1 i (iR (f.bgK.map cW.name))) (K:cA H 1 A (iR (f.bgE.map dS.name))) :
  aC.wp C Xb (M2 (ok&&f.bgD.all (mH f)&&f.bgH.all (mW f.bgE.length)&&f.bgF.all (tY f)&&EF f)) F H:=by
 unfold Xb;have l:(1:Int)<=(Z' f.bgG:Nat):=Om;have O:=x.bgG;have e:((f.bgG.map cS.cells).take f.bgG.length).drop 1=(f.bgG.drop 1).map cS.cells:=by rw[biK bH,List.map_drop]
 simp only[go_sem,vq,d.a1,bhO,l,bjN,e];refine xL K λy u E J Q hp=>?_;refine aGX L f (f.bgG.drop 1) (by simp;omega) ok i y .aK .aK _ E J ⟨hp 1 _ (by simp only[go_sem,d.a1]) λ_ _ _=>rfl,hp 3 _ (by simp only[go_sem,d.a3]) w.pure,Q 4 (by simp only[go_sem,d.a4]),hp 5 _ (by simp only[go_sem,d.a5]) λ_ _ _=>rfl,hp 6 _ (by simp only[go_sem,d.a6]) λ_ _ _=>rfl,hp 7 _ (by simp only[go_sem,d.a7]) λ_ _ _=>rfl,hp 8 _ (by simp only[go_sem,d.a8]) λ_ _ _=>rfl⟩
  (hp 119 _ rfl λ_ _ _=>rfl) (hp 120 _ rfl λ_ _ _=>rfl) (hp 121 _ rfl λ_ _ _=>rfl) λv B H' p M=>?_
 simp only[go_sem];exact a2E L f N x i y v _ B H' p w u M
theorem a2C(L:pO C)(f:aD)(J:f.Ok)(e:Small f)(E:0<Z' f.bgG)(u:PV)(ok:Bool)(F:PF)(H:PH)(d:pT F f u .aK .aK .aK .aK ok)
  (A:cA H 1 u (iR (f.bgK.map cW.name))) :
  aC.wp C Xa (M2 (ok&&f.bgE.all (oY f)&&f.bgD.all (mH f)&&f.bgH.all (mW f.bgE.length)&&f.bgF.all (tY f)&&EF f)) F H:=by
 unfold Xa;simp only[go_sem,vn,d.a1,bhO];refine xL A λp l x y K hp=>?_;refine aGW L f e.bgE e.bgK ok p .aK .aK .aK _ x y ⟨hp 1 _ (by simp only[go_sem,d.a1]) λ_ _ _=>rfl,K 3 (by simp only[go_sem,d.a3]),hp 4 _ (by simp only[go_sem,d.a4]) λ_ _ _=>rfl,hp 5 _ (by simp only[go_sem,d.a5]) λ_ _ _=>rfl,hp 6 _ (by simp only[go_sem,d.a6]) λ_ _ _=>rfl,hp 7 _ (by simp only[go_sem,d.a7]) λ_ _ _=>rfl,hp 8 _ (by simp only[go_sem,d.a8]) λ_ _ _=>rfl⟩
  (hp 85 _ rfl λ_ _ _=>rfl) (hp 86 _ rfl λ_ _ _=>rfl) (hp 87 _ rfl λ_ _ _=>rfl) λv w H' i B=>?_
 simp only[go_sem];exact a2D L f J e E p v _ w H' i l B
theorem a2B(L:pO C)(f:aD)(i:f.Ok)(l:Small f)(w:0<Z' f.bgG)(F:PF)(H:PH)(d:pT F f .aK .aK .aK .aK .aK true) :
  aC.wp C aKH (M2 (f.bgK.all oV&&f.bgE.all (oY f)&&f.bgD.all (mH f)&&f.bgH.all (mW f.bgE.length)&&f.bgF.all (tY f)&&EF f)) F H:=by
 unfold aKH;simp only[go_sem,K5,d.a1,bhO];refine aGV L f i l.bgK .aK .aK .aK .aK _ _ H ⟨by simp only[go_sem,d.a1],by simp only[go_sem,d.a3],by simp only[go_sem,d.a4],by simp only[go_sem,d.a5],by simp only[go_sem,d.a6],by simp only[go_sem,d.a7],by simp only[go_sem,d.a8]⟩ rfl rfl rfl λv p H' e u=>?_;simp only[go_sem];exact a2C L f i l w v _ p H' e u
theorem a2A(L:pO C)(f:aD)(E:f.Ok):fi.wp C (aZ aUO.res (cM (.int .i64 (uR f)))) (g_ [.agg f.cells]) .nil:=by
 have u:dC f=(sY f&&tL f&&(f.bgK.all oV&&f.bgE.all (oY f)&&f.bgD.all (mH f)&&f.bgH.all (mW f.bgE.length)&&f.bgF.all (tY f))&&EF f):=rfl;simp only[go_sem,fi,awR,awS,aUO];refine aB (L.inn f.bhH 1 4) rfl ?_;have bad:∀(F:PF)(H:PH),dC f=false->F 2=some (.int .i64 1)->aZ [.tmp 2] (cM (.int .i64 (uR f))) .ret F H:=λF H M N=>tW N (Hy M).symm;cases B:within f.bhH 1 4 with
 |false=>
  have:sY f=false:=by simp[sY,B]
  simp only[go_sem,biF,wT];exact bad _ _ (by rw[u,this];simp only[bhY]) rfl
 |true=>
  by_cases s1:Z' f.bgK<=4
  ·have d:¬(Z' f.bgK:Int)>4:=Om;by_cases s2:Z' f.bgE<=4
   ·have i:¬(Z' f.bgE:Int)>4:=Om;by_cases s3:Z' f.bgG<=40
    ·have l:¬(Z' f.bgG:Int)>40:=Om;by_cases s4:Z' f.bgD<=24
     ·have p:¬(Z' f.bgD:Int)>24:=Om;by_cases J:Z' f.bgH<=4
      ·have w:¬(Z' f.bgH:Int)>4:=Om;by_cases K:Z' f.bgF<=12
       ·have x:¬(Z' f.bgF:Int)>12:=Om;have y:=asD ⟨s1,s2,s3,s4,J,K⟩;rw[B]at y;simp only[go_sem,bhZ,bhO,d,i,l,p,w,x];refine aB (L.bgM f E) rfl ?_;cases A:tL f with
        |false =>simp only[go_sem,biF,wT];exact bad _ _ (by rw[u,A];simp only[bjE,bhY]) rfl
        |true=>
         have O:0<Z' f.bgG:=by
          rcases bkM f.bgG.length with h|h
          ·have:f.bgG=[]:=List.eq_nil_of_length_eq_zero h;rw[tL,this]at A;cases A
          ·exact h
         have R:uR f=bI (f.bgK.all oV&&f.bgE.all (oY f)&&f.bgD.all (mH f)&&f.bgH.all (mW f.bgE.length)&&f.bgF.all (tY f)&&EF f):=by rw[uR,u,y,A];rfl
         rw[R];simp only[go_sem,bhZ,awT,awU];have e:=λF H Q=>a2B L f E ⟨s1,s2,s3,s4,J,K⟩ O F H Q;simp only[aKH,Xa,Xb,Xc,Xd,Xe,aC.wp,go_sem]at e;exact e _ _ ⟨s_,s_,s_,s_,s_,s_,s_⟩
       ·have x:(Z' f.bgF:Int)>12:=Om;simp only[go_sem,bhZ,bhO,d,i,l,p,w,x,wT];exact bad _ _ (by rw[u,sZ Om];simp only[bhY]) rfl
      ·have w:(Z' f.bgH:Int)>4:=Om;simp only[go_sem,bhZ,bhO,d,i,l,p,w,wT];exact bad _ _ (by rw[u,sZ Om];simp only[bhY]) rfl
     ·have p:(Z' f.bgD:Int)>24:=Om;simp only[go_sem,bhZ,bhO,d,i,l,p,wT];exact bad _ _ (by rw[u,sZ Om];simp only[bhY]) rfl
    ·have l:(Z' f.bgG:Int)>40:=Om;simp only[go_sem,bhZ,bhO,d,i,l,wT];exact bad _ _ (by rw[u,sZ Om];simp only[bhY]) rfl
   ·have i:(Z' f.bgE:Int)>4:=Om;simp only[go_sem,bhZ,bhO,d,i,wT];exact bad _ _ (by rw[u,sZ Om];simp only[bhY]) rfl
  ·have d:(Z' f.bgK:Int)>4:=Om;simp only[go_sem,bhZ,bhO,d,wT];exact bad _ _ (by rw[u,sZ Om];simp only[bhY]) rfl
def lvl(f:aD)(i:Nat):Int:=(f.bgG.map cS.level).getD i 0
def par(f:aD)(i:Nat):Int:=(f.bgG.map cS.parent).getD i 0
def XJ(f:aD)(i:Nat):Nat:=(par f i).toNat
def eM(f:aD)(d:Nat):Nat:=((f.bgD.map eJ.machine).getD d 0).toNat
def mdl(f:aD)(d:Nat):Nat:=((f.bgD.map eJ.model).getD d 0).toNat
def ext(f:aD)(d:Nat):Int:=(f.bgE.map dS.bgT).getD (mdl f d) 0
def zD(f:aD)(v:Nat):Nat:=((f.bgF.map eG.bgP).getD v 0).toNat
def aZU:cE:=⟨[],0,0,0,0,0,0,0,0,[],[],⟨false,[],[]⟩,⟨false,[],[]⟩⟩
def kI(f:aD)(v:Nat):cE:=f.bgH.getD (zD f v) aZU
def upN(f:aD):Nat->Nat->Nat
 |0,i=>i
 |k+1,i=>XJ f (upN f k i)
theorem getD_at{α β:Type}{l:List α}{g:α->β}{i:Nat}{b:β}(h:i<Z' l):(l.map g).getD i b=g l[i]:=by
 simp[bhX,h]
structure VF(f:aD):Prop where
 small:Small f
 root:0<Z' f.bgG/\lvl f 0=0/\par f 0=-1
 dom:∀i,0<i->i<Z' f.bgG->0<=par f i/\XJ f i<i/\lvl f (XJ f i)=lvl f i-1/\1<=lvl f i/\lvl f i<=4
 drive:∀d (h:d<Z' f.bgD),0<=(f.bgD[d]).model/\mdl f d<Z' f.bgE/\0<=(f.bgD[d]).machine/\eM f d<Z' f.bgG/\lvl f (eM f d)=4
 bgP:∀p∈f.bgH,1<=p.k/\p.k<=6/\0<=p.m/\p.m<=4/\p.k+p.m<=8/\p.s0=0/\(∀l,0<=p.spread l/\p.spread l<=8)/\∀m∈p.bgE,0<=m/\m<Z' f.bgE
 volume:∀v (h:v<Z' f.bgF),0<=(f.bgF[v]).bgP/\zD f v<Z' f.bgH
 model:∀m∈f.bgE,1<=m.bgT/\m.bgT<=16
theorem a3Z{p:cE}{n:Nat}(h:mW n p=true):∀m∈p.bgE,0<=m/\m<n:=by
 intro m e;simp only[mW,bhQ]at h;obtain⟨i,hi,rfl⟩:=bjD e;have:=biB.1 h.2 i (biM.2 hi);rw[bhQ]at this;have d:=within_iff.1 this.1;simp only[bhX,biD hi,bkC]at d;omega
theorem I4{x:Int}(d:1<=x)(e:x<=4):i_.wrap (x-1)=x-1:=wrap_i64 Om Om
theorem VF.of{f:aD}(h:dC f=true):VF f:=by
 simp only[dC,bhQ]at h;obtain⟨⟨⟨Q,u⟩,⟨⟨⟨N,A⟩,y⟩,B⟩,E⟩,-⟩:=h;simp only[sY,bhQ,dT_]at Q;obtain⟨⟨⟨⟨⟨⟨s0,s1⟩,s2⟩,s3⟩,s4⟩,s5⟩,s6⟩:=Q;cases e:f.bgG with
 |nil=>rw[tL,e]at u;cases u
 |cons r t=>
  rw[tL,e]at u;simp only[MD,bhQ,dT_]at u;obtain⟨⟨⟨⟨⟨⟨r1,r2⟩,r3⟩,r4⟩,r5⟩,r6⟩,x⟩:=u;have O:Z' f.bgG=Z' t+1:=by rw[e];rfl
  refine⟨⟨s1,s2,s3,s4,s5,s6⟩,⟨by omega,by rw[lvl,e];exact r2,by rw[par,e];exact r3⟩,?_,?_,?_,?_,?_⟩
  ·intro i h0 hi;obtain⟨k,rfl⟩:∃k,i=k+1:=⟨i-1,by omega⟩;have H:k<Z' t:=Om;have:=biB.1 x k (biM.2 H);rw[biD H]at this;simp only[UH,bhQ,dT_]at this;obtain⟨⟨⟨⟨J,F⟩,K⟩,d4⟩,d5⟩:=this;obtain⟨Z,p1⟩:=within_iff.1 J;obtain⟨S,U⟩:=within_iff.1 K;have w:par f (k+1)=(t[k]).parent:=by rw[par,e];simp[bhX,H]
   have e2:lvl f (k+1)=(t[k]).level:=by rw[lvl,e];simp[bhX,H]
   rw[I4 S U]at F;have V:lvl f (t[k]).parent.toNat=(t[k]).level-1:=F;refine⟨by rw[w];exact Z,?_,?_,by rw[e2];exact S,by rw[e2];exact U⟩
   ·rw[XJ,w];omega
   ·rw[XJ,w,e2];exact V
  ·intro d u;have:=biB.1 y _ (bhS u);simp only[mH,bhQ,dT_]at this;obtain⟨⟨J,F⟩,K⟩:=this;have a1:=within_iff.1 J;have a2:=within_iff.1 F;have w:mdl f d=(f.bgD[d]).model.toNat:=by rw[mdl,getD_at u]
   have e2:eM f d=(f.bgD[d]).machine.toNat:=by rw[eM,getD_at u]
   refine⟨a1.1,by rw[w];omega,a2.1,by rw[e2];omega,by rw[e2];exact K⟩
  ·intro p hp;have M:=biB.1 B p hp;have W:=a3Z M;simp only[mW,XC,bhQ,dT_,blJ,List.all_nil,bjY]at M;obtain⟨⟨⟨⟨⟨⟨⟨⟨k1,Y⟩,km⟩,q1⟩,z0⟩,sp⟩,-⟩,-⟩,-⟩:=M;obtain⟨g0,g1,g2,g3,g4⟩:=sp;have b1:=within_iff.1 k1;have b2:=within_iff.1 Y;have b3:=within_iff.1 g0;have b4:=within_iff.1 g1;have b5:=within_iff.1 g2;have b6:=within_iff.1 g3;have b7:=within_iff.1 g4;refine⟨b1.1,b1.2,b2.1,b2.2,km,z0,λl=>?_,W⟩;unfold cE.spread;split<;>omega
  ·intro v R;have:=biB.1 E _ (bhS R);have a1:=within_iff.1 this;have w:zD f v=(f.bgF[v]).bgP.toNat:=by rw[zD,getD_at R]
   exact⟨a1.1,by rw[w];omega⟩
  ·intro m X;have:=biB.1 A m X;simp only[oY,bhQ]at this;exact within_iff.1 this.1.1
theorem KZ{f:aD}(h:VF f){d:Nat}(i:d<Z' f.bgD):∀{k:Nat},k<=4->upN f k (eM f d)<Z' f.bgG/\lvl f (upN f k (eM f d))=4-(k:Int)
 |0,_=>⟨(h.drive d i).2.2.2.1,by rw[upN,(h.drive d i).2.2.2.2];rfl⟩
 |k+1,x=>by
  obtain⟨u,p⟩:=KZ h i (k:=k) Om;have l:0<upN f k (eM f d):=by
   rcases bkM (upN f k (eM f d))with e|e
   ·rw[e,h.root.2.1]at p;omega
   ·exact e
  obtain⟨g1,g2,g3,g4,w⟩:=h.dom _ l u;refine⟨by rw[upN];omega,?_⟩;rw[upN,g3,p];omega
def dM(f:aD)(d:Nat)(level:Int):Nat:=upN f (4-level.toNat) (eM f d)
def kF(f:aD)(v:Nat):Int:=(kI f v).k+(kI f v).m
def sv:=bT [1] Proofs.Tryz.f83
def T6:=aA sv 0
def T7:=aA sv 1
def QF:aC:=(sq T6 (sq T7 .ret))
def anD:bD:=⟨1,6,QF,[.tmp 2]⟩
def mC:=bT [2] Proofs.Tryz.f35
def amT:=aA mC 0
def amU:=aA mC 1
def amV:=aA mC 2
def amW:=aA mC 3
def amX:=aA mC 4
def amY:=aA mC 5
def amZ:=aA mC 6
def anA:=cV mC 0
def anB:=aA mC 7
def anC:=cV mC 1
def js:=aA mC 8
def T4:aC:=(fI amY 17 0 js (sq amZ (dq anA (sq anB (.cond (Tm 37) (.draw anC) .skip)))))
def T5:=aA mC 9
def YM:aC:=(sq amT (dP amU 9 amV (sq amW (.seq (cH amX 0 T4) (sq T5 .ret)))))
def nn:bD:=⟨2,53,YM,[.tmp 4]⟩
theorem aQN(h:∀f:aD,f.Ok->aH C 96 [.agg f.cells] .nil (aI (.int .i64 (uR f))))(f:aD)(d:f.Ok) :
  QF.wp C (aZ anD.res (cM (.bool (dC f)))) (g_ [.agg f.cells]) .nil:=by
 simp only[go_sem,QF,T6,T7,anD];refine aB (h f d) Ev ?_;simp only[go_sem];refine bQ Ev ?_;unfold uR;cases dC f<;>rfl
theorem rL{f:aD}{d:Nat}(h:d<Z' f.bgD):(f.bgD.map eJ.cells)[d]?=some (f.bgD[d]).cells:=by simp[h]
theorem kE{f:aD}{d:Nat}(h:d<Z' f.bgG):(f.bgG.map cS.cells)[d]?=some (f.bgG[d]).cells:=by simp[h]
theorem Ii{f:aD}{d:Nat}(h:d<Z' f.bgF):(f.bgF.map eG.cells)[d]?=some (f.bgF[d]).cells:=by simp[h]
theorem PT{f:aD}{d:Nat}(h:d<Z' f.bgH):(f.bgH.map cE.cells)[d]?=some (f.bgH[d]).cells:=by simp[h]
theorem Rt{f:aD}{d:Nat}(h:d<Z' f.bgE):(f.bgE.map dS.cells)[d]?=some (f.bgE[d]).cells:=by simp[h]
theorem KE{f:aD}{d:Nat}(h:d<Z' f.bgG):(f.bgG[d]).level=lvl f d:=by rw[lvl,getD_at h]
theorem Gn{f:aD}{d:Nat}(h:d<Z' f.bgG):(f.bgG[d]).parent=par f d:=by rw[par,getD_at h]
theorem VF.Lf{f:aD}(h:VF f){d:Nat}(e:d<Z' f.bgD):(f.bgD[d]).machine=((eM f d:Nat):Int):=by
 have:=(h.drive d e).2.2.1;rw[eM,getD_at e];omega
theorem VF.SG{f:aD}(h:VF f){d:Nat}(e:d<Z' f.bgD):(f.bgD[d]).model=((mdl f d:Nat):Int):=by
 have:=(h.drive d e).1;rw[mdl,getD_at e];omega
theorem VF.aPA{f:aD}(h:VF f){v:Nat}(d:v<Z' f.bgF):(f.bgF[v]).bgP=((zD f v:Nat):Int):=by
 have:=(h.volume v d).1;rw[zD,getD_at d];omega
theorem VF.Mb{f:aD}(h:VF f){i:Nat}(d:0<i)(hi:i<Z' f.bgG):par f i=((XJ f i:Nat):Int):=by
 have:=(h.dom i d hi).1;rw[XJ];omega
theorem vY{f:aD}(h:VF f){v:Nat}(d:v<Z' f.bgF):∃hp:zD f v<Z' f.bgH,f.bgH[zD f v]=kI f v:=by
 have hp:=(h.volume v d).2;exact⟨hp,by simp[kI,bhX,hp]⟩
def atP(f:aD)(d level:Int):Int:=if dC f/\0<=d/\d<Z' f.bgD/\0<=level/\level<5 then(dM f d.toNat level:Nat)else -1
def pick(n:Nat)(p:Nat->Bool):List Int:=((bhP n).filter p).map λ(i:Nat)=>(i:Int)
theorem aHI(l:List Int)(x:Int):bJ l++[[.int .i64 x]]=bJ (l++[x]):=by unfold bJ;rw[biV];rfl
theorem dN(l:List Int):(bJ l).length=Z' l:=by unfold bJ;rw[bhO]
theorem Mj{t:Nat}{H:PH}{v:PV}{l:List Int}{F:PF}(h:cA H 1 v (bJ l))(d:F t=some v):aZ [.tmp t] (cM (ints l)) .ret F H:=tV (.inr rfl) h d
theorem ix{t:Nat}{H:PH}{F:PF}(d:F t=some .aK):aZ [.tmp t] (cM (ints [])) .ret F H:=tV (rows:=[]) (.inr rfl) .nil d
section
variable (o s:Nat) (rs:P2_)
@[go_sem] theorem bdG(k:IntKind)(n:Int):PV.frz o s rs (.int k n)=.int k n:=(rfl)
@[go_sem] theorem bbM(b:Bool):PV.frz o s rs (.bool b)=.bool b:=(rfl)
@[go_sem] theorem bdK(l:List UInt8):PV.frz o s rs (.str l)=.str l:=(rfl)
@[go_sem] theorem bbN:PV.frz o s rs .aK=.aK:=(rfl)
@[go_sem] theorem beN(n:Nat)(r:P2_):PV.frz o s rs (.sl n r)=.sl n r:=(rfl)
@[go_sem] theorem bbO(c:List PV):PV.frz o s rs (.bK c)=.bK c:=(rfl)
@[go_sem] theorem bdJ(q z i c:Nat):PV.frz o s rs (.ptr q z i c)=.ptr q z i c:=(rfl)
@[go_sem] theorem beM(n:Nat)(c:List PV):PV.frz o s rs (.fn n c)=.fn n c:=(rfl)
@[go_sem] theorem bdH(q:Nat):PV.frz o s rs (.map q)=.map q:=(rfl)
@[go_sem] theorem bdI(q z d len:Nat):PV.frz o s rs (.osl q z d len)=if q=o then(if z=s/\d+len<=rs.length then .sl s ((rs.drop d).take len)else .junk)else .osl q z d len:=(rfl)
end
def tH(s:Nat)(rows:P2_)(r:PV)(H:PH):Prop:=
 (rows=[]/\r=.aK/\H=h_)\/∃q rs,r=.osl q s 0 rows.length/\H=h_.set q (.rows s rs)/\Z' rows<=Z' rs/\rs.take rows.length=rows
theorem avA(q s:Nat)(rs:P2_):(h_.set q (.rows s rs)).frz q s rs=h_:=PH.ext λo=>by
 rw[IG];by_cases e:o=q
 ·rw[aG e];rfl
 ·rw[aE e,bC,aE e];rfl
section
variable {C:Ctx} {K:cF} {F:PF} {H:PH} {s:Nat} {v:PV} {rows:P2_}
theorem tH.over{r:PV}{H':PH}(h:tH s rows r H')(l:qW H .nil H'):cA (H.over .nil H') s r rows/\∀o x,H o=some x->(H.over .nil H') o=some x:=by
 rcases h with⟨d,i,rfl⟩|⟨q,rs,d,rfl,h3,h4⟩
 ·rw[PH.KL];exact⟨.inl ⟨d,i⟩,λo x h=>h⟩
 ·rw[PH.qV];have p:H q=none:=l q (.rows s rs) (by simp only[bC,if_true]) rfl;refine⟨.inr ⟨q,rs,d,by simp only[bC,if_true],h3,h4⟩,λo x e=>?_⟩;have:o≠q:=by rintro rfl;rw[p]at e;cases e
  simp only[bC,aE this,e]
theorem XT{t:Nat}{e:oH}(d:e=.normal\/e=.ret)(h:cA H s v rows)(i:F t=some v):aZ [.tmp t] (tH s rows) e F H:=by
 rcases h with⟨rfl,rfl⟩|⟨q,rs,rfl,h1,h2,h3⟩
 ·exact bE (vs:=[.aK]) d .nil (by rw[pJ,sW,i,uL]) a_ (.inl ⟨rfl,rfl,rfl⟩)
 ·exact bE (vs:=[.osl q s 0 rows.length]) d (h_.set q (.rows s rs)) (by rw[pJ,sW,i,uL]) (e_ a_ h1) (.inr ⟨q,rs,rfl,rfl,h2,h3⟩)
theorem SN{t:Nat}{e:oH}(d:e=.normal\/e=.ret)(i:F t=some .aK):aZ [.tmp t] (tH s []) e F H:=XT d .nil i
theorem aPL{t:Nat}{e:oH}{r:PV}{H':PH}(d:e=.normal\/e=.ret)(h:tH s rows r H')(l:F t=some r):aZ [.tmp t] (tH s rows) e F (H.over .nil H'):=by
 refine bE (vs:=[r]) d H' (by rw[pJ,sW,l,uL]) (λo x i=>?_) h;rw[lO,i]
theorem aH.freeze{name:Nat}{args:List PV}(h:aH C name args H (tH s rows)):aH C name args H (aI (.sl s rows)):=
 ⟨h.1,λE w vs M hW x=>(h.2 E w vs M hW x).mono λe R N=>by
  obtain⟨u,pv,B,H',rfl,d,A,y,hp⟩:=N;rcases hp with⟨rfl,rfl,rfl⟩|⟨q,rs,rfl,rfl,h3,h4⟩
  ·exact⟨u,_,B,_,rfl,d,(Co.nil s).sound A,y,rfl,rfl⟩
  ·have O:kN (n_.set 0 (.osl q s 0 rows.length)) (h_.set q (.rows s rs)) _ _:=.step q (s:=s) (rs:=rs) (by simp only[bC,if_true]) (.refl _ _);obtain⟨J,k1,k2,Q⟩:=O.sound d;have l:=Q (λ_=>u) (λi p hi=>by
    rw[pR]at hi;split at hi
    ·cases hi;exact A
    ·cases hi) 0 (.sl s rows) (by rw[xX,pR,aG rfl,biP,zQ h3,h4])
   rw[avA]at k1 k2;exact⟨u,_,J,_,rfl,k1,l,y.trans k2,rfl,rfl⟩⟩
theorem fU.of:∀{E:Env}(ps:List PV)(vs:List Value),Z' vs=Z' ps->(∀(i:Nat) p v,ps[i]?=some p->vs[i]?=some v->bM E p v)->fU E ps vs
 |_,[],[],_,_=>.nil
 |_,[],_::_,h,_=>by simp at h
 |_,_::_,[],h,_=>by simp at h
 |_,p::ps,v::vs,h,k=>.cons (k 0 p v rfl rfl) (fU.of ps vs (by simpa using h) λi q u a b=>k (i+1) q u (by simpa using a) (by simpa using b))
theorem cB.same{E:Env}{w p:World}(hW:cB E H w)(A:w.heap.size<=p.heap.size)(hb:∀b,b<w.heap.size->H b=none->p.heap[b]?=w.heap[b]?)(y:∀o x,H o=some x->p.heap[o]?=w.heap[o]?):cB E H p:=by
 have i:∀b,b<w.heap.size->p.heap[b]?=w.heap[b]?:=λb hlt=>by
  cases e:H b with
  |none=>exact hb b hlt e
  |some x=>exact y b x e
 refine⟨λb cs h=>?_,λo x h=>?_,λo n h=>?_⟩
 ·obtain⟨d,ty,fr,l⟩:=hW.g b cs h;exact⟨d,ty,fr,(i b (blH.1 l).1).trans l⟩
 ·obtain⟨d,l⟩:=hW.h o x h;exact⟨Nat.lt_of_lt_of_le d A,l.mono (.refl E) (i o d)⟩
 ·obtain⟨u,ty,fr,d,l⟩:=hW.s o n h;exact⟨u,ty,fr,(i o (blH.1 d).1).trans d,l⟩
inductive Plain:PV->Prop
 |int (k:IntKind) (n:Int):Plain (.int k n)
 |bool (b:Bool):Plain (.bool b)
 |str (l:List UInt8):Plain (.str l)
 |two (k k':IntKind) (n n':Int):Plain (.tup [.int k n,.int k' n'])
theorem Plain.rep{v:PV}(h:Plain v){E d:Env}{u:Value}(r:bM E v u):bM d v u:=by
 cases h<;>cases r
 ·exact .int _ _
 ·exact .bool _
 ·exact .str _
 ·rename_i vs e i;refine .tup vs e λj pv v a b=>?_;have h:=i j pv v a b
  match j,a with
  |0,a=>cases a;cases h;exact .int _ _
  |1,a=>cases a;cases h;exact .int _ _
theorem aH.aHM{name o:Nat}{rs:P2_}{args:List PV}(X:Plain v)(h:aH C name (args.map (PV.frz o s rs)) .nil (aI v)) :
  aH C name args (h_.set o (.rows s rs)) (λr H'=>r=v/\H'=h_.set o (.rows s rs)):=by
 refine⟨h.1,λE w vs Q hW B=>?_⟩;have Y:kN (g_ args) (h_.set o (.rows s rs)) _ _:=.step o (s:=s) (rs:=rs) (by simp only[bC,if_true]) (.refl _ _);obtain⟨N,k1,k2,Z⟩:=Y.sound hW;rw[avA]at k1 k2;have A:=B.len;have J:fU N (args.map (PV.frz o s rs)) vs.toList:=by
  refine fU.of _ _ (by rw[bhO];exact A) λi p u hp W=>?_;have:=Z (λi=>(vs.toList[i]?).getD undef) (λj q O=>by have U:=(biZ.1 O).1;have y:j<Z' vs.toList:=Om;simp only[biD y,bkC];exact B.at_ j q _ O (biD y)) i p (by rw[xX,args_at,<-biL];exact hp)
  simp only[W,bkC]at this;exact this
 refine(h.2 N w vs (k2.env.num.trans Q) k1 J).mono λe w' S=>?_;obtain⟨u,pv,E2,H2,rfl,R,V,l,rfl,rfl⟩:=S;have d:∀b,b<w.heap.size->w'.heap[b]?=w.heap[b]?:=λb hb=>l.block b hb rfl;refine⟨u,pv,E,_,rfl,hW.same l.size (λb hb _=>d b hb) (λq x M=>d q (hW.h q x M).1),X.rep V,⟨.refl E,l.os,l.tape,l.output,l.size,λb hb _=>d b hb,λq x M=>.inl ⟨x,M⟩,λb cs hb=>.inl hb⟩,rfl,rfl⟩
theorem asN{name o:Nat}{rs:P2_}{args:List aP}{vs:List PV}{d:Option Nat}{K:PF->PH->Prop}(p:Plain v)(h:aH C name (vs.map (PV.frz o s rs)) .nil (aI v))(e:H o=some (.rows s rs))(i:aP.evs F args=some vs)
  (l:K (F.put d v) H):lD C name args [] d K F H:=by
 refine nE (h.aHM p) i (e_ a_ e) ?_;rintro r H' ⟨rfl,rfl⟩ -;rw[PH.over_self _ (e_ a_ e)];exact l
theorem aTE{Hs:PH}{S:Spec}{name o:Nat}{rs:P2_}{vs:List PV}{R:PH->PV->PH->Prop}{args:List aP}{st:Bool}{d:Option Nat}{K:PF->PH->Prop}(p:S name vs=some ([o],R))(y:Plain v)(x:H o=some (.rows s rs))
  (h:aH C name (vs.map (PV.frz o s rs)) .nil (aI v)) (e:R (h_.set o (.rows s rs)) v (h_.set o (.rows s rs))) (i:∀r H',R (h_.set o (.rows s rs)) r H'->r=v/\H'=h_.set o (.rows s rs)) (u:aP.evs F args=some vs) (l:Hs.le H) (w:K (F.put d v) H) :
  dOp C Hs S st (.call name args) d K F H:=uy p x (h.aHM y) e i u l w
theorem Wm{name t:Nat}{R:PV->PH->Prop}{d:Option Nat}{K:PF->PH->Prop}(h:aH C name [.sl s rows] .nil R)(x:cA H s v rows)(w:F t=some v)
  (p:∀(e:PF)(l:PH),(∀i u,F i=some u->Pure u->e i=some u)->∀r H',R r H'->qW l .nil H'->K (e.put d r) (l.over .nil H')):lD C name [.tmp t] [] d K F H:=by
 rcases x with⟨rfl,rfl⟩|⟨q,rs,rfl,h1,h2,h3⟩
 ·exact .inl ⟨[.aK],.nil,R,by rw[JO,Df,w,l6];rfl,a_,h.aJJ (.inl ⟨rfl,rfl⟩),p F H λi u hi _=>hi⟩
 ·refine .inr ⟨_,_,.step q h1 (.refl _ _),[.sl s rows],.nil,R,?_,a_,h,p _ _ λi u hi hp=>?_⟩
  ·simp only[JO,l6,Df,xX,w,biP,zQ h2,h3,bjI]
  ·rw[xX,hi,biP,hp q s rs]
end
def sS(A:List Int)(k:Nat):List Int:=A.take k++bhU (Z' A-k) 0
theorem arI(A:List Int):sS A 0=bhU A.length 0:=by simp[sS]
theorem aFZ(A:List Int):sS A A.length=A:=by simp[sS]
theorem V8(A:List Int){k:Nat}(h:k<=Z' A):(sS A k).length=Z' A:=by simp[sS];omega
theorem aGA(A:List Int){k:Nat}(h:k<Z' A):(sS A k).set k A[k]=sS A (k+1):=by
 unfold sS;rw[blC _ _ (by simp;omega),biI,bkG Om,bkR,show A.length-k=(Z' A-(k+1))+1 by omega,List.replicate_succ,blP,
  bjF h,biY]
 rfl
theorem vL(l:List Int)(i:Nat)(x:Int):(bJ l).set i [.int .i64 x]=bJ (l.set i x):=by unfold bJ;rw[List.map_set]
theorem xZ(n:Nat):bhU n [PV.int .i64 0]=bJ (bhU n 0):=by simp[bJ]
theorem wb{l:List Int}{i:Nat}(h:i<Z' l):(bJ l)[i]?=some [.int .i64 l[i]]:=by simp[bJ,h]
theorem Eb(l:List Int):ints l=.sl 1 (bJ l):=rfl
def pQ(f:aD)(room:List Int)(d:Nat):Int:=if room.length=f.bgD.length then min (max (room.getD d 0) 0) (ext f d)else ext f d
def fZ(f:aD)(room:List Int):List Int:=(bhP f.bgD.length).map (pQ f room)
def kW(f:aD)(room:List Int):List Int:=if dC f then fZ f room else[]
theorem mK(f:aD)(room:List Int):(fZ f room).length=Z' f.bgD:=by simp[fZ]
theorem akD(f:aD)(room:List Int){d:Nat}(h:d<(fZ f room).length):(fZ f room)[d]=pQ f room d:=by simp[fZ]
theorem VF.Dg{f:aD}(h:VF f){d:Nat}(i:d<Z' f.bgD):∃e:mdl f d<Z' f.bgE,(f.bgE[mdl f d]).bgT=ext f d:=by
 have e:=(h.drive d i).2.1;exact⟨e,by rw[ext,getD_at e]⟩
def trF(f:aD)(room:List Int)(o k:Nat):PF:=(((((n_.set 1 (ints room)).set 2 (.bK f.cells)).set 5 (.osl o 1 0 f.bgD.length)).set 15 (.int .i64 (Z' f.bgD:Nat))).set 16 (.int .i64 k))
theorem axI(a b:Int):(if b<a then b else a)=min a b:=by
 rw[Int.min_def];by_cases h:b<a
 ·rw[aG h,aE Om]
 ·rw[aE h,aG Om]
theorem aQM(valid:∀f:aD,f.Ok->aH C 161 [.agg f.cells] .nil (aI (.bool (dC f))))(f:aD)(O:f.Ok)(room:List Int) :
  YM.wp C (aZ nn.res (tH 1 (bJ (kW f room)))) (g_ [.agg f.cells,ints room]) .nil:=by
 simp only[go_sem,YM,amT,amU,nn];refine aB (valid f O) Ev ?_;unfold kW;cases S:dC f with
 |false =>simp only[go_sem,biF,amV];exact SN (.inr rfl) Ev
 |true=>
  have hV:=VF.of S;have M:=hV.small.bgD;have F:(Z' f.bgD:Int)*((8:Nat):Int)<=140737488355328:=Om;have H:(Z' f.bgD:Int)<=9223372036854775807:=Om;simp only[go_sem,bhZ,amW,bhO,F,H];refine aQ λo X=>?_;simp only[go_sem,amX];have u:=mK f room;have E:=λd h=>akD f room (d:=d) h;generalize V:fZ f room=A at *
  refine wp_loop (α:=Nat) (λk=>trF f room o k) (λk=>h_.set o (.rows 1 (bJ (sS A k)))) (λk=>k<=Z' f.bgD) (λk=>Z' f.bgD-k) 0 (bhT _) ?_ ?_ ?_
  ·unfold trF;exact Lq
  ·refine e_ a_ ?_;simp only[go_sem];rw[arI,u,xZ]
  intro k W;simp only[go_sem,T4,amY,trF];by_cases hlt:k<Z' f.bgD
  ·have e:(k:Int)<(Z' f.bgD:Nat):=Om;obtain⟨R,N⟩:=hV.Dg hlt;have Q:=V8 A (k:=k) Om;have w:k<Z' A:=Om;have U:=wb (l:=sS A k) (i:=k) Om;have p:=aGA A w;rw[E k w]at p;simp only[go_sem,e,amZ];refine bV .nil eW a_ ?_;simp only[go_sem,anA,rL hlt,hV.SG hlt,Rt R,N,e,biN,U];refine⟨a_,?_⟩;simp only[go_sem,anB,bhO];by_cases c:Z' room=Z' f.bgD
   ·have y:((Z' room:Int)==(Z' f.bgD:Int))=true:=bY Om;have x:k<Z' room:=Om;have J:(room.map λn=>[PV.int .i64 n])[k]?=some [.int .i64 room[k]]:=by simp[x]
    simp only[go_sem,y];refine bV .nil eW a_ ?_;have K:(bJ ((sS A k).set k (ext f k)))[k]?=some [.int .i64 (ext f k)]:=by rw[<-vL,List.getElem?_set_self (by rw[dN];omega)]
    simp only[go_sem,anC,J,e,biN,K,max_eq,axI,List.set_set,vL];refine⟨a_,?_⟩;simp only[go_sem,js,wZz k];refine aJ (k+1) hlt Om ?_ ?_
    ·exact Lq
    ·refine e_ a_ ?_;rw[<-p,pQ,aG c,bhX,biD x,bkC];simp only[go_sem]
   ·have y:((Z' room:Int)==(Z' f.bgD:Int))=false:=bL Om;simp only[go_sem,y,js,wZz k,vL];refine aJ (k+1) hlt Om ?_ ?_
    ·exact Lq
    ·refine e_ a_ ?_;rw[<-p,pQ,aE c];simp only[go_sem]
  ·have e:¬(k:Int)<(Z' f.bgD:Nat):=Om;have:k=Z' f.bgD:=Om;subst this;simp only[go_sem,e,T5];have B:sS A f.bgD.length=A:=by rw[<-u,aFZ]
   rw[B];exact XT (.inr rfl) (v:=.osl o 1 0 f.bgD.length) (.inr ⟨o,bJ A,by rw[dN,u],s_,bhV _,biK (bhV _)⟩) Sq
abbrev lay(l:L2_):PV:=.sl 1 (l.map λr=>[ints r])
def jK(n:Nat)(xs:List Int):List Int:=(bhP n).map λ(d:Nat)=>((xs.count (d:Int):Nat):Int)
theorem oE(n:Nat)(xs:List Int):(jK n xs).length=n:=by simp[jK]
theorem Yx(n:Nat):jK n []=bhU n 0:=by
 refine bkS (by simp[jK]) λi d e=>by simp[jK]
theorem Kh{n:Nat}(xs:List Int){d:Nat}(h:d<n):(jK n xs)[d]'(by rw[oE];exact h)=((xs.count (d:Int):Nat):Int):=by simp[jK]
theorem atV{n:Nat}(xs:List Int){d:Nat}(h:d<n):(jK n xs).set d (((xs.count (d:Int):Nat):Int)+1)=jK n (xs++[(d:Int)]):=by
 refine bkS (by simp[jK]) λi l p=>?_;simp only[jK,List.getElem_set,bjK,List.getElem_range,List.count_append];by_cases e:d=i
 ·subst e;simp
 ·have:((d:Nat):Int)≠(i:Int):=Om;rw[aE e];simp[List.count_cons,this]
theorem Yy{n:Nat}(xs:List Int){x:Int}(h:¬(0<=x/\x<n)):jK n (xs++[x])=jK n xs:=by
 refine bkS (by simp[jK]) λi e d=>?_;simp only[jK,bjK,List.getElem_range,List.count_append];have hi:i<n:=by simpa[jK]using d
 have:x≠(i:Int):=Om;simp[List.count_cons,this]
def mV(f:aD)(l:L2_):List Int:=jK f.bgD.length l.flatten
structure AK(l:L2_):Prop where
 rows:Z' l<=16777216
 all:Z' l.flatten<=16777216
theorem MH(l:L2_){i:Nat}(h:i<Z' l):(l.take (i+1)).flatten=(l.take i).flatten++l[i]:=by
 rw[bjF h,List.flatten_append];simp only[List.flatten_cons,List.flatten_nil,bjI]
theorem u6(l:L2_)(i:Nat):(l.take i).flatten.length<=Z' l.flatten:=by
 have:l.flatten=(l.take i).flatten++(l.drop i).flatten:=by rw[<-List.flatten_append,bkQ]
 rw[this,bhW];omega
def KB(f:aD)(l:L2_):List Int:=if dC f then mV f l else[]
structure oO where
 kind:Int
 vol:Int
 wher:Int
abbrev oO.cells(x:oO):List PV:=[.int .i64 x.kind,.int .i64 x.vol,.int .i64 x.wher]
abbrev M4(l:List oO):PV:=.sl 3 (l.map oO.cells)
def lG(p:Int->Bool):List Int->Nat->Option Nat
 |[],_=>none
 |x::t,i=>if p x then some i else lG p t (i+1)
def uO(f:aD)(d:Int):Bool:=decide (d < -1)||decide (d>=(Z' f.bgD:Nat))
def SR(f:aD)(l:L2_)(v:Nat):Option oO:=
 if((l.getD v []).length:Int)=kF f v then(lG (uO f) (l.getD v []) 0).map λ(i:Nat)=>⟨1,v,i⟩else some ⟨1,v,((l.getD v []).length:Nat)⟩
section
variable {C:Ctx} {F:PF} {H:PH}
theorem aKU{name:Nat}{vs cs:List PV}{r:PV}{i:PH}{args:List aP}{d:Option Nat}{K:PF->PH->Prop}(h:aH C name (vs++cs) i (λr' H'=>r'=r/\H'=i))(l:aP.evs F args=some vs)(e:i.le H)
  (p:K (F.put d r) H):lD C name args cs d K F H:=by
 refine .inl ⟨vs++cs,i,_,by rw[l];rfl,e,h,?_⟩;rintro r' H' ⟨rfl,rfl⟩ -;rw[PH.over_self _ e];exact p
theorem cA.ne{s s':Nat}{v:PV}{rows:P2_}{o:Nat}{y:P2_}(h:cA H s v rows)(p:H o=some (.rows s' y))(u:s≠s'):∀l,v≠.osl o s 0 l:=by
 intro l e;rcases h with⟨_,d⟩|⟨q,rs,h1,d,_⟩
 ·rw[d]at e;cases e
 ·rw[h1]at e;injection e with i
  subst i;rw[p]at d;injection d with d
  injection d with d
  exact u d.symm
theorem cA.set{s s':Nat}{v:PV}{rows:P2_}{o:Nat}{y:P2_}{x:aY}(h:cA H s v rows)(l:H o=some (.rows s' y))(p:s≠s'):cA (H.set o x) s v rows:=by
 have i:=h.ne l p;rcases h with⟨d,e⟩|⟨q,rs,d,e,h3,h4⟩
 ·exact .inl ⟨d,e⟩
 ·refine .inr ⟨q,rs,d,?_,h3,h4⟩;have:q≠o:=by rintro rfl;exact i _ d
  simp only[bC,aE this,e]
def Dis(s:Nat)(v u:PV):Prop:=∀q l d e,v=.osl q s 0 l->u=.osl d s 0 e->q≠d
theorem Dis.nil{s:Nat}:Dis s .aK .aK:=λ_ _ _ _ h=>by cases h
theorem Dis.symm{s:Nat}{v u:PV}(h:Dis s v u):Dis s u v:=λq l p i d e=>(h p i q l e d).symm
end
abbrev kZ(l:List oO):P2_:=l.map oO.cells
def eN(kind v:Int)(n:Nat)(p:Nat->Bool):List oO:=((bhP n).filter p).map λ(i:Nat)=>⟨kind,v,i⟩
theorem tC(kind v:Int)(n:Nat)(p:Nat->Bool):eN kind v (n+1) p=if p n then eN kind v n p++[⟨kind,v,n⟩]else eN kind v n p:=by
 unfold eN;rw[List.range_succ,List.filter_append,biV];by_cases h:p n
 ·rw[aG h];simp[h]
 ·rw[aE h];simp[h]
theorem kT(kind v:Int)(n:Nat)(p:Nat->Bool):(eN kind v n p).length<=n:=by
 unfold eN;rw[bhO];exact biQ (List.length_filter_le _ _) bH
theorem wF(l:List oO):(kZ l).length=Z' l:=by simp[kZ]
theorem CH(l:List oO)(x:oO):kZ l++[x.cells]=kZ (l++[x]):=by simp[kZ]
def lJ(f:aD)(i:Nat)(d:Int):Bool:=decide (0<=d)&&decide (dM f d.toNat (lvl f i)=i)
def fY(f:aD)(xs:List Int)(i:Nat):Int:=if i=0 then 0 else((xs.countP (lJ f i):Nat):Int)
def lH(f:aD)(xs:List Int):List Int:=(bhP f.bgG.length).map (fY f xs)
def sE(f:aD)(xs:List Int)(d:Nat)(k:Nat):List Int:=(bhP f.bgG.length).map λi=>if 4-(k:Int)<lvl f i then fY f (xs++[(d:Int)]) i else fY f xs i
theorem aTH(f:aD)(xs:List Int)(d k:Nat):(sE f xs d k).length=Z' f.bgG:=by simp[sE]
theorem VF.qD{f:aD}(h:VF f){i:Nat}(hi:i<Z' f.bgG):0<=lvl f i/\lvl f i<=4/\(lvl f i=0↔i=0):=by
 rcases bkM i with e|e
 ·subst e;rw[h.root.2.1];simp
 ·have:=h.dom i e hi;omega
theorem aMI{f:aD}(h:VF f)(xs:List Int)(d:Nat):sE f xs d 0=lH f xs:=by
 refine bkS (by simp[sE,lH]) λi l e=>?_;simp only[sE,lH,bjK,List.getElem_range];have hi:i<Z' f.bgG:=by simpa[lH]using e
 have:=h.qD hi;rw[aE Om]
theorem aMH{f:aD}(h:VF f)(xs:List Int)(d:Nat):sE f xs d 4=lH f (xs++[(d:Int)]):=by
 refine bkS (by simp[sE,lH]) λi p l=>?_;simp only[sE,lH,bjK,List.getElem_range];have hi:i<Z' f.bgG:=by simpa[lH]using l
 have:=h.qD hi;by_cases e:i=0
 ·subst e;rw[aE Om];simp[fY]
 ·rw[aG Om]
theorem MB(f:aD)(xs:List Int)(d:Nat){i:Nat}(hi:i≠0):fY f (xs++[(d:Int)]) i=fY f xs i+if dM f d (lvl f i)=i then 1 else 0:=by
 unfold fY;rw[aE hi,aE hi,blO];by_cases h:dM f d (lvl f i)=i
 ·rw[aG h];simp[lJ,h]
 ·rw[aE h];simp[lJ,h]
theorem a1B{f:aD}(h:VF f)(xs:List Int){d:Nat}(y:d<Z' f.bgD){k:Nat}(E:k<4) :
  (sE f xs d k)[upN f k (eM f d)]?=some (fY f xs (upN f k (eM f d))) /\
  (sE f xs d k).set (upN f k (eM f d)) (fY f xs (upN f k (eM f d))+1)=sE f xs d (k+1):=by
 obtain⟨A,w⟩:=KZ h y (k:=k) Om;constructor
 ·simp only[sE,biL,blX A,biP];rw[aE Om]
 ·refine bkS (by simp[sE]) λi B x=>?_;have hi:i<Z' f.bgG:=by simpa[sE]using x
  simp only[sE,List.getElem_set,bjK,List.getElem_range];have J:=h.qD hi;by_cases e:upN f k (eM f d)=i
  ·rw[aG e];subst e;rw[aG Om];have l:upN f k (eM f d)≠0:=by intro e;rw[e,h.root.2.1]at w;omega
   rw[MB f xs d l,dM,w];have:4-(4-(k:Int)).toNat=k:=Om;rw[this,aG rfl]
  ·rw[aE e];by_cases c:4-(k:Int)<lvl f i
   ·rw[aG c,aG Om]
   ·rw[aE c];by_cases p:4-((k+1:Nat):Int)<lvl f i
    ·rw[aG p];have u:lvl f i=4-(k:Int):=Om;have l:i≠0:=by intro e;subst e;rw[h.root.2.1]at u;omega
     rw[MB f xs d l,dM,u];have:4-(4-(k:Int)).toNat=k:=Om;rw[this,aE e];simp
    ·rw[aE p]
theorem a1A(f:aD)(xs:List Int)(i:Nat):0<=fY f xs i/\fY f xs i<=Z' xs:=by
 unfold fY;have:=List.countP_le_length (p:=lJ f i) (l:=xs);split<;>omega
structure Obs where
 o5:Nat
 o7:Nat
 o8:Nat
 oD:Nat
 oB:Nat
structure Obs.Ne(o:Obs):Prop where
 a1:o.o5≠o.oD
 a2:o.o5≠o.oB
 a3:o.o7≠o.oD
 a4:o.o7≠o.oB
 a5:o.o8≠o.oD
 a6:o.o8≠o.oB
 a7:o.oD≠o.oB
structure aSD(H:PH)(o:Obs)(v:Nat)(p:cE)(A:List Bool)(D B:List Int):Prop where
 h5:H o.o5=some (.rows 1 [[.int .i64 v]])
 h7:H o.o7=some (.rows 17 [p.cells])
 h8:H o.o8=some (.rows 1 (eK A))
 hD:H o.oD=some (.rows 1 (bJ D))
 hB:H o.oB=some (.rows 1 (bJ B))
theorem aSD.keep{H H':PH}{o:Obs}{v:Nat}{p:cE}{A:List Bool}{D B:List Int}(h:aSD H o v p A D B)(d:∀q s' z,3≠s'->H q=some (.rows s' z)->H' q=some (.rows s' z)):aSD H' o v p A D B:=
 ⟨d _ _ _ aS h.h5,d _ _ _ aS h.h7,d _ _ _ aS h.h8,d _ _ _ aS h.hD,d _ _ _ aS h.hB⟩
structure SY(f:aD)(row:List Int):Prop where
 len:Z' row<=16777216
 at_:∀x∈row,-1<=x/\x<(Z' f.bgD:Nat)
def home(row:List Int)(i:Nat):Bool:=decide (row.getD i 0<0)
def gI(f:aD)(p:cE)(row:List Int)(i:Nat):Bool:=decide (0<=row.getD i 0)&&!p.bgE.contains ((mdl f (row.getD i 0).toNat:Nat):Int)
def sN(f:aD)(row:List Int)(d:Nat):Bool:=decide ((jK f.bgD.length row).getD d 0>1)
def eS(f:aD)(p:cE)(i:Nat):Int:=p.spread (lvl f i).toNat
def sI(f:aD)(p:cE)(row:List Int)(i:Nat):Bool:=decide (eS f p i>0)&&decide ((lH f row).getD i 0>eS f p i)
def LD(f:aD)(p:cE)(v:Nat)(row:List Int):List oO:=
 eN 2 v row.length (home row)++eN 3 v f.bgD.length (sN f row)++eN 4 v row.length (gI f p row)++eN 5 v f.bgG.length (sI f p row)
theorem cj(n:Nat):bhU n [PV.bool false]=eK (marks n []):=by rw[Rb];simp[eK]
theorem aRR(f:aD):bhU f.bgG.length [PV.int .i64 0]=bJ (lH f []):=by
 have:lH f []=bhU f.bgG.length 0:=by refine bkS (by simp[lH]) λi d e=>?_;simp[lH,fY]
 rw[this,xZ]
def KJ(f:aD)(l:L2_)(v:Nat):List oO:=match SR f l v with
 |some x=>[x]
 |none=>LD f (kI f v) v (l.getD v [])
def wR(f:aD)(l:L2_)(n:Nat):List oO:=(bhP n).flatMap (KJ f l)
def over(f:aD)(l:L2_)(room:List Int)(d:Nat):Bool:=decide ((mV f l).getD d 0>(fZ f room).getD d 0)
def a0E(f:aD)(l:L2_)(room:List Int):List oO:=wR f l l.length++eN 6 (-1) f.bgD.length (over f l room)
def NN(f:aD)(l:L2_)(room:List Int):List oO:=
 if dC f then(if l.length=f.bgF.length then a0E f l room else[⟨1,-1,(Z' l:Nat)⟩])else[]
theorem FK{p:Int->Bool}:∀{l:List Int}{i:Nat},lG p l i=none->∀x∈l,p x=false
 |[],_,_,x,hx=>absurd hx (biO)
 |y::t,i,h,x,hx=>by
  rw[lG]at h;split at h
  ·cases h
  ·rename_i d;rcases biG.1 hx with rfl|hx
   ·simpa using d
   ·exact FK h x hx
theorem aQA{f:aD}{l:L2_}(p:AK l){v:Nat}(d:v<Z' l)(h:SR f l v=none):SY f l[v]:=by
 have i:l.getD v []=l[v]:=by simp[bhX,d]
 unfold SR at h;rw[i]at h;split at h
 ·rw[Option.map_eq_none_iff]at h;refine⟨?_,λx u=>?_⟩
  ·have e:=u6 l (v+1);have:=p.all;rw[MH l d,bhW]at e;omega
  ·have:=FK h x u;simp[uO]at this;omega
 ·cases h
theorem aKK(f:aD)(p:cE)(v:Nat)(row:List Int):(LD f p v row).length<=2*Z' row+Z' f.bgD+Z' f.bgG:=by
 unfold LD;have d:=kT 2 v row.length (home row);have e:=kT 3 v f.bgD.length (sN f row);have i:=kT 4 v row.length (gI f p row);have l:=kT 5 v f.bgG.length (sI f p row);simp only[bhW];omega
theorem ajC{f:aD}(d:Small f){l:L2_}(p:AK l){v:Nat}(e:v<Z' l):(KJ f l v).length<=100000000:=by
 unfold KJ;split
 ·simp
 ·rename_i h;have i:l.getD v []=l[v]:=by simp[bhX,e]
  have:=aKK f (kI f v) v (l.getD v []);have u:=(aQA p e h).len;have:=d.bgD;have:=d.bgG;rw[i]at *
  omega
theorem Dj(f:aD)(l:L2_)(n:Nat):wR f l (n+1)=wR f l n++KJ f l n:=by
 unfold wR;rw[List.range_succ,List.flatMap_append];simp
theorem dz{f:aD}(e:Small f){l:L2_}(d:AK l):∀{n:Nat},n<=Z' l->(wR f l n).length<=n*100000000
 |0,_=>by simp[wR]
 |n+1,h=>by rw[Dj,bhW];have:=dz e d (n:=n) Om;have:=ajC e d (v:=n) Om;omega
def BC(f:aD)(l:L2_)(room:List Int):Bool:=dC f&&decide ((NN f l room).length=0)
def MU:=bT [] Proofs.Tryz.f14
def axQ:=aA MU 0
def axR:=aA MU 1
def axS:=aA MU 2
def Ll:=aA MU 3
def gf:aC:=(sq axQ (jB axR 5 (.region axS) (sq Ll .ret)))
def aVV:bD:=⟨1,12,gf,[.tmp 2]⟩
def BH:=bT [] Proofs.Tryz.f15
def xb:=aA BH 0
def WP:=cV BH 0
def xc:=aA BH 1
def agQ:=aA BH 2
def agR:=cV BH 1
def GY:aC:=(sq xb (.seq (dq WP (.cond (Tm 18) (sq xc .ret) .skip)) (sq agQ (dq agR .ret))))
def W5:bD:=⟨2,40,GY,[.tmp 4]⟩
def WH:=bT [] Proofs.Tryz.f89
def afS:=aA WH 0
def afT:=aA WH 1
def afU:=aA WH 2
def WG:aC:=(sq afS (sq afT (sq afU .ret)))
def aHU:bD:=⟨1,16,WG,[.cell 2 (some 3)]⟩
def eX:=bT [45,63,90,95] Proofs.Tryz.f39
def axK:=aA eX 0
def axL:=aA eX 1
def axM:=aA eX 2
def axN:=aA eX 3
def axO:=aA eX 4
def axP:=aA eX 5
def Lh:=aA eX 6
def Li:=aA eX 7
def Lj:=aA eX 8
def mm:=aA eX 9
def wq:=aA eX 10
def wr:=aA eX 11
def wt:=aA eX 12
def wu:=aA eX 13
def ww:=aA eX 14
def WK:=aA eX 15
def wx:=aA eX 16
def wy:=aA eX 17
def agJ:=aA eX 18
def agK:=aA eX 19
def agL:=aA eX 20
def wz:=aA eX 21
def w8:=aA eX 22
def w9:=aA eX 23
def WJ:aC:=(dK agJ 68 2 w9 (sq agK (jB agL 85 (.region wz) (.region w8))))
def xa:=aA eX 24
def agM:=aA eX 25
def agI:aC:=(dK axP 22 0 agM (sq Lh (jB Li 29 (.region Lj) (sq mm (sq wq (sq wr (sq wt (jB wu 58 (.region ww) (sq WK (sq wx (.seq (cH wy 2 WJ) (.region xa))))))))))))
def agN:=aA eX 26
def ge:aC:=(sq axK (sq axL (sq axM (sq axN (.seq (cH axO 0 agI) (sq agN .ret))))))
def aVP:bD:=⟨2,99,ge,[.cell 4 (some 4)]⟩
def vO:=bT [16] Proofs.Tryz.f42
def axU:=aA vO 0
def axV:=aA vO 1
def axW:=aA vO 2
def axX:=aA vO 3
def axY:=aA vO 4
def axZ:=aA vO 5
def axT:aC:=(dK axX 10 0 axZ (.region axY))
def ayA:=aA vO 6
def gg:aC:=(sq axU (sq axV (.seq (cH axW 0 axT) (sq ayA .ret))))
def aVX:bD:=⟨2,19,gg,[.tmp 4]⟩
def Ft:=bT [] Proofs.Tryz.f40
def agO:=aA Ft 0
def agP:=aA Ft 1
def WO:aC:=(sq agO (sq agP .ret))
def aHY:bD:=⟨2,9,WO,[.tmp 4]⟩
def hZ:=bT [60,81,113] Proofs.Tryz.f41
def afX:=aA hZ 0
def afY:=aA hZ 1
def afZ:=aA hZ 2
def agA:=aA hZ 3
def WI:=aA hZ 4
def wj:=aA hZ 5
def wk:=aA hZ 6
def agB:=aA hZ 7
def agC:=cV hZ 0
def agD:=cV hZ 1
def Rp:=aA hZ 8
def Rq:=cV hZ 2
def Rr:=aA hZ 9
def Rs:=aA hZ 10
def gb:=cV hZ 3
def gd:=aA hZ 11
def EY:=aA hZ 12
def EX:aC:=(dK wj 28 0 EY (jB wk 32 (jB agB 39 (dq agC (.draw agD)) (.exit 1)) (jB Rp 78 .ret (dq Rq (jB Rr 98 (.region Rs) (dq gb (.region gd)))))))
def GX:aC:=(sq afX (sq afY (jB afZ 25 (.region agA) (cH WI 0 EX))))
def W4:bD:=⟨4,127,GX,[]⟩
def cD:=bT [40,67,148,154,176] Proofs.Tryz.f16
def Re:=aA cD 0
def Rf:=aA cD 1
def Rh:=aA cD 2
def Ri:=aA cD 3
def Rj:=aA cD 4
def Rk:=aA cD 5
def Rm:=aA cD 6
def Rn:=aA cD 7
def Ro:=aA cD 8
def ga:aC:=(dK Rj 29 0 Ro (sq Rk (sq Rm (.region Rn))))
def Es:=aA cD 9
def Et:=aA cD 10
def Eu:=aA cD 11
def Ew:=cV cD 0
def Ex:=cV cD 1
def Ey:=aA cD 12
def VW:aC:=(dK Eu 48 2 Ey (dq Ew (.draw Ex)))
def Ez:=aA cD 13
def E0:=aA cD 14
def E4:=aA cD 15
def E5:=aA cD 16
def E6:=aA cD 17
def VZ:=aA cD 18
def GQ:=cV cD 2
def GR:=cV cD 3
def GT:=aA cD 19
def GU:=aA cD 20
def WA:=aA cD 21
def E7:=aA cD 22
def E8:=aA cD 23
def E9:=aA cD 24
def WB:=aA cD 25
def GP:aC:=(dK E7 119 6 WB (sq E8 (.cond (Tm 124) (.region E9) .skip)))
def WC:=aA cD 26
def WD:=aA cD 27
def WE:=aA cD 28
def WF:=aA cD 29
def GW:=aA cD 30
def Fa:=aA cD 31
def VX:aC:=(dK E6 82 4 Fa (sq VZ (.seq (dq GQ (.draw GR)) (sq GT (sq GU (.seq (cH WA 6 GP) (sq WC (sq WD (jB WE 143 (.region WF) (.region GW))))))))))
def Fb:=aA cD 32
def Fc:=aA cD 33
def Fe:=aA cD 34
def Ff:=cV cD 4
def Fg:=cV cD 5
def Fh:=aA cD 35
def VY:aC:=(dK Fe 163 8 Fh (dq Ff (.draw Fg)))
def Fi:=aA cD 36
def OS:aC:=(sq Re (sq Rf (sq Rh (.seq (cH Ri 0 ga) (sq Es (.seq (cH Et 2 VW) (sq Ez (sq E0 (sq E4 (.seq (cH E5 4 VX) (sq Fb (.seq (cH Fc 8 VY) (sq Fi .ret)))))))))))))
def afR:bD:=⟨3,180,OS,[.cell 6 (some 7)]⟩
def qg:=bT [] Proofs.Tryz.f28
def Q7:=aA qg 0
def Q8:=aA qg 1
def OQ:aC:=(sq Q7 (sq Q8 .ret))
def afG:bD:=⟨3,12,OQ,[.cell 6 (some 7)]⟩
def pX:=bT [3,21] Proofs.Tryz.f17
def agU:=aA pX 0
def agV:=aA pX 1
def agW:=aA pX 2
def agX:=aA pX 3
def agY:=aA pX 4
def agZ:=aA pX 5
def ahA:=aA pX 6
def ahB:=aA pX 7
def agT:aC:=(dK agZ 14 0 ahB (.region ahA))
def ahC:=aA pX 8
def WQ:aC:=(sq agU (dP agV 9 agW (sq agX (.seq (cH agY 0 agT) (sq ahC .ret)))))
def aIA:bD:=⟨2,24,WQ,[.tmp 4]⟩
def eP:=bT [3,62,66] Proofs.Tryz.f6
def Fj:=aA eP 0
def Fk:=aA eP 1
def Fl:=aA eP 2
def Fm:=aA eP 3
def Fo:=aA eP 4
def Fp:=aA eP 5
def Fq:=aA eP 6
def WL:=aA eP 7
def WM:=aA eP 8
def WN:=aA eP 9
def OU:=aA eP 10
def OV:=aA eP 11
def OW:=aA eP 12
def OX:=aA eP 13
def DW:=aA eP 14
def OY:=aA eP 15
def DX:=aA eP 16
def OZ:=aA eP 17
def OT:aC:=(dK WL 28 2 OZ (sq WM (jB WN 34 (sq OU (sq OV (.block 4 (sq OW (.cond (Tm 44) (.region OX) (sq DW (.cond (Tm 51) (.region OY) .skip))))))) (.region DX))))
def ql:=aA eP 18
def qn:=aA eP 19
def qk:aC:=(dK Fm 15 0 qn (sq Fo (sq Fp (.seq (cH Fq 2 OT) (.region ql)))))
def qp:=aA eP 20
def KG:aC:=(sq Fj (sq Fk (.seq (cH Fl 0 qk) (sq qp .ret))))
def Lk:bD:=⟨2,69,KG,[.tmp 4]⟩
def YB:=bT [2] Proofs.Tryz.f19
def akR:=aA YB 0
def akS:=cV YB 0
def akT:=aA YB 1
def YA:aC:=(sq akR (dq akS (sq akT .ret)))
def aJK:bD:=⟨2,21,YA,[.tmp 4]⟩
def CD:=bT [] Proofs.Tryz.f74
def aoT:=aA CD 0
def aoU:=aA CD 1
def aoV:=aA CD 2
def aoW:=aA CD 3
def aoS:aC:=(.seq (sq aoV (.cond (Tm 15) .skip (.exit 0))) (.block 1 (.region aoW)))
def ze:=aA CD 4
def ZD:aC:=(sq aoT (sq aoU (.seq (.block 0 (.loop aoS)) (sq ze .ret))))
def aKF:bD:=⟨1,22,ZD,[.tmp 2]⟩
def Hn:=bT [8] Proofs.Tryz.f44
def aoE:=aA Hn 0
def aoF:=aA Hn 1
def YT:aC:=(sq aoE (sq aoF .ret))
def aKA:bD:=⟨1,10,YT,[.tmp 2]⟩
def tp:=bT [] Proofs.Tryz.f131
def Ub:=aA tp 0
def Uc:=aA tp 1
def QS:aC:=(sq Ub (sq Uc .ret))
def aoD:bD:=⟨1,7,QS,[.tmp 2]⟩
def lN:=bT [] Proofs.Tryz.f88
def aBE:=aA lN 0
def aBF:=aA lN 1
def aBG:=aA lN 2
def aBH:=aA lN 3
def aBI:=aA lN 4
def aBJ:=aA lN 5
def aBK:=aA lN 6
def aBL:=aA lN 7
def aBM:=cV lN 0
def aBN:=aA lN 8
def anQ:=cV lN 1
def anR:=aA lN 9
def anS:=aA lN 10
def anP:aC:=(dK aBL 24 0 anS (.seq (dq aBM (.cond (Tm 35) (sq aBN .ret) .skip)) (dq anQ (.cond (Tm 44) (sq anR .ret) .skip))))
def anT:=aA lN 11
def jv:aC:=(sq aBE (sq aBF (jB aBG 14 (dP aBH 19 aBI (sq aBJ .ret)) (.seq (cH aBK 0 anP) (sq anT .ret)))))
def aXZ:bD:=⟨2,45,jv,[.tmp 4]⟩
def cK:=bT [76] Proofs.Tryz.f132
def Hf:=aA cK 0
def Hg:=aA cK 1
def Hh:=aA cK 2
def Hi:=aA cK 3
def YP:=aA cK 4
def YQ:=aA cK 5
def YR:=aA cK 6
def Hj:=aA cK 7
def Hl:=aA cK 8
def Hm:=aA cK 9
def sw:=aA cK 10
def sx:=aA cK 11
def QG:aC:=(dK Hj 36 0 sx (sq Hl (sq Hm (.region sw))))
def QH:=aA cK 12
def s7:=aA cK 13
def s8:=aA cK 14
def QI:=aA cK 15
def QJ:=aA cK 16
def QK:=aA cK 17
def QL:=aA cK 18
def s9:=aA cK 19
def ta:=cV cK 0
def tc:=aA cK 20
def td:=aA cK 21
def te:=aA cK 22
def tf:=cV cK 1
def tg:=aA cK 23
def EC:aC:=(.seq (dq tf (.cond (Tm 146) .skip (.exit 4))) (.block 5 (.region tg)))
def QM:=aA cK 24
def QN:=aA cK 25
def th:=aA cK 26
def ti:=aA cK 27
def tj:=aA cK 28
def tk:=aA cK 29
def QO:=aA cK 30
def ED:aC:=(dK th 166 6 QO (sq ti (sq tj (.cond (Tm 177) (.region tk) .skip))))
def QP:=aA cK 31
def QQ:=aA cK 32
def EE:aC:=(dK s9 105 2 QQ (dq ta (sq tc (jB td 131 (.region te) (.seq (.block 4 (.loop EC)) (sq QM (.seq (cH QN 6 ED) (.region QP))))))))
def QR:=aA cK 33
def KY:aC:=(sq Hf (dP Hg 23 Hh (jB Hi 28 (sq YP (sq YQ (.seq (cH YR 0 QG) (sq QH .ret)))) (sq s7 (sq s8 (sq QI (sq QJ (sq QK (.seq (cH QL 2 EE) (sq QR .ret))))))))))
def Mx:bD:=⟨2,198,KY,[.tmp 4,.tmp 5]⟩
def wD:=bT [] Proofs.Tryz.f92
def aBO:=aA wD 0
def aBP:=aA wD 1
def Mw:=aA wD 2
def aBQ:=aA wD 3
def aBR:=aA wD 4
def aBS:=aA wD 5
def aBT:=aA wD 6
def jw:aC:=(sq aBO (dP aBP 14 Mw (dP aBQ 18 aBR (sq aBS (sq aBT .ret)))))
def udiv:bD:=⟨2,29,jw,[.tmp 4,.tmp 5,.tmp 6]⟩
def tG:=bT [] Proofs.Tryz.f91
def aBV:=aA tG 0
def aBW:=aA tG 1
def My:=aA tG 2
def aBX:=aA tG 3
def aBY:=aA tG 4
def aBZ:=aA tG 5
def aCA:=aA tG 6
def aBU:aC:=(.seq (sq aBY (.cond (Tm 22) .skip (.exit 0))) (.block 1 (sq aBZ (.region aCA))))
def aCB:=aA tG 7
def jz:aC:=(sq aBV (dP aBW 15 My (sq aBX (.seq (.block 0 (.loop aBU)) (sq aCB .ret)))))
def aYD:bD:=⟨2,32,jz,[.tmp 4,.tmp 5]⟩
def nA:=bT [16] Proofs.Tryz.f43
def Ib:=aA nA 0
def Ic:=aA nA 1
def Ie:=aA nA 2
def If:=aA nA 3
def Ig:=aA nA 4
def Ih:=aA nA 5
def ZG:=aA nA 6
def ZH:=aA nA 7
def HM:=aA nA 8
def LF:aC:=(sq Ib (sq Ic (dP Ie 15 If (.seq (sq Ig (sq Ih (.cond (Tm 32) (sq ZG (.region ZH)) .skip))) (sq HM .ret)))))
def M5:bD:=⟨3,51,LF,[.cell 6 (some 3)]⟩
def HO:=bT [] Proofs.Tryz.f45
def apV:=aA HO 0
def apW:=aA HO 1
def apX:=aA HO 2
def apY:=aA HO 3
def ZL:aC:=(sq apV (dP apW 4 apX (sq apY .ret)))
def aKQ:bD:=⟨1,12,ZL,[.tmp 2]⟩
def HN:=bT [] Proofs.Tryz.f18
def apK:=aA HN 0
def apL:=aA HN 1
def apM:=aA HN 2
def apN:=aA HN 3
def ZI:aC:=(sq apK (dP apL 7 apM (sq apN .ret)))
def Xf:bD:=⟨2,21,ZI,[.cell 4 (some 3),.tmp 5]⟩
def kf:=bT [] Proofs.Tryz.f13
def aDB:=aA kf 0
def aDC:=aA kf 1
def aDD:=aA kf 2
def kd:aC:=(sq aDB (sq aDC (sq aDD .ret)))
def aYS:bD:=⟨1,11,kd,[.cell 2 (some 3)]⟩
def utF(xs:List Nat)(n:Nat):PF:=((n_.set 0 (aN xs)).set 3 (.int .i64 n))
theorem aYO(xs:List Nat)(M:Lim xs)(N:Z' xs<=35184372087808):ZD.wp C (aZ aKF.res (tH 1 (aO (aL (val xs))))) (g_ [aN xs]) .nil:=by
 simp only[go_sem,ZD,aoT,aoU,aKF,bhO];refine wp_loop (α:=Nat) (λn=>utF xs n) (λ_=>.nil) (λn=>n<=Z' xs/\∀j x,n<=j->xs[j]?=some x->x=0) (λn=>n) xs.length ⟨bhV _,λj x w d=>?_⟩ ?_ a_ ?_
 ·rw[bjJ w]at d;cases d
 ·unfold utF;exact Lq
 rintro n ⟨J,B⟩;have done:(0<n->∀h:n-1<Z' xs,xs[n-1]≠0)->∀F:PF,(utF xs n).le F->aC.wp C (.seq (.region ze) .ret) (aZ [.tmp 2] (tH 1 (aO (aL (val xs))))) F .nil:=by
  intro h F u;have f0:F 0=some (aN xs):=u 0 _ (by unfold utF;simp only[go_sem]);have E:F 3=some (.int .i64 n):=u 3 _ (by unfold utF;simp only[go_sem]);have y:xs.take n=aL (val xs):=YL M J B λx l d=>by
   rw[biD Om]at d;injection d with d
   subst d;exact h l Om
  have H:((n:Nat):Int)<=(Z' xs:Nat):=Om;simp only[go_sem,ze,f0,E,bhO,H,or_true,bjG];refine fL (rows:=[]) (src:=aO (aL (val xs))) .nil ?_ ?_ λv H' K _=>?_
  ·simp only[go_sem];rw[<-y,<-bkY]
  ·unfold roomFor;rw[cR,<-y,biI];simp only[bkK,maxLen];omega
  ·exact XT (.inr rfl) (by simpa using K) rfl
 simp only[aC.wp,go_sem]at done;simp only[go_sem,aoS,aoV,utF];by_cases l:0<n
 ·have i:((n:Nat):Int)>0:=Om;have hlt:n-1<Z' xs:=Om;have p:=cI xs hlt;have A:i_.wrap ((n:Int)-1)=((n-1:Nat):Int):=FG Om l;simp only[go_sem,i,A,p];by_cases c:xs[n-1]=0
  ·simp only[go_sem,bY (Om:((xs[n-1]:Nat):Int)=0),aoW,A];refine aJ (n-1) ⟨by omega,λj x w d=>?_⟩ Om ?_ a_
   ·by_cases e:j=n-1
    ·subst e;rw[biD hlt]at d;injection d with d
     omega
    ·exact B j x Om d
   ·exact Lq
  ·simp only[go_sem,bL (Om:((xs[n-1]:Nat):Int)≠0)];exact done (λ_ _=>c) _ (by unfold utF;exact Lq)
 ·have i:¬((n:Nat):Int)>0:=Om;simp only[go_sem,i];exact done (λh=>absurd h l) _ (by unfold utF;exact Lq)
structure wK(C:Ctx):Prop where
 trimM:∀xs,Lim xs->Z' xs<=35184372087808->aH C 38 [aN xs] .nil (tH 1 (aO (aL (val xs))))
theorem wK.trim(L:wK C)(xs:List Nat)(e:Lim xs)(d:Z' xs<=35184372087808):aH C 38 [aN xs] .nil (aI (aN (aL (val xs)))):=(L.trimM xs e d).freeze
theorem aYE(L:wK C)(v:Nat)(A:v<18446744073709551616):YT.wp C (aZ aKA.res (cM (aN (aL v)))) (g_ [.int .u64 v]) .nil:=by
 have u:IntKind.u32.wrap ((v:Nat):Int)=((v%4294967296:Nat):Int):=dH v;have i:v/4294967296<4294967296:=Om;have w:IntKind.u32.wrap ((v/4294967296:Nat):Int)=((v/4294967296:Nat):Int):=by rw[dH,bjM i]
 have y:Lim [v%4294967296,v/4294967296]:=by
  intro x p;simp only[biG,List.mem_nil_iff,or_false]at p;rcases p with rfl|rfl
  ·exact bjR _ aS
  ·exact i
 have d:val [v%4294967296,v/4294967296]=v:=by simp only[val,Nat.mul_zero,bkA];exact Nat.mod_add_div v 4294967296
 have e:shift .shr .u64 (v:Int) 32=some (.int .u64 ((v/4294967296:Nat):Int)):=HE;have hb:(2:Nat)*1<=16777216:=by decide
 simp only[go_sem,YT,aoE,aoF,aKA,u,e,w,hb];have l:=L.trim [v%4294967296,v/4294967296] y bH;rw[d]at l;refine aB l rfl ?_;simp only[go_sem];exact bE (.inr rfl) .nil rfl a_ ⟨.refl _,rfl⟩
theorem aQQ(L:wK C)(xs:List Nat)(e:Lim xs)(d:Z' xs<=35184372087808):QS.wp C (aZ aoD.res (cM (.bool (decide (nl (val xs)>512))))) (g_ [aN xs]) .nil:=by
 simp only[go_sem,QS,Ub,Uc,aoD];refine aB (L.trim xs e d) rfl ?_;simp only[go_sem,bhO,bF];refine bQ rfl ?_;rw[decide_eq_decide];omega
theorem aFJ{a b:Nat}(h:nl a<nl b):eI a b=-1:=by
 have:a<b:=by
  rcases biR a b with h'|h'
  ·exact h'
  ·have:=jL h';omega
 simp[eI,this]
theorem aFI{a b:Nat}(h:nl b<nl a):eI a b=1:=by
 have:b<a:=by
  rcases biR b a with h'|h'
  ·exact h'
  ·have:=jL h';omega
 have d:¬a<b:=Om;simp[eI,this,d]
def aJV(X Y:List Nat)(i:Int):PF:=(((n_.set 0 (aN X)).set 1 (aN Y)).set 5 (.int .i64 i))
theorem a4U(L:wK C)(xs ys:List Nat)(x:Lim xs)(y:Lim ys)(R:Z' xs<=35184372087808)(S:Z' ys<=35184372087808) :
  jv.wp C (aZ aXZ.res (aI (.int .i64 (eI (val xs) (val ys))))) (g_ [aN xs,aN ys]) .nil:=by
 simp only[go_sem,jv,aBE,aBF,aXZ];refine aB (L.trim xs x R) Ev ?_;simp only[go_sem];refine aB (L.trim ys y S) Ev ?_;have U:=jR x;have E:=jR y;simp only[go_sem,aBG,bhO,bF];by_cases l:nl (val xs)≠nl (val ys)
 ·simp only[go_sem,dX (show((nl (val xs):Nat):Int)≠(nl (val ys):Nat) by omega),aBH];by_cases F:nl (val xs)<nl (val ys)
  ·simp only[go_sem,bhO,bF,show((nl (val xs):Nat):Int)<(nl (val ys):Nat) by omega,aBI];refine aT (.inr rfl) Ev ?_;rw[aFJ F];rfl
  ·simp only[go_sem,bhO,bF,show ¬((nl (val xs):Nat):Int)<(nl (val ys):Nat) by omega,aBJ];refine aT (.inr rfl) Ev ?_;rw[aFI Om];rfl
 replace l:=Decidable.of_not_not l;simp only[go_sem,cN (show((nl (val xs):Nat):Int)=(nl (val ys):Nat) by omega),aBK,bhO,bF];have ex:=aV (val xs);have p:=aV (val ys);have A:=aX (val xs);have B:=aX (val ys);generalize M:aL (val xs)=X at *
 generalize N:aL (val ys)=Y at *
 have O:Z' X=nl (val xs):=by rw[<-M];rfl
 have Q:Z' Y=nl (val xs):=by rw[l,<-N];rfl
 refine wp_loop (α:=Nat) (λk=>aJV X Y ((k:Int)-1)) (λ_=>.nil) (λk=>k<=nl (val xs)/\X.drop k=Y.drop k) (λk=>k) (nl (val xs)) ⟨bhV _,?_⟩ ?_ a_ ?_
 ·rw[blV Om,blV Om]
 ·unfold aJV
  (repeat' (first|exact c_|refine d_ ?_ ?_))<;>first|(simp only[go_sem,wrap_i64 (show -9223372036854775808<=((nl (val xs):Nat):Int)-1 by omega) (show((nl (val xs):Nat):Int)-1<=9223372036854775807 by omega)]<;>rfl)|rfl
 rintro k ⟨W,d⟩;simp only[go_sem,anP,aBL,aJV];by_cases V:0<k
 ·obtain⟨m,rfl⟩:∃m,k=m+1:=⟨k-1,by omega⟩;have w:((m+1:Nat):Int)-1=(m:Int):=Om;have u:(m:Int)>=0:=Om;have e:m<Z' X:=Om;have i:m<Z' Y:=Om;simp only[go_sem,w,u];refine bV .nil eW a_ ?_;simp only[go_sem,aBM,cI X e,cI Y i];by_cases H:X[m]<Y[m]
  ·simp only[go_sem,show((X[m]:Nat):Int)<(Y[m]:Nat) by omega,aBN];refine aT (.inr rfl) Ev ?_;have:=Bf A e i d H;rw[ex,p]at this;simp[bN,eI,this]
  ·simp only[go_sem,show ¬((X[m]:Nat):Int)<(Y[m]:Nat) by omega];refine bV .nil eW a_ ?_;simp only[go_sem,anQ,cI X e,cI Y i];by_cases J:X[m]>Y[m]
   ·simp only[go_sem,show((X[m]:Nat):Int)>(Y[m]:Nat) by omega,anR];refine aT (.inr rfl) Ev ?_;have:=Bf B i e d.symm J;rw[ex,p]at this;have K:¬val xs<val ys:=Om;simp[bN,eI,this,K]
   ·simp only[go_sem,show ¬((X[m]:Nat):Int)>(Y[m]:Nat) by omega,anS];refine aJ m ⟨by omega,Pt e i d Om⟩ Om ?_ a_
    (repeat' (first|exact c_|refine d_ ?_ ?_))<;>first|(simp only[go_sem,wrap_i64 (Om:-9223372036854775808<=(m:Int)-1) (Om:(m:Int)-1<=9223372036854775807)]<;>rfl)|rfl
 ·have:k=0:=Om;subst this;have w:¬((0:Nat):Int)-1>=0:=by decide
  simp only[go_sem,w,anT];refine aT (.inr rfl) Ev ?_;rw[bjG,bjG]at d;have:val xs=val ys:=by rw[<-ex,<-p,d]
  simp[bN,eI,this]
theorem NI(n:Nat):(((n:Nat):Int)==0)=decide (n=0):=by
 by_cases h:n=0
 ·subst h;rfl
 ·rw[bL Om,bG h]
structure Xv(C:Ctx):Prop extends wK C where
 make:∀v:Nat,v<18446744073709551616->aH C 35 [.int .u64 v] .nil (aI (aN (aL v)))
 large:∀xs,Lim xs->Z' xs<=35184372087808->aH C 41 [aN xs] .nil (aI (.bool (decide (nl (val xs)>512))))
 cmp:∀xs ys,Lim xs->Lim ys->Z' xs<=35184372087808->Z' ys<=35184372087808->aH C 32 [aN xs,aN ys] .nil (aI (.int .i64 (eI (val xs) (val ys))))
def aJZ(a b:Nat):PF:=((n_.set 6 (aN (aL a))).set 7 (aN (aL b)))
structure Ab(C:Ctx):Prop extends Xv C where
 divide:∀A B:Nat,B≠0->nl A<=512->nl B<=512->aH C 39 [aN (aL A),aN (aL B)] .nil (aI (xM A B))
def aGM(a b:Nat):PV:=if fJ a b then .tup [aN [],.int .i64 2]else .tup [aN (aL (bhR a b)),.int .i64 0]
theorem a4W(L:Ab C)(a b:List Nat)(p:Lim a)(hb:Lim b)(w:Z' a<=35184372087808)(A:Z' b<=35184372087808) :
  jz.wp C (aZ aYD.res (cM (aGM (val a) (val b)))) (g_ [aN a,aN b]) .nil:=by
 unfold aGM;simp only[go_sem,jz,aBV,aBW,aYD];refine aB (L.large a p w) rfl ?_;by_cases d:nl (val a)>512
 ·simp only[go_sem,d,My];rw[aG (by simp[fJ,d])];exact gQ rfl
 simp only[go_sem,d];refine aB (L.large b hb A) rfl ?_;by_cases e:nl (val b)>512
 ·simp only[go_sem,e,My];rw[aG (by simp[fJ,e])];exact gQ rfl
 rw[aE (by simp[fJ,d,e])];simp only[go_sem,e,aBX];refine aB (L.trim a p w) rfl ?_;simp only[go_sem];refine aB (L.trim b hb A) rfl ?_;simp only[go_sem];refine wp_loop (α:=Nat × Nat) (λt=>aJZ t.1 t.2) (λ_=>.nil) (λt=>bhR t.1 t.2=bhR (val a) (val b)/\nl t.1<=512/\nl t.2<=512) (λt=>t.2) (val a,val b) ⟨rfl,by simp only;omega,by simp only;omega⟩ ?_ a_ ?_
 ·unfold aJZ;exact Lq
 rintro⟨x,y⟩ ⟨l,B,u⟩;simp only at l B u;simp only[go_sem,aBU,aBY,aJZ,bF];by_cases i:y=0
 ·subst i;have:¬((nl 0:Nat):Int)>0:=by rw[IN];decide
  simp only[go_sem,this,aCB];refine bE (vs:=[aN (aL x),.int .i64 0]) (.inr rfl) .nil rfl a_ ⟨?_,rfl⟩;rw[<-l,Nat.gcd_zero_right];exact .refl _
 ·have E:nl y≠0:=λh=>i (lZ.1 h);have:((nl y:Nat):Int)>0:=Om;simp only[go_sem,this,aBZ];refine aB (L.divide x y i Om Om) rfl ?_;simp only[go_sem,xM,aCA];have hlt:x%y<y:=bjR _ (bkN i);refine aJ (y,x%y) ⟨?_,u,?_⟩ hlt ?_ a_
  ·simp only;rw[<-l,Nat.gcd_comm y,<-Nat.gcd_rec y x,Nat.gcd_comm]
  ·have:=jL (Nat.le_of_lt hlt);simp only;omega
  ·exact Lq
theorem a4V(L:Ab C)(a b:List Nat)(p:Lim a)(hb:Lim b)(u:Z' a<=35184372087808)(l:Z' b<=35184372087808) :
  jw.wp C (aZ udiv.res (cM (sK (val a) (val b)))) (g_ [aN a,aN b]) .nil:=by
 unfold sK;simp only[go_sem,jw,aBO,aBP,udiv];refine aB (L.large a p u) rfl ?_;by_cases e:nl (val a)>512
 ·simp only[go_sem,e,Mw];rw[aG (by simp[fJ,e])];exact zS rfl
 simp only[go_sem,e];refine aB (L.large b hb l) rfl ?_;by_cases i:nl (val b)>512
 ·simp only[go_sem,i,Mw];rw[aG (by simp[fJ,i])];exact zS rfl
 rw[aE (by simp[fJ,e,i])];simp only[go_sem,i,aBQ];refine aB (L.trim b hb l) rfl ?_;simp only[go_sem,bhO,bF,NI,lZ];by_cases d:val b=0
 ·rw[aG d];simp only[go_sem,bA d,aBR];exact zS rfl
 rw[aE d];simp only[go_sem,bG d,aBS];refine aB (L.trim a p u) rfl ?_;simp only[go_sem];refine aB (L.trim b hb l) rfl ?_;simp only[go_sem];refine aB (L.divide (val a) (val b) d Om Om) rfl ?_;simp only[go_sem,xM,aBT];exact bE (.inr rfl) .nil rfl a_ ⟨.refl _,rfl⟩
def pF(neg:Bool)(a b:Nat):FV:=(neg&&decide (a/bhR a b≠0),a/bhR a b,b/bhR a b)
structure Xw(C:Ctx):Prop extends Ab C where
 gcd:∀a b,Lim a->Lim b->Z' a<=35184372087808->Z' b<=35184372087808->aH C 34 [aN a,aN b] .nil (aI (aGM (val a) (val b)))
 div:∀a b,Lim a->Lim b->Z' a<=35184372087808->Z' b<=35184372087808->aH C 33 [aN a,aN b] .nil (aI (sK (val a) (val b)))
theorem BK{n:Nat}(h:nl n<=512):(aL n).length<=35184372087808:=by rw[bF];omega
theorem oW:aL 1=[1]:=uI aS aS
theorem D7{n:Nat}(h:n≠0):aL n=n%4294967296::aL (n/4294967296):=zR h
theorem JT{n:Nat}(h:n≠0):(nl n>1\/n%4294967296>1)↔n≠1:=by
 constructor
 ·rintro h1 rfl;rcases h1 with h1|h1
  ·rw[nl,oW]at h1;simp at h1
  ·omega
 ·intro h1;by_cases c:nl n>1
  ·exact .inl c
  ·have:n<4294967296^1:=(mO n 1).1 Om;rw[Nat.pow_one]at this;rw[bjM this];exact .inr Om
theorem aKM(L:Xw C)(neg:Bool)(a b:List Nat)(W:Lim a)(hb:Lim b)(Z:Z' a<=35184372087808)(lb:Z' b<=35184372087808)(A:nl (val a)<=512)(u:nl (val b)<=512)(B:val b≠0) :
  LF.wp C (aZ M5.res (cM (.agg (pF neg (val a) (val b)).rf.cells))) (g_ [.bool neg,aN a,aN b]) .nil:=by
 have d:bhR (val a) (val b)≠0:=λh=>B (Nat.eq_zero_of_gcd_eq_zero_right h);have K:bhR (val a) (val b)<=val b:=Nat.gcd_le_right _ (bkN B);have O:nl (bhR (val a) (val b))<=512:=biQ (jL K) u;have M:fJ (val a) (val b)=false:=lY A u;simp only[go_sem,LF,Ib,Ic,M5];refine aQ λo ho=>?_;simp only[go_sem];refine aB (L.trim a W Z) rfl ?_;simp only[go_sem];refine aB (L.trim b hb lb) rfl ?_;simp only[go_sem,Ie,bhO,bF,NI,lZ];by_cases w:val a=0
 ·simp only[go_sem,bA w,If];have e:(pF neg (val a) (val b)).rf=⟨false,[],[1]⟩:=by rw[w];unfold pF FV.rf;simp[fG,Nat.div_self (bkN B),oW]
  rw[e];refine bE (vs:=[.agg [.bool false,.aK,aN [1]]]) (.inr rfl) .nil ?_ a_ ⟨show Co (.agg _) (.agg _)from CoL.agg (CoL.cons (.refl _) (CoL.cons (.nil 1) (CoL.cons (.refl _) .nil))),rfl⟩;simp only[go_sem];rfl
 have i:=L.gcd (aL (val a)) (aL (val b)) (aX _) (aX _) (BK A) (BK u);rw[aV,aV,aGM,M]at i;simp only[go_sem,bG w,Ig];refine aB i rfl ?_;have fin:∀x y:Nat,x=val a/bhR (val a) (val b)->y=val b/bhR (val a) (val b)->∀(F:PF)(H:PH),F 0=some (.bool neg)->F 1=some (aN (aL x))->F 2=some (aN (aL y))->F 6=some (.ptr o 3 0 0)->H o=some (.rows 3 [[.bool false,.aK,.aK]]) ->
   aC.wp C (.seq (.region HM) .ret) (aZ [.cell 6 (some 3)] (cM (.agg (pF neg (val a) (val b)).rf.cells))) F H:=by
  intro x y N Y F H f0 f1 f2 f6 E;subst N;subst Y;simp only[go_sem,HM,f0,f1,f2,f6,E];have X:val a/bhR (val a) (val b)≠0:=by have:=Nat.div_pos (Nat.gcd_le_left (val b) (bkN w)) (bkN d);omega
  have e:(pF neg (val a) (val b)).rf=⟨neg,aL (val a/bhR (val a) (val b)),aL (val b/bhR (val a) (val b))⟩:=by unfold pF FV.rf;simp only[X,ne_eq,not_false_eq_true,decide_true,bjY]
  rw[e];refine bE (vs:=[.agg (eZ neg (aL (val a/bhR (val a) (val b))) (aL (val b/bhR (val a) (val b))))]) (.inr rfl) .nil ?_ a_ ⟨.refl _,rfl⟩;simp only[go_sem,f6]
 simp only[aC.wp,go_sem]at fin;have J:=λx (N:nl x<=512)=>L.div (aL x) (aL (bhR (val a) (val b))) (aX _) (aX _) (BK N) (BK O);simp only[aV,sK]at J;have tail:bhR (val a) (val b)≠1->∀(F:PF)(H:PH),F 0=some (.bool neg)->F 1=some (aN (aL (val a)))->F 2=some (aN (aL (val b)))->F 6=some (.ptr o 3 0 0)->F 7=some (aN (aL (bhR (val a) (val b))))->H o=some (.rows 3 [[.bool false,.aK,.aK]]) ->
   aC.wp C (.seq (.seq (.region ZG) (.region ZH)) (.seq (.region HM) .ret)) (aZ [.cell 6 (some 3)] (cM (.agg (pF neg (val a) (val b)).rf.cells))) F H:=by
  intro _ F H f0 f1 f2 f6 f7 E;have S:=J (val a) A;have U:=J (val b) u;rw[lY A O,aE d]at S;rw[lY u O,aE d]at U;simp only[go_sem,ZG,f1,f7];refine aB S rfl ?_;simp only[go_sem,bjW,ZH,f2,f7];refine aB U rfl ?_;simp only[go_sem,bjW];exact fin _ _ rfl rfl _ _ (by simp only[go_sem,f0]) rfl rfl (by simp only[go_sem,f6]) E
 simp only[aC.wp,go_sem]at tail;simp only[go_sem,bjW,Ih,bhO,bF];by_cases Q:nl (bhR (val a) (val b))>1
 ·have l:((nl (bhR (val a) (val b)):Nat):Int)>1:=Om;simp only[go_sem,l];exact tail ((JT d).1 (.inl Q)) _ _ rfl rfl rfl rfl rfl Sq
 ·have l:¬((nl (bhR (val a) (val b)):Nat):Int)>1:=Om;simp only[go_sem,l,D7 d];by_cases R:bhR (val a) (val b)%4294967296>1
  ·have p:((bhR (val a) (val b)%4294967296:Nat):Int)>1:=Om;simp only[go_sem,p];exact tail ((JT d).1 (.inr R)) _ _ rfl rfl rfl rfl (by simp only[go_sem,D7 d]) Sq
  ·have p:¬((bhR (val a) (val b)%4294967296:Nat):Int)>1:=Om;have V:bhR (val a) (val b)=1:=by
    rcases Decidable.em (bhR (val a) (val b)=1)with h|h
    ·exact h
    ·rcases(JT d).2 h with h|h
     ·exact absurd h Q
     ·exact absurd h R
   simp only[go_sem,p];exact fin (val a) (val b) (by rw[V,Nat.div_one]) (by rw[V,Nat.div_one]) _ _ rfl rfl rfl rfl Sq
theorem aYW(v:Int)(l:-9223372036854775808<=v)(p:v<=9223372036854775807) :
  ZL.wp C (aZ aKQ.res (aI (.int .u64 (v.natAbs:Nat)))) (g_ [.int .i64 v]) .nil:=by
 simp only[go_sem,ZL,apV,apW,aKQ];by_cases c:v<0
 ·have d:i_.wrap (v+1)=v+1:=wrap_i64 Om Om;have e2:i_.wrap (0-(v+1))=-(v+1):=by rw[wrap_i64 Om Om];omega
  have i:u_.wrap (u_.wrap (-(v+1))+1)=(v.natAbs:Int):=by rw[kD,kD];omega
  simp only[go_sem,c,apX,d,e2,i];refine aT (.inr rfl) rfl ?_;rfl
 ·have e:u_.wrap v=(v.natAbs:Int):=by rw[kD];omega
  simp only[go_sem,c,apY,e];refine aT (.inr rfl) rfl ?_;rfl
structure aEM(C:Ctx):Prop extends Xw C where
 lowest:∀neg a b,Lim a->Lim b->Z' a<=35184372087808->Z' b<=35184372087808->nl (val a)<=512->nl (val b)<=512->val b≠0->aH C 58 [.bool neg,aN a,aN b] .nil (aI (.agg (pF neg (val a) (val b)).rf.cells))
 size:∀v:Int,dL v->aH C 59 [.int .i64 v] .nil (aI (.int .u64 (v.natAbs:Nat)))
def mkT(n d:Int):RF:=(pF (decide (n<0) != decide (d<0)) n.natAbs d.natAbs).rf
def yH(n d:Int):PV:=if d=0 then GL 3 else .tup [.agg (mkT n d).cells,.int .i64 0]
theorem apJ(L:aEM C)(n d:Int)(e:dL n)(i:dL d) :
  ZI.wp C (aZ Xf.res (cM (yH n d))) (g_ [.int .i64 n,.int .i64 d]) .nil:=by
 simp only[go_sem,ZI,apK,apL];refine aQ λo l=>?_;unfold yH;by_cases c:d=0
 ·subst c;simp only[go_sem,apM];refine jV ?_;simp only[go_sem,Xf]
 ·rw[aE c];simp only[go_sem,bL c,apN];refine aB (L.size n e) rfl ?_;simp only[go_sem];refine aB (L.make n.natAbs Om) rfl ?_;simp only[go_sem];refine aB (L.size d i) rfl ?_;simp only[go_sem];refine aB (L.make d.natAbs Om) rfl ?_;simp only[go_sem];have p:nl n.natAbs<=2:=jM Om;have u:nl d.natAbs<=2:=jM Om;have low:=L.lowest (decide (n<0) != decide (d<0)) (aL n.natAbs) (aL d.natAbs) (aX _) (aX _) (by rw[bF];omega) (by rw[bF];omega);rw[aV,aV]at low;have low:=low Om Om Om;refine aB low rfl ?_;simp only[go_sem];exact bE (.inr rfl) .nil (vs:=[.agg (mkT n d).cells,.int .i64 0]) (by simp only[go_sem,Xf];rfl) a_ ⟨.refl _,rfl⟩
structure Ac(C:Ctx):Prop extends aEM C where
 fmk:∀n d:Int,dL n->dL d->aH C 50 [.int .i64 n,.int .i64 d] .nil (aI (yH n d))
theorem M3(L:Ac C)(n:Int)(i:dL n) :
  kd.wp C (aZ aYS.res (cM (.agg (mkT n 1).cells))) (g_ [.int .i64 n]) .nil:=by
 simp only[go_sem,kd,aDB,aDC,aYS];refine aQ λo l=>?_;simp only[go_sem];refine aB (L.fmk n 1 i (by unfold dL;omega)) rfl ?_;unfold yH;rw[aE aS];simp only[go_sem];refine aQ λp hp=>?_;have d:o≠p:=by rintro rfl;simp only[bC,if_true]at hp;cases hp
 have e:p≠o:=λh=>d h.symm;simp only[go_sem,d,aDD];refine bE (vs:=[.agg (mkT n 1).cells]) (.inr rfl) .nil ?_ a_ ⟨.refl _,rfl⟩;simp only[go_sem,e]
def aF(l:List Nat)(n a:Nat):Nat × Nat:=if l.length<=a\/n<2 then(0,a)else(l.getD a 0%n,a+1)
theorem cG(l:List Nat){n:Nat}(h:0<n)(a:Nat):(aF l n a).1<n:=by
 unfold aF;split
 ·exact h
 ·exact bjR _ h
theorem bP(l:List Nat)(n:Nat){a:Nat}(h:a<=Z' l):(aF l n a).2<=Z' l:=by
 unfold aF;split
 ·exact h
 ·simp only;omega
def jG(l:List Nat)(a:Nat):RF × Nat:=
 let x:=aF l 6 a
 let y:=aF l 8 x.2
 (mkT ((1+x.1:Nat):Int) ((1+y.1:Nat):Int),y.2)
abbrev nY:RF:=mkT 0 1
def mN(l:List Nat)(i j a:Nat):RF × Nat:=
 if j=i+1 then jG l a
 else if j=i then(nY,a)
 else let t:=aF l 3 a
  if t.1=0 then jG l t.2 else(nY,t.2)
def fD(l:List Nat)(i a:Nat):Nat->List RF × Nat
 |0=>([],a)
 |j+1=>let s:=fD l i a j
  let z:=mN l i j s.2
  (s.1++[z.1],z.2)
structure NR where
 start:List RF
 exit:List RF
 bgI:List (List RF)
 left:Nat
 a:Nat
def fB(l:List Nat)(n i:Nat)(s:NR):Nat × Nat:=if i+1<n then aF l (s.left+1) s.a else(s.left,s.a)
def gZ(l:List Nat)(n i a:Nat):RF × Nat:=
 let e:=jG l a
 if i+1<n then(let t:=aF l 3 e.2;(if t.1=0 then nY else e.1,t.2))else e
def kA(l:List Nat)(n a:Nat):Nat->NR
 |0=>⟨[],[],[],8,a⟩
 |i+1=>let s:=kA l n a i
  let k:=fB l n i s
  let e:=gZ l n i k.2
  let r:=fD l i e.2 n
  ⟨s.start++[mkT (k.1:Nat) 8],s.exit++[e.1],s.bgI++[r.1],s.left-k.1,r.2⟩
def xN(l:List Nat)(eS a:Nat):cW × Nat:=
 let t:=aF l eS a
 let s:=kA l (1+t.1) t.2 (1+t.1)
 (⟨[],s.start,s.bgI,s.exit⟩,s.a)
def pA(l:List Nat)(a:Nat):Nat->List RF × Nat
 |0=>([],a)
 |k+1=>let s:=pA l a k
  let z:=jG l s.2
  (s.1++[z.1],z.2)
abbrev cP(n:Nat):List UInt8:=Lib.decDigits n
def kV(l:List Nat)(a:Nat):Nat->List cW × Nat
 |0=>([],a)
 |k+1=>let s:=kV l a k
  let z:=xN l 2 s.2
  (s.1++[{ z.1 with name:=[108,97,119]++cP k }],z.2)
def fT(l:List Nat)(bgK a:Nat):Nat->List dS × Nat
 |0=>([],a)
 |k+1=>let s:=fT l bgK a k
  let x:=aF l 4 s.2
  let y:=aF l 8 x.2
  let z:=aF l bgK y.2
  (s.1++[⟨[109]++cP k,(1+x.1:Nat),(1+y.1:Nat),(z.1:Nat)⟩],z.2)
structure GS where
 bgM:List cS
 bgW:List eJ
 a:Nat
def nT(l:List Nat)(mc bgD d:Nat)(s:GS):Nat->GS
 |0=>s
 |i+1=>let s:=nT l mc bgD d s i
  if s.bgW.length<bgD then
   let t:=aF l mc s.a
   { s with bgW:=s.bgW++[⟨[100]++cP s.bgW.length,(t.1:Nat),(d:Nat)⟩],a:=t.2 }
  else s
def qK(level:Nat):UInt8:=match level with
 |0=>45
 |1=>115
 |2=>114
 |3=>107
 |_=>109
def sR(l:List Nat)(level d:Nat)(s:GS):GS:=
 let u:=aF l 16 s.a
 let t:=aF l 3 u.2
 let k:=aF l 6 t.2
 let sh:RF × Nat:=if t.1=0 then(mkT 1 ((2+k.1:Nat):Int),k.2)else(nY,t.2)
 { s with bgM:=s.bgM++[⟨[qK level]++cP s.bgM.length,(level:Nat),(d:Nat),(1+u.1:Nat),sh.1⟩],a:=sh.2 }
def wS(bgD:Nat)(s:GS):Bool:=decide (bgD<=Z' s.bgW)||decide (35<=Z' s.bgM)
def kM(l:List Nat)(level bgD d:Nat)(rec:Nat->GS->GS)(s:GS):Nat->GS
 |0=>s
 |i+1=>let s:=kM l level bgD d rec s i
  if wS bgD s then s else(let s':=sR l level d s;rec (Z' s'.bgM-1) s')
def gT(l:List Nat)(mc bgD:Nat):Nat->Nat->GS->GS
 |0,d,s=>let t:=aF l 2 s.a
  nT l mc bgD d { s with a:=t.2 } (1+t.1)
 |k+1,d,s=>let t:=aF l 2 s.a
  kM l (4-k) bgD d (gT l mc bgD k) { s with a:=t.2 } (if 4-k=2 then 1 else 1+t.1)
def rC:cS:=⟨[],0,-1,0,nY⟩
def kX(l:List Nat)(a:Nat):Int × Nat:=
 let t:=aF l 3 a
 let k:=aF l 3 t.2
 if t.1=0 then((1+k.1:Nat),k.2)else(0,t.2)
def rG(l:List Nat)(bgE i a:Nat):cE × Nat:=
 let k:=aF l 2 a
 let m:=aF l 3 k.2
 let h:=aF l 4 m.2
 let q:=aF l (m.1+1) h.2
 let r:=pA l q.2 (max m.1 1)
 let g:=aF l 9 r.2
 let s1:=kX l g.2
 let s2:=kX l s1.2
 let s3:=kX l s2.2
 let s4:=kX l s3.2
 let f:=aF l bgE s4.2
 let b:=aF l 2 f.2
 let ms:List Int × Nat:=if 1<bgE then(if b.1=0 then([(f.1:Int),1-(f.1:Int)],b.2)else([(f.1:Int)],b.2))else([(f.1:Int)],f.2)
 (⟨[112]++cP i,(1+k.1:Nat),(m.1:Nat),(1+k.1+q.1:Nat),0,s1.1,s2.1,s3.1,s4.1,ms.1,r.1,mkT (g.1:Nat) 8,mkT ((1+h.1:Nat):Int) 1⟩,ms.2)
def fF(l:List Nat)(bgE a:Nat):Nat->List cE × Nat
 |0=>([],a)
 |k+1=>let s:=fF l bgE a k
  let z:=rG l bgE k s.2
  (s.1++[z.1],z.2)
def fV(l:List Nat)(pols a:Nat):Nat->List eG × Nat
 |0=>([],a)
 |k+1=>let s:=fV l pols a k
  let z:=aF l pols s.2
  (s.1++[⟨[118]++cP k,(z.1:Nat)⟩],z.2)
def kO(l:List Nat)(bgD bgF a:Nat):aD × Nat:=
 let e:=aF l 2 a
 let i:=aF l 2 e.2
 let bgK:=kV l i.2 (1+i.1)
 let d:=aF l 2 bgK.2
 let bgE:=fT l (1+i.1) d.2 (1+d.1)
 let g:=gT l (1+d.1) bgD 4 0 ⟨[rC],[],bgE.2⟩
 let pl:=aF l 2 g.a
 let pols:=fF l (1+d.1) pl.2 (1+pl.1)
 let p:=aF l (bgF+1) pols.2
 let vols:=fV l (1+pl.1) p.2 p.1
 (⟨(1+e.1:Nat),bgK.1,bgE.1,g.bgM,g.bgW,pols.1,vols.1⟩,vols.2)
def rX(l:List Nat)(a:Nat):Nat->List Int × Nat
 |0=>([],a)
 |k+1=>let s:=rX l a k
  let z:=aF l 7 s.2
  (s.1++[(z.1:Int)-1],z.2)
def uX(l:List Nat)(f:aD)(a:Nat):List Int × Nat:=
 let t:=aF l 4 a
 if t.1=0 then([],t.2)else rX l t.2 f.bgD.length
def uU(l:List Nat)(bgD at_ i a:Nat):Int × Nat:=
 if bgD=0 then(-1,a)else
  let t:=aF l 6 a
  if t.1=0 then(let z:=aF l bgD t.2;((z.1:Int),z.2))
  else if t.1=1 then(let z:=aF l (bgD+1) t.2;((z.1:Int)-1,z.2))
  else(((at_+i)%bgD:Nat),t.2)
def pC(l:List Nat)(bgD at_ a:Nat):Nat->List Int × Nat
 |0=>([],a)
 |i+1=>let s:=pC l bgD at_ a i
  let z:=uU l bgD at_ i s.2
  (s.1++[z.1],z.2)
def eF(l:List Nat)(f:aD)(a:Nat):Nat->L2_ × Nat
 |0=>([],a)
 |v+1=>let s:=eF l f a v
  let t:=aF l (Z' f.bgD+1) s.2
  let r:=pC l f.bgD.length t.1 t.2 (kF f v).toNat
  (s.1++[r.1],r.2)
abbrev mE(l:List Nat):P2_:=l.map λ(n:Nat)=>[PV.int .u8 (n:Int)]
theorem j7(l:List Nat):(mE l).length=Z' l:=by simp
theorem aYM(l:List Nat){i:Nat}(h:i<Z' l):(mE l)[i]?=some [.int .u8 (l[i]:Nat)]:=by simp[h]
abbrev bB(v:PV)(a:Nat):aY:=.rows 2 [[v,.int .i64 a]]
structure Tp(l:List Nat)(v:PV):Prop where
 seen:Seen 1 v (mE l)
 byte:∀x∈l,x<256
 len:Z' l<=400
def J1(l:List Nat)(r:PV)(H:PH):Prop:=∃o v,r=.ptr o 2 0 0/\Tp (l.take 400) v/\H=h_.set o (bB v 0)
theorem We{t q s:Nat}{rs:P2_}{F:PF}{H H2:PH}{R:PV->PH->Prop}{v:PV}{e:oH}(x:e=.normal\/e=.ret)(A:F t=some v)(y:H q=some (.rows s rs))(p:H2.le (H.frz q s rs))(w:R (PV.frz q s rs v) H2):aZ [.tmp t] R e F H:=by
 have d:∃vs,eE.evs F H [.tmp t]=some vs/\∃i l H2,kN (n_.set 0 (bN vs)) H i l/\H2.le l/\∃u,i 0=some u/\R u H2:=by refine⟨[v],by rw[pJ,sW,A,uL],_,_,H2,.step q y (.refl _ _),p,PV.frz q s rs v,?_,w⟩;rw[xX,pR,aG rfl,biP];rfl
 rcases x with rfl|rfl<;>exact d
theorem a2Y(l:List Nat)(hb:∀x∈l,x<256)(M:Z' l<=9223372036854775807):gf.wp C (aZ aVV.res (J1 l)) (g_ [.sl 1 (mE l)]) .nil:=by
 simp only[go_sem,gf,axQ,axR,aVV,bhO];have fin:∀F:PF,F 0=some (.sl 1 (mE (l.take 400)))->aC.wp C (.seq (.region Ll) .ret) (aZ [.tmp 2] (J1 l)) F .nil:=by
  intro F f0;have w:(l.take 400).length<=400:=by rw[biI];omega
  have u:∀x∈l.take 400,x<256:=λx J=>hb x (bmB J);have y:∀o v,Seen 1 v (mE (l.take 400))->J1 l (.ptr o 2 0 0) (h_.set o (bB v 0)):=λo v H=>⟨o,v,rfl,⟨H,u,w⟩,rfl⟩;generalize K:l.take 400=L at *
  simp only[go_sem,Ll,f0];refine CI (src:=mE L) rfl ?_ (λh=>?_) λh o E=>?_
  ·unfold roomFor;rw[j7];simp only[maxLen];omega
  ·simp only[go_sem,biG,biO,or_false,forall_eq];refine aQ λo E=>?_;simp only[go_sem];exact bE (vs:=[.ptr o 2 0 0]) (.inr rfl) (h_.set o (bB .aK 0)) rfl b_ (y o .aK (.inl ⟨h,rfl⟩))
  ·simp only[go_sem,biG,biO,or_false,forall_eq];refine aQ λp hp=>?_;have d:¬p=o:=(kP.1 hp).1;have e:¬o=p:=λh=>d h.symm;simp only[go_sem];refine We (v:=.ptr p 2 0 0) (q:=o) (s:=1) (rs:=mE L) (H2:=h_.set p (bB (.sl 1 (mE L)) 0)) (.inr rfl) rfl (by simp only[go_sem,e]) (e_ a_ ?_) (y p _ (.inr rfl));have B:(mE L).take L.length=mE L:=biK (by rw[j7];exact bhV _);simp only[go_sem,d,aY.frz,PV.dV,bhO,B];rfl
 simp only[aC.wp,go_sem]at fin;by_cases c:Z' l>400
 ·have i:(Z' l:Int)>400:=Om;have A:(400:Int)<=(Z' l:Int):=Om;simp only[go_sem,i,axS,bhO,A];refine fin _ ?_;rw[pR,aG rfl];simp[mE]
 ·have i:¬(Z' l:Int)>400:=Om;simp only[go_sem,i];refine fin _ ?_;rw[biK Om];simp only[go_sem]
def z8(l:List Nat)(v:PV)(o n a:Nat)(r:PV)(H:PH):Prop:=r=.int .i64 ((aF l n a).1:Nat)/\H=h_.set o (bB v (aF l n a).2)
theorem aVW{l:List Nat}{v:PV}(T:Tp l v)(o n a:Nat)(Q:n<=1000000)(N:a<=Z' l):GY.wp C (aZ W5.res (z8 l v o n a)) (g_ [.ptr o 2 0 0,.int .i64 n]) (h_.set o (bB v a)):=by
 obtain⟨K,hb,O⟩:=T;have zero:(Z' l<=a\/n<2)->∀F,aC.wp C (.seq (.region xc) .ret) (aZ [.tmp 4] (z8 l v o n a)) F (h_.set o (bB v a)):=by
  intro h F;have e:aF l n a=(0,a):=by unfold aF;rw[aG h]
  simp only[go_sem,xc];exact bE (vs:=[.int .i64 0]) (.inr rfl) _ rfl b_ ⟨by rw[e];rfl,by rw[e]⟩
 simp only[aC.wp,go_sem]at zero;rcases K with⟨H,rfl⟩|rfl
 ·have M:Z' l=0:=by rw[<-j7,H];rfl
  have u:(a:Int)>=0:=Om;simp only[go_sem,GY,xb,W5];refine bV .nil eW a_ ?_;simp only[go_sem,WP,u];exact zero (.inl Om) _
 simp only[go_sem,GY,xb,W5];refine bV .nil eW a_ ?_;by_cases x:Z' l<=a
 ·have d:(a:Int)>=(Z' l:Nat):=Om;simp only[go_sem,WP,bhO,d];exact zero (.inl x) _
 have d:¬(a:Int)>=(Z' l:Nat):=Om;simp only[go_sem,WP,bhO,d];by_cases y:n<2
 ·have i:(n:Int)<2:=Om;simp only[go_sem,i];exact zero (.inr y) _
 have i:¬(n:Int)<2:=Om;have p:a<Z' l:=Om;have e:aF l n a=(l[a]%n,a+1):=by unfold aF;rw[aE Om];simp[bhX,p]
 have E:i_.wrap ((a:Int)+1)=((a+1:Nat):Int):=dZ Om;have B:i_.wrap (((a+1:Nat):Int)-1)=((a:Nat):Int):=by rw[wrap_i64 Om Om];omega
 have J:=aYM l p;have R:=hb _ (bhS p);have A:i_.wrap ((l[a]:Nat):Int)=((l[a]:Nat):Int):=zg Om;have w:¬((n:Nat):Int)=0:=Om;have em:Int.tmod ((l[a]:Nat):Int) ((n:Nat):Int)=((l[a]%n:Nat):Int):=rfl;simp only[go_sem,i,agQ,E];refine bV .nil eW a_ ?_;simp only[go_sem,agR,B,J,A,w,em];exact bE (vs:=[.int .i64 (l[a]%n:Nat)]) (.inr rfl) _ rfl b_ ⟨by rw[e];rfl,by rw[e]⟩
def PV.oid:PV->Option Nat
 | .osl q _ _ _=>some q
 |_=>none
abbrev LI:=PV × Nat × P2_
abbrev BX:=Nat × aY
def gD(B:List BX):List Nat:=B.map (·.1)
def fQ(L:List LI):List Nat:=L.filterMap λx=>x.1.oid
structure aR(H:PH)(B:List BX)(L:List LI):Prop where
 box:∀b∈B,H b.1=some b.2
 lst:∀x∈L,cA H x.2.1 x.1 x.2.2
 nd:(gD B++fQ L).Nodup
section
variable {C:Ctx} {H:PH} {B:List BX} {L:List LI} {K:PV->PH->Prop}
theorem cA.id{s q:Nat}{v:PV}{rows:P2_}(h:cA H s v rows)(d:v.oid=some q):∃rs,H q=some (.rows s rs)/\v=.osl q s 0 rows.length/\Z' rows<=Z' rs/\rs.take rows.length=rows:=by
 rcases h with⟨_,rfl⟩|⟨p,rs,rfl,h1,h2,h3⟩
 ·cases d
 ·cases d;exact⟨rs,h1,rfl,h2,h3⟩
theorem cA.same{s:Nat}{v:PV}{rows:P2_}{H':PH}(h:cA H s v rows)(d:∀q,v.oid=some q->H' q=H q):cA H' s v rows:=by
 rcases h with h|⟨p,rs,rfl,h1,h2,h3⟩
 ·exact .inl h
 ·exact .inr ⟨p,rs,rfl,by rw[d p rfl];exact h1,h2,h3⟩
theorem qT{x:LI}{q:Nat}(h:x∈L)(d:x.1.oid=some q):q∈fQ L:=List.mem_filterMap.2 ⟨x,h,d⟩
theorem DD{b:BX}(h:b∈B):b.1∈gD B:=biJ.2 ⟨b,h,rfl⟩
theorem aR.nil:aR H [] []:=⟨by simp,by simp,by simp[gD,fQ]⟩
theorem aR.at(h:aR H B L)(i:Nat){o:Nat}{x:aY}(hi:B[i]?=some (o,x)):H o=some x:=h.box _ (bjQ hi)
theorem aR.own(h:aR H B L)(i:Nat){s:Nat}{v:PV}{rows:P2_}(hi:L[i]?=some (v,s,rows)):cA H s v rows:=h.lst _ (bjQ hi)
theorem aR.ndB(h:aR H B L):(gD B).Nodup:=(bkV.1 h.nd).1
theorem aR.ndL(h:aR H B L):(fQ L).Nodup:=(bkV.1 h.nd).2.1
theorem aR.ndX(h:aR H B L){o q:Nat}(d:o∈gD B)(e:q∈fQ L):o≠q:=(bkV.1 h.nd).2.2 o d q e
theorem aR.ne(h:aR H B L)(i j:Nat){o p:Nat}{x y:aY}(hi:B[i]?=some (o,x))(F:B[j]?=some (p,y))(d:i≠j):o≠p:=by
 intro e;have A:(gD B)[i]?=some o:=by unfold gD;rw[biL,hi];rfl
 have E:(gD B)[j]?=some p:=by unfold gD;rw[biL,F];rfl
 obtain⟨u,l⟩:=biZ.1 A;obtain⟨w,e2⟩:=biZ.1 E;have hp:=List.pairwise_iff_getElem.1 h.ndB;rcases Nat.lt_or_gt_of_ne d with g|g
 ·exact hp i j u w g (by rw[l,e2,e])
 ·exact hp j i w u g (by rw[l,e2,e])
theorem aR.neL(h:aR H B L)(i j:Nat){o q:Nat}{x:aY}{y:LI}(hi:B[i]?=some (o,x))(d:L[j]?=some y)(e:y.1.oid=some q):o≠q:=
 h.ndX (DD (bjQ hi)) (qT (bjQ d) e)
theorem aR.fresh(h:aR H B L){o:Nat}(d:H o=none):o ∉ gD B/\o ∉ fQ L:=by
 refine⟨λi=>?_,λi=>?_⟩
 ·obtain⟨b,hb,rfl⟩:=biJ.1 i;rw[h.box b hb]at d;cases d
 ·obtain⟨x,p,e⟩:=List.mem_filterMap.1 i;obtain⟨rs,l,_⟩:=(h.lst x p).id e;rw[l]at d;cases d
theorem aR.keep(h:aR H B L){H':PH}(d:∀q,q∈gD B\/q∈fQ L->H' q=H q):aR H' B L:=
 ⟨λb hb=>by rw[d _ (.inl (DD hb))];exact h.box b hb,λx e=>(h.lst x e).same λq i=>d q (.inr (qT e i)),h.nd⟩
theorem aUS{i:Nat}{o:Nat}{x y:aY}(hi:B[i]?=some (o,x)):gD (B.set i (o,y))=gD B:=by
 unfold gD;rw[List.map_set];refine List.ext_getElem? λj=>?_;rw[blY];split
 ·rename_i e;subst e;rw[biL,hi];have:=(biZ.1 hi).1;simp[this]
 ·rfl
theorem aR.set(h:aR H B L)(i:Nat){o:Nat}{x:aY}(hi:B[i]?=some (o,x))(y:aY):aR (H.set o y) (B.set i (o,y)) L:=by
 have p:o∈gD B:=DD (bjQ hi);refine⟨λb hb=>?_,λz u=>(h.lst z u).same λq w=>?_,by rw[aUS hi];exact h.nd⟩
 ·obtain⟨j,d⟩:=List.mem_iff_getElem?.1 hb;rw[blY]at d;split at d
  ·split at d
   ·cases d;simp only[bC,if_true]
   ·cases d
  ·rename_i l;have:b.1≠o:=λe=>h.ne i j hi (show B[j]?=some (b.1,b.2)from d) l e.symm;rw[bC,aE this];exact h.box b (bjQ d)
 ·have:q≠o:=λe=>h.ndX p (qT u w) e.symm;rw[bC,aE this]
theorem aR.new(h:aR H B L){o:Nat}(i:H o=none)(y:aY):aR (H.set o y) (B++[(o,y)]) L:=by
 obtain⟨f1,f2⟩:=h.fresh i;refine⟨λb hb=>?_,λz d=>(h.lst z d).same λq hq=>?_,?_⟩
 ·rw[bjB,bjH]at hb;rcases hb with hb|rfl
  ·have:b.1≠o:=λe=>f1 (e ▸ DD hb);rw[bC,aE this];exact h.box b hb
  ·simp only[bC,if_true]
 ·have:q≠o:=λe=>f2 (e ▸ qT d hq);rw[bC,aE this]
 ·have:=h.nd;simp only[gD,biV,biU,bjP]at *
  rw[biY,bkV]at *
  obtain⟨a,b,c⟩:=this;refine⟨a,?_,λp hp q hq=>?_⟩
  ·rw[List.singleton_append,List.nodup_cons];exact⟨f2,b⟩
  ·rw[List.singleton_append,biG]at hq;rcases hq with rfl|hq
   ·intro e;subst e;exact f1 hp
   ·exact c p hp q hq
theorem qB(L1 L2:List LI):fQ (L1++L2)=fQ L1++fQ L2:=List.filterMap_append ..
theorem aR.qU(h:aR H B L)(s:Nat):aR H B (L++[(.aK,s,[])]):=by
 refine⟨h.box,λz d=>?_,?_⟩
 ·rw[bjB,bjH]at d;rcases d with d|rfl
  ·exact h.lst z d
  ·exact .nil
 ·rw[qB,show fQ [((.aK:PV),s,([]:P2_))]=[]from rfl,bjI];exact h.nd
theorem aR.aWE(h:aR H B L){o s:Nat}{rows:P2_}(l:H o=none):aR (H.set o (.rows s rows)) B (L++[(.osl o s 0 rows.length,s,rows)]):=by
 obtain⟨f1,f2⟩:=h.fresh l;have i:=h.keep (H':=H.set o (.rows s rows)) λq d=>by
  have:q≠o:=by rintro rfl;exact d.elim f1 f2
  rw[bC,aE this]
 refine⟨i.box,λz e=>?_,?_⟩
 ·rw[bjB,bjH]at e;rcases e with e|rfl
  ·exact i.lst z e
  ·exact .inr ⟨o,rows,rfl,by simp only[bC,if_true],bhV _,biS⟩
 ·rw[qB,show fQ [((.osl o s 0 rows.length:PV),s,rows)]=[o]from rfl,<-biY,bkV];refine⟨h.nd,by simp,λp hp q d=>?_⟩;rw[bjH]at d;subst d;rintro rfl;rcases bjB.1 hp with hp|hp
  ·exact f1 hp
  ·exact f2 hp
theorem aeB{i:Nat}{v v':PV}{s s':Nat}{rows rows':P2_}(hi:L[i]?=some (v,s,rows)):∃L1 L2,L=L1++(v,s,rows)::L2/\L.set i (v',s',rows')=L1++(v',s',rows')::L2:=by
 obtain⟨d,e⟩:=biZ.1 hi;refine⟨L.take i,L.drop (i+1),?_,?_⟩
 ·rw[<-e,<-bjS d,bkQ]
 ·rw[List.set_eq_take_append_cons_drop,aG d]
theorem aR.YN(h:aR H B L)(i:Nat){s:Nat}{v:PV}{rows:P2_}(hi:L[i]?=some (v,s,rows)){s':Nat}{v':PV}{rows':P2_}{H':PH}(M:cA H' s' v' rows')
  (E:∀q,v'.oid=some q->v.oid=some q\/H q=none) (J:∀q,q∈gD B\/q∈fQ L->(∀p,v.oid=some p->q≠p)->H' q=H q):aR H' B (L.set i (v',s',rows')):=by
 obtain⟨L1,L2,F,e2⟩:=aeB (v':=v') (s':=s') (rows':=rows') hi;rw[e2];subst F;have d:=h.nd;have y:fQ (L1++(v,s,rows)::L2)=fQ L1++(v.oid.toList++fQ L2):=by rw[qB];congr 1;unfold fQ;rw[List.filterMap_cons];cases e:v.oid<;>simp
 have A:fQ (L1++(v',s',rows')::L2)=fQ L1++(v'.oid.toList++fQ L2):=by rw[qB];congr 1;unfold fQ;rw[List.filterMap_cons];cases e:v'.oid<;>simp
 rw[y]at d;have w:∀q,q∈gD B\/q∈fQ L1\/q∈fQ L2->∀p,v.oid=some p->q≠p:=by
  intro q hq p hp e;subst e;rw[hp]at d;simp only[Option.toList_some]at d;rw[bkV]at d;obtain⟨a,b,c⟩:=d;rw[bkV]at b;obtain⟨b1,b2,x⟩:=b;rw[List.singleton_append,List.nodup_cons]at b2;rcases hq with hq|hq|hq
  ·exact c q hq q bH rfl
  ·exact x q hq q bH rfl
  ·exact b2.1 hq
 have l:∀q,q∈gD B\/q∈fQ L1\/q∈fQ L2->H' q=H q:=by
  intro q hq;refine J q ?_ (w q hq);rw[y];simp only[bjB];rcases hq with hq|hq|hq
  ·exact .inl hq
  ·exact .inr (.inl hq)
  ·exact .inr (.inr (.inr hq))
 refine⟨λb hb=>by rw[l _ (.inl (DD hb))];exact h.box b hb,λz hz=>?_,?_⟩
 ·rw[bjB,biG]at hz;rcases hz with hz|rfl|hz
  ·exact(h.lst z (by simp[hz])).same λq hq=>l q (.inr (.inl (qT hz hq)))
  ·exact M
  ·exact(h.lst z (by simp[hz])).same λq hq=>l q (.inr (.inr (qT hz hq)))
 ·rw[A];cases e:v'.oid with
  |none =>simp only[Option.toList_none,blM];refine List.Nodup.sublist ?_ d;exact bkD.append (bkD.refl _) (bkD.append (bkD.refl _) (List.sublist_append_right _ _))
  |some q=>
   rcases E q e with N|hn
   ·rw[N]at d;exact d
   ·obtain⟨f1,f2⟩:=h.fresh hn;rw[y]at f2;simp only[bjB,not_or]at f2;have u:(gD B++(fQ L1++fQ L2)).Nodup:=List.Nodup.sublist (bkD.append (bkD.refl _) (bkD.append (bkD.refl _) (List.sublist_append_right _ _))) d;simp only[Option.toList_some];rw[bkV]at u ⊢;obtain⟨a,b,c⟩:=u;rw[bkV]at b;obtain⟨b1,b2,x⟩:=b;refine⟨a,?_,?_⟩
    ·rw[bkV];refine⟨b1,by rw[List.singleton_append,List.nodup_cons];exact⟨f2.2.2,b2⟩,λp hp r hr=>?_⟩;rw[List.singleton_append,biG]at hr;rcases hr with rfl|hr
     ·rintro rfl;exact f2.1 hp
     ·exact x p hp r hr
    ·intro p hp r hr;rw[bjB,List.singleton_append,biG]at hr;rcases hr with hr|rfl|hr
     ·exact c p hp r (by simp[hr])
     ·rintro rfl;exact f1 hp
     ·exact c p hp r (by simp[hr])
theorem aR.append(h:aR H B L)(i:Nat){s b:Nat}{v y:PV}{rows src:P2_}(hi:L[i]?=some (v,s,rows))(E:eA H s y=some src)(A:roomFor rows.length src.length b)
  (w:∀v' H',aR H' B (L.set i (v',s,rows++src))->(src≠[]->∃q,v'=.osl q s 0 (rows++src).length)->K v' H'):sG H s b v y K:=by
 rcases h.own i hi with⟨rfl,rfl⟩|⟨q,rs,rfl,h1,h2,h3⟩
 ·refine⟨src,E,A,λe=>?_,λe o l=>?_⟩
  ·subst e;refine w _ _ ?_ λh=>absurd rfl h;exact h.YN i hi (.inl ⟨rfl,rfl⟩) (λq u=>by cases u) λq _ _=>rfl
  ·refine w _ _ (h.YN i hi (.inr ⟨o,src,rfl,by simp only[bC,if_true],bhV _,biS⟩) (λq u=>by cases u;exact .inr l) λq u _=>?_) λ_=>⟨o,rfl⟩;obtain⟨f1,f2⟩:=h.fresh l;have:q≠o:=by rintro rfl;exact u.elim f1 f2
   rw[bC,aE this]
 ·have d:(rows++src).length=Z' rows+Z' src:=bhW;refine⟨src,E,rfl,rfl,A,rs,h1,h2,?_,λo l=>?_⟩
  ·rw[h3];refine w _ _ (h.YN i hi (.inr ⟨q,rows++src,by rw[d],by simp only[bC,if_true],bhV _,biS⟩) (λp hp=>by cases hp;exact .inl rfl) λp _ hp=>?_) λ_=>⟨q,by rw[d]⟩;rw[bC,aE (hp q rfl)]
  ·rw[h3];refine w _ _ (h.YN i hi (.inr ⟨o,rows++src,by rw[d],by simp only[bC,if_true],bhV _,biS⟩) (λp hp=>by cases hp;exact .inr l) λp x hp=>?_) λ_=>⟨o,by rw[d]⟩;obtain⟨f1,f2⟩:=h.fresh l;have F:p≠o:=by rintro rfl;exact x.elim f1 f2
   rw[bC,aE F]
theorem aR.sub(h:aR H B L){B':List BX}{L':List LI}(hB:B'.Sublist B)(d:L'.Sublist L):aR H B' L':=
 ⟨λb hb=>h.box b (hB.subset hb),λx e=>h.lst x (d.subset e),List.Nodup.sublist (bkD.append (hB.map _) (d.filterMap _)) h.nd⟩
theorem aR.tM(h:aR H B L)(i:Nat):aR H (B.eraseIdx i) L:=h.sub (List.eraseIdx_sublist ..) (bkD.refl _)
theorem aR.Wx(h:aR H B L)(i:Nat):aR H B (L.eraseIdx i):=h.sub (bkD.refl _) (List.eraseIdx_sublist ..)
end
section
variable {C:Ctx} {F:PF} {H:PH} {B:List BX} {L:List LI}
theorem aR.nb(h:aR H B L){q:Nat}(hq:q∈gD B\/q∈fQ L):∃x,H q=some x:=by
 rcases hq with hq|hq
 ·obtain⟨b,hb,rfl⟩:=biJ.1 hq;exact⟨_,h.box b hb⟩
 ·obtain⟨x,i,e⟩:=List.mem_filterMap.1 hq;obtain⟨rs,d,_⟩:=(h.lst x i).id e;exact⟨_,d⟩
theorem aR.perm(h:aR H B L){B':List BX}{L':List LI}(hB:B.Perm B')(d:L.Perm L'):aR H B' L':=
 ⟨λb hb=>h.box b (hB.mem_iff.2 hb),λx e=>h.lst x (d.mem_iff.2 e),(List.Perm.nodup_iff ((hB.map _).append (d.filterMap _))).1 h.nd⟩
theorem aR.only(h:aR H B L){B1:List BX}{L1:List LI}(hB:B1.Sublist B)(d:L1.Sublist L):aR (H.only (gD B1++fQ L1)) B1 L1:=by
 refine(h.sub hB d).keep λq e=>?_;rw[zT];rw[aG (bjB.2 e)]
theorem a6U{a b c d:List Nat}(i:(a++c).Nodup)(l:(b++d).Nodup)(u:∀q,q∈a\/q∈c->q∈b\/q∈d->False):((a++b)++(c++d)).Nodup:=by
 have e:List.Perm ((a++b)++(c++d)) ((a++c)++(b++d)):=by rw[biY,biY];exact List.Perm.append_left a (by rw[<-biY,<-biY];exact List.Perm.append_right d List.perm_append_comm)
 rw[e.nodup_iff,bkV];refine⟨i,l,λp hp q w=>?_⟩;rintro rfl;exact u p (bjB.1 hp) (bjB.1 w)
theorem aR.frame{H':PH}{B1 B2 B':List BX}{L1 L2 L':List LI}(h:aR H (B1++B2) (L1++L2))(u:aR H' B' L')(J:qW H (H.only (gD B1++fQ L1)) H'):aR (H.over (H.only (gD B1++fQ L1)) H') (B'++B2) (L'++L2):=by
 have A:aR H B2 L2:=h.sub (List.sublist_append_right ..) (List.sublist_append_right ..);have l:∀q,q∈gD B2\/q∈fQ L2->¬(q∈gD B1++fQ L1):=by
  intro q d K;have i:=h.nd;rw[show gD (B1++B2)=gD B1++gD B2 from biV,qB]at i;have e:List.Perm ((gD B1++gD B2)++(fQ L1++fQ L2)) ((gD B1++fQ L1)++(gD B2++fQ L2)):=by rw[biY,biY];exact List.Perm.append_left _ (by rw[<-biY,<-biY];exact List.Perm.append_right _ List.perm_append_comm)
  rw[e.nodup_iff,bkV]at i;exact i.2.2 q K q (bjB.2 d) rfl
 have new:∀q,q∈gD B'\/q∈fQ L'->(H.over (H.only (gD B1++fQ L1)) H') q=H' q:=by intro q d;obtain⟨x,hx⟩:=u.nb d;rw[lO,hx]
 have E:∀q,q∈gD B2\/q∈fQ L2->(H.over (H.only (gD B1++fQ L1)) H') q=H q:=by
  intro q d;obtain⟨x,hx⟩:=A.nb d;have w:(H.only (gD B1++fQ L1)) q=none:=by rw[zT,aE (l q d)]
  rw[lO];cases e:H' q with
  |none=>simp only[w]
  |some y =>have:=J q y e w;rw[hx]at this;cases this
 have k1:=u.keep new;have k2:=A.keep E;refine⟨λb hb=>?_,λx hx=>?_,?_⟩
 ·rcases bjB.1 hb with hb|hb
  ·exact k1.box b hb
  ·exact k2.box b hb
 ·rcases bjB.1 hx with hx|hx
  ·exact k1.lst x hx
  ·exact k2.lst x hx
 ·rw[show gD (B'++B2)=gD B'++gD B2 from biV,qB];refine a6U u.nd A.nd λq d p=>?_;obtain⟨x,hx⟩:=u.nb d;obtain⟨y,M⟩:=A.nb p;have w:(H.only (gD B1++fQ L1)) q=none:=by rw[zT,aE (l q p)]
  have:=J q x hx w;rw[M]at this;cases this
theorem RD{name:Nat}{vs:List PV}{args:List aP}{d:Option Nat}{K:PF->PH->Prop}{B1 B2:List BX}{L1 L2:List LI}{Q:PV->List BX->List LI->Prop}(h:aR H (B1++B2) (L1++L2))
  (u:∀i,aR i B1 L1->aH C name vs i (λr H'=>∃B' L',Q r B' L'/\aR H' B' L')) (p:aP.evs F args=some vs)
  (w:∀r B' L' H',Q r B' L'->aR H' (B'++B2) (L'++L2)->K (F.put d r) H'):lD C name args [] d K F H:=by
 refine nE (u (H.only (gD B1++fQ L1)) (h.only (List.sublist_append_left ..) (List.sublist_append_left ..))) p (SK H _) ?_;rintro r H' ⟨B',L',x,l⟩ e;exact w r B' L' _ x (h.frame l e)
theorem aR.RR{B:List BX}{o:Nat}{x:aY}(h:aR H (B++[(o,x)]) L):H o=some x:=h.box (o,x) bH
theorem aR.na{B:List BX}{o:Nat}{x:aY}(h:aR H (B++[(o,x)]) L)(y:aY):aR (H.set o y) (B++[(o,y)]) L:=by
 have:=h.set B.length (o:=o) (x:=x) bH y
 rwa[blC _ _ (bhV _),bkR]at this
theorem aR.dropLast{B:List BX}{b:BX}(h:aR H (B++[b]) L):aR H B L:=h.sub (List.sublist_append_left ..) (bkD.refl _)
theorem aR.a4K{B:List BX}{o:Nat}{x:aY}(h:aR H ((o,x)::B) L)(y:aY):aR (H.set o y) ((o,y)::B) L:=h.set 0 rfl y
theorem aR.a6B{B:List BX}{o:Nat}{x:aY}(h:aR H ((o,x)::B) L):H o=some x:=h.at 0 rfl
theorem qI{name o:Nat}{x y:aY}{r:PV}{vs:List PV}{args:List aP}{d:Option Nat}{K:PF->PH->Prop}(h:aH C name vs (h_.set o x) (λr' H'=>r'=r/\H'=h_.set o y))(l:H o=some x)(e:aP.evs F args=some vs)
  (i:K (F.put d r) (H.set o y)):lD C name args [] d K F H:=by
 refine nE h e (e_ a_ l) ?_;rintro r' H' ⟨rfl,rfl⟩ -;rw[PH.BO];exact i
theorem UF{Hs:PH}{S:Spec}{name o:Nat}{x y:aY}{r:PV}{vs:List PV}{R:PH->PV->PH->Prop}{args:List aP}{st:Bool}{d:Option Nat}{K:PF->PH->Prop}(N:S name vs=some ([o],R))(J:H o=some x)
  (h:aH C name vs (h_.set o x) (λr' H'=>r'=r/\H'=h_.set o y)) (i:R (h_.set o x) r (h_.set o y)) (u:∀r' H',R (h_.set o x) r' H'->r'=r/\H'=h_.set o y) (O:aP.evs F args=some vs)
  (w:Hs.le (H.set o y)) (Q:K (F.put d r) (H.set o y)):dOp C Hs S st (.call name args) d K F H:=by
 have e:=XG J;refine⟨vs,[o],_,O,N,λq M=>?_,?_,λG=>⟨r,_,by rw[e];exact i,λq z E p=>?_⟩,λr' H' l _=>?_⟩
 ·simp at M;subst M;exact⟨x,J⟩
 ·rw[e];exact h.post λr' H' l=>⟨r',.refl _,by rw[l.1,l.2];exact i⟩
 ·rw[e]at p;rw[bC]at E p;split at p
  ·cases p
  ·rename_i A;rw[aE A]at E;cases E
 ·rw[e]at l;obtain⟨rfl,rfl⟩:=u r' H' l;rw[e,PH.BO];exact⟨w,Q⟩
theorem aXT{s:Nat}{q z:Nat}{rs:P2_}{v:PV}{rows:P2_}(h:cA H s v rows)(i:v.oid≠some q):cA (H.frz q z rs) s v (rows.map λr=>r.map (PV.dV q z rs)):=by
 rcases h with⟨rfl,rfl⟩|⟨p,rs',rfl,h1,h2,h3⟩
 ·exact .inl ⟨rfl,rfl⟩
 ·have d:¬p=q:=λe=>i (by rw[e];rfl);refine .inr ⟨p,rs'.map λr=>r.map (PV.dV q z rs),by rw[bhO],?_,by simpa using h2,?_⟩
  ·rw[IG,aE d,h1];rfl
  ·rw[bhO,<-bkY,h3]
theorem aR.frz(h:aR H B L)(i:Nat){q s k:Nat}{rows:P2_}(hi:L[i]?=some (.osl q s 0 k,s,rows)):∃rs,H q=some (.rows s rs)/\PV.dV q s rs (.osl q s 0 k)=.sl s rows/\PV.frz q s rs (.osl q s 0 k)=.sl s rows/\(∀j x,j≠i->L[j]?=some x->PV.dV q s rs x.1=x.1) /\
  aR (H.frz q s rs) (B.map λb=>(b.1,b.2.frz q s rs)) ((L.eraseIdx i).map λx=>(x.1,x.2.1,x.2.2.map λr=>r.map (PV.dV q s rs))):=by
 obtain⟨rs,U,V,W,X⟩:=(h.own i hi).id rfl;injection V with _ _ _ hk
 subst hk;have e:PV.frz q s rs (.osl q s 0 rows.length)=.sl s rows:=by rw[zQ W,X]
 refine⟨rs,U,e,e,?_⟩;refine⟨λj x K R=>?_,?_⟩
 ·have l:x.1.oid≠some q:=by
   intro l;obtain⟨M,J⟩:=biZ.1 hi;obtain⟨α,Y⟩:=biZ.1 R;have u:x∈L.eraseIdx i:=List.mem_eraseIdx_iff_getElem?.2 ⟨j,K,R⟩;have d:=h.ndL;have O:L=L.take i++(L[i]::L.drop (i+1)):=by rw[<-bjS M,bkQ]
   rw[List.eraseIdx_eq_take_drop_succ]at u;rw[O,qB]at d;have E:fQ (L[i]::L.drop (i+1))=q::fQ (L.drop (i+1)):=by rw[J];rfl
   rw[E,bkV]at d;obtain⟨a,b,c⟩:=d;rcases bjB.1 u with hx|hx
   ·exact c q (qT hx l) q bH rfl
   ·exact(List.nodup_cons.1 b).1 (qT hx l)
  cases hx:x.1<;>try rfl
  rename_i p z β len;have:¬p=q:=λe=>l (by rw[hx,e];rfl);simp only[PV.dV,aE this]
 obtain⟨L1,L2,e1,e2⟩:=aeB (v':=.aK) (s':=s) (rows':=rows) hi;have Z:i=Z' L1\/True:=.inr trivial;have w:(L.eraseIdx i).Sublist L:=List.eraseIdx_sublist ..;have N:∀x∈L.eraseIdx i,x.1.oid≠some q:=by
  intro x hx l;obtain⟨M,J⟩:=biZ.1 hi;have d:=h.ndL;have O:L=L.take i++(L[i]::L.drop (i+1)):=by rw[<-bjS M,bkQ]
  rw[List.eraseIdx_eq_take_drop_succ]at hx;rw[O,qB]at d;have E:fQ (L[i]::L.drop (i+1))=q::fQ (L.drop (i+1)):=by rw[J];rfl
  rw[E,bkV]at d;obtain⟨a,b,c⟩:=d;rcases bjB.1 hx with hx|hx
  ·exact c q (qT hx l) q bH rfl
  ·exact(List.nodup_cons.1 b).1 (qT hx l)
 refine⟨λb hb=>?_,λx hx=>?_,?_⟩
 ·obtain⟨Q,y,rfl⟩:=biJ.1 hb;have:¬Q.1=q:=h.ndX (DD y) (qT (bjQ hi) rfl);simp only;rw[IG,aE this,h.box Q y];rfl
 ·obtain⟨S,A,rfl⟩:=biJ.1 hx;exact aXT (h.lst S (w.subset A)) (N S A)
 ·have i1:gD (B.map λb=>(b.1,b.2.frz q s rs))=gD B:=by unfold gD;rw[bkT];rfl
  have i2:fQ ((L.eraseIdx i).map λx=>(x.1,x.2.1,x.2.2.map λr=>r.map (PV.dV q s rs)))=fQ (L.eraseIdx i):=by unfold fQ;rw[List.filterMap_map];rfl
  rw[i1,i2];exact List.Nodup.sublist (bkD.append (bkD.refl _) (w.filterMap _)) h.nd
def Flat(rows:P2_):Prop:=∀q s rs,rows.map (λr=>r.map (PV.dV q s rs))=rows
theorem Flat.nil:Flat []:=λ_ _ _=>rfl
theorem Flat.of{rows:P2_}(h:∀r∈rows,∀c∈r,∀q s rs,PV.dV q s rs c=c):Flat rows:=λq s rs=>by
 conv=>rhs;rw[<-List.map_id rows]
 refine bkP λr e=>?_
 conv=>rhs;rw[id,<-List.map_id r]
 exact bkP λc d=>h r e c d q s rs
theorem Flat.map{α:Type}{f:α->List PV}(l:List α)(h:∀x,∀c∈f x,∀q s rs,PV.dV q s rs c=c):Flat (l.map f):=Flat.of λr d=>by
 obtain⟨x,_,rfl⟩:=biJ.1 d;exact h x
theorem Flat.append{r1 r2:P2_}(d:Flat r1)(e:Flat r2):Flat (r1++r2):=λq s rs=>by rw[biV,d,e]
theorem aR.flat{φ:PV->P2_}(h:aR H B L):aR H B L:=h
def LP(v:PV)(H:PH)(R:PV->PH->Prop):Prop:=∃d e H2,kN (n_.set 0 v) H d e/\H2.le e/\∃u,d 0=some u/\R u H2
theorem LP.done{v:PV}{H2:PH}{R:PV->PH->Prop}(e:R v H2)(d:H2.le H):LP v H R:=⟨_,_,H2,.refl _ _,d,v,by rw[pR,aG rfl],e⟩
theorem LP.step{v:PV}{q s:Nat}{rs:P2_}{R:PV->PH->Prop}(x:H q=some (.rows s rs))(h:LP (PV.frz q s rs v) (H.frz q s rs) R):LP v H R:=by
 obtain⟨d,l,H2,p,u,w⟩:=h;have e:(n_.set 0 v).frz q s rs=n_.set 0 (PV.frz q s rs v):=by funext i;rw[xX,pR,pR];split<;>rfl
 exact⟨d,l,H2,.step q x (by rw[e];exact p),u,w⟩
theorem AA{res:List eE}{R:PV->PH->Prop}{vs:List PV}{e:oH}(p:e=.normal\/e=.ret)(h:eE.evs F H res=some vs)(w:LP (bN vs) H R):aZ res R e F H:=by
 have d:∃vs,eE.evs F H res=some vs/\∃i l H2,kN (n_.set 0 (bN vs)) H i l/\H2.le l/\∃u,i 0=some u/\R u H2:=⟨vs,h,w⟩;rcases p with rfl|rfl<;>exact d
theorem Dx{u:PV}(h:u.oid=none)(q s:Nat)(rs:P2_):PV.dV q s rs u=u:=by
 cases u<;>first|rfl|(simp[PV.oid]at h)
theorem Seen.co{s:Nat}{v:PV}{rows:P2_}(h:Seen s v rows):Co v (.sl s rows):=by
 rcases h with⟨rfl,rfl⟩|rfl
 ·exact .nil s
 ·exact .refl _
theorem aR.giveUp:∀(L:List LI){H:PH}{B:List BX},aR H B L->(∀x∈L,Flat x.2.2)->(∀b∈B,∀q s rs,aY.frz q s rs b.2=b.2) ->
  ∃(φ:PV->PV)(i:PH),(∀x∈L,Seen x.2.1 (φ x.1) x.2.2)/\(∀u,u.oid=none->φ u=u)/\aR i B []/\∀cs R,LP (.agg (cs.map φ)) i R->LP (.agg cs) H R
 |[],H,B,h,_,_=>⟨id,H,by simp,λ_ _=>rfl,h,λcs R y=>by rwa[List.map_id]at y⟩
 |(w,s,rows)::L,H,B,h,p,hB=>by
  have d:∀q z rs,(L.map λx=>(x.1,x.2.1,x.2.2.map λr=>r.map (PV.dV q z rs)))=L:=λq z rs=>by
   conv=>rhs;rw[<-List.map_id L]
   refine bkP λx hx=>?_;rw[p x (by simp[hx]) q z rs];rfl
  rcases h.own 0 rfl with⟨l,N⟩|⟨q,rs,l,_⟩
  ·obtain⟨φ,i,k1,k2,A,E⟩:=aR.giveUp L (h.Wx 0) (λx hx=>p x (by simp[hx])) hB;refine⟨φ,i,λx hx=>?_,k2,A,E⟩;rw[biG]at hx;rcases hx with rfl|hx
   ·exact .inl ⟨l,by simp only;rw[N];exact k2 _ rfl⟩
   ·exact k1 x hx
  ·subst l;obtain⟨rs,Q,S,W,U,K⟩:=h.frz 0 rfl;have V:aR (H.frz q s rs) B L:=by
    have M:(B.map λb=>(b.1,b.2.frz q s rs))=B:=by
     conv=>rhs;rw[<-List.map_id B]
     refine bkP λb hb=>?_;rw[hB b hb q s rs];rfl
    rw[M]at K;have:=K;simp only[List.eraseIdx_cons_zero]at this
    rwa[d q s rs]at this
   obtain⟨φ,i,k1,k2,A,E⟩:=aR.giveUp L V (λx hx=>p x (by simp[hx])) hB;refine⟨λu=>φ (PV.dV q s rs u),i,λx hx=>?_,λu J=>?_,A,λcs R y=>?_⟩
   ·rw[biG]at hx;rcases hx with rfl|hx
    ·simp only;rw[S];exact .inr (k2 _ rfl)
    ·obtain⟨j,O⟩:=List.mem_iff_getElem?.1 hx;have:=U (j+1) x Om (by simpa using O);simp only;rw[this];exact k1 x hx
   ·simp only;rw[Dx J,k2 u J]
   ·refine .step Q ?_;have e:PV.frz q s rs (.agg cs)=.agg (cs.map (PV.dV q s rs)):=rfl;rw[e];refine E _ R ?_;rw[bkT];exact y
theorem fp{K:cF}{α:Type}{d:α->PF}{Hs:α->PH}{e:α->Prop}{m:α->Nat}{n q s:Nat}{rs:P2_}(a:α)(w:H q=some (.rows s rs))(i:e a)(u:m a<n)(l:(d a).le (F.frz q s rs))(p:(Hs a).le (H.frz q s rs)):gG d Hs e m n K .normal F H:=
 ⟨a,_,_,.step q w (.refl _ _),i,u,l,p⟩
end
structure AM(C:Ctx):Prop extends Ac C where
 int:∀n:Int,dL n->aH C 47 [.int .i64 n] .nil (aI (.agg (mkT n 1).cells))
 itoa:∀n:Nat,n<100->aH C 195 [.int .i64 n] .nil (aI (.str (cP n)))
 next:∀(l:List Nat)(v:PV),Tp l v->∀(o n a:Nat),n<=1000000->a<=Z' l->aH C 4 [.ptr o 2 0 0,.int .i64 n] (h_.set o (bB v a)) (z8 l v o n a)
section
variable {C:Ctx} {F:PF} {H:PH} {l:List Nat} {v:PV} {o a:Nat}
theorem dR(i:AM C)(T:Tp l v){n:Nat}{args:List aP}{d:Option Nat}{K:PF->PH->Prop}(w:n<=1000000)(p:a<=Z' l)(e:aP.evs F args=some [.ptr o 2 0 0,.int .i64 n])(x:H o=some (bB v a))
  (u:K (F.put d (.int .i64 ((aF l n a).1:Nat))) (H.set o (bB v (aF l n a).2))):lD C 4 args [] d K F H:=
 qI (i.next l v T o n a w p) x e u
end
def aZK(l:List Nat)(v:PV)(o a:Nat)(r:PV)(H:PH):Prop:=r=.agg (jG l a).1.cells/\H=h_.set o (bB v (jG l a).2)
theorem CW(l:List Nat){a:Nat}(h:a<=Z' l):(jG l a).2<=Z' l:=bP l 8 (bP l 6 h)
theorem aVN(e:AM C){l:List Nat}{v:PV}(T:Tp l v)(o a:Nat)(w:a<=Z' l):WG.wp C (aZ aHU.res (aZK l v o a)) (g_ [.ptr o 2 0 0]) (h_.set o (bB v a)):=by
 simp only[go_sem,WG,afS,aHU];refine aQ λp hp=>?_;have y:¬p=o:=(kP.1 hp).1;have d:¬o=p:=λh=>y h.symm;have K:=cG l (show 0<6 by decide) a;have a1:=bP l 6 w;simp only[go_sem,afT];refine dR e T (o:=o) (n:=6) (a:=a) aS w rfl (by simp only[go_sem,d]) ?_;have E:i_.wrap (1+((aF l 6 a).1:Int))=((1+(aF l 6 a).1:Nat):Int):=by rw[wrap_i64 Om Om];omega
 simp only[go_sem,E];have M:=cG l (show 0<8 by decide) (aF l 6 a).2;refine dR e T (o:=o) (n:=8) (a:=(aF l 6 a).2) aS a1 rfl Sq ?_;have e2:i_.wrap (1+((aF l 8 (aF l 6 a).2).1:Int))=((1+(aF l 8 (aF l 6 a).2).1:Nat):Int):=by rw[wrap_i64 Om Om];omega
 simp only[go_sem,e2];refine aB (e.fmk ((1+(aF l 6 a).1:Nat):Int) ((1+(aF l 8 (aF l 6 a).2).1:Nat):Int) (by unfold dL;omega) (by unfold dL;omega)) rfl ?_;have J:¬((1+(aF l 8 (aF l 6 a).2).1:Nat):Int)=0:=Om;unfold yH;rw[aE J];simp only[go_sem];refine aQ λq x=>?_;have A:¬q=o:=(kP.1 x).1;have B:¬q=p:=(kP.1 (kP.1 x).2).1;have u:¬p=q:=λh=>B h.symm;have i:¬o=q:=λh=>A h.symm;simp only[go_sem,afU,y,d,A,B,u];refine bE (vs:=[.agg (jG l a).1.cells]) (.inr rfl) (h_.set o (bB v (jG l a).2)) ?_ (e_ a_ ?_) ⟨rfl,rfl⟩
 ·simp only[go_sem];rfl
 ·simp only[go_sem,d,i];rfl
structure Xr(C:Ctx):Prop extends AM C where
 frac:∀(l:List Nat)(v:PV),Tp l v->∀(o a:Nat),a<=Z' l->aH C 1 [.ptr o 2 0 0] (h_.set o (bB v a)) (aZK l v o a)
abbrev kG(l:List RF):P2_:=l.map RF.cells
theorem GM(l:List RF)(x:RF):kG l++[x.cells]=kG (l++[x]):=by simp[kG]
theorem UP(l:List RF):Flat (kG l):=Flat.map l λx c d q s rs=>by
 simp only[RF.cells,eZ,biG,biO,or_false]at d;rcases d with rfl|rfl|rfl<;>rfl
theorem rP(l:List RF):(kG l).length=Z' l:=by simp[kG]
theorem Tp.frz{l:List Nat}{v:PV}(T:Tp l v)(q s:Nat)(rs:P2_):PV.dV q s rs v=v:=by
 rcases T.seen with⟨_,rfl⟩|rfl<;>rfl
theorem SM(l:List Nat){a:Nat}(h:a<=Z' l):∀k,(pA l a k).2<=Z' l
 |0=>h
 |k+1=>CW l (SM l h k)
theorem akB(l:List Nat)(a:Nat):∀k,(pA l a k).1.length=k
 |0=>rfl
 |k+1=>by simp only[pA,bhW,biC,akB l a k]
def a5T(l:List Nat)(v:PV)(o a k:Nat)(r:PV)(H:PH):Prop:=r=frs (pA l a k).1/\H=h_.set o (bB v (pA l a k).2)
def aHZ(o:Nat)(m:Nat)(w:PV)(i:Nat):PF:=((((n_.set 0 (.ptr o 2 0 0)).set 1 (.int .i64 m)).set 5 (w)).set 6 (.int .i64 i))
theorem a3A(K:Xr C){l:List Nat}{v:PV}(T:Tp l v)(o a m:Nat)(U:m<=1000)(O:a<=Z' l):gg.wp C (aZ aVX.res (a5T l v o a (max m 1))) (g_ [.ptr o 2 0 0,.int .i64 m]) (h_.set o (bB v a)):=by
 have u:∀i:Nat,((i:Int)<(if(m:Int)<1 then 1 else(m:Int)))↔i<max m 1:=by intro i;split<;>omega
 simp only[go_sem,gg,axU,axV,axW,aVX];have M:aR (h_.set o (bB v a)) [(o,bB v a)] [(.aK,3,kG [])]:=(aR.nil.new (H:=h_) rfl (bB v a)).qU 3;refine wp_loop (α:=Nat × PV × PH) (λt=>aHZ o m t.2.1 t.1) (λt=>t.2.2) (λt=>t.1<=max m 1/\aR t.2.2 [(o,bB v (pA l a t.1).2)] [(t.2.1,3,kG (pA l a t.1).1)]) (λt=>max m 1-t.1) (0,.aK,h_.set o (bB v a)) ⟨bhT _,M⟩ ?_ b_ ?_
 ·unfold aHZ;exact Lq
 rintro⟨k,w,S⟩ ⟨Q,p⟩;simp only at Q p ⊢;simp only[go_sem,axT,axX,aHZ];have B:=SM l O k;have d:=akB l a k;by_cases hlt:k<max m 1
 ·have A:=(u k).2 hlt;simp only[go_sem,A,axY];refine qI (K.frac l v T o _ B) (p.at 0 rfl) rfl ?_;have y:=p.set 0 rfl (bB v (jG l (pA l a k).2).2);have x:(1:Nat)*3<=16777216:=by decide
  simp only[go_sem,x];refine y.append 0 (src:=[(jG l (pA l a k).2).1.cells]) rfl rfl (by unfold roomFor;rw[rP,d];simp only[biC,maxLen];omega) λR H' J _=>?_;rw[GM]at J;simp only[go_sem,axZ,wZz k];refine aJ (k+1,R,H') ⟨hlt,J⟩ (by simp only;omega) ?_ b_;exact Lq
 ·have A:¬((k:Int)<(if(m:Int)<1 then 1 else(m:Int))):=λh=>hlt ((u k).1 h);have e:k=max m 1:=Om;subst e;simp only[go_sem,A,ayA];have E:kG (pA l a (max m 1)).1≠[]:=λh=>by have:=congrArg List.length h;rw[rP,d]at this;simp at this
  rcases p.own 0 rfl with⟨N,_⟩|⟨q,rs,rfl,_⟩
  ·exact absurd N E
  obtain⟨rs,g1,g2,g3,-,g4⟩:=p.frz 0 rfl;refine AA (vs:=[.osl q 3 0 (kG (pA l a (max m 1)).1).length]) (.inr rfl) rfl (.step g1 (.done (H2:=h_.set o (bB v (pA l a (max m 1)).2)) ?_ (e_ a_ ?_)))
  ·rw[bN,g3];exact⟨rfl,rfl⟩
  ·have:=g4.at 0 rfl;rw[this];simp only[aY.frz,biU,bjP,T.frz];rfl
theorem aVU(e:AM C)(s:List UInt8)(n:Nat)(u:Z' s<=100)(i:n<100):WO.wp C (aZ aHY.res (aI (.str (s++cP n)))) (g_ [.str s,.int .i64 n]) .nil:=by
 have p:(cP n).length<=2:=by
  unfold cP;rw[Lib.decDigits];split
  ·simp
  ·rw[Lib.decDigits,dif_pos Om];simp
 have d:¬(((Z' s+(cP n).length:Nat):Int)>9223372036854775807):=Om;simp only[go_sem,WO,agO,agP,aHY];refine aB (e.itoa n i) rfl ?_;simp only[go_sem,aEY,d];refine aT (.inr rfl) rfl ?_;rfl
structure AN(C:Ctx):Prop extends Xr C where
 rep:∀(l:List Nat)(v:PV),Tp l v->∀(o a m:Nat),m<=1000->a<=Z' l->aH C 5 [.ptr o 2 0 0,.int .i64 m] (h_.set o (bB v a)) (a5T l v o a (max m 1))
 name:∀(s:List UInt8)(n:Nat),Z' s<=100->n<100->aH C 29 [.str s,.int .i64 n] .nil (aI (.str (s++cP n)))
theorem aSO(l:List Nat)(i j:Nat){a:Nat}(h:a<=Z' l):(mN l i j a).2<=Z' l:=by
 unfold mN;split
 ·exact CW l h
 ·split
  ·exact h
  ·simp only;split
   ·exact CW l (bP l 3 h)
   ·exact bP l 3 h
theorem Mn(l:List Nat)(i:Nat){a:Nat}(h:a<=Z' l):∀j,(fD l i a j).2<=Z' l
 |0=>h
 |j+1=>aSO l i j (Mn l i h j)
theorem yb(l:List Nat)(i a:Nat):∀j,(fD l i a j).1.length=j
 |0=>rfl
 |j+1=>by simp only[fD,bhW,biC,yb l i a j]
theorem wd(l:List Nat)(n i:Nat)(s:NR)(h:s.a<=Z' l):(fB l n i s).2<=Z' l/\(fB l n i s).1<=s.left:=by
 unfold fB;split
 ·exact⟨bP l _ h,by have:=cG l (Om:0<s.left+1) s.a;omega⟩
 ·exact⟨h,bhV _⟩
theorem aaC(l:List Nat)(n i:Nat){a:Nat}(h:a<=Z' l):(gZ l n i a).2<=Z' l:=by
 unfold gZ;simp only;split
 ·exact bP l 3 (CW l h)
 ·exact CW l h
theorem Ld(l:List Nat)(n:Nat){a:Nat}(h:a<=Z' l):∀i,(kA l n a i).a<=Z' l/\(kA l n a i).left<=8/\(kA l n a i).start.length=i/\(kA l n a i).exit.length=i/\(kA l n a i).bgI.length=i
 |0=>⟨h,bhV _,rfl,rfl,rfl⟩
 |i+1=>by
  obtain⟨d,w,e,p,h5⟩:=Ld l n h i;have u:=wd l n i (kA l n a i) d;refine⟨?_,?_,?_,?_,?_⟩
  ·exact Mn l i (aaC l n i u.1) n
  ·simp only[kA];omega
  ·simp only[kA,bhW,biC,e]
  ·simp only[kA,bhW,biC,p]
  ·simp only[kA,bhW,biC,h5]
abbrev DH(l:List (List RF)):P2_:=l.map λr=>[frs r]
theorem S3(l:List (List RF)):Flat (DH l):=Flat.map l λx c d q s rs=>by
 simp only[biG,biO,or_false]at d;subst d;rfl
abbrev wc(d e i:PV):aY:=.rows 4 [[.str [],d,e,i]]
abbrev aeH:aY:=.rows 4 [[.str [],.aK,.aK,.aK]]
def jN(o o4 o6 n left i:Nat)(w:PV)(j:Nat):PF:=((((((((n_.set 0 (.ptr o 2 0 0)).set 4 (.ptr o4 4 0 0)).set 5 (.int .i64 n)).set 6 (.ptr o6 4 0 0)).set 7 (.int .i64 left)).set 8 (.int .i64 i)).set 13 (w)).set 14 (.int .i64 j))
def eD(o o4 o6 n left i:Nat):PF:=((((((n_.set 0 (.ptr o 2 0 0)).set 4 (.ptr o4 4 0 0)).set 5 (.int .i64 n)).set 6 (.ptr o6 4 0 0)).set 7 (.int .i64 left)).set 8 (.int .i64 i))
theorem wn{l:List RF}(h:Z' l<=1000):roomFor (kG l).length 1 56:=by
 unfold roomFor;rw[rP];simp only[maxLen];omega
theorem aVQ(W:AN C){l:List Nat}{v:PV}(T:Tp l v)(o o4 o6 n left i a:Nat)(ha:a<=Z' l)(hn:n<=100)(hi:i<n)(B:List BX)(L:List LI)(K:cF)(F:PF)(H:PH)
  (hF:(jN o o4 o6 n left i .aK 0).le F) (Q:aR H ((o,bB v a)::B) L)
  (hK:∀w e H',(jN o o4 o6 n left i w n).le e->aR H' ((o,bB v (fD l i a n).2)::B) (L++[(w,3,kG (fD l i a n).1)])->K (.exit 2) e H') :
  aC.wp C (.loop WJ) K F H:=by
 refine wp_loop (α:=Nat × PV × PH) (λt=>jN o o4 o6 n left i t.2.1 t.1) (λt=>t.2.2) (λt=>t.1<=n/\aR t.2.2 ((o,bB v (fD l i a t.1).2)::B) (L++[(t.2.1,3,kG (fD l i a t.1).1)])) (λt=>n-t.1) (0,.aK,H) ⟨bhT _,Q.qU 3⟩ hF b_ ?_;rintro⟨j,w,H0⟩ ⟨hj,Q⟩;simp only at hj Q ⊢;have O:=Mn l i ha j;have ε:=yb l i a j;have e1:i_.wrap ((i:Int)+1)=((i+1:Nat):Int):=dZ Om;simp only[go_sem,WJ,agJ,jN];by_cases hlt:j<n
 ·have E:(j:Int)<(n:Nat):=Om;simp only[go_sem,E,agK];refine aB (W.int 0 (by unfold dL;omega)) rfl ?_;simp only[go_sem];refine aQ λp hp=>?_;have y:=Q.new hp (.rows 3 [nY.cells]);simp only[go_sem,agL,e1];have fin:∀(e:PF)(H':PH),(jN o o4 o6 n left i w j).le e->e 15=some (.ptr p 3 0 0)->aR H' ((o,bB v (mN l i j (fD l i a j).2).2)::B++[(p,.rows 3 [(mN l i j (fD l i a j).2).1.cells])]) (L++[(w,3,kG (fD l i a j).1)]) ->
    aC.wp C (.region w8) (fS 3 (kB C (aC.wp C (.region w9)) (gG (λ(t:Nat × PV × PH)=>jN o o4 o6 n left i t.2.1 t.1) (λt=>t.2.2) (λt=>t.1<=n/\aR t.2.2 ((o,bB v (fD l i a t.1).2)::B) (L++[(t.2.1,3,kG (fD l i a t.1).1)])) (λt=>n-t.1) (n-j) K))) e H':=by
   intro e H' d J R;have f0:e 0=some (.ptr o 2 0 0):=d 0 _ (by unfold jN;simp only[go_sem]);have f4:e 4=some (.ptr o4 4 0 0):=d 4 _ (by unfold jN;simp only[go_sem]);have f5:e 5=some (.int .i64 n):=d 5 _ (by unfold jN;simp only[go_sem]);have f6:e 6=some (.ptr o6 4 0 0):=d 6 _ (by unfold jN;simp only[go_sem]);have f7:e 7=some (.int .i64 left):=d 7 _ (by unfold jN;simp only[go_sem]);have f8:e 8=some (.int .i64 i):=d 8 _ (by unfold jN;simp only[go_sem]);have f13:e 13=some w:=d 13 _ (by unfold jN;simp only[go_sem]);have f14:e 14=some (.int .i64 j):=d 14 _ (by unfold jN;simp only[go_sem]);have γ:H' p=some (.rows 3 [(mN l i j (fD l i a j).2).1.cells]):=R.box (p,.rows 3 [(mN l i j (fD l i a j).2).1.cells]) bH;have Y:(1:Nat)*3<=16777216:=by decide
   simp only[go_sem,w8,f13,J,γ,Y];refine R.append (v:=w) (s:=3) (rows:=kG (fD l i a j).1) L.length (src:=[(mN l i j (fD l i a j).2).1.cells]) bH rfl (wn Om) λw' H2 h2 _=>?_;rw[GM,blC _ _ (bhV _),bkR]at h2;simp only[go_sem,w9,f14,wZz j];refine aJ (α:=Nat × PV × PH) (j+1,w',H2) ⟨hlt,h2.sub (List.sublist_append_left ..) (bkD.refl _)⟩ (by simp only;omega) ?_ b_;unfold jN;exact Lq
  simp only[aC.wp,go_sem]at fin;have V:∀x:RF,PH.set (PH.set H0 p (.rows 3 [nY.cells])) p (.rows 3 [x.cells])=PH.set H0 p (.rows 3 [x.cells]):=λx=>PH.set_set p _ _;have draw:∀(e:PF)(S:PH)(a1:Nat),a1<=Z' l->(jN o o4 o6 n left i w j).le e->e 15=some (.ptr p 3 0 0)->aR S ((o,bB v a1)::B++[(p,.rows 3 [nY.cells])]) (L++[(w,3,kG (fD l i a j).1)])->mN l i j (fD l i a j).2=jG l a1->∀K',(∀N H2,(jN o o4 o6 n left i w j).le N->N 15=some (.ptr p 3 0 0)->aR H2 ((o,bB v (mN l i j (fD l i a j).2).2)::B++[(p,.rows 3 [(mN l i j (fD l i a j).2).1.cells])]) (L++[(w,3,kG (fD l i a j).1)])->K' N H2) ->
    wpOps C wz K' e S:=by
   intro e S a1 β d J y M K' Z;have f0:e 0=some (.ptr o 2 0 0):=d 0 _ (by unfold jN;simp only[go_sem]);simp only[go_sem,wz,f0];refine qI (W.frac l v T o a1 β) (y.at 0 rfl) rfl ?_;have A:aR (S.set o (bB v (jG l a1).2)) ((o,bB v (jG l a1).2)::B++[(p,.rows 3 [nY.cells])]) (L++[(w,3,kG (fD l i a j).1)]):=y.set 0 rfl _;have δ:=A.RR;simp only[go_sem,J,δ];refine Z _ _ ?_ (by simp only[go_sem,J]) ?_
   ·have g:=λ(q:Nat) u h=>d q u h;unfold jN at g ⊢;refine d_ (d_ (d_ (d_ (d_ (d_ (d_ (d_ c_ ?_) ?_) ?_) ?_) ?_) ?_) ?_) ?_
    ·simp only[go_sem,f0]
    ·simp only[go_sem,g 4 _ rfl]
    ·simp only[go_sem,g 5 _ rfl]
    ·simp only[go_sem,g 6 _ rfl]
    ·simp only[go_sem,g 7 _ rfl]
    ·simp only[go_sem,g 8 _ rfl]
    ·simp only[go_sem,g 13 _ rfl]
    ·simp only[go_sem,g 14 _ rfl]
   ·rw[M];exact A.na (.rows 3 [(jG l a1).1.cells])
  by_cases U:j=i+1
  ·have M:mN l i j (fD l i a j).2=jG l (fD l i a j).2:=by unfold mN;rw[aG U]
   simp only[go_sem,bY (Om:(j:Int)=((i+1:Nat):Int))];refine draw _ _ _ O (by unfold jN;exact Lq) rfl y M _ ?_;intro N H2 k1 k2 k3;exact fin N H2 k1 k2 k3
  ·simp only[go_sem,bL (Om:¬(j:Int)=((i+1:Nat):Int))];by_cases X:j=i
   ·have M:mN l i j (fD l i a j).2=(nY,(fD l i a j).2):=by unfold mN;rw[aE U,aG X]
    simp only[go_sem,cN (Om:(j:Int)=(i:Int))];exact fin _ _ (by unfold jN;exact Lq) rfl (by rw[M];exact y)
   ·simp only[go_sem,dX (Om:¬(j:Int)=(i:Int))];refine dR W.toAM T (o:=o) (n:=3) (a:=(fD l i a j).2) aS O rfl (y.at 0 rfl) ?_;have A:aR _ ((o,bB v (aF l 3 (fD l i a j).2).2)::B++[(p,.rows 3 [nY.cells])]) (L++[(w,3,kG (fD l i a j).1)]):=y.set 0 rfl _;by_cases c3:(aF l 3 (fD l i a j).2).1=0
    ·have M:mN l i j (fD l i a j).2=jG l (aF l 3 (fD l i a j).2).2:=by unfold mN;rw[aE U,aE X];simp only[c3,if_true]
     simp only[go_sem,bY (show(((aF l 3 (fD l i a j).2).1:Nat):Int)=0 by omega)];refine draw _ _ _ (bP l 3 O) (by unfold jN;exact Lq) rfl A M _ ?_;intro N H2 k1 k2 k3;exact fin N H2 k1 k2 k3
    ·have M:mN l i j (fD l i a j).2=(nY,(aF l 3 (fD l i a j).2).2):=by unfold mN;rw[aE U,aE X];simp only[c3,if_false]
     simp only[go_sem,bL (show ¬(((aF l 3 (fD l i a j).2).1:Nat):Int)=0 by omega)];exact fin _ _ (by unfold jN;exact Lq) rfl (by rw[M];exact A)
 ·have E:¬(j:Int)<(n:Nat):=Om;have:j=n:=Om;subst this;simp only[go_sem,E];exact hK w _ _ (by unfold jN;exact Lq) Q
abbrev yM(o o4 o6:Nat)(v d e i:PV)(a:Nat):List BX:=[(o,bB v a),(o4,aeH),(o6,wc d e i)]
abbrev DS(s:NR)(d e i:PV):List LI:=[(d,3,kG s.start),(e,1,DH s.bgI),(i,3,kG s.exit)]
theorem aNT(J:AN C){l:List Nat}{v:PV}(T:Tp l v)(o o4 o6 n i:Nat)(s:NR)(E:s.a<=Z' l)(U:s.left<=8)(V:n<=100)(hi:i<n)(B:List BX)(L:List LI)(rest:aC)(K:cF)(F:PF)(H:PH)
  (d:(eD o o4 o6 n s.left i).le F) (x:aR H ((o,bB v s.a)::B) L)
  (p:∀u H',(eD o o4 o6 n (s.left-(fB l n i s).1) i).le u->u 9=some (.int .i64 ((fB l n i s).1:Nat))->aR H' ((o,bB v (fB l n i s).2)::B) L->aC.wp C rest K u H') :
  aC.wp C (.seq (.region Lh) (.seq (.seq (.region Li) (.cond (.tmp 29) (.region Lj) .skip)) (.seq (.region mm) rest))) K F H:=by
 have f0:F 0=some (.ptr o 2 0 0):=d 0 _ (by unfold eD;simp only[go_sem]);have R:F 4=some (.ptr o4 4 0 0):=d 4 _ (by unfold eD;simp only[go_sem]);have O:F 5=some (.int .i64 n):=d 5 _ (by unfold eD;simp only[go_sem]);have f6:F 6=some (.ptr o6 4 0 0):=d 6 _ (by unfold eD;simp only[go_sem]);have f7:F 7=some (.int .i64 s.left):=d 7 _ (by unfold eD;simp only[go_sem]);have Q:F 8=some (.int .i64 i):=d 8 _ (by unfold eD;simp only[go_sem]);have M:i_.wrap ((i:Int)+1)=((i+1:Nat):Int):=dZ Om;have S:=(wd l n i s E).2;have e:i_.wrap ((s.left:Int)-((fB l n i s).1:Int))=((s.left-(fB l n i s).1:Nat):Int):=by rw[wrap_i64 Om Om];omega
 simp only[go_sem,Lh,f7,Li,Q,O,M];by_cases c:i+1<n
 ·have w:((i+1:Nat):Int)<(n:Nat):=Om;have A:fB l n i s=aF l (s.left+1) s.a:=by unfold fB;rw[aG c]
  have N:i_.wrap ((s.left:Int)+1)=((s.left+1:Nat):Int):=dZ Om;rw[A]at p e;simp only[go_sem,w,Lj,f0,f7,N];refine dR J.toAM T (o:=o) (n:=s.left+1) (a:=s.a) Om E rfl x.a6B ?_;have y:=x.a4K (bB v (aF l (s.left+1) s.a).2);simp only[go_sem,mm,f7,e];refine p _ _ ?_ rfl y;unfold eD;exact Lq
 ·have w:¬((i+1:Nat):Int)<(n:Nat):=Om;have A:fB l n i s=(s.left,s.a):=by unfold fB;rw[aE c]
  rw[A]at p e;simp only at p e;simp only[go_sem,w,mm,f7,e];refine p _ _ ?_ rfl x;unfold eD;exact Lq
theorem aHW(Q:AN C){l:List Nat}{v:PV}(o o4 o6 n i left k a:Nat)(hk:k<=8)(hi:i<n)(hn:n<=100)(s:NR)(hs:Z' s.start=i)(O w x:PV)(B:List BX)(rest:aC)(K:cF)(F:PF)(H:PH)
  (u:(eD o o4 o6 n left i).le F) (R:F 9=some (.int .i64 k)) (W:aR H (yM o o4 o6 v O w x a++B) (DS s O w x))
  (X:∀e N H' B',(eD o o4 o6 n left i).le N->aR H' (yM o o4 o6 v e w x a++B') (DS { s with start:=s.start++[mkT (k:Nat) 8] } e w x)->aC.wp C rest K N H') :
  aC.wp C (.seq (.region wq) (.seq (.region wr) rest)) K F H:=by
 have f0:F 0=some (.ptr o 2 0 0):=u 0 _ (by unfold eD;simp only[go_sem]);have Z:F 4=some (.ptr o4 4 0 0):=u 4 _ (by unfold eD;simp only[go_sem]);have f5:F 5=some (.int .i64 n):=u 5 _ (by unfold eD;simp only[go_sem]);have f6:F 6=some (.ptr o6 4 0 0):=u 6 _ (by unfold eD;simp only[go_sem]);have f7:F 7=some (.int .i64 left):=u 7 _ (by unfold eD;simp only[go_sem]);have f8:F 8=some (.int .i64 i):=u 8 _ (by unfold eD;simp only[go_sem]);simp only[go_sem,wq,R];refine aB (Q.fmk (k:Int) 8 (by unfold dL;omega) (by unfold dL;omega)) rfl ?_;unfold yH;rw[aE aS];simp only[go_sem];refine aQ λp hp=>?_;have d:=W.new hp (.rows 3 [(mkT (k:Nat) 8).cells]);have S:=d.at 2 rfl;have U:=d.RR;have E:(1:Nat)*3<=16777216:=by decide
 have Y:∀y,PH.set (PH.set H p (.rows 3 [[PV.bool false,PV.aK,PV.aK]])) p y=PH.set H p y:=λy=>PH.set_set p _ _;simp only[go_sem,wr,f6,S,U,E];refine d.append 0 (src:=[(mkT (k:Nat) 8).cells]) rfl rfl (wn Om) λe H2 J M=>?_;rw[GM]at J M;rw[rP]at M;obtain⟨q,rfl⟩:=M bH;have A:=J.at 2 rfl;simp only[go_sem,A,biG,biO,or_false,forall_eq];have V:=J.set 2 rfl (wc (.osl q 3 0 (s.start++[mkT (k:Nat) 8]).length) w x);refine X _ _ _ (B++[(p,.rows 3 [(mkT (k:Nat) 8).cells])]) ?_ V;unfold eD;exact Lq
theorem aNS(O:AN C){l:List Nat}{v:PV}(T:Tp l v)(o o4 o6 n i left a:Nat)(ha:a<=Z' l)(hi:i<n)(hn:n<=100)(s:NR)(hs:Z' s.exit=i)(u w M:PV)(B:List BX)(rest:aC)(K:cF)(F:PF)(H:PH)
  (J:(eD o o4 o6 n left i).le F) (hH:aR H (yM o o4 o6 v u w M a++B) (DS s u w M))
  (hK:∀E d H' B',(eD o o4 o6 n left i).le d->aR H' (yM o o4 o6 v u w E (gZ l n i a).2++B') (DS { s with exit:=s.exit++[(gZ l n i a).1] } u w E)->aC.wp C rest K d H') :
  aC.wp C (.seq (.region wt) (.seq (.seq (.region wu) (.cond (.tmp 58) (.region ww) .skip)) (.seq (.region WK) rest))) K F H:=by
 have f0:F 0=some (.ptr o 2 0 0):=J 0 _ (by unfold eD;simp only[go_sem]);have f4:F 4=some (.ptr o4 4 0 0):=J 4 _ (by unfold eD;simp only[go_sem]);have f5:F 5=some (.int .i64 n):=J 5 _ (by unfold eD;simp only[go_sem]);have f6:F 6=some (.ptr o6 4 0 0):=J 6 _ (by unfold eD;simp only[go_sem]);have f7:F 7=some (.int .i64 left):=J 7 _ (by unfold eD;simp only[go_sem]);have f8:F 8=some (.int .i64 i):=J 8 _ (by unfold eD;simp only[go_sem]);have e1:i_.wrap ((i:Int)+1)=((i+1:Nat):Int):=dZ Om;simp only[go_sem,wt,f0];refine qI (O.frac l v T o a ha) (hH.at 0 rfl) rfl ?_;have X:=hH.set 0 rfl (bB v (jG l a).2);simp only[go_sem];refine aQ λp hp=>?_;have y:=X.new hp (.rows 3 [(jG l a).1.cells]);simp only[go_sem,wu,f8,f5,e1];have fin:∀(d:PF)(H':PH),(eD o o4 o6 n left i).le d->d 12=some (.ptr p 3 0 0)->aR H' (yM o o4 o6 v u w M (gZ l n i a).2++B++[(p,.rows 3 [(gZ l n i a).1.cells])]) (DS s u w M)->wpOps C WK (aC.wp C rest K) d H':=by
  intro d H' e R x;have q0:d 0=some (.ptr o 2 0 0):=e 0 _ (by unfold eD;simp only[go_sem]);have q4:d 4=some (.ptr o4 4 0 0):=e 4 _ (by unfold eD;simp only[go_sem]);have q5:d 5=some (.int .i64 n):=e 5 _ (by unfold eD;simp only[go_sem]);have q6:d 6=some (.ptr o6 4 0 0):=e 6 _ (by unfold eD;simp only[go_sem]);have q7:d 7=some (.int .i64 left):=e 7 _ (by unfold eD;simp only[go_sem]);have q8:d 8=some (.int .i64 i):=e 8 _ (by unfold eD;simp only[go_sem]);have g6:=x.at 2 rfl;have U:=x.RR;have V:(1:Nat)*3<=16777216:=by decide
  simp only[go_sem,WK,q6,g6,R,U,V];refine x.append 2 (src:=[(gZ l n i a).1.cells]) rfl rfl (wn Om) λE H2 W Z=>?_;rw[GM]at W Z;rw[rP]at Z;obtain⟨q,rfl⟩:=Z bH;have S:=W.at 2 rfl;simp only[go_sem,S,biG,biO,or_false,forall_eq];have h3:=W.set 2 rfl (wc u w (.osl q 3 0 (s.exit++[(gZ l n i a).1]).length));refine hK _ _ _ (B++[(p,.rows 3 [(gZ l n i a).1.cells])]) ?_ h3;unfold eD;exact Lq
 by_cases c:i+1<n
 ·have Q:((i+1:Nat):Int)<(n:Nat):=Om;have Y:=CW l ha;simp only[go_sem,Q,f0];refine dR O.toAM T (o:=o) (n:=3) (a:=(jG l a).2) aS Y rfl (y.at 0 rfl) ?_;have A:=y.set 0 rfl (bB v (aF l 3 (jG l a).2).2);by_cases c3:(aF l 3 (jG l a).2).1=0
  ·have N:gZ l n i a=(nY,(aF l 3 (jG l a).2).2):=by unfold gZ;simp only[aG c,c3,if_true]
   have U:=aR.RR (B:=yM o o4 o6 v u w M (aF l 3 (jG l a).2).2++B) A;simp only[go_sem,bY (show(((aF l 3 (jG l a).2).1:Nat):Int)=0 by omega),ww];refine aB (O.int 0 (by unfold dL;omega)) rfl ?_;simp only[go_sem,U];refine fin _ _ ?_ rfl ?_
   ·unfold eD;exact Lq
   ·rw[N];exact aR.na (B:=yM o o4 o6 v u w M (aF l 3 (jG l a).2).2++B) A (.rows 3 [nY.cells])
  ·have N:gZ l n i a=((jG l a).1,(aF l 3 (jG l a).2).2):=by unfold gZ;simp only[aG c,c3,if_false]
   simp only[go_sem,bL (show ¬(((aF l 3 (jG l a).2).1:Nat):Int)=0 by omega)];refine fin _ _ ?_ rfl ?_
   ·unfold eD;exact Lq
   ·rw[N];exact A
 ·have Q:¬((i+1:Nat):Int)<(n:Nat):=Om;have N:gZ l n i a=jG l a:=by unfold gZ;simp only[aE c]
  simp only[go_sem,Q];refine fin _ _ ?_ rfl ?_
  ·unfold eD;exact Lq
  ·rw[N];exact y
def aSC(l:List Nat)(v:PV)(o eS a:Nat)(r:PV)(H:PH):Prop:=r=.agg (xN l eS a).1.cells/\H=h_.set o (bB v (xN l eS a).2)
theorem aPP{l:List (List RF)}(h:Z' l<=1000):roomFor (DH l).length 1 24:=by
 unfold roomFor;simp only[bhO,maxLen];omega
theorem aPQ(l:List (List RF))(x:List RF):DH l++[[frs x]]=DH (l++[x]):=by simp[DH]
theorem aHV(Lb:AN C){l:List Nat}{v:PV}(T:Tp l v)(o o4 o6 n left i a:Nat)(ha:a<=Z' l)(hn:n<=100)(hi:i<n)(s:NR)(hs:Z' s.bgI=i)(x N E:PV)(B:List BX)(K:cF)(F:PF)(H:PH)
  (J:(eD o o4 o6 n left i).le F) (hH:aR H (yM o o4 o6 v x N E a++B) (DS s x N E))
  (hK:∀A y V H' B',(eD o o4 o6 n left i).le V->(∃q,y=.osl q 3 0 n)->aR H' (yM o o4 o6 v x A E (fD l i a n).2++B') [(x,3,kG s.start),(A,1,DH s.bgI++[[y]]),(E,3,kG s.exit),(y,3,kG (fD l i a n).1)]->K .normal V H') :
  aC.wp C (.seq (.region wx) (.seq (.seq (.region wy) (.block 2 (.loop WJ))) (.region xa))) K F H:=by
 have f0:F 0=some (.ptr o 2 0 0):=J 0 _ (by unfold eD;simp only[go_sem]);have f4:F 4=some (.ptr o4 4 0 0):=J 4 _ (by unfold eD;simp only[go_sem]);have f5:F 5=some (.int .i64 n):=J 5 _ (by unfold eD;simp only[go_sem]);have f6:F 6=some (.ptr o6 4 0 0):=J 6 _ (by unfold eD;simp only[go_sem]);have f7:F 7=some (.int .i64 left):=J 7 _ (by unfold eD;simp only[go_sem]);have f8:F 8=some (.int .i64 i):=J 8 _ (by unfold eD;simp only[go_sem]);simp only[go_sem,wx,wy];refine aVQ (C:=C) Lb T o o4 o6 n left i a ha hn hi ([(o4,aeH),(o6,wc x N E)]++B) (DS s x N E) _ _ H ?_ hH ?_
 ·unfold jN
  (repeat' (first|exact c_|refine d_ ?_ ?_))<;>first|(simp only[go_sem,f0,f4,f5,f6,f7,f8]<;>rfl)|rfl
 intro w p H1 d u;have e:=yb l i a n;have hw:∃q,w=.osl q 3 0 n:=by
  rcases u.own (v:=w) 3 rfl with⟨M,_⟩|⟨q,rs,M,_⟩
  ·have:=congrArg List.length M;rw[rP,e]at this;simp at this;omega
  ·rw[rP,e]at M;exact⟨q,M⟩
 obtain⟨q,rfl⟩:=hw;have g0:p 0=some (.ptr o 2 0 0):=d 0 _ (by unfold jN;simp only[go_sem]);have g4:p 4=some (.ptr o4 4 0 0):=d 4 _ (by unfold jN;simp only[go_sem]);have g5:p 5=some (.int .i64 n):=d 5 _ (by unfold jN;simp only[go_sem]);have W:p 6=some (.ptr o6 4 0 0):=d 6 _ (by unfold jN;simp only[go_sem]);have g7:p 7=some (.int .i64 left):=d 7 _ (by unfold jN;simp only[go_sem]);have g8:p 8=some (.int .i64 i):=d 8 _ (by unfold jN;simp only[go_sem]);have Q:p 13=some (.osl q 3 0 n):=d 13 _ (by unfold jN;simp only[go_sem]);have b6:=u.at 2 rfl;have R:(1:Nat)*1<=16777216:=by decide
 simp only[go_sem,xa,W,b6,Q,R,biG,biO,or_false,forall_eq];refine u.append 1 (src:=[[.osl q 3 0 n]]) rfl Sq (aPP Om) λA H2 X U=>?_;obtain⟨Z,rfl⟩:=U bH;have O:=X.at 2 rfl;simp only[go_sem,O,biG,biO,or_false,forall_eq];have Y:=X.set 2 rfl (wc x (.osl Z 1 0 (DH s.bgI++[[PV.osl q 3 0 n]]).length) E);have S:(DH s.bgI++[[(PV.osl q 3 0 n:PV)]]).length=Z' s.bgI+1:=by simp
 rw[S]at Y ⊢;refine hK (.osl Z 1 0 (Z' s.bgI+1)) (.osl q 3 0 n) _ _ B ?_ ⟨q,rfl⟩ Y;unfold eD
 (repeat' (first|exact c_|refine d_ ?_ ?_))<;>first|(simp only[go_sem,g0,g4,g5,W,g7,g8]<;>rfl)|rfl
theorem a2V(K:AN C){l:List Nat}{v:PV}(T:Tp l v)(o eS a:Nat)(hm:0<eS)(δ:eS<=50)(ha:a<=Z' l):ge.wp C (aZ aVP.res (aSC l v o eS a)) (g_ [.ptr o 2 0 0,.int .i64 eS]) (h_.set o (bB v a)):=by
 have h0:aR (h_.set o (bB v a)) [(o,bB v a)] []:=aR.nil.new (H:=h_) rfl (bB v a);simp only[go_sem,ge,axK,aVP];refine aQ λo4 β=>?_;have J:=h0.new β aeH;simp only[go_sem,axL];refine dR K.toAM T (o:=o) (n:=eS) (a:=a) Om ha Sq (J.at 0 rfl) ?_;have h2:=J.set 0 rfl (bB v (aF l eS a).2);have hN:=cG l hm a;have Y:=bP l eS ha;have e1:i_.wrap (1+((aF l eS a).1:Int))=((1+(aF l eS a).1:Nat):Int):=by rw[wrap_i64 Om Om];omega
 have Z:∀s:NR,s=kA l (1+(aF l eS a).1) (aF l eS a).2 (1+(aF l eS a).1)->xN l eS a=(⟨[],s.start,s.bgI,s.exit⟩,s.a):=λs hs=>by rw[hs];rfl
 have X:∀r H,aSC l v o eS a r H↔r=.agg (xN l eS a).1.cells/\H=h_.set o (bB v (xN l eS a).2):=λ_ _=>Iff.rfl;generalize hn:1+(aF l eS a).1=n at *
 generalize hb:(aF l eS a).2=b at *
 have ε:0<n:=Om;have d:n<=100:=Om;simp only[go_sem,e1,axM];refine aQ λo6 γ=>?_;have h3:=((h2.new γ aeH).qU 3).qU 1;have h4:=h3.qU 3;simp only[go_sem,axN,axO];refine wp_loop (α:=Nat × PV × PV × PV × PH) (λt=>eD o o4 o6 n (kA l n b t.1).left t.1) (λt=>t.2.2.2.2)
  (λt=>t.1<=n/\aR t.2.2.2.2 (yM o o4 o6 v t.2.1 t.2.2.1 t.2.2.2.1 (kA l n b t.1).a) (DS (kA l n b t.1) t.2.1 t.2.2.1 t.2.2.2.1)) (λt=>n-t.1) (0,.aK,.aK,.aK,_) ⟨bhT _,h4⟩ ?_ b_ ?_
 ·unfold eD
  (repeat' (first|exact c_|refine d_ ?_ ?_))<;>first|(simp only[go_sem,kA]<;>rfl)|rfl
 rintro⟨i,w1,M,N,H0⟩ ⟨hi,E⟩;simp only at hi E ⊢;obtain⟨k1,k2,k3,k4,k5⟩:=Ld l n Y i;simp only[go_sem,agI,axP,eD];by_cases hlt:i<n
 ·have A:(i:Int)<(n:Nat):=Om;have B:kA l n b (i+1)=⟨(kA l n b i).start++[mkT ((fB l n i (kA l n b i)).1:Nat) 8],(kA l n b i).exit++[(gZ l n i (fB l n i (kA l n b i)).2).1],(kA l n b i).bgI++[(fD l i (gZ l n i (fB l n i (kA l n b i)).2).2 n).1],(kA l n b i).left-(fB l n i (kA l n b i)).1,(fD l i (gZ l n i (fB l n i (kA l n b i)).2).2 n).2⟩:=rfl;have kl:=wd l n i (kA l n b i) k1;have ke:=aaC l n i kl.1;generalize hs:kA l n b i=s at *
  simp only[go_sem,A];refine aNT (C:=C) K T o o4 o6 n i s k1 k2 d hlt [(o4,aeH),(o6,wc w1 M N)] (DS s w1 M N) _ _ _ H0 (by unfold eD;exact Lq) E ?_;intro F1 H1 O f9 S;refine aHW (C:=C) (l:=l) K o o4 o6 n i _ (fB l n i s).1 (fB l n i s).2 Om hlt d s k3 w1 M N [] _ _ F1 H1 O f9 S ?_;intro e F2 H2 B2 Q U;refine aNS (C:=C) K T o o4 o6 n i _ (fB l n i s).2 kl.1 hlt d { s with start:=s.start++[mkT ((fB l n i s).1:Nat) 8] } k4 e M N B2 _ _ F2 H2 Q U ?_;intro p F3 H3 B3 R V;refine aHV (C:=C) K T o o4 o6 n _ i (gZ l n i (fB l n i s).2).2 ke d hlt { s with start:=s.start++[mkT ((fB l n i s).1:Nat) 8],exit:=s.exit++[(gZ l n i (fB l n i s).2).1] } k5 e M p B3 _ F3 H3 R V ?_;rintro y ζ F H4 B4 u ⟨q,rfl⟩ W;have g0:F 0=some (.ptr o 2 0 0):=u 0 _ (by unfold eD;simp only[go_sem]);have g4:F 4=some (.ptr o4 4 0 0):=u 4 _ (by unfold eD;simp only[go_sem]);have g5:F 5=some (.int .i64 n):=u 5 _ (by unfold eD;simp only[go_sem]);have g6:F 6=some (.ptr o6 4 0 0):=u 6 _ (by unfold eD;simp only[go_sem]);have g7:F 7=some (.int .i64 (s.left-(fB l n i s).1:Nat)):=u 7 _ (by unfold eD;simp only[go_sem]);have g8:F 8=some (.int .i64 i):=u 8 _ (by unfold eD;simp only[go_sem]);obtain⟨rs,z1,z2,z3,z4,z5⟩:=W.frz 3 rfl;have y1:=z4 0 _ aS rfl;have y2:=z4 1 _ aS rfl;have y3:=z4 2 _ aS rfl;simp only at y1 y2 y3;have y4:=T.frz q 3 rs;simp only[go_sem,agM,g8,wZz i];refine fp (i+1,e,y,p,H4.frz q 3 rs) z1 ⟨hlt,?_⟩ (by simp only;omega) ?_ b_
  ·rw[B];have eB:(yM o o4 o6 v e y p (fD l i (gZ l n i (fB l n i s).2).2 n).2).map (λb=>(b.1,b.2.frz q 3 rs))=yM o o4 o6 v e y p (fD l i (gZ l n i (fB l n i s).2).2 n).2:=by simp only[biU,bjP,aY.frz,y1,y2,y3,y4];rfl
   have eL:([(e,3,kG (s.start++[mkT ((fB l n i s).1:Nat) 8])),(y,1,DH s.bgI++[[.osl q 3 0 n]]),(p,3,kG (s.exit++[(gZ l n i (fB l n i s).2).1]))]:List LI).map (λx=>(x.1,x.2.1,x.2.2.map λr=>r.map (PV.dV q 3 rs))) =
     DS ⟨s.start++[mkT ((fB l n i s).1:Nat) 8],s.exit++[(gZ l n i (fB l n i s).2).1],s.bgI++[(fD l i (gZ l n i (fB l n i s).2).2 n).1],s.left-(fB l n i s).1,(fD l i (gZ l n i (fB l n i s).2).2 n).2⟩ e y p:=by
    have e2:(DH s.bgI++[[PV.osl q 3 0 n]]).map (λr=>r.map (PV.dV q 3 rs))=DH (s.bgI++[(fD l i (gZ l n i (fB l n i s).2).2 n).1]):=by rw[biV,S3,biU,bjP,biU,bjP,z2,aPQ]
    show([(e,3,(kG (s.start++[mkT ((fB l n i s).1:Nat) 8])).map (λr=>r.map (PV.dV q 3 rs))),(y,1,(DH s.bgI++[[PV.osl q 3 0 n]]).map (λr=>r.map (PV.dV q 3 rs))),(p,3,(kG (s.exit++[(gZ l n i (fB l n i s).2).1])).map (λr=>r.map (PV.dV q 3 rs)))]:List LI)=_;rw[UP,e2,UP]
   rw[<-eB,<-eL];exact z5.sub (by rw[biV];exact List.sublist_append_left ..) (bkD.refl _)
  ·rw[B]
   (repeat' (first|exact c_|refine d_ ?_ ?_))<;>first|(simp only[go_sem,g0,g4,g5,g6,g7,g8]<;>rfl)|rfl
 ·have A:¬(i:Int)<(n:Nat):=Om;have:i=n:=Om;subst this;simp only[go_sem,A,agN];have b4:=E.at 1 rfl;have b6:=E.at 2 rfl;have osl:∀{w:PV}{z:Nat}{rows:P2_},Z' rows=i->cA H0 z w rows->∃q,w=.osl q z 0 i:=by
   intro w z rows hr hO;rcases hO with⟨J,_⟩|⟨q,rs,J,_⟩
   ·rw[J]at hr;simp at hr;omega
   ·exact⟨q,by rw[J,hr]⟩
  obtain⟨q1,rfl⟩:=osl (by rw[rP,k3]) (E.own 0 rfl);obtain⟨q2,rfl⟩:=osl (by rw[bhO,k5]) (E.own 1 rfl);obtain⟨q3,rfl⟩:=osl (by rw[rP,k4]) (E.own 2 rfl);have hR:=Z (kA l i b i) rfl;simp only[go_sem,b6,b4,biG,biO,or_false,forall_eq,forall_eq_or_imp];have x1:=E.set 1 rfl (wc (.osl q1 3 0 i) (.osl q2 1 0 i) (.osl q3 3 0 i));obtain⟨r1,s1,s2,s3,s4,s5⟩:=x1.frz 0 rfl;have u2:=s4 1 _ aS rfl;have u3:=s4 2 _ aS rfl;simp only at u2 u3;have u4:=T.frz q1 3 r1;obtain⟨r2,t1,t2,t3,t4,t5⟩:=s5.frz 0 rfl;have m3:=t4 1 _ aS rfl;simp only at m3;have m4:=T.frz q2 1 r2;obtain⟨r3,n1,n2,n3,n4,n5⟩:=t5.frz 0 rfl;have n4:=T.frz q3 3 r3;refine AA (vs:=[.agg [.str [],.osl q1 3 0 i,.osl q2 1 0 i,.osl q3 3 0 i]]) (.inr rfl) ?_ (.step s1 (.step t1 (.step n1 (.done (H2:=h_.set o (bB v (kA l i b i).a)) ?_ (e_ a_ ?_)))))
  ·simp only[go_sem]
  ·rw[X,hR];refine⟨?_,rfl⟩;simp only[bN,PV.frz,PV.tO,biU,bjP,s2,u2,u3,t2,m3,n2];simp only[PV.dV,UP _ _ _ _,S3 _ _ _ _]
  ·have:=n5.at 0 rfl;rw[this];simp only[aY.frz,biU,bjP,u4,m4,n4];rfl
structure sP(C:Ctx):Prop extends AN C where
 law:∀(l:List Nat)(v:PV),Tp l v->∀(o eS a:Nat),0<eS->eS<=50->a<=Z' l->aH C 2 [.ptr o 2 0 0,.int .i64 eS] (h_.set o (bB v a)) (aSC l v o eS a)
structure GOk(l:List Nat)(bgD:Nat)(s:GS):Prop where
 bgM:Z' s.bgM<=35
 bgW:Z' s.bgW<=bgD
 a:s.a<=Z' l
theorem vh{l:List Nat}{mc bgD dom:Nat}{s:GS}(h:GOk l bgD s):∀i,GOk l bgD (nT l mc bgD dom s i)/\(nT l mc bgD dom s i).bgM=s.bgM
 |0=>⟨h,rfl⟩
 |i+1=>by
  obtain⟨⟨d,u,e⟩,p⟩:=vh (mc:=mc) (dom:=dom) h i;simp only[nT];split
  ·exact⟨⟨d,by simp only[bhW,biC];omega,bP l mc e⟩,p⟩
  ·exact⟨⟨d,u,e⟩,p⟩
theorem auA{l:List Nat}{level dom bgD:Nat}{s:GS}(h:GOk l bgD s)(d:wS bgD s=false):GOk l bgD (sR l level dom s)/\∃x:cS,(sR l level dom s).bgM=s.bgM++[x]/\x.level=(level:Int)/\x.parent=(dom:Int):=by
 obtain⟨p,e,i⟩:=h;unfold wS at d;rw[Bool.or_eq_false_iff]at d;have u:=of_decide_eq_false d.2;refine⟨⟨?_,e,?_⟩,_,rfl,rfl,rfl⟩
 ·simp only[sR,bhW,biC];omega
 ·have a1:=bP l 3 (bP l 16 i);simp only[sR];split
  ·exact bP l 6 a1
  ·exact a1
theorem vi{l:List Nat}{level bgD dom:Nat}{rec:Nat->GS->GS}(e:∀d t,GOk l bgD t->GOk l bgD (rec d t)/\∃u,(rec d t).bgM=t.bgM++u){s:GS}(h:GOk l bgD s) :
  ∀i,GOk l bgD (kM l level bgD dom rec s i)/\∃u,(kM l level bgD dom rec s i).bgM=s.bgM++u
 |0=>⟨h,[],by simp[kM]⟩
 |i+1=>by
  obtain⟨p,u,w⟩:=vi e h i;simp only[kM];split
  ·exact⟨p,u,w⟩
  ·rename_i y;obtain⟨g1,x,g2,-⟩:=auA (level:=level) (dom:=dom) p (by simpa using y);obtain⟨k1,A,k2⟩:=e ((sR l level dom (kM l level bgD dom rec s i)).bgM.length-1) _ g1;exact⟨k1,u++[x]++A,by rw[k2,g2,w];simp⟩
theorem VA{l:List Nat}{mc bgD:Nat}:∀(k dom:Nat){s:GS},GOk l bgD s->GOk l bgD (gT l mc bgD k dom s)/\∃u,(gT l mc bgD k dom s).bgM=s.bgM++u
 |0,dom,s,h=>by have e:GOk l bgD { s with a:=(aF l 2 s.a).2 }:=⟨h.bgM,h.bgW,bP l 2 h.a⟩;obtain⟨i,p⟩:=vh (mc:=mc) (dom:=dom) e (1+(aF l 2 s.a).1);exact⟨i,[],by simp only[gT];rw[p];simp⟩
 |k+1,dom,s,h=>by have e:GOk l bgD { s with a:=(aF l 2 s.a).2 }:=⟨h.bgM,h.bgW,bP l 2 h.a⟩;exact vi (level:=4-k) (dom:=dom) (λd t w=>VA k d w) e (if 4-k=2 then 1 else 1+(aF l 2 s.a).1)
theorem aGS {l : List Nat} {level bgD dom : Nat} {rec : Nat -> GS -> GS} {s : GS} {i : Nat} (h : wS bgD (kM l level bgD dom rec s i) = true) : ∀ n, i <= n -> kM l level bgD dom rec s n = kM l level bgD dom rec s i := by
  intro n hn
  induction n with
  | zero => have : i = 0 := Om
            subst this; rfl
  | succ n ih =>
    rcases biR n i with h' | h'
    · have : i = n + 1 := Om
      subst this; rfl
    · have e := ih h'
      simp only [kM];rw [e, aG h]
def mkS(l:List Nat)(v:PV):Spec:=λname vs=>match name,vs with
 |29,[.str s,.int _ i]=>some ([],λ_=>aI (.str (s++cP i.toNat)))
 |47,[.int _ n]=>some ([],λ_=>aI (.agg (mkT n 1).cells))
 |4,[.ptr o _ _ _,.int _ n]=>some ([o],λd r H'=>∀a,d o=some (bB v a)->z8 l v o n.toNat a r H')
 |_,_=>none
section
variable {C:Ctx} {F:PF} {H Hs:PH} {l:List Nat} {v:PV} {o a:Nat}
theorem yU(u:AM C)(T:Tp l v){n:Nat}{st:Bool}{args:List aP}{d:Option Nat}{K:PF->PH->Prop}(B:n<=1000000)(w:a<=Z' l)(e:aP.evs F args=some [.ptr o 2 0 0,.int .i64 n])(E:H o=some (bB v a))
  (i:Hs.le (H.set o (bB v (aF l n a).2))) (A:K (F.put d (.int .i64 ((aF l n a).1:Nat))) (H.set o (bB v (aF l n a).2))):dOp C Hs (mkS l v) st (.call 4 args) d K F H:=by
 refine UF (x:=bB v a) (y:=bB v (aF l n a).2) (r:=.int .i64 ((aF l n a).1:Nat)) (R:=λp r H'=>∀a,p o=some (bB v a)->z8 l v o n a r H') rfl E (u.next l v T o n a B w) ?_ ?_ e i A
 ·intro b hb;rw[cZ]at hb;injection hb with hb
  injection hb with _ hb
  injection hb with hb _
  injection hb with _ hb
  injection hb with hb _
  injection hb with _ hb
  have:a=b:=Om;subst this;exact⟨rfl,rfl⟩
 ·intro r' H' J;exact J a (by rw[cZ])
theorem UE(p:AN C){s:List UInt8}{n:Nat}{st:Bool}{args:List aP}{d:Option Nat}{K:PF->PH->Prop}(x:Z' s<=100)(w:n<100)(e:aP.evs F args=some [.str s,.int .i64 n])(i:Hs.le H)(u:K (F.put d (.str (s++cP n))) H) :
  dOp C Hs (mkS l v) st (.call 29 args) d K F H:=
 bX (v:=.str (s++cP n)) rfl (p.name s n x w) e i u
theorem a0Y(p:AM C){n:Int}{st:Bool}{args:List aP}{d:Option Nat}{K:PF->PH->Prop}(w:dL n)(e:aP.evs F args=some [.int .i64 n])(i:Hs.le H)(u:K (F.put d (.agg (mkT n 1).cells)) H) :
  dOp C Hs (mkS l v) st (.call 47 args) d K F H:=
 bX (v:=.agg (mkT n 1).cells) rfl (p.int n w) e i u
end
theorem cA.uP{H:PH}{s:Nat}{v:PV}{rows:P2_}(h:cA H s v rows):PV.uP v=some (.int .i64 (Z' rows:Nat)):=by
 rcases h with⟨rfl,rfl⟩|⟨q,rs,rfl,_⟩<;>rfl
abbrev oS(l:List cS):P2_:=l.map cS.cells
abbrev rM(l:List eJ):P2_:=l.map eJ.cells
abbrev flB(ext wl e d i wp wv:PV):aY:=.rows 7 [[ext,wl,e,d,i,wp,wv]]
structure GE where
 o:Nat
 fo:Nat
 qm:Nat
 ext:PV
 wl:PV
 wp:PV
 wv:PV
abbrev GE.boxes(G:GE)(v:PV)(mc:Nat)(d e:PV)(a:Nat):List BX:=[(G.o,bB v a),(G.fo,flB G.ext G.wl (.osl G.qm 4 0 mc) d e G.wp G.wv)]
abbrev qZ(s:GS)(d e:PV):List LI:=[(d,7,oS s.bgM),(e,3,rM s.bgW)]
def hL(G:GE)(dom bgD level n i:Nat):PF:=(((((((n_.set 0 (.ptr G.o 2 0 0)).set 1 (.ptr G.fo 7 0 0)).set 2 (.int .i64 dom)).set 3 (.int .i64 bgD)).set 8 (.int .i64 level)).set 9 (.int .i64 n)).set 10 (.int .i64 i))
theorem cA.one{H:PH}{s:Nat}{v:PV}{rows:P2_}(h:cA H s v rows)(d:0<Z' rows):∃q,v=.osl q s 0 rows.length:=by
 rcases h with⟨rfl,_⟩|⟨q,rs,rfl,_⟩
 ·simp at d
 ·exact⟨q,rfl⟩
theorem afV(R:sP C){l:List Nat}{v:PV}(T:Tp l v)(G:GE)(mc bgD dom n:Nat)(γ:0<mc)(X:mc<=1000)(β:bgD<=60)(hn:n<=10)(s:GS)(hs:GOk l bgD s)(u x:PV)(K:cF)(F:PF)(H:PH)
  (hF:(hL G dom bgD 5 n 0).le F) (w:aR H (G.boxes v mc u x s.a) (qZ s u x))
  (hK:∀J A Y H',aR H' (G.boxes v mc J A (nT l mc bgD dom s n).a) (qZ (nT l mc bgD dom s n) J A)->K (.exit 0) Y H') :
  aC.wp C (.loop EX) K F H:=by
 refine wp_loop (α:=Nat × PV × PV × PH) (λt=>hL G dom bgD 5 n t.1) (λt=>t.2.2.2) (λt=>t.1<=n/\aR t.2.2.2 (G.boxes v mc t.2.1 t.2.2.1 (nT l mc bgD dom s t.1).a) (qZ (nT l mc bgD dom s t.1) t.2.1 t.2.2.1)) (λt=>n-t.1) (0,u,x,H) ⟨bhT _,w⟩ hF b_ ?_;rintro⟨i,u,x,Q⟩ ⟨hi,w⟩;simp only at hi w ⊢;obtain⟨N,-⟩:=vh (mc:=mc) (dom:=dom) hs i;have d:nT l mc bgD dom s (i+1)=(if(nT l mc bgD dom s i).bgW.length<bgD then{ nT l mc bgD dom s i with bgW:=(nT l mc bgD dom s i).bgW++[⟨[100]++cP (nT l mc bgD dom s i).bgW.length,((aF l mc (nT l mc bgD dom s i).a).1:Nat),(dom:Nat)⟩],a:=(aF l mc (nT l mc bgD dom s i).a).2 }else nT l mc bgD dom s i):=rfl;simp only[go_sem,EX,wj,hL];by_cases hlt:i<n
 ·have p:(i:Int)<(n:Nat):=Om;generalize hg:nT l mc bgD dom s i=g at *
  have b1:=w.at 1 rfl;have O:=(w.own 1 rfl).uP;rw[bhO]at O;have S:=wZz i;simp only[go_sem,p,wk,show(((5:Nat):Int)==5)=true from rfl,agB,b1,O];by_cases W:Z' g.bgW<bgD
  ·have y:(Z' g.bgW:Int)<(bgD:Nat):=Om;rw[aG W]at d;simp only[go_sem,y];have E:(h_.set G.fo (flB G.ext G.wl (.osl G.qm 4 0 mc) u x G.wp G.wv)).le Q:=e_ a_ b1;refine bV (h_.set G.fo (flB G.ext G.wl (.osl G.qm 4 0 mc) u x G.wp G.wv)) (mkS l v) E ?_;simp only[go_sem,agC,b1,O];refine UE R.toAN (s:=[100]) (n:=Z' g.bgW) aS (by have:=N.bgW;omega) rfl E ?_;simp only[go_sem];have ho:=w.at 0 rfl;have U:=w.set 0 rfl (bB v (aF l mc g.a).2);have M:=U.at 1 rfl;refine yU R.toAM T (o:=G.o) (n:=mc) (a:=g.a) Om N.a rfl ho (e_ a_ M) ?_;have B:(1:Nat)*3<=16777216:=by decide
   simp only[go_sem,B,biG,biO,or_false,forall_eq,forall_eq_or_imp];refine U.append 1 (src:=[(⟨[100]++cP g.bgW.length,((aF l mc g.a).1:Nat),(dom:Nat)⟩:eJ).cells]) rfl rfl (by unfold roomFor;rw[bhO];have:=N.bgW;simp only[biC,maxLen];omega) λA H2 V hw=>?_;obtain⟨q,rfl⟩:=hw bH;have b2:=V.at 1 rfl;refine⟨e_ a_ b2,?_⟩;refine bV .nil eW a_ ?_;simp only[go_sem,agD,b2,biG,biO,or_false,forall_eq];have Z:=V.set 1 rfl (flB G.ext G.wl (.osl G.qm 4 0 mc) u (.osl q 3 0 (rM g.bgW++[(⟨[100]++cP g.bgW.length,((aF l mc g.a).1:Nat),(dom:Nat)⟩:eJ).cells]).length) G.wp G.wv);refine⟨a_,?_⟩;simp only[go_sem,EY,S];refine aJ (i+1,u,.osl q 3 0 (rM g.bgW++[(⟨[100]++cP g.bgW.length,((aF l mc g.a).1:Nat),(dom:Nat)⟩:eJ).cells]).length,_) ⟨hlt,?_⟩ (by simp only;omega) ?_ b_
   ·rw[d];have e:rM (g.bgW++[(⟨[100]++cP g.bgW.length,((aF l mc g.a).1:Nat),(dom:Nat)⟩:eJ)])=rM g.bgW++[(⟨[100]++cP g.bgW.length,((aF l mc g.a).1:Nat),(dom:Nat)⟩:eJ).cells]:=by simp[rM]
    unfold qZ;simp only;rw[e];exact Z
   ·exact Lq
  ·have y:¬(Z' g.bgW:Int)<(bgD:Nat):=Om;rw[aE W]at d;simp only[go_sem,y,EY,S];refine aJ (i+1,u,x,Q) ⟨hlt,by rw[d];exact w⟩ (by simp only;omega) ?_ b_;exact Lq
 ·have p:¬(i:Int)<(n:Nat):=Om;have:i=n:=Om;subst this;simp only[go_sem,p];exact hK u x _ _ w
def aEL(G:GE)(v:PV)(mc:Nat)(s':GS)(r:PV)(B':List BX)(L':List LI):Prop:=r=.tup []/\∃d e,B'=G.boxes v mc d e s'.a/\L'=qZ s' d e
def zy(C:Ctx)(l:List Nat)(v:PV)(mc bgD k:Nat):Prop:=
 ∀(G:GE)(e i:PV)(s:GS)(dom:Nat)(x:cS),GOk l bgD s->s.bgM[dom]?=some x->x.level=4-(k:Int)->∀d,aR d (G.boxes v mc e i s.a) (qZ s e i) ->
  aH C 7 [.ptr G.o 2 0 0,.ptr G.fo 7 0 0,.int .i64 dom,.int .i64 bgD] d (λr H'=>∃B' L',aEL G v mc (gT l mc bgD k dom s) r B' L'/\aR H' B' L')
theorem aNI{lv:Nat}(h:lv<=4):([45,115,114,107,109]:List UInt8)[lv]?=some (qK lv):=by
 match lv,h with
 |0,_=>rfl
 |1,_=>rfl
 |2,_=>rfl
 |3,_=>rfl
 |4,_=>rfl
theorem qj{l:List Nat}{v:PV}(G:GE)(mc bgD dom lv n i k p:Nat)(γ:lv=4-k)(hk:k<4)(y:zy C l v mc bgD k)(g:GS)(x:cS)(a:Nat)(V:GOk l bgD { g with bgM:=g.bgM++[x],a:=a })(hx:x.level=(lv:Nat))(W w:PV)(β:bgD<=60)(K:cF)(F:PF)(H:PH)
  (d:(hL G dom bgD lv n i).le F) (f11:F 11=some (.ptr p 7 0 0)) (J:aR H (G.boxes v mc W w a++[(p,.rows 7 [x.cells])]) (qZ g W w))
  (hK:∀u A S H',(hL G dom bgD lv n i).le S->aR H' (G.boxes v mc u A (gT l mc bgD k g.bgM.length { g with bgM:=g.bgM++[x],a:=a }).a) (qZ (gT l mc bgD k g.bgM.length { g with bgM:=g.bgM++[x],a:=a }) u A)->K .normal S H') :
  aC.wp C (.draw gb) (kB C (aC.wp C (.region gd)) K) F H:=by
 have f0:F 0=some (.ptr G.o 2 0 0):=d 0 _ (by unfold hL;simp only[go_sem]);have f1:F 1=some (.ptr G.fo 7 0 0):=d 1 _ (by unfold hL;simp only[go_sem]);have f2:F 2=some (.int .i64 dom):=d 2 _ (by unfold hL;simp only[go_sem]);have f3:F 3=some (.int .i64 bgD):=d 3 _ (by unfold hL;simp only[go_sem]);have f8:F 8=some (.int .i64 lv):=d 8 _ (by unfold hL;simp only[go_sem]);have f9:F 9=some (.int .i64 n):=d 9 _ (by unfold hL;simp only[go_sem]);have α:F 10=some (.int .i64 i):=d 10 _ (by unfold hL;simp only[go_sem]);have O:=V.bgM;simp only[bhW,biC]at O;have b1:=J.at 1 rfl;have b2:=J.at 2 rfl;have B:(1:Nat)*7<=16777216:=by decide
 refine bV .nil eW a_ ?_;simp only[go_sem,gb,f1,f11,b1,b2,B,biG,biO,or_false,forall_eq,forall_eq_or_imp];refine J.append 0 (src:=[x.cells]) rfl rfl (by unfold roomFor;rw[bhO];simp only[biC,maxLen];omega) λu H2 E hw=>?_;obtain⟨q,rfl⟩:=hw bH;have hl:(oS g.bgM++[x.cells]).length=Z' g.bgM+1:=by simp
 rw[hl]at E ⊢;have Y:=E.at 1 rfl;refine⟨a_,?_⟩;simp only[go_sem,Y,biG,biO,or_false,forall_eq];have U:=E.set 1 rfl (flB G.ext G.wl (.osl G.qm 4 0 mc) (.osl q 7 0 (Z' g.bgM+1)) w G.wp G.wv);have c2:=U.at 1 rfl;refine⟨a_,?_⟩;have e:oS (g.bgM++[x])=oS g.bgM++[x.cells]:=by simp[oS]
 have Z:i_.wrap (((Z' g.bgM+1:Nat):Int)-1)=(Z' g.bgM:Int):=by rw[wrap_i64 Om Om];omega
 simp only[go_sem,gd,f0,f1,f3,Z];have h4:aR (H2.set G.fo (flB G.ext G.wl (.osl G.qm 4 0 mc) (.osl q 7 0 (Z' g.bgM+1)) w G.wp G.wv)) (G.boxes v mc (.osl q 7 0 (Z' g.bgM+1)) w a++[(p,.rows 7 [x.cells])]) (qZ { g with bgM:=g.bgM++[x],a:=a } (.osl q 7 0 (Z' g.bgM+1)) w++[]):=by unfold qZ;simp only;rw[e];exact U
 refine RD h4 (λX N=>y G _ w { g with bgM:=g.bgM++[x],a:=a } g.bgM.length x V bH (by rw[hx];omega) X N) rfl ?_;rintro r B' L' H' ⟨rfl,Q,R,rfl,rfl⟩ M;refine hK Q R _ _ ?_ (M.sub (List.sublist_append_left ..) (by rw[bjI];exact bkD.refl _));unfold hL;exact Lq
theorem bg(V:sP C){l:List Nat}{v:PV}(T:Tp l v)(G:GE)(mc bgD dom n k:Nat)(hk:k<4)(X:bgD<=60)(hn:n<=10)(R:zy C l v mc bgD k)(s:GS)(hs:GOk l bgD s)(ζ:0<Z' s.bgM)(O Q:PV)(K:cF)(F:PF)(H:PH)
  (hF:(hL G dom bgD (4-k) n 0).le F) (E:aR H (G.boxes v mc O Q s.a) (qZ s O Q))
  (hK:∀e A B y H',(e=.exit 0\/e=.ret)->aR H' (G.boxes v mc A B (kM l (4-k) bgD dom (gT l mc bgD k) s n).a) (qZ (kM l (4-k) bgD dom (gT l mc bgD k) s n) A B)->K e y H') :
  aC.wp C (.loop EX) K F H:=by
 obtain⟨lv,U⟩:∃lv,lv=4-k:=⟨_,rfl⟩;rw[<-U]at hF hK;refine wp_loop (α:=Nat × PV × PV × PH) (λt=>hL G dom bgD lv n t.1) (λt=>t.2.2.2) (λt=>t.1<=n/\aR t.2.2.2 (G.boxes v mc t.2.1 t.2.2.1 (kM l lv bgD dom (gT l mc bgD k) s t.1).a) (qZ (kM l lv bgD dom (gT l mc bgD k) s t.1) t.2.1 t.2.2.1)) (λt=>n-t.1) (0,O,Q,H) ⟨bhT _,E⟩ hF b_ ?_;rintro⟨i,O,Q,H0⟩ ⟨hi,E⟩;simp only at hi E ⊢;obtain⟨Z,u,gu⟩:=vi (level:=lv) (dom:=dom) (λd t ht=>VA (mc:=mc) k d ht) hs i;have M:=λh=>aGS (l:=l) (level:=lv) (bgD:=bgD) (dom:=dom) (rec:=gT l mc bgD k) (s:=s) (i:=i) h n hi;have x:kM l lv bgD dom (gT l mc bgD k) s (i+1)=(if wS bgD (kM l lv bgD dom (gT l mc bgD k) s i)then kM l lv bgD dom (gT l mc bgD k) s i else gT l mc bgD k ((sR l lv dom (kM l lv bgD dom (gT l mc bgD k) s i)).bgM.length-1) (sR l lv dom (kM l lv bgD dom (gT l mc bgD k) s i))):=rfl;simp only[go_sem,EX,wj,hL];by_cases hlt:i<n
 ·have N:(i:Int)<(n:Nat):=Om;generalize hg:kM l lv bgD dom (gT l mc bgD k) s i=g at *
  have ε:0<Z' g.bgM:=by rw[gu,bhW];omega
  have b1:=E.at 1 rfl;have lr:=(E.own 1 rfl).uP;have ld:=(E.own 0 rfl).uP;rw[bhO]at lr ld;have ei:=wZz i;simp only[go_sem,N,wk,bL (Om:((lv:Nat):Int)≠5),Rp,b1,lr];by_cases c1:bgD<=Z' g.bgW
  ·have W:wS bgD g=true:=by unfold wS;simp[c1]
   simp only[go_sem,show(Z' g.bgW:Int)>=(bgD:Nat) by omega];exact hK _ O Q _ _ (.inr rfl) (by rw[M W];exact E)
  simp only[go_sem,show ¬(Z' g.bgW:Int)>=(bgD:Nat) by omega,b1,ld];by_cases c2:35<=Z' g.bgM
  ·have W:wS bgD g=true:=by unfold wS;simp[c2]
   simp only[go_sem,show(Z' g.bgM:Int)>=35 by omega];exact hK _ O Q _ _ (.inr rfl) (by rw[M W];exact E)
  have W:wS bgD g=false:=by unfold wS;simp[c1,c2]
  rw[aE (by rw[W];decide)]at x;simp only[go_sem,show ¬(Z' g.bgM:Int)>=35 by omega];have ls:=aNI (Om:lv<=4);refine bV .nil (mkS l v) a_ ?_;have γ:jU [[PV.int IntKind.u8 (((qK lv).toNat:Nat):Int)]]=some [qK lv]:=by simp[jU]
  obtain⟨Y,x0,β,-⟩:=auA (level:=lv) (dom:=dom) Z W;have δ:(sR l lv dom g).bgM.length-1=Z' g.bgM:=by rw[β];simp
  rw[δ]at x;have h1:=E.set 0 rfl (bB v (aF l 16 g.a).2);have a1:=bP l 16 Z.a;have n1:=cG l (show 0<16 by decide) g.a;have e1:i_.wrap (1+((aF l 16 g.a).1:Int))=((1+(aF l 16 g.a).1:Nat):Int):=by rw[wrap_i64 Om Om];omega
  simp only[go_sem,Rq,ls,γ,b1,ld];refine UE V.toAN (s:=[qK lv]) (n:=Z' g.bgM) bH (by have:=Z.bgM;omega) rfl a_ ?_;simp only[go_sem];refine yU V.toAM T (o:=G.o) (n:=16) (a:=g.a) Om Z.a rfl (E.at 0 rfl) a_ ?_;simp only[go_sem,e1];refine a0Y V.toAM (n:=0) (by unfold dL;omega) rfl a_ ?_;simp only[go_sem,biG,biO,or_false,forall_eq,forall_eq_or_imp];refine aQ λp hp=>?_;have h2:=h1.new hp (.rows 7 [(⟨[qK lv]++cP g.bgM.length,(lv:Nat),(dom:Nat),(1+(aF l 16 g.a).1:Nat),nY⟩:cS).cells]);simp only[go_sem,biG,biO,or_false,forall_eq,forall_eq_or_imp];refine⟨a_,?_⟩;simp only[go_sem,Rr];refine dR V.toAM T (o:=G.o) (n:=3) (a:=(aF l 16 g.a).2) aS a1 rfl (h2.at 0 rfl) ?_;have h3:=h2.set 0 rfl (bB v (aF l 3 (aF l 16 g.a).2).2);have a2:=bP l 3 a1;by_cases c3:(aF l 3 (aF l 16 g.a).2).1=0
  ·have hd:sR l lv dom g={ g with bgM:=g.bgM++[⟨[qK lv]++cP g.bgM.length,(lv:Nat),(dom:Nat),(1+(aF l 16 g.a).1:Nat),mkT 1 ((2+(aF l 6 (aF l 3 (aF l 16 g.a).2).2).1:Nat):Int)⟩],a:=(aF l 6 (aF l 3 (aF l 16 g.a).2).2).2 }:=by unfold sR;simp only[c3,if_true]
   rw[hd]at x Y;have n2:=cG l (show 0<6 by decide) (aF l 3 (aF l 16 g.a).2).2;have e2:i_.wrap (2+((aF l 6 (aF l 3 (aF l 16 g.a).2).2).1:Int))=((2+(aF l 6 (aF l 3 (aF l 16 g.a).2).2).1:Nat):Int):=by rw[wrap_i64 Om Om];omega
   simp only[go_sem,bY (show(((aF l 3 (aF l 16 g.a).2).1:Nat):Int)=0 by omega),Rs];refine dR V.toAM T (o:=G.o) (n:=6) (a:=(aF l 3 (aF l 16 g.a).2).2) aS a2 rfl (h3.at 0 rfl) ?_;have h4:=h3.set 0 rfl (bB v (aF l 6 (aF l 3 (aF l 16 g.a).2).2).2);rw[PH.set_set]at h4;simp only[go_sem,e2];refine aB (V.fmk 1 ((2+(aF l 6 (aF l 3 (aF l 16 g.a).2).2).1:Nat):Int) (by unfold dL;omega) (by unfold dL;omega)) rfl ?_;unfold yH;rw[aE Om];simp only[go_sem,show ¬p=G.o from h4.ne 2 0 rfl rfl aS];have h5:=h4.set 2 rfl (.rows 7 [(⟨[qK lv]++cP g.bgM.length,(lv:Nat),(dom:Nat),(1+(aF l 16 g.a).1:Nat),mkT 1 ((2+(aF l 6 (aF l 3 (aF l 16 g.a).2).2).1:Nat):Int)⟩:cS).cells])
   try simp only[Nd]
   refine qj G mc bgD dom lv n i k p U hk R g _ _ Y rfl O Q X _ _ _ (by unfold hL;exact Lq) rfl h5 ?_;intro A B y H' w J;rw[<-x]at J;have S:y 10=some (.int .i64 i):=w 10 _ (by unfold hL;simp only[go_sem]);have g0:y 0=some (.ptr G.o 2 0 0):=w 0 _ (by unfold hL;simp only[go_sem]);have g1:y 1=some (.ptr G.fo 7 0 0):=w 1 _ (by unfold hL;simp only[go_sem]);have g2:y 2=some (.int .i64 dom):=w 2 _ (by unfold hL;simp only[go_sem]);have g3:y 3=some (.int .i64 bgD):=w 3 _ (by unfold hL;simp only[go_sem]);have g8:y 8=some (.int .i64 lv):=w 8 _ (by unfold hL;simp only[go_sem]);have g9:y 9=some (.int .i64 n):=w 9 _ (by unfold hL;simp only[go_sem]);simp only[go_sem,EY,S,ei];refine aJ (i+1,A,B,H') ⟨hlt,J⟩ (by simp only;omega) ?_ b_;exact Lq
  ·have hd:sR l lv dom g={ g with bgM:=g.bgM++[⟨[qK lv]++cP g.bgM.length,(lv:Nat),(dom:Nat),(1+(aF l 16 g.a).1:Nat),nY⟩],a:=(aF l 3 (aF l 16 g.a).2).2 }:=by unfold sR;simp only[c3,if_false]
   rw[hd]at x Y;simp only[go_sem,bL (show ¬(((aF l 3 (aF l 16 g.a).2).1:Nat):Int)=0 by omega)]
   try simp only[Nd]
   refine qj G mc bgD dom lv n i k p U hk R g _ _ Y rfl O Q X _ _ _ (by unfold hL;exact Lq) rfl h3 ?_;intro A B y H' w J;rw[<-x]at J;have S:y 10=some (.int .i64 i):=w 10 _ (by unfold hL;simp only[go_sem]);have g0:y 0=some (.ptr G.o 2 0 0):=w 0 _ (by unfold hL;simp only[go_sem]);have g1:y 1=some (.ptr G.fo 7 0 0):=w 1 _ (by unfold hL;simp only[go_sem]);have g2:y 2=some (.int .i64 dom):=w 2 _ (by unfold hL;simp only[go_sem]);have g3:y 3=some (.int .i64 bgD):=w 3 _ (by unfold hL;simp only[go_sem]);have g8:y 8=some (.int .i64 lv):=w 8 _ (by unfold hL;simp only[go_sem]);have g9:y 9=some (.int .i64 n):=w 9 _ (by unfold hL;simp only[go_sem]);simp only[go_sem,EY,S,ei];refine aJ (i+1,A,B,H') ⟨hlt,J⟩ (by simp only;omega) ?_ b_;exact Lq
 ·have N:¬(i:Int)<(n:Nat):=Om;have:i=n:=Om;subst this;simp only[go_sem,N];exact hK _ O Q _ _ (.inl rfl) E
theorem afW(N:sP C){l:List Nat}{v:PV}(T:Tp l v)(mc bgD k:Nat)(S:0<mc)(H:mc<=1000)(A:bgD<=60)(hk:k<=4)(K:∀Y,k=Y+1->zy C l v mc bgD Y)(G:GE)(V M:PV)(s:GS)(dom:Nat)(x:cS)
  (O:GOk l bgD s) (X:s.bgM[dom]?=some x) (hl:x.level=4-(k:Int)) (Q:PH) (E:aR Q (G.boxes v mc V M s.a) (qZ s V M)) :
  GX.wp C (aZ W4.res (λr H'=>∃B' L',aEL G v mc (gT l mc bgD k dom s) r B' L'/\aR H' B' L')) (g_ [.ptr G.o 2 0 0,.ptr G.fo 7 0 0,.int .i64 dom,.int .i64 bgD]) Q:=by
 have y:dom<Z' s.bgM:=(biZ.1 X).1;have b1:=E.at 1 rfl;have fin:∀(e:oH)(d i:PV)(u:PF)(H':PH),(e=.exit 0\/e=.ret)->aR H' (G.boxes v mc d i (gT l mc bgD k dom s).a) (qZ (gT l mc bgD k dom s) d i) ->
   fS 0 (aZ W4.res (λr H'=>∃B' L',aEL G v mc (gT l mc bgD k dom s) r B' L'/\aR H' B' L')) e u H':=by
  intro e d i u H' F p;rcases F with rfl|rfl
  ·rw[NU,aG rfl];exact bE (vs:=[]) (.inl rfl) H' rfl b_ ⟨_,_,⟨rfl,d,i,rfl,rfl⟩,p⟩
  ·exact bE (vs:=[]) (.inr rfl) H' rfl b_ ⟨_,_,⟨rfl,d,i,rfl,rfl⟩,p⟩
 obtain⟨q,rs,e1,e2,e3,e4⟩:∃q rs,V=.osl q 7 0 s.bgM.length/\Q q=some (.rows 7 rs)/\Z' s.bgM<=Z' rs/\rs.take s.bgM.length=oS s.bgM:=by
  rcases E.own 0 rfl with⟨w,_⟩|⟨q,rs,w,h2,h3,h4⟩
  ·have:=congrArg List.length w;rw[bhO]at this;simp at this;rw[this]at y;simp at y
  ·rw[bhO]at w h3 h4;exact⟨q,rs,w,h2,h3,h4⟩
 have U:rs[dom]?=some x.cells:=by
  have:(oS s.bgM)[dom]?=some x.cells:=by simp[oS,X]
  rw[<-e4,List.getElem?_take_of_lt y]at this;exact this
 subst e1;have Z:(dom:Int)<(Z' s.bgM:Nat):=Om;have ew:i_.wrap (x.level+1)=((5-k:Nat):Int):=by rw[hl,wrap_i64 Om Om];omega
 have β:=cG l (show 0<2 by decide) s.a;have en:i_.wrap (1+((aF l 2 s.a).1:Int))=((1+(aF l 2 s.a).1:Nat):Int):=by rw[wrap_i64 Om Om];omega
 have w:=E.set 0 rfl (bB v (aF l 2 s.a).2);have B:GOk l bgD { s with a:=(aF l 2 s.a).2 }:=⟨O.bgM,O.bgW,bP l 2 O.a⟩;have α:¬q=G.o:=λh=>E.neL 0 0 rfl rfl rfl h.symm;simp only[go_sem,GX,afX,b1,Z,e2,U,ew,afY];refine dR N.toAM T (o:=G.o) (n:=2) (a:=s.a) aS O.a (by simp only[go_sem];rfl) (E.at 0 rfl) ?_;simp only[go_sem,en,afZ];cases k with
 |zero=>
  simp only[go_sem,bL (Om:¬((5-0:Nat):Int)=2),WI];refine afV (C:=C) N T G mc bgD dom (1+(aF l 2 s.a).1) S H A Om { s with a:=(aF l 2 s.a).2 } B _ M _ _ _ ?_ w ?_
  ·unfold hL;exact Lq
  ·intro d i u H' p;exact fin _ d i u H' (.inl rfl) p
 |succ k=>
  have J:=K k rfl;by_cases W:4-k=2
  ·have R:gT l mc bgD (k+1) dom s=kM l (4-k) bgD dom (gT l mc bgD k) { s with a:=(aF l 2 s.a).2 } 1:=by simp only[gT,aG W]
   simp only[go_sem,bY (show((5-(k+1):Nat):Int)=2 by omega),agA,WI];refine bg (C:=C) N T G mc bgD dom 1 k Om A aS J { s with a:=(aF l 2 s.a).2 } B (by simp only;omega) _ M _ _ _ ?_ w ?_
   ·unfold hL
    (repeat' (first|exact c_|refine d_ ?_ ?_))<;>first|(simp only[go_sem,show 4-k=5-(k+1) by omega]<;>rfl)|rfl
   ·intro e d i u H' F p;rw[<-R]at p;exact fin e d i u H' F p
  ·have R:gT l mc bgD (k+1) dom s=kM l (4-k) bgD dom (gT l mc bgD k) { s with a:=(aF l 2 s.a).2 } (1+(aF l 2 s.a).1):=by simp only[gT,aE W]
   simp only[go_sem,bL (show ¬((5-(k+1):Nat):Int)=2 by omega),WI];refine bg (C:=C) N T G mc bgD dom (1+(aF l 2 s.a).1) k Om A Om J { s with a:=(aF l 2 s.a).2 } B (by simp only;omega) _ M _ _ _ ?_ w ?_
   ·unfold hL
    (repeat' (first|exact c_|refine d_ ?_ ?_))<;>first|(simp only[go_sem,show 4-k=5-(k+1) by omega]<;>rfl)|rfl
   ·intro e d i u H' F p;rw[<-R]at p;exact fin e d i u H' F p
theorem acZ(w:sP C){l:List Nat}{v:PV}(T:Tp l v)(mc bgD:Nat)(p:0<mc)(d:mc<=1000)(i:bgD<=60)
  (y:∀(args:List PV)(H:PH)(R:PV->PH->Prop),Z' args=4->GX.wp C (aZ W4.res R) (g_ args) H->aH C 7 args H R):∀k,k<=4->zy C l v mc bgD k
 |0,h=>λG J K s dom x E F B u A=>y _ _ _ rfl (afW w T mc bgD 0 p d i h (λ_ e=>by omega) G J K s dom x E F B u A)
 |k+1,h=>λG J K s dom x E F B u A=>y _ _ _ rfl (afW w T mc bgD (k+1) p d i h (λM e=>by have:M=k:=Om;subst this;exact acZ w T mc bgD p d i y M Om) G J K s dom x E F B u A)
theorem a2L(l:List Nat)(eS:Nat){a:Nat}(h:a<=Z' l):(xN l eS a).2<=Z' l:=(Ld l (1+(aF l eS a).1) (bP l eS h) (1+(aF l eS a).1)).1
theorem VN(l:List Nat){a:Nat}(h:a<=Z' l):∀k,(kV l a k).2<=Z' l/\(kV l a k).1.length=k
 |0=>⟨h,rfl⟩
 |k+1=>by obtain⟨d,e⟩:=VN l h k;exact⟨a2L l 2 d,by simp only[kV,bhW,biC,e]⟩
theorem GZ(l:List Nat)(bgK:Nat){a:Nat}(h:a<=Z' l):∀k,(fT l bgK a k).2<=Z' l/\(fT l bgK a k).1.length=k
 |0=>⟨h,rfl⟩
 |k+1=>by obtain⟨d,e⟩:=GZ l bgK h k;exact⟨bP l bgK (bP l 8 (bP l 4 d)),by simp only[fT,bhW,biC,e]⟩
structure FE where
 o:Nat
 o6:Nat
 o7:Nat
 bgD:Nat
 bgF:Nat
abbrev flZ:aY:=flB (.int .i64 0) .aK .aK .aK .aK .aK .aK
abbrev FE.boxes(E:FE)(v ext d e i l p u:PV)(a:Nat):List BX:=[(E.o,bB v a),(E.o7,flB ext d e i l p u),(E.o6,flZ)]
def jX(E:FE):PF:=(((((n_.set 0 (.ptr E.o 2 0 0)).set 1 (.int .i64 E.bgD)).set 2 (.int .i64 E.bgF)).set 6 (.ptr E.o6 7 0 0)).set 7 (.ptr E.o7 7 0 0))
abbrev lT(l:List cW):P2_:=l.map cW.cells
abbrev nZ(l:List dS):P2_:=l.map dS.cells
theorem ml{E:FE}{F:PF}(d:F 0=some (.ptr E.o 2 0 0))(e:F 1=some (.int .i64 E.bgD))(i:F 2=some (.int .i64 E.bgF))(l:F 6=some (.ptr E.o6 7 0 0))(h7:F 7=some (.ptr E.o7 7 0 0)):(jX E).le F:=
 d_ (d_ (d_ (d_ (d_ c_ d) e) i) l) h7
theorem aVK(O:sP C){l:List Nat}{v:PV}(T:Tp l v)(E:FE)(n a:Nat)(hn:n<=10)(W:a<=Z' l)(ext:PV)(K:cF)(F:PF)(H:PH)
  (U:(((jX E).set 8 (.int .i64 n)).set 9 (.int .i64 0)).le F) (x:aR H (E.boxes v ext .aK .aK .aK .aK .aK .aK a) [])
  (V:∀J N H',(jX E).le N->aR H' (E.boxes v ext J .aK .aK .aK .aK .aK (kV l a n).2) [(J,4,lT (kV l a n).1)]->K (.exit 0) N H') :
  aC.wp C (.loop ga) K F H:=by
 refine wp_loop (α:=Nat × PV × PH) (λt=>((jX E).set 8 (.int .i64 n)).set 9 (.int .i64 t.1)) (λt=>t.2.2) (λt=>t.1<=n/\aR t.2.2 (E.boxes v ext t.2.1 .aK .aK .aK .aK .aK (kV l a t.1).2) [(t.2.1,4,lT (kV l a t.1).1)]) (λt=>n-t.1) (0,.aK,H) ⟨bhT _,x.qU 4⟩ U b_ ?_;rintro⟨i,J,Y⟩ ⟨hi,x⟩;simp only at hi x ⊢;obtain⟨k1,k2⟩:=VN l W i;have w:kV l a (i+1)=((kV l a i).1++[{ (xN l 2 (kV l a i).2).1 with name:=[108,97,119]++cP i }],(xN l 2 (kV l a i).2).2):=rfl;simp only[go_sem,ga,Rj,jX];by_cases hlt:i<n
 ·have d:(i:Int)<(n:Nat):=Om;generalize Z:kV l a i=g at *
  simp only[go_sem,d,Rk];refine qI (O.law l v T E.o 2 g.2 aS aS k1) (x.at 0 rfl) rfl ?_;have R:=x.set 0 rfl (bB v (xN l 2 g.2).2);generalize hz:xN l 2 g.2=z at *
  simp only[go_sem];refine aQ λp hp=>?_;have S:=R.new hp (.rows 4 [z.1.cells]);simp only[go_sem,Rm,biG,biO,or_false,forall_eq,forall_eq_or_imp];refine aB (O.name [108,97,119] i aS Om) rfl ?_;have y:=S.set 3 rfl (.rows 4 [({ z.1 with name:=[108,97,119]++cP i }:cW).cells]);rw[PH.set_set]at y;have b1:=y.at 1 rfl;have A:¬E.o7=p:=y.ne 1 3 rfl rfl aS;have u:¬E.o7=E.o:=y.ne 1 0 rfl rfl aS;simp only[bC,aE A,aE u]at b1;have M:(1:Nat)*4<=16777216:=by decide
  simp only[go_sem,Rn,A,u,b1,M,biG,biO,or_false,forall_eq,forall_eq_or_imp];refine y.append 0 (src:=[({ z.1 with name:=[108,97,119]++cP i }:cW).cells]) rfl rfl (by unfold roomFor;rw[bhO];simp only[biC,maxLen];omega) λw' H2 Q X=>?_;obtain⟨q,rfl⟩:=X bH;have b2:=Q.at 1 rfl;simp only[go_sem,b2,biG,biO,or_false,forall_eq];have h5:=Q.set 1 rfl (flB ext (.osl q 4 0 (lT g.1++[({ z.1 with name:=[108,97,119]++cP i }:cW).cells]).length) .aK .aK .aK .aK .aK);simp only[go_sem,Ro,wZz i];refine aJ (i+1,.osl q 4 0 (lT g.1++[({ z.1 with name:=[108,97,119]++cP i }:cW).cells]).length,_) ⟨hlt,?_⟩ (by simp only;omega) ?_ b_
  ·rw[w];have e:lT (g.1++[{ z.1 with name:=[108,97,119]++cP i }])=lT g.1++[({ z.1 with name:=[108,97,119]++cP i }:cW).cells]:=by simp[lT]
   simp only;rw[e];exact h5.dropLast (B:=E.boxes v ext _ .aK .aK .aK .aK .aK z.2)
  ·exact Lq
 ·have d:¬(i:Int)<(n:Nat):=Om;have:i=n:=Om;subst this;simp only[go_sem,d];exact V J _ _ (ml rfl rfl rfl rfl rfl) x
theorem aHS(Q:sP C){l:List Nat}{v:PV}(T:Tp l v)(E:FE)(n a nl:Nat)(hn:n<=10)(β:nl<=1000)(ha:a<=Z' l)(ext p:PV)(bgK:List cW)(V:Z' bgK=nl)(K:cF)(F:PF)(H:PH)
  (hF:(((jX E).set 11 (.int .i64 n)).set 12 (.int .i64 0)).le F) (u:aR H (E.boxes v ext p .aK .aK .aK .aK .aK a) [(p,4,lT bgK)])
  (hK:∀B R H',(jX E).le R->R 11=some (.int .i64 n)->aR H' (E.boxes v ext p B .aK .aK .aK .aK (fT l nl a n).2) [(p,4,lT bgK),(B,4,nZ (fT l nl a n).1)]->K (.exit 2) R H') :
  aC.wp C (.loop VW) K F H:=by
 refine wp_loop (α:=Nat × PV × PH) (λt=>((jX E).set 11 (.int .i64 n)).set 12 (.int .i64 t.1)) (λt=>t.2.2) (λt=>t.1<=n/\aR t.2.2 (E.boxes v ext p t.2.1 .aK .aK .aK .aK (fT l nl a t.1).2) [(p,4,lT bgK),(t.2.1,4,nZ (fT l nl a t.1).1)]) (λt=>n-t.1) (0,.aK,H) ⟨bhT _,u.qU 4⟩ hF b_ ?_;rintro⟨i,B,H0⟩ ⟨hi,u⟩;simp only at hi u ⊢;obtain⟨k1,k2⟩:=GZ l nl ha i;have w:fT l nl a (i+1)=((fT l nl a i).1++[⟨[109]++cP i,(1+(aF l 4 (fT l nl a i).2).1:Nat),(1+(aF l 8 (aF l 4 (fT l nl a i).2).2).1:Nat),((aF l nl (aF l 8 (aF l 4 (fT l nl a i).2).2).2).1:Nat)⟩],(aF l nl (aF l 8 (aF l 4 (fT l nl a i).2).2).2).2):=rfl;simp only[go_sem,VW,Eu,jX];by_cases hlt:i<n
 ·have d:(i:Int)<(n:Nat):=Om;generalize hg:fT l nl a i=g at *
  have hx:=cG l (show 0<4 by decide) g.2;have W:=bP l 4 k1;have hy:=cG l (show 0<8 by decide) (aF l 4 g.2).2;have X:=bP l 8 W;have az:=bP l nl X;have S:=u.set 0 rfl (bB v (aF l 4 g.2).2);have A:=S.set 0 rfl (bB v (aF l 8 (aF l 4 g.2).2).2);have h3:=A.set 0 rfl (bB v (aF l nl (aF l 8 (aF l 4 g.2).2).2).2);generalize M:aF l 4 g.2=x at *
  generalize N:aF l 8 x.2=y at *
  generalize O:aF l nl y.2=z at *
  have b1:=u.at 1 rfl;have Z:=(u.own 0 rfl).uP;rw[bhO,V]at Z;have J:(h_.set E.o7 (flB ext p B .aK .aK .aK .aK)).le H0:=e_ a_ b1;have ex:i_.wrap (1+(x.1:Int))=((1+x.1:Nat):Int):=by rw[wrap_i64 Om Om];omega
  have ey:i_.wrap (1+(y.1:Int))=((1+y.1:Nat):Int):=by rw[wrap_i64 Om Om];omega
  simp only[go_sem,d];refine bV (h_.set E.o7 (flB ext p B .aK .aK .aK .aK)) (mkS l v) J ?_;simp only[go_sem,Ew];refine UE Q.toAN (s:=[109]) (n:=i) aS Om rfl J ?_;simp only[go_sem];refine yU Q.toAM T (o:=E.o) (n:=4) (a:=g.2) aS k1 rfl (u.at 0 rfl) ?_ ?_
  ·rw[M];exact e_ a_ (S.at 1 rfl)
  rw[M];simp only[go_sem,ex];refine yU Q.toAM T (o:=E.o) (n:=8) (a:=x.2) aS W rfl (S.at 0 rfl) ?_ ?_
  ·rw[N];exact e_ a_ (A.at 1 rfl)
  rw[N];simp only[go_sem,ey,Z];rw[PH.set_set]at A;refine yU Q.toAM T (o:=E.o) (n:=nl) (a:=y.2) Om X rfl (A.at 0 rfl) ?_ ?_
  ·rw[O];exact e_ a_ ((A.set 0 rfl (bB v z.2)).at 1 rfl)
  rw[O];have Y:=A.set 0 rfl (bB v z.2);have U:(1:Nat)*4<=16777216:=by decide
  simp only[go_sem,U,biG,biO,or_false,forall_eq,forall_eq_or_imp];rw[PH.set_set]at Y;refine Y.append 1 (src:=[(⟨[109]++cP i,(1+x.1:Nat),(1+y.1:Nat),(z.1:Nat)⟩:dS).cells]) rfl rfl (by unfold roomFor;rw[bhO];simp only[biC,maxLen];omega) λw' H2 h5 hw=>?_;obtain⟨q,rfl⟩:=hw bH;have b2:=h5.at 1 rfl;refine⟨e_ a_ b2,?_⟩;refine bV .nil eW a_ ?_;simp only[go_sem,Ex,b2,biG,biO,or_false,forall_eq];have h6:=h5.set 1 rfl (flB ext p (.osl q 4 0 (nZ g.1++[(⟨[109]++cP i,(1+x.1:Nat),(1+y.1:Nat),(z.1:Nat)⟩:dS).cells]).length) .aK .aK .aK .aK);refine⟨a_,?_⟩;simp only[go_sem,Ey,wZz i];refine aJ (i+1,.osl q 4 0 (nZ g.1++[(⟨[109]++cP i,(1+x.1:Nat),(1+y.1:Nat),(z.1:Nat)⟩:dS).cells]).length,_) ⟨hlt,?_⟩ (by simp only;omega) ?_ b_
  ·rw[w];have e:nZ (g.1++[⟨[109]++cP i,(1+x.1:Nat),(1+y.1:Nat),(z.1:Nat)⟩])=nZ g.1++[(⟨[109]++cP i,(1+x.1:Nat),(1+y.1:Nat),(z.1:Nat)⟩:dS).cells]:=by simp[nZ]
   simp only;rw[e];exact h6
  ·exact Lq
 ·have d:¬(i:Int)<(n:Nat):=Om;have:i=n:=Om;subst this;simp only[go_sem,d];exact hK B _ _ (ml rfl rfl rfl rfl rfl) rfl u
abbrev FP(x:cE)(w:PV):List PV:=[.str x.name,.int .i64 x.k,.int .i64 x.m,.int .i64 x.bhB,.int .i64 x.s0,.int .i64 x.s1,.int .i64 x.s2,.int .i64 x.s3,.int .i64 x.s4,w,frs x.repair,
 .bool x.target.neg,aN x.target.num,aN x.target.den,.bool x.bgN.neg,aN x.bgN.num,aN x.bgN.den]
def Lg(E:FE)(mc n i:Nat):PF:=(((jX E).set 11 (.int .i64 mc)).set 13 (.int .i64 n)).set 14 (.int .i64 i)
structure PAt(E:FE)(mc n i:Nat)(F:PF):Prop where
 f0:F 0=some (.ptr E.o 2 0 0)
 f1:F 1=some (.int .i64 E.bgD)
 f2:F 2=some (.int .i64 E.bgF)
 f6:F 6=some (.ptr E.o6 7 0 0)
 f7:F 7=some (.ptr E.o7 7 0 0)
 f11:F 11=some (.int .i64 mc)
 f13:F 13=some (.int .i64 n)
 f14:F 14=some (.int .i64 i)
def xR(l:List Nat)(a:Nat):Nat->List Int × Nat
 |0=>([],a)
 |j+1=>let s:=xR l a j
  let t:=kX l s.2
  (s.1++[t.1],t.2)
theorem CA(l:List Nat){a:Nat}(h:a<=Z' l):(kX l a).2<=Z' l:=by
 unfold kX;simp only;split
 ·exact bP l 3 (bP l 3 h)
 ·exact bP l 3 h
theorem Ms(l:List Nat){a:Nat}(h:a<=Z' l):∀j,(xR l a j).2<=Z' l/\(xR l a j).1.length=j
 |0=>⟨h,rfl⟩
 |j+1=>by obtain⟨d,e⟩:=Ms l h j;exact⟨CA l d,by simp only[xR,bhW,biC,e]⟩
abbrev xQ(pre post:List PV)(s:List Int):List PV:=pre++(s.map λx=>PV.int .i64 x)++bhU (4-Z' s) (.int .i64 0)++post
theorem a4O{pre post:List PV}{s:List Int}(hp:Z' pre=5)(e:Z' s<4)(x:Int):(xQ pre post s).set (5+Z' s) (.int .i64 x)=xQ pre post (s++[x]):=by
 obtain⟨k,d⟩:∃k,4-Z' s=k+1:=⟨3-Z' s,by omega⟩;unfold xQ;rw[bhW,biC,show 4-(Z' s+1)=k by omega,d,List.replicate_succ,biV,biU,bjP];rw[List.set_append_left _ _ (by simp[hp]),blC _ _ (by simp[hp])];have:5+Z' s-(pre++s.map λx=>PV.int .i64 x).length=0:=by simp[hp]
 rw[this,blP];simp
theorem aXO{pre post:List PV}{s:List Int}(hp:Z' pre=5)(e:Z' s<4):xQ pre post s=xQ pre post (s++[0]):=by
 obtain⟨k,d⟩:∃k,4-Z' s=k+1:=⟨3-Z' s,by omega⟩;unfold xQ;rw[bhW,biC,show 4-(Z' s+1)=k by omega,d,List.replicate_succ,biV,biU,bjP];simp
theorem aHT(Z:sP C){l:List Nat}{v:PV}(T:Tp l v)(E:FE)(mc n i a p:Nat)(ha:a<=Z' l)(B:List BX)(L:List LI)(pre post:List PV)(d:Z' pre=5)(y:Z' post=8)(K:cF)(F:PF)(H:PH)
  (u:PAt E mc n i F) (S:F 15=some (.ptr p 17 0 0)) (U:F 16=some (.int .i64 1)) (A:aR H ((E.o,bB v a)::B++[(p,.rows 17 [xQ pre post []])]) L)
  (hK:∀Q H',PAt E mc n i Q->Q 15=some (.ptr p 17 0 0)->aR H' ((E.o,bB v (xR l a 4).2)::B++[(p,.rows 17 [xQ pre post (xR l a 4).1])]) L->K (.exit 6) Q H') :
  aC.wp C (.loop GP) K F H:=by
 refine wp_loop (α:=Nat × PH) (λt=>((Lg E mc n i).set 15 (.ptr p 17 0 0)).set 16 (.int .i64 (t.1+1:Nat))) (λt=>t.2) (λt=>t.1<=4/\aR t.2 ((E.o,bB v (xR l a t.1).2)::B++[(p,.rows 17 [xQ pre post (xR l a t.1).1])]) L) (λt=>4-t.1) (0,H) ⟨bhT _,A⟩ ?_ b_ ?_
 ·unfold Lg jX
  (repeat' (first|exact c_|refine d_ ?_ ?_))<;>first|(simp only[go_sem,u.f0,u.f1,u.f2,u.f6,u.f7,u.f11,u.f13,u.f14,S,U]<;>rfl)|rfl
 rintro⟨j,H0⟩ ⟨hj,A⟩;simp only at hj A ⊢;obtain⟨k1,k2⟩:=Ms l ha j;have e:xR l a (j+1)=((xR l a j).1++[(kX l (xR l a j).2).1],(kX l (xR l a j).2).2):=rfl;simp only[go_sem,GP,E7,Lg,jX];by_cases hlt:j<4
 ·generalize hg:xR l a j=g at *
  have ei:=dZ (Om:j+1<9223372036854775807);simp only[go_sem,show((j+1:Nat):Int)<5 by omega,E8];refine dR Z.toAM T (o:=E.o) (n:=3) (a:=g.2) aS k1 (by simp only[go_sem];rfl) (A.at 0 rfl) ?_;have N:aR _ ((E.o,bB v (aF l 3 g.2).2)::B++[(p,.rows 17 [xQ pre post g.1])]) L:=A.set 0 rfl (bB v (aF l 3 g.2).2);by_cases c:(aF l 3 g.2).1=0
  ·have Y:kX l g.2=(((1+(aF l 3 (aF l 3 g.2).2).1:Nat):Int),(aF l 3 (aF l 3 g.2).2).2):=by unfold kX;simp only[c,if_true]
   have n2:=cG l (show 0<3 by decide) (aF l 3 g.2).2;have e2:i_.wrap (1+((aF l 3 (aF l 3 g.2).2).1:Int))=((1+(aF l 3 (aF l 3 g.2).2).1:Nat):Int):=by rw[wrap_i64 Om Om];omega
   simp only[go_sem,bY (show(((aF l 3 g.2).1:Nat):Int)=0 by omega),E9];refine dR Z.toAM T (o:=E.o) (n:=3) (a:=(aF l 3 g.2).2) aS (bP l 3 k1) (by simp only[go_sem];rfl) (N.at 0 rfl) ?_;have O:aR _ ((E.o,bB v (aF l 3 (aF l 3 g.2).2).2)::B++[(p,.rows 17 [xQ pre post g.1])]) L:=N.set 0 rfl (bB v (aF l 3 (aF l 3 g.2).2).2);have R:=O.RR;rw[PH.set_set]at R O;have M:¬p=E.o:=λh=>by have X:=O.ndB;simp[gD,h]at X
   simp only[bC,aE M]at R;have W:((j+1:Nat):Int)<((5:Nat):Int):=Om;have V:(0:Int)<=((j+1:Nat):Int):=Om;have β:(xQ pre post g.1).length=17:=by simp[xQ,d,y,k2];omega
   have w:=a4O (pre:=pre) (post:=post) (s:=g.1) d Om ((1+(aF l 3 (aF l 3 g.2).2).1:Nat):Int);rw[k2]at w;have J:4+(j+1)*1=5+j:=Om;have x:5+j+1<=17:=Om;simp only[go_sem,e2,W,V,J,M,R,x,biG,biO,or_false,forall_eq,w,WB,ei];refine aJ (j+1,_) ⟨hlt,?_⟩ (by simp only;omega) ?_ b_
   ·rw[e,Y];exact O.na _
   ·exact Lq
  ·have Y:kX l g.2=(0,(aF l 3 g.2).2):=by unfold kX;simp only[c,if_false]
   simp only[go_sem,bL (show ¬(((aF l 3 g.2).1:Nat):Int)=0 by omega),WB,ei];refine aJ (j+1,_) ⟨hlt,?_⟩ (by simp only;omega) ?_ b_
   ·rw[aXO (pre:=pre) (post:=post) (s:=g.1) d Om]at N;rw[e,Y];exact N
   ·exact Lq
 ·have:j=4:=Om;subst this;simp only[go_sem,show ¬((4+1:Nat):Int)<5 by decide];exact hK _ _ ⟨s_,s_,s_,s_,s_,s_,s_,s_⟩ Sq A
theorem aR.vJ{E:FE}{v ext d e i l p u:PV}{a:Nat}{H:PH}{B:List BX}{L:List LI}(h:aR H (E.boxes v ext d e i l p u a++B) L)(b:Nat):aR (H.set E.o (bB v b)) (E.boxes v ext d e i l p u b++B) L:=h.set 0 rfl _
abbrev x4(s:List UInt8)(k m q:Int)(w r d e i:PV)(h:RF):List PV:=[.str s,.int .i64 k,.int .i64 m,.int .i64 q,.int .i64 0,.int .i64 0,.int .i64 0,.int .i64 0,.int .i64 0,w,r,d,e,i,.bool h.neg,aN h.num,aN h.den]
theorem aVL {C : Ctx} (Lb : sP C) {l : List Nat} {v : PV} (T : Tp l v) (E : FE) (mc n i a : Nat) (ha : a <= l.length) (hi : i < 50) (ext w1 w2 w3 w4 w5 w6 : PV) (L : List LI) (rest : aC) (K : cF) (F : PF) (H : PH)
    (hF : PAt E mc n i F) (hH : aR H (E.boxes v ext w1 w2 w3 w4 w5 w6 a) L)
    (hK : ∀ p F' H', PAt E mc n i F' -> F' 15 = some (.ptr p 17 0 0) ->
      (let k := aF l 2 a; let m := aF l 3 k.2; let h := aF l 4 m.2; let q := aF l (m.1 + 1) h.2; let r := pA l q.2 (max m.1 1); let g := aF l 9 r.2
       aR H' (E.boxes v ext w1 w2 w3 w4 w5 w6 g.2 ++ [(p, .rows 17 [xQ [.str ([112] ++ cP i), .int .i64 (1 + k.1 : Nat), .int .i64 (m.1 : Nat), .int .i64 (1 + k.1 + q.1 : Nat), .int .i64 0]
        ([.aK, frs r.1] ++ (mkT (g.1 : Nat) 8).cells ++ (mkT ((1 + h.1 : Nat) : Int) 1).cells) []])]) L) -> aC.wp C rest K F' H') :
    aC.wp C (.seq (.region VZ) (.seq (.seq (.draw GQ) (.draw GR)) (.seq (.region GT) (.seq (.region GU) rest)))) K F H := by
  obtain ⟨f0, f1, f2, f6, f7, f11, f13, f14⟩ := hF;have nk := cG l (show 0 < 2 by decide) a;have ak := bP l 2 ha;have nm := cG l (show 0 < 3 by decide) (aF l 2 a).2;have am := bP l 3 ak;simp only at hK;generalize hk : aF l 2 a = k at *
  generalize hm : aF l 3 k.2 = m at *
  have nh := cG l (show 0 < 4 by decide) m.2;have ah := bP l 4 am;generalize hh : aF l 4 m.2 = h at *
  have nq := cG l (Om : 0 < m.1 + 1) h.2;have aq := bP l (m.1 + 1) ah;generalize hq : aF l (m.1 + 1) h.2 = q at *
  have ar := SM l aq (max m.1 1);generalize hr : pA l q.2 (max m.1 1) = r at *
  have ng := cG l (show 0 < 9 by decide) r.2;have ag := bP l 9 ar;generalize hg : aF l 9 r.2 = g at *
  have ek : i_.wrap (1 + (k.1 : Int)) = ((1 + k.1 : Nat) : Int) := by rw [wrap_i64 Om Om]; omega
  have eh : i_.wrap (1 + (h.1 : Int)) = ((1 + h.1 : Nat) : Int) := by rw [wrap_i64 Om Om]; omega
  have em : i_.wrap ((m.1 : Int) + 1) = ((m.1 + 1 : Nat) : Int) := dZ Om;have eq' : i_.wrap (((1 + k.1 : Nat) : Int) + (q.1 : Int)) = ((1 + k.1 + q.1 : Nat) : Int) := by rw [wrap_i64 Om Om]; omega
  have h0 : aR H (E.boxes v ext w1 w2 w3 w4 w5 w6 a ++ []) L := by rw [bjI]; exact hH
  simp only[go_sem,VZ,f14];refine aB (Lb.name [112] i aS Om) rfl ?_;simp only[go_sem,f0];refine dR Lb.toAM T (o := E.o) (n := 2) (a := a) aS ha rfl (h0.at 0 rfl) ?_;have g1 := h0.vJ k.2;rw [hk];simp only[go_sem,ek,f0];refine dR Lb.toAM T (o := E.o) (n := 3) (a := k.2) aS ak rfl (g1.at 0 rfl) ?_;have g2 := g1.vJ m.2;rw [hm];rw [PH.set_set] at g2;simp only[go_sem,f0];refine dR Lb.toAM T (o := E.o) (n := 4) (a := m.2) aS am rfl (g2.at 0 rfl) ?_;have g3 := g2.vJ h.2;rw [hh];rw [PH.set_set] at g3;simp only[go_sem,eh];refine aB (Lb.int ((1 + h.1 : Nat) : Int) (by unfold dL; omega)) rfl ?_;simp only[go_sem,biG,biO,or_false,forall_eq,forall_eq_or_imp];refine aQ fun p hp => ?_;have g4 := g3.new hp (.rows 17 [x4 ([112] ++ cP i) (1 + k.1 : Nat) (m.1 : Nat) 0 .aK .aK (.bool false) .aK .aK (mkT ((1 + h.1 : Nat) : Int) 1)]);have hpo : ¬ p = E.o := g4.ne 3 0 rfl rfl aS;have hop : ¬ E.o = p := fun e => hpo e.symm;have q2 : ∀ (F2 : PF) (H2 : PH), PAt E mc n i F2 -> F2 15 = some (.ptr p 17 0 0) -> aR H2 (E.boxes v ext w1 w2 w3 w4 w5 w6 h.2 ++ [(p, .rows 17 [x4 ([112] ++ cP i) (1 + k.1 : Nat) (m.1 : Nat) 0 .aK .aK (.bool false) .aK .aK (mkT ((1 + h.1 : Nat) : Int) 1)])]) L ->
      aC.wp C (.seq (.seq (.draw GQ) (.draw GR)) (.seq (.region GT) (.seq (.region GU) rest))) K F2 H2 := by
    intro F2 H2 hF2 f15 hH2;obtain ⟨f0, f1, f2, f6, f7, f11, f13, f14⟩ := hF2;have bp := hH2.at 3 rfl;have hHs : (h_.set p (.rows 17 [x4 ([112] ++ cP i) (1 + k.1 : Nat) (m.1 : Nat) 0 .aK .aK (.bool false) .aK .aK (mkT ((1 + h.1 : Nat) : Int) 1)])).le H2 := e_ a_ bp;simp only[go_sem];refine bV _ (mkS l v) hHs ?_;simp only[go_sem,GQ,f15,bp,em,f0];refine yU Lb.toAM T (o := E.o) (n := m.1 + 1) (a := h.2) Om ah rfl (hH2.at 0 rfl) ?_ ?_
    · rw [hq]; exact e_ a_ ((hH2.vJ q.2).at 3 rfl)
    rw [hq];have g5 := hH2.vJ q.2;simp only[go_sem,eq',f15];refine bV .nil eW a_ ?_;simp only[go_sem,GR,hpo,bp];refine ⟨a_, ?_⟩;have g6 : aR _ (E.boxes v ext w1 w2 w3 w4 w5 w6 q.2 ++ [(p, .rows 17 [x4 ([112] ++ cP i) (1 + k.1 : Nat) (m.1 : Nat) (1 + k.1 + q.1 : Nat) .aK .aK (.bool false) .aK .aK (mkT ((1 + h.1 : Nat) : Int) 1)])]) L := g5.set 3 rfl (.rows 17 [x4 ([112] ++ cP i) (1 + k.1 : Nat) (m.1 : Nat) (1 + k.1 + q.1 : Nat) .aK .aK (.bool false) .aK .aK (mkT ((1 + h.1 : Nat) : Int) 1)]);have bq := g6.at 3 rfl;simp only[go_sem,GT,f0,f15];refine qI (Lb.rep l v T E.o q.2 m.1 Om aq) (g6.at 0 rfl) rfl ?_;have g7 := g6.vJ r.2;rw [hr];simp only[go_sem,hpo,f15];have g8 : aR _ (E.boxes v ext w1 w2 w3 w4 w5 w6 r.2 ++ [(p, .rows 17 [x4 ([112] ++ cP i) (1 + k.1 : Nat) (m.1 : Nat) (1 + k.1 + q.1 : Nat) .aK (frs r.1) (.bool false) .aK .aK (mkT ((1 + h.1 : Nat) : Int) 1)])]) L := g7.set 3 rfl (.rows 17 [x4 ([112] ++ cP i) (1 + k.1 : Nat) (m.1 : Nat) (1 + k.1 + q.1 : Nat) .aK (frs r.1) (.bool false) .aK .aK (mkT ((1 + h.1 : Nat) : Int) 1)]);simp only[go_sem,GU,f0];refine dR Lb.toAM T (o := E.o) (n := 9) (a := r.2) aS ar rfl (g8.at 0 rfl) ?_;have g9 := g8.vJ g.2;rw [hg];simp only[go_sem];refine aB (Lb.fmk (g.1 : Int) 8 (by unfold dL; omega) (by unfold dL; omega)) rfl ?_;unfold yH;rw [aE aS];simp only[go_sem,f15,hpo];have g10 := g9.set 3 rfl (.rows 17 [xQ [.str ([112] ++ cP i), .int .i64 (1 + k.1 : Nat), .int .i64 (m.1 : Nat), .int .i64 (1 + k.1 + q.1 : Nat), .int .i64 0]
        ([.aK, frs r.1] ++ (mkT (g.1 : Nat) 8).cells ++ (mkT ((1 + h.1 : Nat) : Int) 1).cells) []])
    refine hK p _ _ ⟨by simp only[go_sem,f0], by simp only[go_sem,f1], by simp only[go_sem,f2], by simp only[go_sem,f6], by simp only[go_sem,f7], by simp only[go_sem,f11], by simp only[go_sem,f13], by simp only[go_sem,f14]⟩ (by simp only[go_sem,f15]) g10
  simp only [aC.wp, go_sem] at q2;simp only[go_sem,biG,biO,or_false,forall_eq,forall_eq_or_imp];exact q2 _ _ ⟨by simp only[go_sem,f0], by simp only[go_sem,f1], by simp only[go_sem,f2], by simp only[go_sem,f6], by simp only[go_sem,f7], by simp only[go_sem,f11], by simp only[go_sem,f13], by simp only[go_sem,f14]⟩ rfl g4
abbrev FE.lists(u w x y A:PV)(i:List cW)(l:List dS)(d:List cS)(e:List eJ)(p:P2_):List LI:=[(u,4,lT i),(w,4,nZ l),(x,7,oS d),(y,3,rM e),(A,17,p)]
theorem aVM(Lb:sP C){l:List Nat}{v:PV}(T:Tp l v)(E:FE)(mc n i a:Nat)(ha:a<=Z' l)(η:0<mc)(μ:mc<=50)(ext y A B J w5:PV)(lw:List cW)(md:List dS)(dm:List cS)(dv:List eJ)(pr:P2_)(ρ:Z' pr<=50)
  (s:List UInt8) (k m q:Int) (r t h:RF) (N:List RF) (p:Nat) (K:cF) (F:PF) (H:PH)
  (hF:PAt E mc n i F) (u:F 15=some (.ptr p 17 0 0))
  (hH:aR H (E.boxes v ext y A B J w5 .aK a++[(p,.rows 17 [xQ [.str s,.int .i64 k,.int .i64 m,.int .i64 q,.int .i64 0] ([.aK,frs N]++t.cells++h.cells) []])]) (FE.lists y A B J w5 lw md dm dv pr))
  (V:(let M:=xR l a 4;let f:=aF l mc M.2;let b:=aF l 2 f.2
   let ms:List Int × Nat:=if 1<mc then(if b.1=0 then([(f.1:Int),1-(f.1:Int)],b.2)else([(f.1:Int)],b.2))else([(f.1:Int)],f.2)
   ∀(w d:PV)(W:PF)(H':PH)(B':List BX),PAt E mc n i W->(∃o,w=.osl o 1 0 ms.1.length)->aR H' (E.boxes v ext y A B J d .aK ms.2++B')
    (FE.lists y A B J d lw md dm dv (pr++[FP ⟨s,k,m,q,0,(M.1.getD 0 0),(M.1.getD 1 0),(M.1.getD 2 0),(M.1.getD 3 0),ms.1,N,t,h⟩ w])++[(w,1,bJ ms.1)])->K .normal W H')) :
  aC.wp C (.seq (.seq (.region WA) (.block 6 (.loop GP))) (.seq (.region WC) (.seq (.region WD) (.seq (.seq (.region WE) (.cond (.tmp 143) (.region WF) .skip)) (.region GW))))) K F H:=by
 obtain⟨f0,f1,f2,f6,f7,f11,f13,f14⟩:=hF;simp only[go_sem,WA];refine aHT (C:=C) Lb T E mc n i a p ha [(E.o7,flB ext y A B J w5 .aK),(E.o6,flZ)] _ _ _ rfl rfl _ _ H ⟨by simp only[go_sem,f0],by simp only[go_sem,f1],by simp only[go_sem,f2],by simp only[go_sem,f6],by simp only[go_sem,f7],by simp only[go_sem,f11],by simp only[go_sem,f13],by simp only[go_sem,f14]⟩ (by simp only[go_sem,u]) rfl hH ?_;clear f0 f1 f2 f6 f7 f11 f13 f14 u hH;intro F1 H1 ε u x;obtain⟨f0,f1,f2,f6,f7,f11,f13,f14⟩:=ε;obtain⟨α,ls⟩:=Ms l ha 4;have ι:∃O Q R S,(xR l a 4).1=[O,Q,R,S]:=⟨_,_,_,_,rfl⟩;simp only at V;generalize ν:xR l a 4=M at *
 obtain⟨O,Q,R,S,hx⟩:=ι;rw[hx]at V x;replace x:aR H1 (E.boxes v ext y A B J w5 .aK M.2++[(p,.rows 17 [FP ⟨s,k,m,q,0,O,Q,R,S,[],N,t,h⟩ .aK])]) (FE.lists y A B J w5 lw md dm dv pr):=x;have nf:=cG l η M.2;have af:=bP l mc α;generalize hf:aF l mc M.2=f at *
 have ab:=bP l 2 af;generalize hb:aF l 2 f.2=b at *
 have Z:¬p=E.o:=x.ne 3 0 rfl rfl aS;have θ:¬p=E.o7:=x.ne 3 1 rfl rfl aS;have ο:¬E.o7=p:=λe=>θ e.symm;have ξ:¬E.o7=E.o:=x.ne 1 0 rfl rfl aS;simp only[go_sem,WC,f0,f11];refine dR Lb.toAM T (o:=E.o) (n:=mc) (a:=M.2) Om α rfl (x.at 0 rfl) ?_;have h2:=x.set 0 rfl (bB v f.2);rw[hf];simp only[go_sem,WD];refine aQ λo ho=>?_;have h3:=h2.aWE (s:=1) (rows:=bJ [(f.1:Int)]) ho;have b3:=h3.at 3 rfl;have ob:¬p=o:=h3.neL 3 5 rfl rfl rfl;have σ:¬E.o7=o:=h3.neL 1 5 rfl rfl rfl;have τ:¬E.o=o:=h3.neL 0 5 rfl rfl rfl;simp only[bC,aE ob,aE Z]at b3;simp only[go_sem,u,ob,Z,b3,biG,biO,or_false,forall_eq];have h4:=h3.set 3 rfl (.rows 17 [FP ⟨s,k,m,q,0,O,Q,R,S,[],N,t,h⟩ (.osl o 1 0 1)]);have fin:∀(w:PV)(ms:List Int)(a':Nat)(W:PF)(H':PH),PAt E mc n i W->W 15=some (.ptr p 17 0 0)->(∃o,w=.osl o 1 0 ms.length) ->
   aR H' (E.boxes v ext y A B J w5 .aK a'++[(p,.rows 17 [FP ⟨s,k,m,q,0,O,Q,R,S,ms,N,t,h⟩ w])]) (FE.lists y A B J w5 lw md dm dv pr++[(w,1,bJ ms)]) ->
   (∀(d:PV)(U:PF)(H2:PH),PAt E mc n i U->aR H2 (E.boxes v ext y A B J d .aK a'++[(p,.rows 17 [FP ⟨s,k,m,q,0,O,Q,R,S,ms,N,t,h⟩ w])]) (FE.lists y A B J d lw md dm dv (pr++[FP ⟨s,k,m,q,0,O,Q,R,S,ms,N,t,h⟩ w])++[(w,1,bJ ms)])->K .normal U H2) ->
   wpOps C GW (K .normal) W H':=by
  intro w ms a' W H' δ u hw Y ζ;obtain⟨wo,rfl⟩:=hw;obtain⟨f0,f1,f2,f6,f7,f11,f13,f14⟩:=δ;have c1:=Y.at 1 rfl;have c3:=Y.at 3 rfl;have γ:(1:Nat)*17<=16777216:=by decide
  simp only[go_sem,GW,f7,u,c1,c3,γ,biG,biO,or_false,forall_eq,forall_eq_or_imp];refine Y.append 4 (src:=[FP ⟨s,k,m,q,0,O,Q,R,S,ms,N,t,h⟩ (.osl wo 1 0 ms.length)]) rfl rfl (by unfold roomFor;simp only[biC,maxLen];omega) λd H2 h5 κ=>?_;obtain⟨q5,rfl⟩:=κ bH;have c2:=h5.at 1 rfl;simp only[go_sem,c2,biG,biO,or_false,forall_eq];exact ζ _ _ _ ⟨by simp only[go_sem,f0],by simp only[go_sem,f1],by simp only[go_sem,f2],by simp only[go_sem,f6],by simp only[go_sem,f7],by simp only[go_sem,f11],by simp only[go_sem,f13],by simp only[go_sem,f14]⟩ (h5.set 1 rfl (flB ext y A B J _ .aK))
 simp only[go_sem,WE,f11];by_cases c:1<mc
 ·have c':(mc:Int)>1:=Om;simp only[go_sem,c',f0];refine dR Lb.toAM T (o:=E.o) (n:=2) (a:=f.2) aS af rfl (h4.at 0 rfl) ?_;have h5:=h4.set 0 rfl (bB v b.2);rw[hb];by_cases c2:b.1=0
  ·have X:(b.1:Int)=0:=Om;rw[aG c,aG c2]at V;have e1:i_.wrap (1-(f.1:Int))=1-(f.1:Int):=wrap_i64 Om Om;have c3:=h5.at 3 rfl;have β:(1:Nat)*1<=16777216:=by decide
   simp only[go_sem,bY X,WF,u,Z,e1,β];refine h5.append 5 (src:=[[.int .i64 (1-(f.1:Int))]]) rfl rfl (by unfold roomFor;simp only[bJ,bhO,biC,maxLen];omega) λw' H2 h6 hw=>?_;obtain⟨q2,rfl⟩:=hw bH;have c4:=h6.at 3 rfl;simp only[go_sem,c4,u,biG,biO,or_false,forall_eq];have h7:=h6.set 3 rfl (.rows 17 [FP ⟨s,k,m,q,0,O,Q,R,S,[(f.1:Int),1-(f.1:Int)],N,t,h⟩ (.osl q2 1 0 2)]);exact fin (.osl q2 1 0 2) [(f.1:Int),1-(f.1:Int)] b.2 _ _ ⟨by simp only[go_sem,f0],by simp only[go_sem,f1],by simp only[go_sem,f2],by simp only[go_sem,f6],by simp only[go_sem,f7],by simp only[go_sem,f11],by simp only[go_sem,f13],by simp only[go_sem,f14]⟩ (by simp only[go_sem,u]) ⟨q2,rfl⟩ h7 (λd U H2 g1 g2=>V _ d U H2 _ g1 ⟨q2,rfl⟩ g2)
  ·have X:¬(b.1:Int)=0:=Om;rw[aG c,aE c2]at V;simp only[go_sem,bL X];exact fin (.osl o 1 0 1) [(f.1:Int)] b.2 _ _ ⟨by simp only[go_sem,f0],by simp only[go_sem,f1],by simp only[go_sem,f2],by simp only[go_sem,f6],by simp only[go_sem,f7],by simp only[go_sem,f11],by simp only[go_sem,f13],by simp only[go_sem,f14]⟩ (by simp only[go_sem,u]) ⟨o,rfl⟩ h5 (λd U H2 g1 g2=>V _ d U H2 _ g1 ⟨o,rfl⟩ g2)
 ·have c':¬(mc:Int)>1:=Om;rw[aE c]at V;simp only[go_sem,c'];exact fin (.osl o 1 0 1) [(f.1:Int)] f.2 _ _ ⟨by simp only[go_sem,f0],by simp only[go_sem,f1],by simp only[go_sem,f2],by simp only[go_sem,f6],by simp only[go_sem,f7],by simp only[go_sem,f11],by simp only[go_sem,f13],by simp only[go_sem,f14]⟩ (by simp only[go_sem,u]) ⟨o,rfl⟩ h4 (λd U H2 g1 g2=>V _ d U H2 _ g1 ⟨o,rfl⟩ g2)
abbrev rA(l:List cE):P2_:=l.map cE.cells
abbrev uF(l:List eG):P2_:=l.map eG.cells
theorem tR{rows:P2_}(h:∀r∈rows,∀c∈r,c.oid=none):Flat rows:=Flat.of λr e c d q s rs=>Dx (h r e c d) q s rs
theorem axF(l:List cW):Flat (lT l):=tR λr e c d=>by
 obtain⟨x,_,rfl⟩:=biJ.1 e;simp only[cW.cells,biG,biO,or_false]at d;rcases d with rfl|rfl|rfl|rfl<;>rfl
theorem axH(l:List dS):Flat (nZ l):=tR λr e c d=>by
 obtain⟨x,_,rfl⟩:=biJ.1 e;simp only[dS.cells,biG,biO,or_false]at d;rcases d with rfl|rfl|rfl|rfl<;>rfl
theorem atZ(l:List cS):Flat (oS l):=tR λr e c d=>by
 obtain⟨x,_,rfl⟩:=biJ.1 e;simp only[cS.cells,biG,biO,or_false]at d;rcases d with rfl|rfl|rfl|rfl|rfl|rfl|rfl<;>rfl
theorem auB(l:List eJ):Flat (rM l):=tR λr e c d=>by
 obtain⟨x,_,rfl⟩:=biJ.1 e;simp only[eJ.cells,biG,biO,or_false]at d;rcases d with rfl|rfl|rfl<;>rfl
theorem a5C(l:List eG):Flat (uF l):=tR λr e c d=>by
 obtain⟨x,_,rfl⟩:=biJ.1 e;simp only[eG.cells,biG,biO,or_false]at d;rcases d with rfl|rfl<;>rfl
theorem azX(l:List cE):Flat (rA l):=tR λr e c d=>by
 obtain⟨x,_,rfl⟩:=biJ.1 e;simp only[cE.cells,biG,biO,or_false]at d;rcases d with rfl|rfl|rfl|rfl|rfl|rfl|rfl|rfl|rfl|rfl|rfl|rfl|rfl|rfl|rfl|rfl|rfl<;>rfl
theorem aIX(l:List Nat)(mc i:Nat){a:Nat}(h:a<=Z' l):(rG l mc i a).2<=Z' l:=by
 have e:=bP l 9 (SM l (bP l ((aF l 3 (aF l 2 a).2).1+1) (bP l 4 (bP l 3 (bP l 2 h)))) (max (aF l 3 (aF l 2 a).2).1 1));have d:=bP l mc (CA l (CA l (CA l (CA l e))));unfold rG;simp only;split
 ·split
  ·exact bP l 2 d
  ·exact bP l 2 d
 ·exact d
theorem BQ(l:List Nat)(mc:Nat){a:Nat}(h:a<=Z' l):∀k,(fF l mc a k).2<=Z' l/\(fF l mc a k).1.length=k
 |0=>⟨h,rfl⟩
 |k+1=>by obtain⟨d,e⟩:=BQ l mc h k;exact⟨aIX l mc k d,by simp only[fF,bhW,biC,e]⟩
theorem QW(l:List Nat)(pc:Nat){a:Nat}(h:a<=Z' l):∀k,(fV l pc a k).2<=Z' l/\(fV l pc a k).1.length=k
 |0=>⟨h,rfl⟩
 |k+1=>by obtain⟨d,e⟩:=QW l pc h k;exact⟨bP l pc d,by simp only[fV,bhW,biC,e]⟩
theorem afQ(Lb:sP C){l:List Nat}{v:PV}(T:Tp l v)(E:FE)(mc n a:Nat)(hn:n<=10)(θ:0<mc)(Z:mc<=50)(ha:a<=Z' l)(O:Int)(e u y A:PV)(S:List cW)(U:List dS)(Q:List cS)(R:List eJ)(K:cF)(F:PF)(H:PH)
  (M:PAt E mc n 0 F) (W:aR H (E.boxes v (.int .i64 O) e u y A .aK .aK a) [(e,4,lT S),(u,4,nZ U),(y,7,oS Q),(A,3,rM R)])
  (hK:∀V F' H',(jX E).le F'->aR H' (E.boxes v (.int .i64 O) e u y A V .aK (fF l mc a n).2) (FE.lists e u y A V S U Q R (rA (fF l mc a n).1))->K (.exit 4) F' H') :
  aC.wp C (.loop VX) K F H:=by
 refine wp_loop (α:=Nat × PV × PH) (λt=>Lg E mc n t.1) (λt=>t.2.2) (λt=>t.1<=n/\aR t.2.2 (E.boxes v (.int .i64 O) e u y A t.2.1 .aK (fF l mc a t.1).2) (FE.lists e u y A t.2.1 S U Q R (rA (fF l mc a t.1).1))) (λt=>n-t.1) (0,.aK,H) ⟨bhT _,W.qU 17⟩ ?_ b_ ?_
 ·unfold Lg jX
  (repeat' (first|exact c_|refine d_ ?_ ?_))<;>first|(simp only[go_sem,M.f0,M.f1,M.f2,M.f6,M.f7,M.f11,M.f13,M.f14]<;>rfl)|rfl
 rintro⟨i,V,H0⟩ ⟨hi,W⟩;simp only at hi W ⊢;obtain⟨k1,k2⟩:=BQ l mc ha i;have J:fF l mc a (i+1)=((fF l mc a i).1++[(rG l mc i (fF l mc a i).2).1],(rG l mc i (fF l mc a i).2).2):=rfl;simp only[go_sem,VX,E6,Lg,jX];by_cases hlt:i<n
 ·have B:(i:Int)<(n:Nat):=Om;generalize hg:fF l mc a i=g at *
  simp only[go_sem,B];refine aVL (C:=C) Lb T E mc n i g.2 k1 Om (.int .i64 O) e u y A V .aK _ _ _ _ H0 ⟨s_,s_,s_,s_,s_,s_,s_,s_⟩ W ?_;intro p F1 H1 γ β X;simp only at X;have ι:rG l mc i g.2=_:=rfl;have Y:=bP l 9 (SM l (bP l ((aF l 3 (aF l 2 g.2).2).1+1) (bP l 4 (bP l 3 (bP l 2 k1)))) (max (aF l 3 (aF l 2 g.2).2).1 1));refine aVM (C:=C) Lb T E mc n i _ Y θ Z (.int .i64 O) e u y A V S U Q R _ (by rw[bhO,k2];omega) _ _ _ _ (mkT 0 1) _ _ _ p _ F1 H1 γ β X ?_;intro N f b ms w d F2 H2 B' δ hw ε;obtain⟨o,rfl⟩:=hw;have hP:rG l mc i g.2=(⟨[112]++cP i,(1+(aF l 2 g.2).1:Nat),((aF l 3 (aF l 2 g.2).2).1:Nat),(1+(aF l 2 g.2).1+(aF l ((aF l 3 (aF l 2 g.2).2).1+1) (aF l 4 (aF l 3 (aF l 2 g.2).2).2).2).1:Nat),0,N.1.getD 0 0,N.1.getD 1 0,N.1.getD 2 0,N.1.getD 3 0,ms.1,(pA l (aF l ((aF l 3 (aF l 2 g.2).2).1+1) (aF l 4 (aF l 3 (aF l 2 g.2).2).2).2).2 (max (aF l 3 (aF l 2 g.2).2).1 1)).1,mkT ((aF l 9 (pA l (aF l ((aF l 3 (aF l 2 g.2).2).1+1) (aF l 4 (aF l 3 (aF l 2 g.2).2).2).2).2 (max (aF l 3 (aF l 2 g.2).2).1 1)).2).1:Nat) 8,mkT ((1+(aF l 4 (aF l 3 (aF l 2 g.2).2).2).1:Nat):Int) 1⟩,ms.2):=rfl;rw[hP]at J;generalize ζ:(⟨[112]++cP i,(1+(aF l 2 g.2).1:Nat),((aF l 3 (aF l 2 g.2).2).1:Nat),(1+(aF l 2 g.2).1+(aF l ((aF l 3 (aF l 2 g.2).2).1+1) (aF l 4 (aF l 3 (aF l 2 g.2).2).2).2).1:Nat),0,N.1.getD 0 0,N.1.getD 1 0,N.1.getD 2 0,N.1.getD 3 0,ms.1,(pA l (aF l ((aF l 3 (aF l 2 g.2).2).1+1) (aF l 4 (aF l 3 (aF l 2 g.2).2).2).2).2 (max (aF l 3 (aF l 2 g.2).2).1 1)).1,mkT ((aF l 9 (pA l (aF l ((aF l 3 (aF l 2 g.2).2).1+1) (aF l 4 (aF l 3 (aF l 2 g.2).2).2).2).2 (max (aF l 3 (aF l 2 g.2).2).1 1)).2).1:Nat) 8,mkT ((1+(aF l 4 (aF l 3 (aF l 2 g.2).2).2).1:Nat):Int) 1⟩:cE)=P at *
  have η:P.bgE=ms.1:=by rw[<-ζ]
  obtain⟨rs,z1,z2,z3,z4,z5⟩:=ε.frz 5 rfl;have y1:=z4 0 _ aS rfl;have y2:=z4 1 _ aS rfl;have y3:=z4 2 _ aS rfl;have y4:=z4 3 _ aS rfl;have y5:=z4 4 _ aS rfl;simp only at y1 y2 y3 y4 y5;have y0:=T.frz o 1 rs;obtain⟨f0,f1,f2,f6,f7,f11,f13,f14⟩:=δ;simp only[go_sem,Fa,f14,wZz i];refine fp (i+1,d,H2.frz o 1 rs) z1 ⟨hlt,?_⟩ (by simp only;omega) ?_ b_
  ·rw[J];have eB:(E.boxes v (.int .i64 O) e u y A d .aK ms.2).map (λb=>(b.1,b.2.frz o 1 rs))=E.boxes v (.int .i64 O) e u y A d .aK ms.2:=by show[(E.o,aY.rows 2 [[PV.dV o 1 rs v,.int .i64 ms.2]]),(E.o7,aY.rows 7 [[.int .i64 O,PV.dV o 1 rs e,PV.dV o 1 rs u,PV.dV o 1 rs y,PV.dV o 1 rs A,PV.dV o 1 rs d,.aK]]),(E.o6,flZ)]=_;rw[y0,y1,y2,y3,y4,y5]
   have e5:(rA g.1++[FP P (.osl o 1 0 ms.1.length)]).map (λr=>r.map (PV.dV o 1 rs))=rA (g.1++[P]):=by
    rw[biV,azX];have:([FP P (.osl o 1 0 ms.1.length)]:P2_).map (λr=>r.map (PV.dV o 1 rs))=[P.cells]:=by show[[PV.str P.name,.int .i64 P.k,.int .i64 P.m,.int .i64 P.bhB,.int .i64 P.s0,.int .i64 P.s1,.int .i64 P.s2,.int .i64 P.s3,.int .i64 P.s4,PV.dV o 1 rs (.osl o 1 0 ms.1.length),frs P.repair,.bool P.target.neg,aN P.target.num,aN P.target.den,.bool P.bgN.neg,aN P.bgN.num,aN P.bgN.den]]=_;rw[z2,<-η];rfl
    rw[this];simp[rA]
   have eL:(FE.lists e u y A d S U Q R (rA g.1++[FP P (.osl o 1 0 ms.1.length)])).map (λx=>(x.1,x.2.1,x.2.2.map λr=>r.map (PV.dV o 1 rs)))=FE.lists e u y A d S U Q R (rA (g.1++[P])):=by show[(e,4,(lT S).map _),(u,4,(nZ U).map _),(y,7,(oS Q).map _),(A,3,(rM R).map _),(d,17,(rA g.1++[FP P (.osl o 1 0 ms.1.length)]).map _)]=_;rw[axF,axH,atZ,auB,e5]
   rw[<-eB,<-eL];exact z5.sub (by rw[biV];exact List.sublist_append_left ..) (bkD.refl _)
  ·(repeat' (first|exact c_|refine d_ ?_ ?_))<;>first|(simp only[go_sem,f0,f1,f2,f6,f7,f11,f13]<;>rfl)|rfl
 ·have B:¬(i:Int)<(n:Nat):=Om;have:i=n:=Om;subst this;simp only[go_sem,B];exact hK V _ _ (ml Sq Sq Sq Sq Sq) W
theorem arR(U:sP C){l:List Nat}{v:PV}(T:Tp l v)(E:FE)(pc n a:Nat)(hn:n<=60)(β:pc<=50)(ha:a<=Z' l)(ext A B J M d:PV)(y:List cE)(R:Z' y=pc)(L:List LI)(K:cF)(F:PF)(H:PH)
  (Z:(((jX E).set 18 (.int .i64 n)).set 19 (.int .i64 0)).le F) (w:aR H (E.boxes v ext A B J M d .aK a) ((d,17,rA y)::L))
  (hK:∀u S H',(jX E).le S->aR H' (E.boxes v ext A B J M d u (fV l pc a n).2) ((d,17,rA y)::L++[(u,2,uF (fV l pc a n).1)])->K (.exit 8) S H') :
  aC.wp C (.loop VY) K F H:=by
 refine wp_loop (α:=Nat × PV × PH) (λt=>((jX E).set 18 (.int .i64 n)).set 19 (.int .i64 t.1)) (λt=>t.2.2) (λt=>t.1<=n/\aR t.2.2 (E.boxes v ext A B J M d t.2.1 (fV l pc a t.1).2) ((d,17,rA y)::L++[(t.2.1,2,uF (fV l pc a t.1).1)])) (λt=>n-t.1) (0,.aK,H) ⟨bhT _,w.qU 2⟩ Z b_ ?_;rintro⟨i,u,X⟩ ⟨hi,w⟩;simp only at hi w ⊢;obtain⟨k1,k2⟩:=QW l pc ha i;have x:fV l pc a (i+1)=((fV l pc a i).1++[⟨[118]++cP i,((aF l pc (fV l pc a i).2).1:Nat)⟩],(aF l pc (fV l pc a i).2).2):=rfl;simp only[go_sem,VY,Fe,jX];by_cases hlt:i<n
 ·have p:(i:Int)<(n:Nat):=Om;generalize hg:fV l pc a i=g at *
  have V:=w.set 0 rfl (bB v (aF l pc g.2).2);generalize O:aF l pc g.2=z at *
  have b1:=w.at 1 rfl;have W:=(w.own 0 rfl).uP;rw[bhO,R]at W;have N:(h_.set E.o7 (flB ext A B J M d u)).le X:=e_ a_ b1;simp only[go_sem,p];refine bV (h_.set E.o7 (flB ext A B J M d u)) (mkS l v) N ?_;simp only[go_sem,Ff];refine UE U.toAN (s:=[118]) (n:=i) aS Om rfl N ?_;simp only[go_sem,W];refine yU U.toAM T (o:=E.o) (n:=pc) (a:=g.2) Om k1 rfl (w.at 0 rfl) ?_ ?_
  ·rw[O];exact e_ a_ (V.at 1 rfl)
  rw[O];have Q:(1:Nat)*2<=16777216:=by decide
  simp only[go_sem,Q,biG,biO,or_false,forall_eq,forall_eq_or_imp];refine V.append (v:=u) (s:=2) (rows:=uF g.1) (Z' L+1) (src:=[(⟨[118]++cP i,(z.1:Nat)⟩:eG).cells]) bH rfl (by unfold roomFor;rw[bhO];simp only[biC,maxLen];omega) λw' H2 h5 hw=>?_;obtain⟨q,rfl⟩:=hw bH;rw[show((d,17,rA y)::L++[(u,2,uF g.1)])=((d,17,rA y)::L)++[(u,2,uF g.1)]from rfl,blC _ _ bH,show L.length+1-((d,17,rA y)::L).length=0 by simp]at h5;have b2:=h5.at 1 rfl;refine⟨e_ a_ b2,?_⟩;refine bV .nil eW a_ ?_;simp only[go_sem,Fg,b2,biG,biO,or_false,forall_eq];have Y:=h5.set 1 rfl (flB ext A B J M d (.osl q 2 0 (uF g.1++[(⟨[118]++cP i,(z.1:Nat)⟩:eG).cells]).length));refine⟨a_,?_⟩;simp only[go_sem,Fh,wZz i];refine aJ (i+1,.osl q 2 0 (uF g.1++[(⟨[118]++cP i,(z.1:Nat)⟩:eG).cells]).length,_) ⟨hlt,?_⟩ (by simp only;omega) ?_ b_
  ·rw[x];have e:uF (g.1++[⟨[118]++cP i,(z.1:Nat)⟩])=uF g.1++[(⟨[118]++cP i,(z.1:Nat)⟩:eG).cells]:=by simp[uF]
   simp only;rw[e];exact Y
  ·exact Lq
 ·have p:¬(i:Int)<(n:Nat):=Om;have:i=n:=Om;subst this;simp only[go_sem,p];exact hK u _ _ (ml rfl rfl rfl rfl rfl) w
def bw(l:List Nat)(v:PV)(o bgD bgF a:Nat)(r:PV)(H:PH):Prop:=Co r (.agg (kO l bgD bgF a).1.cells)/\H=h_.set o (bB v (kO l bgD bgF a).2)
structure Xs(C:Ctx):Prop extends sP C where
 grow:∀(l:List Nat)(v:PV),Tp l v->∀(mc bgD:Nat),0<mc->mc<=1000->bgD<=60->zy C l v mc bgD 4
theorem aNR(O:Xs C){l:List Nat}{v:PV}(T:Tp l v)(o bgD bgF a:Nat)(Γ:bgD<=60)(Φ:bgF<=50)(ha:a<=Z' l) :
  OS.wp C (aZ afR.res (bw l v o bgD bgF a)) (g_ [.ptr o 2 0 0,.int .i64 bgD,.int .i64 bgF]) (h_.set o (bB v a)):=by
 have hT:kO l bgD bgF a=kO l bgD bgF a:=rfl
 conv at hT=>rhs;unfold kO
 dsimp only at hT;have hR:∀r H,bw l v o bgD bgF a r H↔Co r (.agg (kO l bgD bgF a).1.cells)/\H=h_.set o (bB v (kO l bgD bgF a).2):=λ_ _=>Iff.rfl;have ne:=cG l (show 0<2 by decide) a;have ae:=bP l 2 ha;generalize he:aF l 2 a=e at *
 have Ψ:=cG l (show 0<2 by decide) e.2;have ε:=bP l 2 ae;generalize Δ:aF l 2 e.2=N at *
 obtain⟨Q,γ⟩:=VN l ε (1+N.1);generalize Z:kV l N.2 (1+N.1)=bgK at *
 have Ω:=cG l (show 0<2 by decide) bgK.2;have ζ:=bP l 2 Q;generalize Θ:aF l 2 bgK.2=i at *
 obtain⟨R,W⟩:=GZ l (1+N.1) ζ (1+i.1);generalize U:fT l (1+N.1) i.2 (1+i.1)=bgE at *
 have ι:GOk l bgD ⟨[rC],[],bgE.2⟩:=⟨by simp,bhT _,R⟩;obtain⟨hG,-⟩:=VA (mc:=1+i.1) 4 0 ι;generalize hg:gT l (1+i.1) bgD 4 0 ⟨[rC],[],bgE.2⟩=g at *
 have a':=cG l (show 0<2 by decide) g.a;have η:=bP l 2 hG.a;generalize Ξ:aF l 2 g.a=pl at *
 obtain⟨S,δ⟩:=BQ l (1+i.1) η (1+pl.1);generalize α:fF l (1+i.1) pl.2 (1+pl.1)=pols at *
 have b':=cG l (Om:0<bgF+1) pols.2;have ρ:=bP l (bgF+1) S;generalize ξ:aF l (bgF+1) pols.2=vo at *
 generalize β:fV l (1+pl.1) vo.2 vo.1=vols at *
 have ee:i_.wrap (1+(e.1:Int))=((1+e.1:Nat):Int):=by rw[wrap_i64 Om Om];omega
 have σ:i_.wrap (1+(N.1:Int))=((1+N.1:Nat):Int):=by rw[wrap_i64 Om Om];omega
 have τ:i_.wrap (1+(i.1:Int))=((1+i.1:Nat):Int):=by rw[wrap_i64 Om Om];omega
 have υ:i_.wrap (1+(pl.1:Int))=((1+pl.1:Nat):Int):=by rw[wrap_i64 Om Om];omega
 have χ:i_.wrap ((bgF:Int)+1)=((bgF+1:Nat):Int):=dZ Om;have h0:aR (h_.set o (bB v a)) [(o,bB v a)] []:=aR.nil.new (H:=h_) rfl (bB v a);simp only[go_sem,OS,Re,afR];refine aQ λo6 κ=>?_;have p:=h0.new κ flZ;simp only[go_sem,Rf];refine dR O.toAM T (o:=o) (n:=2) (a:=a) aS ha rfl (p.at 0 rfl) ?_;have w:=p.set 0 rfl (bB v e.2);rw[he];simp only[go_sem,ee];refine aQ λo7 μ=>?_;have F:=w.new μ (flB (.int .i64 (1+e.1:Nat)) .aK .aK .aK .aK .aK .aK);simp only[go_sem,Rh,biG,biO,or_false,forall_eq,forall_eq_or_imp];refine dR O.toAM T (o:=o) (n:=2) (a:=e.2) aS ae rfl (F.at 0 rfl) ?_;have h4:=F.set 0 rfl (bB v N.2);rw[Δ];have h5:=h4.perm (B':=FE.boxes ⟨o,o6,o7,bgD,bgF⟩ v (.int .i64 (1+e.1:Nat)) .aK .aK .aK .aK .aK .aK N.2) (L':=[]) (List.Perm.cons _ (List.Perm.swap _ _ _)) (List.Perm.refl _);obtain⟨E,d⟩:∃E:FE,E=⟨o,o6,o7,bgD,bgF⟩:=⟨_,rfl⟩;rw[<-d]at h5;simp only[go_sem,σ,Ri];refine aVK (C:=C) O.tosP T E (1+N.1) N.2 Om ε _ _ _ _ ?_ h5 ?_
 ·rw[d];unfold jX;exact Lq
 clear h5 h4 F w p h0 κ μ;intro u F1 H1 J p;rw[Z]at p;have f0:F1 0=some (.ptr o 2 0 0):=J 0 _ (by rw[d];unfold jX;simp only[go_sem]);have f1:F1 1=some (.int .i64 bgD):=J 1 _ (by rw[d];unfold jX;simp only[go_sem]);have f2:F1 2=some (.int .i64 bgF):=J 2 _ (by rw[d];unfold jX;simp only[go_sem]);have f6:F1 6=some (.ptr o6 7 0 0):=J 6 _ (by rw[d];unfold jX;simp only[go_sem]);have f7:F1 7=some (.ptr o7 7 0 0):=J 7 _ (by rw[d];unfold jX;simp only[go_sem]);have X:=p.at 0 rfl;rw[d]at X;simp only[go_sem,Es,f0];refine dR O.toAM T (o:=o) (n:=2) (a:=bgK.2) aS Q rfl X ?_;have w:=p.set 0 rfl (bB v i.2);rw[Θ];simp only[go_sem,τ,Et];refine aHS (C:=C) O.tosP T E (1+i.1) i.2 (1+N.1) Om Om ζ (.int .i64 (1+e.1:Nat)) u bgK.1 γ _ _ _ ?_ (by rw[d]at w ⊢;exact w) ?_
 ·rw[d];unfold jX;exact Lq
 clear X w p f0 f1 f2 f6 f7 J;intro w2 F2 H2 K f11 w;rw[U]at w;have f0:F2 0=some (.ptr o 2 0 0):=K 0 _ (by rw[d];unfold jX;simp only[go_sem]);have f1:F2 1=some (.int .i64 bgD):=K 1 _ (by rw[d];unfold jX;simp only[go_sem]);have f2:F2 2=some (.int .i64 bgF):=K 2 _ (by rw[d];unfold jX;simp only[go_sem]);have f6:F2 6=some (.ptr o6 7 0 0):=K 6 _ (by rw[d];unfold jX;simp only[go_sem]);have f7:F2 7=some (.ptr o7 7 0 0):=K 7 _ (by rw[d];unfold jX;simp only[go_sem]);obtain⟨qm,ν⟩:=(w.own 1 rfl).one (by rw[bhO];omega);rw[bhO,W]at ν;subst ν;have ψ:(1:Nat)*7<=16777216:=by decide
 simp only[go_sem,Ez];refine aB (O.int 0 (by unfold dL;omega)) rfl ?_;simp only[go_sem,biG,biO,or_false,forall_eq,forall_eq_or_imp,ψ];refine aQ λod Λ=>?_;have F:=w.aWE (s:=7) (rows:=oS [rC]) Λ;have b7:=w.at 1 rfl;rw[d]at b7;have n7:¬o7=od:=by have:=F.neL 1 2 rfl rfl rfl;rw[d]at this;exact this
 simp only[go_sem,f7,b7,n7,biG,biO,or_false,forall_eq];have h4:=(F.set 1 rfl (flB (.int .i64 (1+e.1:Nat)) u (.osl qm 4 0 (1+i.1)) (.osl od 7 0 1) .aK .aK .aK)).qU 3;rw[d]at h4;have h5:=h4.perm (B':=(GE.mk o o7 qm (.int .i64 (1+e.1:Nat)) u .aK .aK).boxes v (1+i.1) (.osl od 7 0 1) .aK bgE.2++[(o6,flZ)]) (L':=qZ ⟨[rC],[],bgE.2⟩ (.osl od 7 0 1) .aK++[(u,4,lT bgK.1),(.osl qm 4 0 (1+i.1),4,nZ bgE.1)]) (List.Perm.refl _)
  (List.perm_append_comm (l₁:=[(u,4,lT bgK.1),(.osl qm 4 0 (1+i.1),4,nZ bgE.1)]) (l₂:=qZ ⟨[rC],[],bgE.2⟩ (.osl od 7 0 1) .aK))
 simp only[go_sem,E0,f0,f1,f7];refine RD h5 (λH0 ω=>O.grow l v T (1+i.1) bgD Om Om Γ (GE.mk o o7 qm (.int .i64 (1+e.1:Nat)) u .aK .aK) (.osl od 7 0 1) .aK ⟨[rC],[],bgE.2⟩ 0 rC ι rfl rfl H0 ω) (by simp only[go_sem,f0,f1,f7];rfl) ?_;rintro r B' L' H3 ⟨rfl,A,B,rfl,rfl⟩ h6;rw[hg]at h6;have h7:=h6.perm (B':=E.boxes v (.int .i64 (1+e.1:Nat)) u (.osl qm 4 0 (1+i.1)) A B .aK .aK g.a) (L':=[(u,4,lT bgK.1),(.osl qm 4 0 (1+i.1),4,nZ bgE.1),(A,7,oS g.bgM),(B,3,rM g.bgW)]) (by rw[d];exact List.Perm.refl _)
  (List.perm_append_comm (l₁:=qZ g A B) (l₂:=[(u,4,lT bgK.1),(.osl qm 4 0 (1+i.1),4,nZ bgE.1)]))
 have X:=h7.at 0 rfl;rw[d]at X;simp only[go_sem,E4,f0];refine dR O.toAM T (o:=o) (n:=2) (a:=g.a) aS hG.a rfl X ?_;have h8:=h7.set 0 rfl (bB v pl.2);rw[Ξ];simp only[go_sem,υ,E5];refine afQ (C:=C) O.tosP T E (1+i.1) (1+pl.1) pl.2 Om Om Om η ((1+e.1:Nat):Int) u (.osl qm 4 0 (1+i.1)) A B bgK.1 bgE.1 g.bgM g.bgW _ _ _ (by rw[d];exact⟨by simp only[go_sem,f0],by simp only[go_sem,f1],by simp only[go_sem,f2],by simp only[go_sem,f6],by simp only[go_sem,f7],by simp only[go_sem,f11],s_,by simp only[go_sem];rfl⟩) (by rw[d]at h8 ⊢;exact h8) ?_;clear h8 h7 h6 h5 h4 F w X b7 f0 f1 f2 f6 f7 K;intro Y F4 H4 M p;rw[α]at p;have f0:F4 0=some (.ptr o 2 0 0):=M 0 _ (by rw[d];unfold jX;simp only[go_sem]);have f1:F4 1=some (.int .i64 bgD):=M 1 _ (by rw[d];unfold jX;simp only[go_sem]);have f2:F4 2=some (.int .i64 bgF):=M 2 _ (by rw[d];unfold jX;simp only[go_sem]);have f6:F4 6=some (.ptr o6 7 0 0):=M 6 _ (by rw[d];unfold jX;simp only[go_sem]);have f7:F4 7=some (.ptr o7 7 0 0):=M 7 _ (by rw[d];unfold jX;simp only[go_sem]);have X:=p.at 0 rfl;rw[d]at X;simp only[go_sem,Fb,f0,f2,χ];refine dR O.toAM T (o:=o) (n:=bgF+1) (a:=pols.2) Om S rfl X ?_;have w:=p.set 0 rfl (bB v vo.2);rw[ξ];have F:=w.perm (B':=E.boxes v (.int .i64 (1+e.1:Nat)) u (.osl qm 4 0 (1+i.1)) A B Y .aK vo.2) (L':=(Y,17,rA pols.1)::[(u,4,lT bgK.1),(.osl qm 4 0 (1+i.1),4,nZ bgE.1),(A,7,oS g.bgM),(B,3,rM g.bgW)]) (List.Perm.refl _)
  (List.perm_append_comm (l₁:=[(u,4,lT bgK.1),(.osl qm 4 0 (1+i.1),4,nZ bgE.1),(A,7,oS g.bgM),(B,3,rM g.bgW)]) (l₂:=[(Y,17,rA pols.1)]))
 simp only[go_sem,Fc];refine arR (C:=C) O.tosP T E (1+pl.1) vo.1 vo.2 Om Om ρ _ _ _ _ _ Y pols.1 δ _ _ _ _ ?_ (by rw[d]at F ⊢;exact F) ?_
 ·rw[d];unfold jX;exact Lq
 clear F w p X f0 f1 f2 f6 f7 M;intro w6 F5 H5 θ p;rw[β]at p;have f6:F5 6=some (.ptr o6 7 0 0):=θ 6 _ (by rw[d];unfold jX;simp only[go_sem]);have f7:F5 7=some (.ptr o7 7 0 0):=θ 7 _ (by rw[d];unfold jX;simp only[go_sem]);rw[d]at p;have b7:=p.at 1 rfl;have b6:=p.at 2 rfl;have one:∀(x:PV),x∈[u,A,B,Y,w6]->(∃q s n,x=.osl q s 0 n)\/x=.aK:=by
  intro x hx;have V:∀{s:Nat}{rows:P2_},cA H5 s x rows->(∃q s n,x=.osl q s 0 n)\/x=.aK:=by
   rintro s rows (⟨_,h⟩|⟨q,rs,h,_⟩)
   ·exact .inr h
   ·exact .inl ⟨q,s,_,h⟩
  simp only[biG,biO,or_false]at hx;rcases hx with rfl|rfl|rfl|rfl|rfl
  ·exact V (p.own 1 rfl)
  ·exact V (p.own 3 rfl)
  ·exact V (p.own 4 rfl)
  ·exact V (p.own 0 rfl)
  ·exact V (p.own 5 rfl)
 have y:∀(x:PV),x∈[u,A,B,Y,w6]->PV.one x=true:=λx hx=>by rcases one x hx with⟨q,s,n,rfl⟩|rfl<;>rfl
 have o1:=y u bH;have o3:=y A bH;have o4:=y B bH;have o5:=y Y bH;have ο:=y w6 bH;simp only[PV.one]at o1 o3 o4 o5 ο;simp only[go_sem,Fi,f6,f7,b7,b6,biG,biO,or_false,forall_eq,forall_eq_or_imp,o1,o3,o4,o5,ο];have w:=p.set 2 rfl (flB (.int .i64 (1+e.1:Nat)) u (.osl qm 4 0 (1+i.1)) A B Y w6);have F:=w.sub (B':=[(o,bB v vols.2)]) (bkD.cons_cons _ (List.nil_sublist _)) (bkD.refl _);obtain⟨φ,H6,k1,k2,k3,k4⟩:=aR.giveUp _ F (λx hx=>by
  simp only[List.cons_append,blM,biG,biO,or_false]at hx;rcases hx with rfl|rfl|rfl|rfl|rfl|rfl
  ·exact azX _
  ·exact axF _
  ·exact axH _
  ·exact atZ _
  ·exact auB _
  ·exact a5C _) (λb hb q s rs=>by
  simp only[biG,biO,or_false]at hb;subst hb;simp only[aY.frz,biU,bjP,T.frz];rfl)
 refine AA (vs:=[.agg [.int .i64 (1+e.1:Nat),u,.osl qm 4 0 (1+i.1),A,B,Y,w6]]) (.inr rfl) (by simp only[go_sem,f6]) (k4 _ _ (.done (H2:=h_.set o (bB v vols.2)) ?_ (e_ a_ (k3.at 0 rfl))));rw[hR,hT];refine⟨CoL.agg ?_,rfl⟩;have s5:=k1 (Y,17,rA pols.1) bH;have s1:=k1 (u,4,lT bgK.1) bH;have s2:=k1 (.osl qm 4 0 (1+i.1),4,nZ bgE.1) bH;have s3:=k1 (A,7,oS g.bgM) bH;have s4:=k1 (B,3,rM g.bgW) bH;have s6:=k1 (w6,2,uF vols.1) bH;have s0:φ (.int .i64 (1+e.1:Nat))=.int .i64 (1+e.1:Nat):=k2 _ rfl;show CoL [φ (.int .i64 (1+e.1:Nat)),φ u,φ (.osl qm 4 0 (1+i.1)),φ A,φ B,φ Y,φ w6] _;rw[s0];exact CoL.cons (.refl _) (CoL.cons s1.co (CoL.cons s2.co (CoL.cons s3.co (CoL.cons s4.co (CoL.cons s5.co (CoL.cons s6.co .nil))))))
structure aLD(C:Ctx):Prop extends Xs C where
 new:∀(l:List Nat),(∀x∈l,x<256)->Z' l<=9223372036854775807->aH C 28 [.sl 1 (mE l)] .nil (J1 l)
 fleet:∀(l:List Nat)(v:PV),Tp l v->∀(o bgD bgF a:Nat),bgD<=60->bgF<=50->a<=Z' l ->
  aH C 0 [.ptr o 2 0 0,.int .i64 bgD,.int .i64 bgF] (h_.set o (bB v a)) (λr H=>r=.agg (kO l bgD bgF a).1.cells/\H=h_.set o (bB v (kO l bgD bgF a).2))
theorem bw.exact{name:Nat}{args:List PV}{H:PH}{l:List Nat}{v:PV}{o bgD bgF a:Nat}(h:aH C name args H (bw l v o bgD bgF a)):aH C name args H (λr H=>r=.agg (kO l bgD bgF a).1.cells/\H=h_.set o (bB v (kO l bgD bgF a).2)):=
 h.post λr H' d=>⟨_,d.1,rfl,d.2⟩
theorem aNQ(u:aLD C)(l:List Nat)(hb:∀x∈l,x<256)(y:Z' l<=9223372036854775807)(bgD bgF:Nat)(d:bgD<=60)(p:bgF<=50) :
  OQ.wp C (aZ afG.res (cM (.agg (kO (l.take 400) bgD bgF 0).1.cells))) (g_ [.sl 1 (mE l),.int .i64 bgD,.int .i64 bgF]) .nil:=by
 simp only[go_sem,OQ,Q7,afG];refine aQ λo6 A=>?_;simp only[go_sem,Q8];refine nE (u.new l hb y) rfl a_ ?_;rintro r H' ⟨o,v,rfl,T,rfl⟩ w;have i:¬o6=o:=by intro e;subst e;have:=w o6 (bB v 0) (by rw[bC,aG rfl]) rfl;rw[bC,aG rfl]at this;cases this
 rw[PH.qV];simp only[go_sem];refine qI (u.fleet _ v T o bgD bgF 0 d p (bhT _)) (by rw[bC,aG rfl]) rfl ?_;simp only[go_sem,i];exact bE (vs:=[.agg (kO (l.take 400) bgD bgF 0).1.cells]) (.inr rfl) .nil Sq a_ ⟨.refl _,rfl⟩
theorem CoL.bdP:CoL [] []:=⟨rfl,λj p q h=>by simp at h⟩
theorem CoL.aFK{p q:PV}{ps e:List PV}(h:Co p q)(d:CoL ps e):CoL (p::ps) (q::e):=by
 refine⟨by simp[d.len],λj x y a b=>?_⟩;cases j with
 |zero =>simp only[List.getElem?_cons_zero,bjV.injEq]at a b;subst a;subst b;exact h
 |succ j=>exact d.at_ j x y (by simpa using a) (by simpa using b)
theorem aH.seen{name:Nat}{args:List PV}{H:PH}{v:PV}(h:aH C name args H (cM v)):aH C name args H (aI v):=
 h.post λr H' d=>⟨v,d.1,rfl,d.2⟩
def mz(x:RF):Bool:=(x.num.all (λn=>decide (n<4294967296))&&x.den.all λn=>decide (n<4294967296))&&(decide (Z' x.num<=9)&&decide (Z' x.den<=9))
theorem XU{x:RF}(h:mz x=true):x.Ok:=by
 simp only[mz,bhQ,biB,dT_]at h;exact⟨h.1.1,h.1.2,by omega,by omega⟩
def SO(l:List RF):Bool:=decide (Z' l<=9)&&l.all mz
theorem NA{l:List RF}(h:SO l=true):oC l:=by
 simp only[SO,bhQ,biB,dT_]at h;exact⟨by unfold Fits;omega,λx d=>XU (h.2 x d)⟩
def aeG(x:cW):Bool:=(SO x.start&&SO x.exit)&&(decide (Z' x.bgI<=9)&&x.bgI.all SO)
theorem aNE{x:cW}(h:aeG x=true):x.Ok:=by
 simp only[aeG,bhQ,biB,dT_]at h;exact⟨NA h.1.1,NA h.1.2,by unfold Fits;omega,λr d=>NA (h.2.2 r d)⟩
def ajO(x:cE):Bool:=(decide (dL x.k/\dL x.m/\dL x.bhB)&&(decide (Z' x.bgE<=9)&&x.bgE.all λm=>decide (dL m)))&&(SO x.repair&&(mz x.target&&mz x.bgN))
theorem aOZ{x:cE}(h:ajO x=true):x.Ok:=by
 simp only[ajO,bhQ,biB,dT_]at h;exact⟨h.1.1.1,h.1.1.2.1,h.1.1.2.2,by unfold Fits;omega,h.1.2.2,NA h.2.1,XU h.2.2.1,XU h.2.2.2⟩
def okB(f:aD):Bool:=(decide (Z' f.bgK<=99/\Z' f.bgE<=99/\Z' f.bgG<=99/\Z' f.bgD<=99/\Z' f.bgH<=99/\Z' f.bgF<=99)&&(f.bgK.all aeG&&f.bgH.all ajO)) &&
 (f.bgG.all (λx=>mz x.bgS&&decide (dL x.level/\dL x.parent))&&(f.bgD.all (λx=>decide (dL x.model/\dL x.machine))&&f.bgF.all λx=>decide (dL x.bgP)))
theorem a6X{f:aD}(h:okB f=true):f.Ok:=by
 simp only[okB,bhQ,biB,dT_]at h;obtain⟨⟨⟨u,w,y,A,B,E⟩,i,l⟩,e,p,h5⟩:=h;exact⟨by unfold Fits;omega,by unfold Fits;omega,by unfold Fits;omega,by unfold Fits;omega,by unfold Fits;omega,by unfold Fits;omega,λx d=>aNE (i x d),λx d=>⟨XU (e x d).1,(e x d).2⟩,p,λx d=>aOZ (l x d),h5⟩
def gR:=bT [43] Proofs.Tryz.f158
def Ud:=aA gR 0
def Ue:=aA gR 1
def Uf:=aA gR 2
def Ug:=aA gR 3
def Uh:=aA gR 4
def Ui:=aA gR 5
def Uj:=aA gR 6
def Uk:=aA gR 7
def j2:=aA gR 8
def j3:=aA gR 9
def YU:=aA gR 10
def YV:=aA gR 11
def YW:=aA gR 12
def HJ:=aA gR 13
def HK:=aA gR 14
def Ho:aC:=(dK Uh 13 0 HK (sq Ui (jB Uj 20 (.region Uk) (sq j2 (sq j3 (jB YU 35 (sq YV (.region YW)) (.region HJ)))))))
def Hq:=aA gR 15
def QT:aC:=(sq Ud (sq Ue (sq Uf (.seq (cH Ug 0 Ho) (sq Hq .ret)))))
def aoG:bD:=⟨2,47,QT,[.tmp 4]⟩
def kK:=bT [51] Proofs.Tryz.f174
def aoM:=aA kK 0
def aoN:=aA kK 1
def aoO:=aA kK 2
def aoP:=aA kK 3
def aoQ:=aA kK 4
def zb:=aA kK 5
def zc:=aA kK 6
def zd:=aA kK 7
def YZ:=aA kK 8
def ZA:=aA kK 9
def NJ:=aA kK 10
def NK:=aA kK 11
def NL:=aA kK 12
def Um:aC:=(dK aoQ 22 0 NL (sq zb (jB zc 29 (.region zd) (jB YZ 40 (.region ZA) (sq NJ (.region NK))))))
def j6:=aA kK 13
def YY:aC:=(sq aoM (sq aoN (sq aoO (.seq (cH aoP 0 Um) (sq j6 .ret)))))
def aKD:bD:=⟨2,57,YY,[.tmp 4]⟩
def jO:=bT [] Proofs.Tryz.f154
def Un:=aA jO 0
def Uo:=aA jO 1
def Uq:=aA jO 2
def Ur:=aA jO 3
def j9:=aA jO 4
def ka:=aA jO 5
def Us:=aA jO 6
def Ut:=cV jO 0
def Uu:=aA jO 7
def Uv:=aA jO 8
def Hv:=aA jO 9
def ZB:aC:=(dK Us 25 2 Hv (dq Ut (sq Uu (.region Uv))))
def ZC:=aA jO 10
def Hw:=aA jO 11
def Hu:aC:=(dK Ur 19 0 Hw (sq j9 (.seq (cH ka 2 ZB) (.region ZC))))
def Hx:=aA jO 12
def QU:aC:=(sq Un (sq Uo (.seq (cH Uq 0 Hu) (sq Hx .ret))))
def aoR:bD:=⟨2,68,QU,[.tmp 4]⟩
def wC:=bT [] Proofs.Tryz.f162
def aAY:=aA wC 0
def aAZ:=aA wC 1
def Mv:=aA wC 2
def aBA:=aA wC 3
def aBB:=aA wC 4
def aBC:=aA wC 5
def aBD:=aA wC 6
def ju:aC:=(sq aAY (dP aAZ 12 Mv (sq aBA (dP aBB 19 aBC (sq aBD .ret)))))
def aXX:bD:=⟨2,21,ju,[.tmp 4,.tmp 5]⟩
def AF:=bT [] Proofs.Tryz.f164
def aCK:=aA AF 0
def aCL:=aA AF 1
def M0:=aA AF 2
def aCM:=aA AF 3
def aCN:=aA AF 4
def aCO:=aA AF 5
def j8:aC:=(sq aCK (dP aCL 11 M0 (dP aCM 15 aCN (sq aCO .ret))))
def aYN:bD:=⟨2,21,j8,[.tmp 4,.tmp 5]⟩
def wE:=bT [] Proofs.Tryz.f129
def aCC:=aA wE 0
def aCD:=aA wE 1
def Mz:=aA wE 2
def aCE:=aA wE 3
def aCF:=aA wE 4
def aCG:=aA wE 5
def aCH:=aA wE 6
def j4:aC:=(sq aCC (dP aCD 12 Mz (sq aCE (dP aCF 19 aCG (sq aCH .ret)))))
def aYF:bD:=⟨2,21,j4,[.tmp 4,.tmp 5]⟩
def oM:=bT [] Proofs.Tryz.f156
def anG:=aA oM 0
def anH:=aA oM 1
def anI:=aA oM 2
def anJ:=aA oM 3
def anK:=aA oM 4
def anL:=aA oM 5
def anM:=aA oM 6
def anN:=aA oM 7
def anO:=aA oM 8
def anF:aC:=(dK anM 21 0 anO (.region anN))
def T8:=aA oM 9
def YO:aC:=(sq anG (sq anH (dP anI 9 anJ (sq anK (.seq (cH anL 0 anF) (sq T8 .ret))))))
def aJU:bD:=⟨1,27,YO,[.tmp 2]⟩
def pN:=bT [35,42] Proofs.Tryz.f157
def aQW:=aA pN 0
def aQX:=aA pN 1
def aQY:=aA pN 2
def aQZ:=aA pN 3
def aRA:=aA pN 4
def aRB:=aA pN 5
def aRC:=aA pN 6
def aRD:=aA pN 7
def aRE:=aA pN 8
def aRF:=aA pN 9
def aCQ:=aA pN 10
def aCP:aC:=(dK aRC 18 0 aCQ (sq aRD (sq aRE (.region aRF))))
def aCR:=aA pN 11
def zf:aC:=(sq aQW (dP aQX 11 aQY (sq aQZ (sq aRA (.seq (cH aRB 0 aCP) (sq aCR .ret))))))
def uup:bD:=⟨2,45,zf,[.tmp 4]⟩
def mD:=bT [47] Proofs.Tryz.f159
def anU:=aA mD 0
def anV:=aA mD 1
def anW:=aA mD 2
def anX:=aA mD 3
def anY:=aA mD 4
def anZ:=aA mD 5
def aoA:=aA mD 6
def aoB:=aA mD 7
def aoC:=aA mD 8
def za:=aA mD 9
def jy:=aA mD 10
def T9:aC:=(dK anZ 18 0 jy (sq aoA (jB aoB 30 (.region aoC) (.region za))))
def Ua:=aA mD 11
def YS:aC:=(sq anU (dP anV 12 anW (sq anX (.seq (cH anY 0 T9) (sq Ua .ret)))))
def aJY:bD:=⟨2,51,YS,[.tmp 4]⟩
def tr:=bT [1] Proofs.Tryz.f30
def Ve:=aA tr 0
def Vf:=aA tr 1
def RA:aC:=(sq Ve (sq Vf .ret))
def aqB:bD:=⟨1,22,RA,[.tmp 2]⟩
def tq:=bT [1] Proofs.Tryz.f175
def Uy:=aA tq 0
def Uz:=aA tq 1
def QV:aC:=(sq Uy (sq Uz .ret))
def apG:bD:=⟨1,13,QV,[.tmp 2]⟩
def HL:=bT [1] Proofs.Tryz.f163
def apB:=aA HL 0
def apC:=aA HL 1
def apD:=aA HL 2
def apE:=aA HL 3
def ZE:aC:=(sq apB (dP apC 5 apD (sq apE .ret)))
def aKJ:bD:=⟨1,8,ZE,[.cell 2 (some 3),.tmp 3]⟩
def CG:=bT [1] Proofs.Tryz.f105
def Ij:=aA CG 0
def Ik:=aA CG 1
def Il:=aA CG 2
def Im:=aA CG 3
def LG:aC:=(sq Ij (dP Ik 6 Il (sq Im .ret)))
def M6:bD:=⟨1,15,LG,[.cell 2 (some 3),.tmp 3]⟩
def QZ:=bT [] Proofs.Tryz.f87
def Vb:=aA QZ 0
def Vc:=aA QZ 1
def Vd:=aA QZ 2
def QY:aC:=(sq Vb (sq Vc (sq Vd .ret)))
def aqA:bD:=⟨2,14,QY,[.tmp 4]⟩
def mS:=bT [2,3] Proofs.Tryz.f38
def U1:=aA mS 0
def U2:=cV mS 0
def U3:=aA mS 1
def U4:=aA mS 2
def U5:=aA mS 3
def U6:=aA mS 4
def U7:=aA mS 5
def U8:=aA mS 6
def U9:=aA mS 7
def Va:=aA mS 8
def QX:aC:=(sq U1 (dq U2 (sq U3 (.seq (.block 0 (sq U4 (.cond (Tm 33) (sq U5 .ret) (sq U6 (.cond (Tm 39) (sq U7 .ret) (sq U8 (.cond (Tm 45) (sq U9 .ret) .skip))))))) (sq Va .ret)))))
def apQ:bD:=⟨2,53,QX,[.tmp 4]⟩
def Ia:=bT [2,3] Proofs.Tryz.f12
def apH:=aA Ia 0
def apI:=aA Ia 1
def ZF:aC:=(sq apH (sq apI .ret))
def aKL:bD:=⟨2,9,ZF,[.tmp 4]⟩
def In:=bT [2,3] Proofs.Tryz.f31
def apR:=aA In 0
def apS:=aA In 1
def ZJ:aC:=(sq apR (sq apS .ret))
def aKO:bD:=⟨2,9,ZJ,[.tmp 4]⟩
def Io:=bT [1] Proofs.Tryz.f62
def apT:=aA Io 0
def apU:=cV Io 0
def ZK:aC:=(sq apT (dq apU .ret))
def aKP:bD:=⟨1,6,ZK,[.tmp 2]⟩
def nP:=bT [2,3] Proofs.Tryz.f141
def aCS:=aA nP 0
def aCT:=aA nP 1
def M1:=aA nP 2
def aCU:=cV nP 0
def aCV:=aA nP 3
def aCW:=aA nP 4
def aCX:=aA nP 5
def aCY:=aA nP 6
def aCZ:=aA nP 7
def aDA:=aA nP 8
def aoX:=aA nP 9
def aoY:=aA nP 10
def NM:aC:=(sq aCS (dP aCT 22 M1 (dq aCU (jB aCV 43 (sq aCW (sq aCX .ret)) (jB aCY 61 (sq aCZ (sq aDA .ret)) (sq aoX (sq aoY .ret)))))))
def aKG:bD:=⟨2,90,NM,[.cell 4 (some 3),.tmp 5]⟩
def qH:=bT [] Proofs.Tryz.f104
def aDF:=aA qH 0
def aDG:=aA qH 1
def aDH:=aA qH 2
def aDI:=aA qH 3
def aDJ:=cV qH 0
def M7:=aA qH 4
def aDK:=aA qH 5
def aDL:=aA qH 6
def aDM:=aA qH 7
def aDE:aC:=(dK aDI 12 0 aDM (dq aDJ (dP M7 25 aDK (.region aDL))))
def apZ:=aA qH 8
def kg:aC:=(sq aDF (sq aDG (.seq (cH aDH 0 aDE) (sq apZ .ret))))
def aYX:bD:=⟨1,30,kg,[.cell 2 (some 3),.tmp 3]⟩
def G1:=bT [] Proofs.Tryz.f106
def DL:=aA G1 0
def DM:=aA G1 1
def tX:aC:=(sq DL (sq DM .ret))
def XW:bD:=⟨2,25,tX,[.tmp 4]⟩
def kn:=bT [] Proofs.Tryz.f139
def I1:=aA kn 0
def I2:=aA kn 1
def LK:aC:=(sq I1 (sq I2 .ret))
def Nc:bD:=⟨1,17,LK,[.tmp 2]⟩
def tt:=bT [] Proofs.Tryz.f161
def Vh:=aA tt 0
def Vi:=aA tt 1
def RC:aC:=(sq Vh (sq Vi .ret))
def aqC:bD:=⟨1,9,RC,[.tmp 2]⟩
def kk:=bT [] Proofs.Tryz.f140
def Iq:=aA kk 0
def Ir:=aA kk 1
def LH:aC:=(sq Iq (sq Ir .ret))
def M9:bD:=⟨1,17,LH,[.tmp 2]⟩
def nC:=bT [] Proofs.Tryz.f101
def It:=aA nC 0
def Iu:=aA nC 1
def HP:=aA nC 2
def Iv:=aA nC 3
def Iw:=aA nC 4
def Ix:=aA nC 5
def Iy:=aA nC 6
def Iz:=aA nC 7
def Is:aC:=(dK Iw 21 0 Iz (sq Ix (.cond (Tm 28) (sq Iy .ret) .skip)))
def I0:=aA nC 8
def LJ:aC:=(sq It (dP Iu 17 HP (.seq (cH Iv 0 Is) (sq I0 .ret))))
def Nb:bD:=⟨1,29,LJ,[.tmp 2]⟩
theorem xC(P:List Nat)(v:Nat):aO P++[[.int .u32 (v:Int)]]=aO (P++[v]):=by simp[aO]
theorem xB{P:List Nat}(h:Z' P<=35184372087808):roomFor (aO P).length 1 4:=by
 unfold roomFor;rw[cR];simp only[maxLen];omega
def nr(a b:List Nat)(v:PV)(c i:Nat):PF:=(((((n_.set 0 (aN a)).set 1 (aN b)).set 5 (v)).set 6 (.int .u64 c)).set 7 (.int .i64 i))
theorem aQR(L:wK C)(a b:List Nat)(ha:Lim a)(hb:Lim b)(η:val b<=val a)(hl:Z' b<=Z' a)(h1:Z' a<=35184372087808) :
  QT.wp C (aZ aoG.res (cM (aN (aL (val a-val b))))) (g_ [aN a,aN b]) .nil:=by
 simp only[go_sem,QT,Ud,Ue,Uf,Ug,aoG];refine wp_loop (α:=List Nat × Nat × PV × PH) (λs=>nr a b s.2.2.1 s.2.1 s.1.length) (λs=>s.2.2.2)
  (λs=>s.1.length<=Z' a/\Lim s.1/\s.2.1<=1/\val (a.take s.1.length)+4294967296^s.1.length*s.2.1=val s.1+val (b.take s.1.length)/\cA s.2.2.2 1 s.2.2.1 (aO s.1)) (λs=>Z' a-s.1.length) ([],0,.aK,.nil) ⟨by simp,by simp[Lim],by simp,by simp[val],.nil⟩ ?_ a_ ?_
 ·unfold nr;exact Lq
 rintro⟨P,c,v,H0⟩ ⟨hP,i,hc,A,S⟩;simp only at hP i hc A S ⊢;simp only[go_sem,Ho,Uh,nr];by_cases U:Z' P<Z' a
 ·have E:(Z' P:Int)<(Z' a:Nat):=Om;have ε:=ha _ (bhS U);have δ:=dA a U;have β:(aO a)[Z' P]?=some [.int .u32 ((a[Z' P]:Nat):Int)]:=cI a U;generalize hx:a[Z' P]=x at *
  have ex:u_.wrap ((x:Nat):Int)=((x:Nat):Int):=bS Om;have fin:∀(t:Nat)(B:PF),t<4294967296->val (b.take (Z' P+1))=val (b.take P.length)+4294967296^P.length*t ->
    B 0=some (aN a)->B 1=some (aN b)->B 5=some v->B 8=some (.int .u64 (c+t:Nat))->B 7=some (.int .i64 P.length) ->
    ∀K:cF,(∀w l v' R H2,Z' w=Z' P+1->Lim w->l<=1->val (a.take (Z' P+1))+4294967296^w.length*l=val w+val (b.take (Z' P+1))->(nr a b v' l w.length).le R->cA H2 1 v' (aO w)->K .normal R H2) ->
    aC.wp C (.seq (.region j2) (.seq (.region j3) (.seq (.seq (.region YU) (.cond (.tmp 35) (.seq (.region YV) (.region YW)) .skip)) (.region HJ)))) (fS 1 (kB C (aC.wp C (.region HK)) K)) B H0:=by
   intro t B ht u g0 g1 g5 Z Y K hK;have step:∀(d l:Nat),d<4294967296->l<=1->x+4294967296*l=d+(c+t)->val (a.take (Z' P+1))+4294967296^(Z' P+1)*l=val (P++[d])+val (b.take (Z' P+1)):=by
    intro d l hd ζ he;have h2:4294967296^P.length*(x+4294967296*l)=4294967296^P.length*(d+(c+t)):=by rw[he]
    rw[biH,biH,biH]at h2;rw[mZ,bjU,biT,δ,u];omega
   simp only[go_sem,j2,g0,Y,β,ex,j3,YU,Z];by_cases c2:x<c+t
   ·have F:((x:Nat):Int)<((c+t:Nat):Int):=Om;have N:u_.wrap ((x:Int)+4294967296)=((x+4294967296:Nat):Int):=by rw[show(x:Int)+4294967296=((x+4294967296:Nat):Int) by omega];exact bS Om
    have e2:u_.wrap (((x+4294967296:Nat):Int)-((c+t:Nat):Int))=((x+4294967296-(c+t):Nat):Int):=by rw[show((x+4294967296:Nat):Int)-((c+t:Nat):Int)=((x+4294967296-(c+t):Nat):Int) by omega];exact bS Om
    have J:IntKind.u32.wrap ((x+4294967296-(c+t):Nat):Int)=((x+4294967296-(c+t):Nat):Int):=by rw[dH,bjM Om]
    have M:(1:Nat)*1<=16777216:=by decide
    simp only[go_sem,F,YV,N,YW,HJ,g5,Z,e2,J,M];refine fL (src:=[[.int .u32 ((x+4294967296-(c+t):Nat):Int)]]) S rfl (xB Om) λv' H' p _=>?_;rw[xC]at p;simp only[go_sem,HK,Y,dZ (Om:Z' P<9223372036854775807)];refine hK _ 1 v' _ H' bH (i.app λy Q=>by simp at Q;subst Q;omega) (bhV _) ?_ ?_ p
    ·rw[bhW,biC];exact step _ 1 Om (bhV _) Om
    ·unfold nr;rw[bhW,biC];exact Lq
   ·have F:¬((x:Nat):Int)<((c+t:Nat):Int):=Om;have e2:u_.wrap (((x:Nat):Int)-((c+t:Nat):Int))=((x-(c+t):Nat):Int):=by rw[show((x:Nat):Int)-((c+t:Nat):Int)=((x-(c+t):Nat):Int) by omega];exact bS Om
    have J:IntKind.u32.wrap ((x-(c+t):Nat):Int)=((x-(c+t):Nat):Int):=by rw[dH,bjM Om]
    have M:(1:Nat)*1<=16777216:=by decide
    simp only[go_sem,F,HJ,g5,Z,e2,J,M];refine fL (src:=[[.int .u32 ((x-(c+t):Nat):Int)]]) S rfl (xB Om) λv' H' p _=>?_;rw[xC]at p;simp only[go_sem,HK,Y,dZ (Om:Z' P<9223372036854775807)];refine hK _ 0 v' _ H' bH (i.app λy Q=>by simp at Q;subst Q;omega) aS ?_ ?_ p
    ·rw[bhW,biC];exact step _ 0 Om aS Om
    ·unfold nr;rw[bhW,biC];exact Lq
  simp only[aC.wp,go_sem]at fin;simp only[go_sem,E,Ui,Uj];by_cases V:Z' P<Z' b
  ·have H:(Z' P:Int)<(Z' b:Nat):=Om;have γ:=hb _ (bhS V);have u:=dA b V;have eb:u_.wrap ((b[Z' P]:Nat):Int)=((b[Z' P]:Nat):Int):=bS Om;have es:u_.wrap ((c:Int)+(b[Z' P]:Int))=((c+b[Z' P]:Nat):Int):=iV Om;simp only[go_sem,H,Uk,cI b V,eb,es];refine fin b[Z' P] _ γ u rfl rfl rfl rfl rfl _ ?_;intro w l v' R H2 N e2 J O W X;rw[<-N]at O;exact aJ (α:=List Nat × Nat × PV × PH) (w,l,v',H2) ⟨by simp only;omega,e2,J,O,X⟩ (by simp only;omega) W b_
  ·have H:¬(Z' P:Int)<(Z' b:Nat):=Om;have u:val (b.take (Z' P+1))=val (b.take P.length)+4294967296^P.length*0:=by rw[biK Om,biK Om];simp
   simp only[go_sem,H];refine fin 0 _ aS u rfl rfl rfl rfl rfl _ ?_;intro w l v' R H2 N e2 J O W X;rw[<-N]at O;exact aJ (α:=List Nat × Nat × PV × PH) (w,l,v',H2) ⟨by simp only;omega,e2,J,O,X⟩ (by simp only;omega) W b_
 ·have e:Z' P=Z' a:=Om;have E:¬(Z' P:Int)<(Z' a:Nat):=Om;have hV:val P=val a-val b:=by
   rw[e,biS,biK hl]at A;have hlt:=iU i;rw[e]at hlt;rcases bkM c with h|h
   ·subst h;omega
   ·have:c=1:=Om;subst this;omega
  simp only[go_sem,E,Hq];have hs:=L.trim _ i Om;rw[hV]at hs;refine CJ hs S rfl λF1 H1 _=>?_;simp only[go_sem];exact bE (.inr rfl) .nil rfl a_ ⟨.refl _,rfl⟩
def zK(a b:List Nat)(o i:Nat):PF:=((((n_.set 0 (aN a)).set 1 (aN b)).set 5 (.osl o 1 0 (Z' a+Z' b))).set 6 (.int .i64 i))
def utG(a b:List Nat)(o i c j:Nat):PF:=((((((n_.set 0 (aN a)).set 1 (aN b)).set 5 (.osl o 1 0 (Z' a+Z' b))).set 6 (.int .i64 i)).set 7 (.int .u64 c)).set 8 (.int .i64 j))
theorem aKE(a b:List Nat)(ha:Lim a)(hb:Lim b)(h1:Z' a<=35184372087808)(h2:Z' b<=35184372087808)(L:List Nat)(i:Nat)(hi:i<Z' a)(N:RN a b L i)(q:Nat)(K:cF)(F:PF)(H:PH)(J:(zK a b q i).le F)(hH:H q=some (.rows 1 (aO L)))
  (hK:∀L' F' H',RN a b L' (i+1)->(zK a b q i).le F'->H' q=some (.rows 1 (aO L'))->K .normal F' H') :
  aC.wp C (.block 1 (.seq (.region j9) (.seq (.seq (.region ka) (.block 2 (.loop ZB))) (.region ZC)))) K F H:=by
 have f0:=J 0 _ (by unfold zK;simp only[go_sem];rfl);have f1:=J 1 _ (by unfold zK;simp only[go_sem];rfl);have f5:=J 5 _ (by unfold zK;simp only[go_sem];rfl);have f6:=J 6 _ (by unfold zK;simp only[go_sem];rfl);have hx:=ha _ (bhS hi);have Y:=dA a hi;generalize β:a[i]=x at *
 have V:(aO a)[i]?=some [.int .u32 ((x:Nat):Int)]:=by rw[cI a hi,β]
 simp only[go_sem,j9,ka];refine wp_loop (α:=List Nat × Nat × Nat) (λt=>utG a b q i t.2.1 t.2.2) (λt=>h_.set q (.rows 1 (aO t.1)))
  (λt=>t.2.2<=Z' b/\t.1.length=Z' a+Z' b/\Lim t.1/\t.2.1<4294967296/\val t.1+4294967296^(i+t.2.2)*t.2.1=val (a.take i)*val b+4294967296^i*(x*val (b.take t.2.2))/\∀j y,i+Z' b<=j->t.1[j]?=some y->y=0) (λt=>Z' b-t.2.2) (L,0,0)
  ⟨by simp,N.len,N.lim,by simp,by simp[val,N.v],N.z⟩ ?_ (e_ a_ hH) ?_
 ·unfold utG;exact Lq
 rintro⟨M,c,j⟩ ⟨hj,U,e,X,u,Q⟩;simp only at hj U e X u Q;simp only[go_sem,ZB,Us,utG];by_cases R:j<Z' b
 ·have w:(j:Int)<(Z' b:Nat):=Om;have O:=hb _ (bhS R);have Z:=dA b R;generalize γ:b[j]=y at *
  have W:(aO b)[j]?=some [.int .u32 ((y:Nat):Int)]:=by rw[cI b R,γ]
  have d:i+j<Z' M:=Om;have E:=e _ (bhS d);have p:=SS d;generalize δ:M[i+j]=z at *
  have B:(aO M)[i+j]?=some [.int .u32 ((z:Nat):Int)]:=by rw[cI M d,δ]
  have ex:u_.wrap ((x:Nat):Int)=((x:Nat):Int):=bS Om;have ey:u_.wrap ((y:Nat):Int)=((y:Nat):Int):=bS Om;have ez:u_.wrap ((z:Nat):Int)=((z:Nat):Int):=bS Om;have em:=ayB hx O;have ζ:x*y<=4294967295*4294967295:=blA Om Om;have e1:u_.wrap (((x*y:Nat):Int)+(z:Int))=((x*y+z:Nat):Int):=iV Om;have e2:u_.wrap (((x*y+z:Nat):Int)+(c:Int))=((x*y+z+c:Nat):Int):=iV Om;have A:i_.wrap ((i:Int)+(j:Int))=((i+j:Nat):Int):=kS Om;have hlt:((i+j:Nat):Int)<((Z' a+Z' b:Nat):Int):=Om;generalize ht:x*y+z+c=t at *
  have ε:t<4294967296*4294967296:=Om;have l:(aO M).set (i+j) [.int .u32 ((t%4294967296:Nat):Int)]=aO (M.set (i+j) (t%4294967296)):=jS M (i+j) _;simp only[go_sem,w];refine bV .nil eW a_ ?_;simp only[go_sem,Ut,V,W,ex,ey,em,A,hlt,B,ez,e1,e2,Uu,dH,l,Uv,HE,Hv,wZz j];refine aJ (M.set (i+j) (t%4294967296),t/4294967296,j+1) ⟨by simp only;omega,by simp only[bjO];exact U,e.set _ (bjR _ aS),by simp only;omega,?_,I5 Q _ _ Om⟩ (by simp only;omega) ?_ (e_ a_ Sq)
  ·simp only;have S:=p (t%4294967296);have h4:4294967296^(i+(j+1))*(t/4294967296)+4294967296^(i+j)*(t%4294967296)=4294967296^(i+j)*t:=by rw[<-bkL,bjU,biT,<-biH,blQ]
   have h5:4294967296^(i+j)*t=4294967296^(i+j)*(x*y)+4294967296^(i+j)*z+4294967296^(i+j)*c:=by rw[<-ht,biH,biH]
   have h6:4294967296^i*(x*val (b.take (j+1)))=4294967296^i*(x*val (b.take j))+4294967296^(i+j)*(x*y):=by rw[Z,biH,biH,Nat.pow_add];congr 1;rw[Nat.mul_left_comm x,biT]
   omega
  ·exact Lq
 ·have he:j=Z' b:=Om;have w:¬(j:Int)<(Z' b:Nat):=Om;subst he;have d:i+Z' b<Z' M:=Om;have E:M[i+Z' b]=0:=Q _ _ (bhV _) (biD d);have p:=SS d;have B:(aO M)[i+Z' b]?=some [.int .u32 ((0:Nat):Int)]:=by rw[cI M d,E]
  have A:i_.wrap ((i:Int)+(Z' b:Int))=((i+Z' b:Nat):Int):=kS Om;have hlt:((i+Z' b:Nat):Int)<((Z' a+Z' b:Nat):Int):=Om;have l:(aO M).set (i+Z' b) [.int .u32 ((c%4294967296:Nat):Int)]=aO (M.set (i+Z' b) c):=by rw[bjM X];exact jS M _ _
  simp only[go_sem,w,ZC,A,dH,hlt,B,l];refine hK (M.set (i+Z' b) c) _ _ ⟨by rw[bjO];exact U,e.set _ X,?_,λj y hj O=>?_⟩ (by unfold zK;exact Lq) Sq
  ·have S:=p c;rw[E,Nat.mul_zero,bkA]at S;rw[S,u,biS,Y,bjC,biT]
  ·rw[List.getElem?_set_ne Om]at O;exact Q j y Om O
theorem aQV(L:wK C)(a b:List Nat)(K:Lim a)(hb:Lim b)(S:Z' a<=8388608)(U:Z' b<=8388608) :
  QU.wp C (aZ aoR.res (cM (aN (aL (val a*val b))))) (g_ [aN a,aN b]) .nil:=by
 have p:i_.wrap ((Z' a:Int)+(Z' b:Int))=((Z' a+Z' b:Nat):Int):=kS Om;have A:((Z' a+Z' b:Nat):Int)*((4:Nat):Int)<=140737488355328:=Om;have B:((Z' a+Z' b:Nat):Int)<=9223372036854775807:=Om;have O:bhU (Z' a+Z' b) [PV.int .u32 0]=aO (bhU (Z' a+Z' b) 0):=by simp[aO]
 simp only[go_sem,QU,Un,Uo,aoR,bhO,p,A,B,O];refine aQ λo V=>?_;simp only[go_sem,Uq];refine wp_loop (α:=List Nat × Nat) (λt=>zK a b o t.2) (λt=>h_.set o (.rows 1 (aO t.1))) (λt=>t.2<=Z' a/\RN a b t.1 t.2) (λt=>Z' a-t.2) (bhU (Z' a+Z' b) 0,0)
  ⟨by simp,by simp,EV _,by simp[val,AG],λj x _ F=>by rw[List.getElem?_replicate]at F;split at F<;>simp_all⟩ ?_ (e_ a_ Sq) ?_
 ·unfold zK;exact Lq
 rintro⟨M,i⟩ ⟨hi,e⟩;simp only at hi e;simp only[go_sem,Hu,Ur,zK];by_cases H:i<Z' a
 ·have l:(i:Int)<(Z' a:Nat):=Om;have u:=aKE (C:=C) a b K hb Om Om M i H e o;simp only[go_sem]at u;simp only[go_sem,l];refine u _ _ _ (by unfold zK;exact Lq) Sq ?_;intro L' Q H' y d w;have J:=d 6 _ (by unfold zK;simp only[go_sem];rfl);have g0:=d 0 _ (by unfold zK;simp only[go_sem];rfl);have g1:=d 1 _ (by unfold zK;simp only[go_sem];rfl);have R:=d 5 _ (by unfold zK;simp only[go_sem];rfl);simp only[go_sem,Hw,J,wZz i];refine aJ (L',i+1) ⟨by simp only;omega,y⟩ (by simp only;omega) ?_ (e_ a_ w);exact Lq
 ·have N:i=Z' a:=Om;subst N;have l:¬(Z' a:Int)<(Z' a:Nat):=Om;have hV:val M=val a*val b:=by rw[e.v,biS]
  simp only[go_sem,Hx];have E:=L.trim _ e.lim (by rw[e.len];omega);rw[hV]at E;refine xK (o:=o) (s:=1) (k:=Z' a+Z' b) (rs:=aO M) (v:=aN (aL (val a*val b))) ?_ rfl Sq (by rw[cR,e.len];exact bhV _) ?_
  ·rw[biK (by rw[cR,e.len];exact bhV _)];exact E
  ·simp only[go_sem];exact bE (.inr rfl) .nil rfl a_ ⟨.refl _,rfl⟩
structure Xx(C:Ctx):Prop extends Xv C where
 minus:∀a b,Lim a->Lim b->val b<=val a->Z' b<=Z' a->Z' a<=35184372087808->aH C 42 [aN a,aN b] .nil (aI (aN (aL (val a-val b))))
 times:∀a b,Lim a->Lim b->Z' a<=8388608->Z' b<=8388608->aH C 44 [aN a,aN b] .nil (aI (aN (aL (val a*val b))))
theorem a4X(L:Xx C)(a b:List Nat)(l:Lim a)(hb:Lim b)(w:Z' a<=35184372087808)(x:Z' b<=35184372087808) :
  j4.wp C (aZ aYF.res (cM (opV (fJ (val a) (val b)) (val a*val b)))) (g_ [aN a,aN b]) .nil:=by
 unfold opV;simp only[go_sem,j4,aCC,aCD,aYF];refine aB (L.large a l w) rfl ?_;by_cases e:nl (val a)>512
 ·simp only[go_sem,e,Mz];rw[aG (by simp[fJ,e])];exact gQ rfl
 simp only[go_sem,e];refine aB (L.large b hb x) rfl ?_;by_cases i:nl (val b)>512
 ·simp only[go_sem,i,Mz];rw[aG (by simp[fJ,i])];exact gQ rfl
 rw[aE (by simp[fJ,e,i])];simp only[go_sem,i,aCE];refine aB (L.trim a l w) rfl ?_;simp only[go_sem];refine aB (L.trim b hb x) rfl ?_;simp only[go_sem];have u:=L.times (aL (val a)) (aL (val b)) (aX _) (aX _) (by rw[bF];omega) (by rw[bF];omega);rw[aV,aV]at u;refine aB u rfl ?_;have y:=mJ (a:=val a) (b:=val b) (m:=512) (n:=512) Om Om;have p:=L.large (aL (val a*val b)) (aX _) (by rw[bF];omega);rw[aV]at p;simp only[go_sem,aCF];refine aB p rfl ?_;unfold szV szL szE;by_cases d:nl (val a*val b)>512
 ·rw[aG d,aG d];simp only[go_sem,d,aCG];exact gQ rfl
 ·rw[aE d,aE d];simp only[go_sem,d,aCH];exact bE (.inr rfl) .nil rfl a_ ⟨.refl _,rfl⟩
def GG(a:List Nat)(i:Nat):Nat:=a.getD i 0
theorem Zx{a:List Nat}(h:Lim a)(i:Nat):GG a i<4294967296:=by
 unfold GG;rw[bhX];rcases biR i a.length with h1|h1
 ·rw[biD h1];exact h _ (bhS h1)
 ·rw[bjJ h1];decide
theorem uz{a:List Nat}{i:Nat}(h:i<Z' a):GG a i=a[i]:=by simp[GG,bhX,h]
theorem dk{a:List Nat}{i:Nat}(h:¬i<Z' a):GG a i=0:=by simp[GG,bhX,h]
theorem kb(a:List Nat)(i:Nat):val (a.take (i+1))=val (a.take i)+4294967296^i*GG a i:=by
 rcases biR i a.length with h|h
 ·rw[uz h];exact dA a h
 ·rw[dk Om,biK Om,biK Om];simp
def CC(a b:List Nat)(v:PV)(c i:Nat):PF:=(((((n_.set 0 (aN a)).set 1 (aN b)).set 5 (v)).set 6 (.int .u64 c)).set 7 (.int .i64 i))
theorem aYL(L:wK C)(a b:List Nat)(ha:Lim a)(hb:Lim b)(h1:Z' a<=8388608)(h2:Z' b<=8388608) :
  YY.wp C (aZ aKD.res (cM (aN (aL (val a+val b))))) (g_ [aN a,aN b]) .nil:=by
 simp only[go_sem,YY,aoM,aoN,aoO,aoP,aKD];refine wp_loop (α:=List Nat × Nat × PV × PH) (λs=>CC a b s.2.2.1 s.2.1 s.1.length) (λs=>s.2.2.2)
  (λs=>s.1.length<=max a.length b.length+1/\(s.1.length<=max a.length b.length\/s.2.1=0)/\Lim s.1/\s.2.1<=1/\val s.1+4294967296^s.1.length*s.2.1=val (a.take s.1.length)+val (b.take s.1.length)/\cA s.2.2.2 1 s.2.2.1 (aO s.1)) (λs=>max a.length b.length+1-s.1.length) ([],0,.aK,.nil)
  ⟨by simp,by simp,by simp[Lim],by simp,by simp[val],.nil⟩ ?_ a_ ?_
 ·unfold CC;exact Lq
 rintro⟨P,c,v,H0⟩ ⟨hP,δ,l,hc,E,hO⟩;simp only at hP δ l hc E hO ⊢;have ι:=Zx ha P.length;have κ:=Zx hb P.length;have η:=kb a P.length;have θ:=kb b P.length;generalize hx:GG a P.length=x at *
 generalize Z:GG b P.length=y at *
 have ex:u_.wrap ((x:Nat):Int)=((x:Nat):Int):=bS Om;have ey:u_.wrap ((y:Nat):Int)=((y:Nat):Int):=bS Om;have N:u_.wrap ((c:Int)+(x:Int))=((c+x:Nat):Int):=iV Om;have e2:u_.wrap (((c+x:Nat):Int)+(y:Int))=((c+x+y:Nat):Int):=iV Om;have ζ:Z' P<Z' a->(aO a)[Z' P]?=some [.int .u32 ((x:Nat):Int)]:=λh=>by rw[cI a h,<-hx,uz h]
 have X:Z' P<Z' b->(aO b)[Z' P]?=some [.int .u32 ((y:Nat):Int)]:=λh=>by rw[cI b h,<-Z,uz h]
 have Y:¬Z' P<Z' a->x=0:=λh=>by rw[<-hx,dk h]
 have O:¬Z' P<Z' b->y=0:=λh=>by rw[<-Z,dk h]
 have body:(Z' P<=max a.length b.length)->∀K:cF,(∀i u v' Q H2,Z' i=Z' P+1->Lim i->u<=1->(Z' P+1<=max a.length b.length\/u=0)->val i+4294967296^i.length*u=val (a.take (Z' P+1))+val (b.take (Z' P+1))->(CC a b v' u i.length).le Q->cA H2 1 v' (aO i)->K .normal Q H2) ->
   ∀F:PF,(CC a b v c P.length).le F->aC.wp C (.seq (.block 1 (.seq (.region zb) (.seq (.seq (.region zc) (.cond (.tmp 29) (.region zd) .skip)) (.seq (.seq (.region YZ) (.cond (.tmp 40) (.region ZA) .skip)) (.seq (.region NJ) (.region NK)))))) (.region NL)) K F H0:=by
  intro μ K hK F V;have g0:F 0=some (aN a):=V 0 _ (by unfold CC;simp only[go_sem]);have g1:F 1=some (aN b):=V 1 _ (by unfold CC;simp only[go_sem]);have g5:F 5=some v:=V 5 _ (by unfold CC;simp only[go_sem]);have g6:F 6=some (.int .u64 c):=V 6 _ (by unfold CC;simp only[go_sem]);have w:F 7=some (.int .i64 P.length):=V 7 _ (by unfold CC;simp only[go_sem]);have fin:∀H:PF,H 0=some (aN a)->H 1=some (aN b)->H 5=some v->H 7=some (.int .i64 P.length)->H 8=some (.int .u64 (c+x+y:Nat)) ->
    aC.wp C (.seq (.region NJ) (.region NK)) (fS 1 (kB C (aC.wp C (.region NL)) K)) H H0:=by
   intro H q0 q1 q5 q7 q8;have ε:(1:Nat)*1<=16777216:=by decide
   generalize ht:c+x+y=t at *
   have ν:t<2*4294967296:=Om;simp only[go_sem,NJ,q5,q8,ε,dH];refine fL (src:=[[.int .u32 ((t%4294967296:Nat):Int)]]) hO rfl (xB Om) λv' H' W _=>?_;rw[xC]at W;simp only[go_sem,NK,q8,HE,NL,q7,dZ (Om:Z' P<9223372036854775807)];refine hK (P++[t%4294967296]) (t/4294967296) v' _ H' bH (l.app λy Z=>by simp at Z;subst Z;omega) Om ?_ ?_ ?_ W
   ·rcases biR P.length (max a.length b.length)with h|h
    ·exact .inl h
    ·right;have h1:=Y Om;have h2:=O Om;omega
   ·rw[mZ,bhW,biC,η,θ,bjU,biT,bkL,<-biH];rw[show t%4294967296+4294967296*(t/4294967296)=t from Nat.mod_add_div t 4294967296];have h3:4294967296^P.length*t=4294967296^P.length*c+4294967296^P.length*x+4294967296^P.length*y:=by rw[<-ht,biH,biH]
    omega
   ·unfold CC;rw[bhW,biC];exact Lq
  simp only[aC.wp,go_sem]at fin;simp only[go_sem,zb,g6,zc,w,g0];by_cases c1:Z' P<Z' a
  ·have e:(Z' P:Int)<(Z' a:Nat):=Om;simp only[go_sem,e,zd,g0,w,ζ c1,ex,N,YZ,g1];by_cases J:Z' P<Z' b
   ·have d:(Z' P:Int)<(Z' b:Nat):=Om;simp only[go_sem,d,ZA,g1,w,X J,ey,e2];exact fin _ (by simp only[go_sem,g0]) (by simp only[go_sem,g1]) (by simp only[go_sem,g5]) (by simp only[go_sem,w]) rfl
   ·have d:¬(Z' P:Int)<(Z' b:Nat):=Om;have h0:=O J;simp only[go_sem,d];exact fin _ (by simp only[go_sem,g0]) (by simp only[go_sem,g1]) (by simp only[go_sem,g5]) (by simp only[go_sem,w]) (by simp only[go_sem,h0])
  ·have e:¬(Z' P:Int)<(Z' a:Nat):=Om;have h0:=Y c1;simp only[go_sem,e,YZ,g1,w];by_cases J:Z' P<Z' b
   ·have d:(Z' P:Int)<(Z' b:Nat):=Om;have β:u_.wrap ((c:Int)+(y:Int))=((c+x+y:Nat):Int):=by rw[h0];exact iV Om
    simp only[go_sem,d,ZA,g1,w,X J,ey,β];exact fin _ (by simp only[go_sem,g0]) (by simp only[go_sem,g1]) (by simp only[go_sem,g5]) (by simp only[go_sem,w]) rfl
   ·have d:¬(Z' P:Int)<(Z' b:Nat):=Om;have γ:=O J;simp only[go_sem,d];exact fin _ (by simp only[go_sem,g0]) (by simp only[go_sem,g1]) (by simp only[go_sem,g5]) (by simp only[go_sem,w]) (by simp only[go_sem,h0,γ])
 simp only[aC.wp,go_sem]at body;have p:¬Z' P<Z' a->¬Z' P<Z' b->c=0->∀F:PF,F 5=some v->aC.wp C (.seq (.region j6) .ret) (aZ [.tmp 4] (cM (aN (aL (val a+val b))))) F H0:=by
  intro n1 n2 n3 F f5;have hV:val P=val a+val b:=by rw[n3,biK Om,biK Om]at E;omega
  have hs:=L.trim _ l Om;rw[hV]at hs;simp only[go_sem,j6,f5];refine CJ hs hO rfl λF1 H1 _=>?_;simp only[go_sem];exact bE (.inr rfl) .nil rfl a_ ⟨.refl _,rfl⟩
 simp only[aC.wp,go_sem]at p;simp only[go_sem,Um,aoQ,CC];by_cases c1:Z' P<Z' a
 ·have e:(Z' P:Int)<(Z' a:Nat):=Om;simp only[go_sem,e];refine body Om _ ?_ _ (by unfold CC;exact Lq);intro i u v' Q H2 N e2 R A B S U;rw[<-N]at B A;exact aJ (α:=List Nat × Nat × PV × PH) (i,u,v',H2) ⟨by simp only;omega,A,e2,R,B,U⟩ (by simp only;omega) S b_
 ·have e:¬(Z' P:Int)<(Z' a:Nat):=Om;simp only[go_sem,e];by_cases J:Z' P<Z' b
  ·have d:(Z' P:Int)<(Z' b:Nat):=Om;simp only[go_sem,d];refine body Om _ ?_ _ (by unfold CC;exact Lq);intro i u v' Q H2 N e2 R A B S U;rw[<-N]at B A;exact aJ (α:=List Nat × Nat × PV × PH) (i,u,v',H2) ⟨by simp only;omega,A,e2,R,B,U⟩ (by simp only;omega) S b_
  ·have d:¬(Z' P:Int)<(Z' b:Nat):=Om;simp only[go_sem,d];by_cases c3:c=0
   ·have M:¬(c:Int)>0:=Om;simp only[go_sem,M];exact p c1 J c3 _ rfl
   ·have M:(c:Int)>0:=Om;simp only[go_sem,M];refine body Om _ ?_ _ (by unfold CC;exact Lq);intro i u v' Q H2 N e2 R A B S U;rw[<-N]at B A;exact aJ (α:=List Nat × Nat × PV × PH) (i,u,v',H2) ⟨by simp only;omega,A,e2,R,B,U⟩ (by simp only;omega) S b_
structure Ad(C:Ctx):Prop extends Xx C where
 plus:∀a b,Lim a->Lim b->Z' a<=8388608->Z' b<=8388608->aH C 43 [aN a,aN b] .nil (aI (aN (aL (val a+val b))))
theorem a4T(L:Ad C)(a b:List Nat)(l:Lim a)(hb:Lim b)(w:Z' a<=35184372087808)(x:Z' b<=35184372087808) :
  ju.wp C (aZ aXX.res (cM (opV (fJ (val a) (val b)) (val a+val b)))) (g_ [aN a,aN b]) .nil:=by
 unfold opV;simp only[go_sem,ju,aAY,aAZ,aXX];refine aB (L.large a l w) rfl ?_;by_cases e:nl (val a)>512
 ·simp only[go_sem,e,Mv];rw[aG (by simp[fJ,e])];exact gQ rfl
 simp only[go_sem,e];refine aB (L.large b hb x) rfl ?_;by_cases i:nl (val b)>512
 ·simp only[go_sem,i,Mv];rw[aG (by simp[fJ,i])];exact gQ rfl
 rw[aE (by simp[fJ,e,i])];simp only[go_sem,i,aBA];refine aB (L.trim a l w) rfl ?_;simp only[go_sem];refine aB (L.trim b hb x) rfl ?_;simp only[go_sem];have u:=L.plus (aL (val a)) (aL (val b)) (aX _) (aX _) (by rw[bF];omega) (by rw[bF];omega);rw[aV,aV]at u;refine aB u rfl ?_;have y:=Ge (a:=val a) (b:=val b) (m:=512) Om Om;have p:=L.large (aL (val a+val b)) (aX _) (by rw[bF];omega);rw[aV]at p;simp only[go_sem,aBB];refine aB p rfl ?_;unfold szV szL szE;by_cases d:nl (val a+val b)>512
 ·rw[aG d,aG d];simp only[go_sem,d,aBC];exact gQ rfl
 ·rw[aE d,aE d];simp only[go_sem,d,aBD];exact bE (.inr rfl) .nil rfl a_ ⟨.refl _,rfl⟩
theorem a5A(L:Ad C)(a b:List Nat)(l:Lim a)(hb:Lim b)(p:Z' a<=35184372087808)(u:Z' b<=35184372087808) :
  j8.wp C (aZ aYN.res (cM (zH (val a) (val b)))) (g_ [aN a,aN b]) .nil:=by
 unfold zH;simp only[go_sem,j8,aCK,aCL,aYN];refine aB (L.large a l p) rfl ?_;by_cases d:nl (val a)>512
 ·simp only[go_sem,d,M0];rw[aG (by simp[fJ,d])];exact gQ rfl
 simp only[go_sem,d];refine aB (L.large b hb u) rfl ?_;by_cases e:nl (val b)>512
 ·simp only[go_sem,e,M0];rw[aG (by simp[fJ,e])];exact gQ rfl
 rw[aE (by simp[fJ,d,e])];simp only[go_sem,e,aCM];refine aB (L.cmp a b l hb p u) rfl ?_;by_cases i:val a<val b
 ·have:eI (val a) (val b)=-1:=by simp[eI,i]
  rw[aG i];simp only[go_sem,this,show((-1:Int)<0) by decide,aCN];exact gQ rfl
 ·have:¬eI (val a) (val b)<0:=by unfold eI;rw[aE i];split<;>decide
  rw[aE i];have y:=jL (Nat.sub_le (val a) (val b));have x:=jL (Om:val b<=val a);simp only[go_sem,this,aCO];refine aB (L.trim a l p) rfl ?_;simp only[go_sem];refine aB (L.trim b hb u) rfl ?_;simp only[go_sem];have w:=L.minus (aL (val a)) (aL (val b)) (aX _) (aX _) (by rw[aV,aV];omega) (by rw[bF,bF];exact x) (by rw[bF];omega);rw[aV,aV]at w;refine aB w rfl ?_;rw[KX Om];simp only[go_sem];exact bE (.inr rfl) .nil rfl a_ ⟨.refl _,rfl⟩
def anE(k:Nat)(v:Nat):PF:=((n_.set 3 (.int .i64 k)).set 4 (.int .u32 v))
theorem aXY(L:wK C)(xs:List Nat)(J:Lim xs)(Q:Z' xs<=35184372087808) :
  YO.wp C (aZ aJU.res (aI (.int .i64 (cX (val xs):Nat)))) (g_ [aN xs]) .nil:=by
 simp only[go_sem,YO,anG,anH,aJU];refine aB (L.trim xs J Q) rfl ?_;have R:=jR J;simp only[go_sem,anI,bhO,bF,NI];by_cases x:nl (val xs)=0
 ·simp only[go_sem,bA x,anJ];refine aT (.inr rfl) rfl ?_;have:val xs=0:=lZ.1 x;simp[bN,this,nK]
 obtain⟨n,N⟩:∃n,nl (val xs)=n+1:=⟨nl (val xs)-1,by omega⟩;obtain⟨t,w,A⟩:=amS (xs:=aL (val xs)) (aX _) (by rw[aV];exact N);have p:t<4294967296:=aX _ t (bjQ w);have O:val xs=val ((aL (val xs)).take n)+4294967296^n*t:=by
  have:=aV (val xs);have d:n<(aL (val xs)).length:=by rw[bF];omega
  have M:(aL (val xs))[n]=t:=by rw[biD d]at w;exact bjV.inj w
  conv=>lhs;rw[<-this,<-biK (l:=aL (val xs)) (i:=n+1) (by rw[bF];omega)]
  rw[dA _ d,M]
 have hb:cX (val xs)=32*n+cX t:=by have F:=iU ((aX (val xs)).take n);rw[biI,bF,bkG Om]at F;have u:=Ya (lo:=val ((aL (val xs)).take n)) (k:=32*n) (hi:=t) (by rw[Nat.pow_mul];exact F) A;rw[<-u,Nat.pow_mul];exact congrArg cX O
 have e:(aO (aL (val xs)))[n]?=some [.int .u32 (t:Nat)]:=by simp[aO,w]
 have K:i_.wrap (((nl (val xs):Nat):Int)-1)=(n:Int):=by rw[wrap_i64 Om Om];omega
 have e2:i_.wrap (32*(n:Int))=((32*n:Nat):Int):=by rw[wrap_i64 Om Om];omega
 simp only[go_sem,bG x,anK,anL,bhO,bF,K,e2,e];refine wp_loop (α:=Nat × Nat) (λa=>anE a.1 a.2) (λ_=>.nil) (λa=>a.1+cX a.2=32*n+cX t/\a.2<4294967296) (λa=>a.2) (32*n,t) ⟨rfl,p⟩ ?_ a_ ?_
 ·unfold anE;exact Lq
 rintro⟨k,v⟩ ⟨u,hlt⟩;simp only at u hlt;have H:cX t<=32:=(rF t 32).2 p;simp only[go_sem,anF,anM,anE];by_cases E:(v:Int)>0
 ·have B:v≠0:=Om;have y:IntKind.u32.wrap (Int.tdiv (v:Int) 2)=((v/2:Nat):Int):=by rw[show Int.tdiv (v:Int) 2=((v/2:Nat):Int)from Int.ofNat_tdiv v 2,dH,bjM Om]
  simp only[go_sem,E,anN,anO,y,wZz k];refine aJ (k+1,v/2) ⟨?_,?_⟩ (Nat.div_lt_self Om aS) ?_ a_
  ·have:=vH B;simp only;omega
  ·simp only;omega
  ·exact Lq
 ·have:v=0:=Om;subst this;simp only[go_sem,E,T8];refine aT (.inr rfl) rfl ?_;rw[nK]at u;simp only[bN,PV.int.injEq,true_and];omega
theorem Sr(n:Nat):4294967296^(n/32)*2^(n%32)=2^n:=by
 rw[show(4294967296:Nat)=2^32 by decide,<-Nat.pow_mul,<-Nat.pow_add];congr 1;omega
theorem aQJ(n:Nat):i_.wrap (Int.tdiv (n:Int) 32)=i_.wrap ((n/32:Nat):Int):=by
 rw[show Int.tdiv (n:Int) 32=((n/32:Nat):Int)from Int.ofNat_tdiv n 32]
theorem aQL(n:Nat):Int.tmod (n:Int) 32=((n%32:Nat):Int):=Int.ofNat_tmod n 32
def aYP(a:List Nat)(n:Nat)(v:PV)(c i:Nat):PF:=(((((n_.set 0 (aN a)).set 1 (.int .i64 n)).set 5 (v)).set 6 (.int .u64 c)).set 7 (.int .i64 i))
theorem a8B(L:wK C)(a:List Nat)(n:Nat)(ha:Lim a)(h1:Z' a<=8388608)(hn:n<=8388608)(h0:Z' a=0->val a=0) :
  zf.wp C (aZ uup.res (tH 1 (aO (aL (val a*2^n))))) (g_ [aN a,.int .i64 n]) .nil:=by
 simp only[go_sem,zf,aQW,aQX,uup,bhO,NI];by_cases E:Z' a=0
 ·simp only[go_sem,bA E,aQY];rw[h0 E,Nat.zero_mul,fG];exact SN (.inr rfl) rfl
 have ez:i_.wrap (Int.tdiv (n:Int) 32)=((n/32:Nat):Int):=by rw[aQJ,zg Om]
 have em:=aQL n;have eu:u_.wrap ((n%32:Nat):Int)=((n%32:Nat):Int):=bS Om;have U:=Sr n;have S:n%32<32:=bjR _ aS;have hz:n/32<=8388608:=Om;generalize ζ:n/32=z at *
 generalize δ:n%32=s at *
 have Q:((z:Nat):Int)*((4:Nat):Int)<=140737488355328:=Om;have R:((z:Nat):Int)<=9223372036854775807:=Om;have W:bhU z [PV.int .u32 0]=aO (bhU z 0):=by simp[aO]
 have K:2^s<=2147483648:=blS (show 0<2 by decide) (Om:s<=31);have A:0<2^s:=bkW aS;simp only[go_sem,bG E,aQZ,ez,Q,R,W];refine aQ λo ho=>?_;simp only[go_sem,aRA,aRB];refine wp_loop (α:=List Nat × Nat × Nat × PV × PH) (λt=>aYP a n t.2.2.2.1 t.2.1 t.2.2.1) (λt=>t.2.2.2.2)
  (λt=>t.2.2.1<=Z' a/\t.1.length=z+t.2.2.1/\Lim t.1/\t.2.1<2^s/\val t.1+4294967296^t.1.length*t.2.1=val (a.take t.2.2.1)*2^n/\cA t.2.2.2.2 1 t.2.2.2.1 (aO t.1)) (λt=>Z' a-t.2.2.1) (bhU z 0,0,0,.osl o 1 0 z,h_.set o (.rows 1 (aO (bhU z 0))))
  ⟨by simp,by simp,EV _,A,by simp[val,AG],.inr ⟨o,aO (bhU z 0),by rw[cR,List.length_replicate],s_,by rw[cR];exact bhV _,biS⟩⟩ ?_ b_ ?_
 ·unfold aYP;exact Lq
 rintro⟨P,c,i,v,H0⟩ ⟨hi,X,d,Y,p,N⟩;simp only at hi X d Y p N ⊢;simp only[go_sem,aCP,aRC,aYP];by_cases F:i<Z' a
 ·have u:(i:Int)<(Z' a:Nat):=Om;have γ:=ha _ (bhS F);have V:=dA a F;have O:=cI a F;generalize Z:a[i]=x at *
  have ε:x*2^s<=4294967295*2147483648:=blA Om K;have ex:u_.wrap ((x:Nat):Int)=((x:Nat):Int):=bS Om;have β:2^s*x=x*2^s:=biW _ _;have J:shift .shl .u64 (x:Int) (s:Int)=some (.int .u64 ((2^s*x:Nat):Int)):=YC Om Om;have H:=orI (a:=2^s*x) (b:=c) (n:=c+2^s*x) Om Om (by rw[Nat.or_comm];exact ajG Y Om) Om;have B:(c+2^s*x)/4294967296<2^s:=by rw[blD aS];have:2^s*(x+1)<=2^s*4294967296:=bkH _ Om;rw[biH,blB]at this;omega
  have w:(1:Nat)*1<=16777216:=by decide
  simp only[go_sem,u,aRD,O,ex,em,eu,J,H,aRE,dH,w];refine fL (src:=[[.int .u32 (((c+2^s*x)%4294967296:Nat):Int)]]) N rfl (xB Om) λv' H' l _=>?_;rw[xC]at l;simp only[go_sem,aRF,HE,aCQ,wZz i];refine aJ (P++[(c+2^s*x)%4294967296],(c+2^s*x)/4294967296,i+1,v',H') ⟨by simp only;omega,by simp;omega,d.app λy hy=>by simp at hy;subst hy;exact bjR _ aS,B,?_,l⟩ (by simp only;omega) ?_ b_
  ·simp only;have hp:4294967296^P.length*(2^s*x)=4294967296^i*x*2^n:=by rw[X,Nat.pow_add,<-U];rw[biT,Nat.mul_left_comm (4294967296^i),<-biT (4294967296^z),biW (4294967296^z*2^s),biT,biW x]
   rw[mZ,bhW,biC,bjU,biT,bkL,<-biH,Nat.mod_add_div,V,biH,bjC,<-bkL,p,hp]
  ·exact Lq
 ·have e:i=Z' a:=Om;subst e;have u:¬(Z' a:Int)<(Z' a:Nat):=Om;have w:(1:Nat)*1<=16777216:=by decide
  have hV:val (P++[c])=val a*2^n:=by rw[mZ,p,biS]
  have M:Lim (P++[c]):=d.app λx Z=>by simp at Z;omega
  have ec:IntKind.u32.wrap ((c:Nat):Int)=((c:Nat):Int):=by rw[dH,bjM Om]
  simp only[go_sem,u,aCR,ec,w];refine fL (src:=[[.int .u32 ((c:Nat):Int)]]) N rfl (xB Om) λv' H' l _=>?_;rw[xC]at l;have S:=L.trimM _ M (by simp;omega);rw[hV]at S;refine Wm S l rfl λF1 H1 _ r H2 hr _=>?_;simp only[go_sem];exact aPL (.inr rfl) hr rfl
def jx(a:List Nat)(n:Nat)(v:PV)(i:Nat):PF:=((((n_.set 0 (aN a)).set 1 (.int .i64 n)).set 5 (v)).set 6 (.int .i64 i))
theorem aYC(L:wK C)(a:List Nat)(n:Nat)(J:Lim a)(h1:Z' a<=8388608)(hn:n<=1000000000) :
  YS.wp C (aZ aJY.res (cM (aN (aL (val a/2^n))))) (g_ [aN a,.int .i64 n]) .nil:=by
 have ez:i_.wrap (Int.tdiv (n:Int) 32)=((n/32:Nat):Int):=by rw[aQJ,zg Om]
 have em:=aQL n;have eu:u_.wrap ((n%32:Nat):Int)=((n%32:Nat):Int):=bS Om;have N:=Sr n;have R:n%32<32:=bjR _ aS;have hz:n/32<=1000000000:=Om;generalize ι:n/32=z at *
 generalize θ:n%32=s at *
 simp only[go_sem,YS,anU,anV,aJY,bhO,ez];by_cases c0:Z' a<=z
 ·have p:((z:Nat):Int)>=(Z' a:Nat):=Om;have hq:val a/2^n=0:=by refine blR (Nat.lt_of_lt_of_le (iU J) ?_);rw[<-N];exact biQ (blS aS c0) (Nat.le_mul_of_pos_right _ (bkW aS))
  simp only[go_sem,p,anW];rw[hq,fG];exact bE (vs:=[.aK]) (.inr rfl) .nil rfl a_ ⟨.nil 1,rfl⟩
 have p:¬((z:Nat):Int)>=(Z' a:Nat):=Om;have hR:val a/2^n=val (a.drop z)/2^s:=by rw[DO J Om,<-N,Nat.div_div_eq_div_mul]
 have E:Lim (a.drop z):=J.drop z;simp only[go_sem,p,anX,anY,ez];refine wp_loop (α:=List Nat × PV × PH) (λt=>jx a n t.2.1 (z+t.1.length)) (λt=>t.2.2)
  (λt=>z+t.1.length<=Z' a/\t.1=fH t.1.length (val (a.drop z)/2^s)/\cA t.2.2 1 t.2.1 (aO t.1)) (λt=>Z' a-t.1.length) ([],.aK,.nil)
  ⟨by simp;omega,rfl,.nil⟩ ?_ a_ ?_
 ·unfold jx
  (repeat' (first|exact c_|refine d_ ?_ ?_))<;>first|(simp only[go_sem,bkK]<;>rfl)|rfl
 rintro⟨P,v,H0⟩ ⟨hP,hD,Z⟩;simp only at hP hD Z ⊢;simp only[go_sem,T9,anZ,jx];have B:Lim P:=by rw[hD];exact sD _ _
 by_cases S:z+Z' P<Z' a
 ·have u:((z+Z' P:Nat):Int)<(Z' a:Nat):=Om;have η:=J _ (bhS S);have β:=cI a S;have δ:Z' P<=(a.drop z).length:=by rw[bjZ];omega
  have O:=DO E δ;have d:(a.drop z).drop P.length=a[z+Z' P]::a.drop (z+Z' P+1):=by rw[List.drop_drop,bjS S]
  generalize hx:a[z+Z' P]=x at *
  have ex:u_.wrap ((x:Nat):Int)=((x:Nat):Int):=bS Om;have γ:(1:Nat)*1<=16777216:=by decide
  have Y:i_.wrap (((z+Z' P:Nat):Int)+1)=((z+Z' P+1:Nat):Int):=dZ Om;have fin:∀(t:Nat)(F:PF),t<18446744073709551616->val (a.drop z)/4294967296^P.length%(4294967296*4294967296)=t->F 0=some (aN a)->F 1=some (.int .i64 n)->F 5=some v->F 6=some (.int .i64 (z+Z' P:Nat))->F 7=some (.int .u64 t) ->
    ∀K:cF,(∀v' Q H2,(jx a n v' (z+(Z' P+1))).le Q->cA H2 1 v' (aO (P++[t/2^s%4294967296]))->(P++[t/2^s%4294967296])=fH (Z' P+1) (val (a.drop z)/2^s)->K .normal Q H2) ->
    aC.wp C (.region za) (fS 1 (kB C (aC.wp C (.region jy)) K)) F H0:=by
   intro t F ht ε f0 f1 f5 f6 f7 K hK;have A:shift .shr .u64 (t:Int) (s:Int)=some (.int .u64 ((t/2^s:Nat):Int)):=a7T Om;simp only[go_sem,za,f5,f7,f1,em,eu,A,dH,γ];refine fL (src:=[[.int .u32 ((t/2^s%4294967296:Nat):Int)]]) Z rfl (xB Om) λv' H' H _=>?_;rw[xC]at H;simp only[go_sem,jy,f6,Y];refine hK v' _ H' ?_ H ?_
   ·unfold jx;exact Lq
   ·rw[EN,<-hD];congr 2;have e:val (a.drop z)/4294967296^P.length=t%4294967296+4294967296*(t/4294967296+4294967296*(val (a.drop z)/4294967296^P.length/(4294967296*4294967296))):=by have:=Nat.mod_add_div (val (a.drop z)/4294967296^P.length) (4294967296*4294967296);rw[ε]at this;have h2:=Nat.mod_add_div t 4294967296;rw[biH,<-bkL,h2,<-biT];exact this.symm
    have:=sn R e;rw[this];congr 2;have h2:=Nat.mod_add_div t 4294967296;omega
  simp only[aC.wp,go_sem]at fin;simp only[go_sem,u,aoA,β,ex,aoB,Y];by_cases U:z+Z' P+1<Z' a
  ·have w:((z+Z' P+1:Nat):Int)<(Z' a:Nat):=Om;have ζ:=J _ (bhS U);have M:=cI a U;rw[bjS U]at d;generalize hy:a[z+Z' P+1]=y at *
   have ey:u_.wrap ((y:Nat):Int)=((y:Nat):Int):=bS Om;have A:shift .shl .u64 (y:Int) ((32:Nat):Int)=some (.int .u64 ((2^32*y:Nat):Int)):=YC aS Om;have X:=orI (a:=x) (b:=2^32*y) (n:=x+2^32*y) Om Om (ajG Om Om) Om;simp only[go_sem,w,aoC,Y,M,ey,show shift .shl .u64 (y:Int) 32=_ from A,X];refine fin (x+2^32*y) _ Om ?_ rfl rfl rfl rfl rfl _ ?_
   ·rw[<-O,d];simp only[val];omega
   ·intro v' Q H2 V e2 W;refine aJ (α:=List Nat × PV × PH) (P++[(x+2^32*y)/2^s%4294967296],v',H2) ⟨by simp;omega,by simpa using W,e2⟩ (by simp;omega) ?_ b_;simp only[bhW,biC];exact V
  ·have w:¬((z+Z' P+1:Nat):Int)<(Z' a:Nat):=Om;rw[blV (l:=a) (i:=z+Z' P+1) Om]at d;simp only[go_sem,w];refine fin x _ Om ?_ rfl rfl rfl rfl rfl _ ?_
   ·rw[<-O,d];simp only[val];omega
   ·intro v' Q H2 V e2 W;refine aJ (α:=List Nat × PV × PH) (P++[x/2^s%4294967296],v',H2) ⟨by simp;omega,by simpa using W,e2⟩ (by simp;omega) ?_ b_;simp only[bhW,biC];exact V
 ·have e:z+Z' P=Z' a:=Om;have u:¬((z+Z' P:Nat):Int)<(Z' a:Nat):=Om;have hV:val P=val (a.drop z)/2^s:=by rw[hD];refine uN (Nat.lt_of_le_of_lt (bkZ _ _) ?_);have:=iU E;rw[bjZ]at this;rw[show P.length=Z' a-z by omega];exact this
  have R:=L.trim _ B Om;rw[hV,<-hR]at R;simp only[go_sem,u,Ua];refine CJ R Z rfl λF1 H1 _=>?_;simp only[go_sem];exact bE (.inr rfl) .nil rfl a_ ⟨.refl _,rfl⟩
structure ca(C:Ctx):Prop extends Ad C where
 bits:∀xs,Lim xs->Z' xs<=35184372087808->aH C 31 [aN xs] .nil (aI (.int .i64 (cX (val xs):Nat)))
 upM:∀(a:List Nat)(n:Nat),Lim a->Z' a<=8388608->n<=8388608->(Z' a=0->val a=0)->aH C 45 [aN a,.int .i64 n] .nil (tH 1 (aO (aL (val a*2^n))))
 down:∀(a:List Nat)(n:Nat),Lim a->Z' a<=8388608->n<=1000000000->aH C 40 [aN a,.int .i64 n] .nil (aI (aN (aL (val a/2^n))))
def udS:Spec:=λname vs=>match name,vs with
 |35,[.int _ v]=>some ([],λ_=>aI (aN (aL v.toNat)))
 |44,[x,y]=>some ([],λ_=>aI (aN (aL (val (lE x)*val (lE y)))))
 |32,[x,.osl q _ _ _]=>some ([q],λd r H'=>H'=d/\∀xs,Lim xs->d q=some (.rows 1 (aO xs))->r=.int .i64 (eI (val (lE x)) (val xs)))
 |_,_=>none
theorem aYB(v:Nat):udS 35 [.int .u64 v]=some ([],λ_=>aI (aN (aL v))):=rfl
theorem aQO(x y:List Nat):udS 44 [aN x,aN y]=some ([],λ_=>aI (aN (aL (val x*val y)))):=by
 show some ([],λ_=>aI (aN (aL (val (lE (aN x))*val (lE (aN y))))))=_;rw[fA,fA]
theorem aSU(q:Nat)(x L:List Nat):(h_.set q (.rows 1 (aO L)))=(h_.set q (.rows 1 (aO L)))/\∀xs,Lim xs->(h_.set q (.rows 1 (aO L))) q=some (.rows 1 (aO xs))->(PV.int .i64 (eI (val x) (val L)))=.int .i64 (eI (val (lE (aN x))) (val xs)):=by
 refine⟨rfl,λxs d e=>?_⟩;rw[cZ]at e;have:aO L=aO xs:=(aY.rows.inj (bjV.inj e)).2;rw[gs this,fA]
def duF(n o e:Nat)(y:List Nat)(top i d:Nat)(k:Int):PF:=
 ((((((n_.set 10 (.int .i64 n)).set 11 (.osl o 1 0 e)).set 12 (aN y)).set 13 (.int .u64 top)).set 14 (.osl i 1 0 d)).set 15 (.int .i64 k))
abbrev fK(X:List Nat)(Z:P2_):P2_:=aO X++Z
theorem ZN{X:List Nat}{Z:P2_}{i:Nat}(h:i<Z' X):(fK X Z)[i]?=some [.int .u32 ((X[i]:Nat):Int)]:=by
 rw[fK,bkE (by rw[cR];exact h),cI X h]
theorem Vk{X:List Nat}{Z:P2_}{i:Nat}(h:i<Z' X)(v:Nat):(fK X Z).set i [.int .u32 (v:Int)]=fK (X.set i v) Z:=by
 rw[fK,List.set_append_left _ _ (by rw[cR];exact h),jS]
theorem Vj{X:List Nat}{Z:P2_}{j m:Nat}(h:j+m<=Z' X):((fK X Z).drop j).take m=aO ((X.drop j).take m):=by
 rw[fK,List.drop_append_of_le_length (by rw[cR];omega),List.take_append_of_le_length (by rw[bjZ,cR];omega)];unfold aO;rw[<-List.map_drop,<-bkY]
theorem a7Z(L:ca C)(n o p:Nat)(y:List Nat)(top l S j:Nat)(X:List Nat)(Z:P2_)(Q:l≠o)(hy:Lim y)(hX:Lim X)(γ:Z' X=p)(hl:p<=5000)(hj:j+(Z' y+1)<=p)(B:0<val y)
  (Y:aY) (g0:Nat) (hg:val ((X.drop j).take (Z' y+1))/val y<=g0) (O:g0<4294967296) (K:cF) (F:PF) (H:PH) (hF:((duF n o p y top l S j).set 17 (.int .u64 g0)).le F) (hH:((h_.set o (.rows 1 (fK X Z))).set l Y).le H)
  (hK:∀F' H',((duF n o p y top l S j).set 17 (.int .u64 (val ((X.drop j).take (Z' y+1))/val y:Nat))).le F'->((h_.set o (.rows 1 (fK X Z))).set l Y).le H'->K .normal F' H') :
  aC.wp C (.block 4 (.loop EC)) K F H:=by
 have d:¬o=l:=λh=>Q h.symm;have e:((X.drop j).take (Z' y+1)).length=Z' y+1:=by rw[biI,bjZ];omega
 have u:Lim ((X.drop j).take (Z' y+1)):=(hX.drop _).take _;have w:=Vj (X:=X) (Z:=Z) (j:=j) (m:=Z' y+1) Om;have x:j+(Z' y+1)<=(fK X Z).length:=by rw[fK,bhW,cR];omega
 have M:aO ((X.drop j).take (Z' y+1))≠[]:=λh=>by have:=congrArg List.length h;rw[cR,e]at this;simp at this
 generalize hW:(X.drop j).take (Z' y+1)=W at *
 generalize A:val W/val y=J at *
 simp only[go_sem];refine wp_loop (α:=Nat) (λg=>(duF n o p y top l S j).set 17 (.int .u64 g)) (λ_=>(h_.set o (.rows 1 (fK X Z))).set l Y) (λg=>J<=g/\g<4294967296) (λg=>g) g0 ⟨hg,O⟩ hF hH ?_;rintro g ⟨β,hlt⟩;have e1:i_.wrap ((j:Int)+(Z' y:Int))=((j+Z' y:Nat):Int):=kS Om;have e2:i_.wrap (((j+Z' y:Nat):Int)+1)=((j+Z' y+1:Nat):Int):=dZ Om;have b1:(j:Int)<=((j+Z' y+1:Nat):Int):=Om;have b2:((j+Z' y+1:Nat):Int)<=(p:Nat):=Om;have b3:j+Z' y+1-j=Z' y+1:=Om;have mk:=L.make g Om;have tm:=L.times y (aL g) hy (aX _) Om (by have E:nl g<=1:=jM (by rw[Nat.pow_one];exact hlt);rw[bF];omega)
 rw[aV]at tm;have R:(aL (val y*g)).length<=35184372087808:=by have E:nl g<=1:=jM (by rw[Nat.pow_one];exact hlt);have h2:=mJ (a:=val y) (b:=g) (jR hy) E;rw[bF];omega
 have cm:=L.cmp (aL (val y*g)) W (aX _) u R Om;rw[aV]at cm;simp only[go_sem,EC];refine bV .nil udS a_ ?_;simp only[go_sem,tf,duF];refine bX (aYB g) mk Sq a_ ?_;simp only[go_sem];have tS:=aQO y (aL g);rw[aV]at tS;refine bX tS tm Sq a_ ?_;simp only[go_sem,bhO,e1,e2,b1,b2,b3];refine CI (src:=aO W) ?_ ?_ (λh=>absurd h M) λ_ o' i=>?_
 ·simp only[go_sem,d,x,w]
 ·unfold roomFor;rw[cR,e];simp only[maxLen];omega
 refine⟨a_,?_⟩;rw[cR,e];have n1:¬o'=l:=(kP.1 i).1;refine aTE (o:=o') (s:=1) (rs:=aO W) (vs:=[aN (aL (val y*g)),.osl o' 1 0 (Z' y+1)]) (v:=.int .i64 (eI (val y*g) (val W))) rfl (.int _ _) Sq ?_ ?_ ?_ Sq a_ ?_
 ·rw[biU,biU,bjP,zQ (by rw[cR,e];exact bhV _),biK (by rw[cR,e];exact bhV _)];exact cm
 ·have:=aSU o' (aL (val y*g)) W;rw[aV]at this;exact this
 ·rintro r H' ⟨E,h2⟩;have:=h2 W u (by rw[cZ]);rw[fA,aV]at this;exact⟨this,E⟩
 simp only[go_sem];by_cases c:val W<val y*g
 ·have N:eI (val y*g) (val W)=1:=by unfold eI;rw[aE Om,aG c]
  have hq:J<g:=by rw[<-A];exact(blD B).2 (by rw[biW];exact c)
  have ew:u_.wrap ((g:Int)-1)=((g-1:Nat):Int):=by rw[wrap_u64 Om Om];omega
  simp only[go_sem,N,show(1:Int)>0 by decide,tg,ew];refine aJ (g-1) ⟨by omega,by omega⟩ Om ?_ ?_
  ·exact Lq
  ·refine e_ (e_ a_ ?_) ?_
   ·have U:¬o=o':=λh=>by subst h;rw[bC,aE d,cZ]at i;cases i
    simp only[go_sem,U,d]
   ·have V:¬l=o':=λh=>n1 h.symm;simp only[go_sem,V]
 ·have N:¬eI (val y*g) (val W)>0:=by unfold eI;rw[aE c];split<;>decide
  have hq:g=J:=by
   have:g<=J:=by rw[<-A];exact(Nat.le_div_iff_mul_le B).2 (by rw[biW];omega)
   omega
  simp only[go_sem,N];refine hK _ _ ?_ ?_
  ·unfold duF
   (repeat' (first|exact c_|refine d_ ?_ ?_))<;>first|(simp only[go_sem,<-hq]<;>rfl)|rfl
  ·refine e_ (e_ a_ ?_) ?_
   ·have U:¬o=o':=λh=>by subst h;rw[bC,aE d,cZ]at i;cases i
    simp only[go_sem,U,d]
   ·have V:¬l=o':=λh=>n1 h.symm;simp only[go_sem,V]
theorem a2O(R k:Nat)(h:k<nl R):∃l:k<(aL R).length,(aL R)[k]=R/4294967296^k%4294967296:=by
 have d:k<(aL R).length:=by rw[bF];exact h
 refine⟨d,?_⟩;have e:=DO (aX R) (Nat.le_of_lt d);rw[aV,bjS d]at e;have i:=aX R _ (bhS d);simp only[val]at e;rw[<-e,Nat.add_mul_mod_self_left,bjM i]
theorem aVC(R k:Nat)(h:nl R<=k):R/4294967296^k%4294967296=0:=by
 rw[blR ((mO R k).1 h)]
theorem a4J{A P W Z:List Nat}{i:Nat}(d:Z' P=i)(hi:i<Z' W)(v:Nat):(A++(P++W.drop i)++Z).set (Z' A+i) v=A++((P++[v])++W.drop (i+1))++Z:=
 gs (by rw[<-jS];exact SP d hi v)
theorem baR(n o x:Nat)(y:List Nat)(top u S j:Nat)(X:List Nat)(Z:P2_)(E:u≠o)(O:Z' X=x)(hl:x<=5000)(hj:j+(Z' y+1)<=x)
  (U:aY) (g R:Nat) (K:cF) (F:PF) (H:PH) (hF:((((duF n o x y top u S j).set 17 (.int .u64 g)).set 18 (aN (aL R))).set 19 (.int .i64 0)).le F) (hH:((h_.set o (.rows 1 (fK X Z))).set u U).le H)
  (hK:∀V H',((duF n o x y top u S j).set 17 (.int .u64 g)).le V->((h_.set o (.rows 1 (fK (X.take j++fH (Z' y+1) R++X.drop (j+(Z' y+1))) Z))).set u U).le H'->K .normal V H') :
  aC.wp C (.block 6 (.loop ED)) K F H:=by
 have l:¬o=u:=λh=>E h.symm;have hA:(X.take j).length=j:=by rw[biI];omega
 have ε:((X.drop j).take (Z' y+1)).length=Z' y+1:=by rw[biI,bjZ];omega
 have θ:(X.drop (j+(Z' y+1))).length=x-(j+(Z' y+1)):=by rw[bjZ,O]
 have w:X.take j++(X.drop j).take (Z' y+1)++X.drop (j+(Z' y+1))=X:=by rw[biY,<-List.drop_drop,bkQ,bkQ]
 rw[<-w]at hH;generalize γ:X.take j=A at *
 generalize δ:(X.drop j).take (Z' y+1)=W at *
 generalize η:X.drop (j+(Z' y+1))=p at *
 simp only[go_sem];refine wp_loop (α:=List Nat) (λP=>(((duF n o x y top u S j).set 17 (.int .u64 g)).set 18 (aN (aL R))).set 19 (.int .i64 P.length)) (λP=>(h_.set o (.rows 1 (fK (A++(P++W.drop P.length)++p) Z))).set u U)
  (λP=>Z' P<=Z' y+1/\P=fH P.length R) (λP=>Z' y+1-Z' P) [] ⟨bhT _,rfl⟩ hF (by simpa using hH) ?_
 rintro P ⟨hP,hD⟩;simp only[go_sem,ED,th,duF];by_cases c:Z' P<Z' y+1
 ·have M:(Z' P:Int)<=(Z' y:Nat):=Om;have Y:i_.wrap ((j:Int)+(Z' P:Int))=((j+Z' P:Nat):Int):=kS Om;have β:(A++(P++W.drop P.length)++p).length=x:=by simp only[bhW,bjZ];omega
  have hi:j+Z' P<(A++(P++W.drop P.length)++p).length:=Om;have b1:((j+Z' P:Nat):Int)<(x:Nat):=Om;have r1:=ZN (Z:=Z) hi;have s1:=Vk (Z:=Z) hi 0;have J:j+Z' P<((A++(P++W.drop P.length)++p).set (j+Z' P) 0).length:=by rw[bjO];exact hi
  have d:=λv=>a4J (A:=A) (P:=P) (W:=W) (Z:=p) (i:=Z' P) rfl Om v;rw[hA]at d;generalize ζ:A++(P++W.drop P.length)++p=XX at *
  have r2:(fK (A++((P++[0])++W.drop (Z' P+1))++p) Z)[j+Z' P]?=some [.int .u32 ((0:Nat):Int)]:=by rw[<-d 0,ZN J,List.getElem_set_self]
  have s2:∀v,(fK (A++((P++[0])++W.drop (Z' P+1))++p) Z).set (j+Z' P) [.int .u32 ((v:Nat):Int)]=fK (A++((P++[v])++W.drop (Z' P+1))++p) Z:=by intro v;rw[<-d 0,Vk J,List.set_set,d]
  have bgZ:=EN P.length R;rw[<-hD]at bgZ;have ew:i_.wrap ((Z' P:Int)+1)=((Z' P+1:Nat):Int):=dZ Om;simp only[go_sem,M,ti,Y,b1,l,r1,show([PV.int .u32 (0:Int)])=[PV.int .u32 ((0:Nat):Int)]from rfl,s1,tj,bF];by_cases c2:Z' P<nl R
  ·have B:(Z' P:Int)<(nl R:Nat):=Om;obtain⟨N,Q⟩:=a2O R P.length c2;have hr:=cI (aL R) N;rw[Q]at hr;simp only[go_sem,B,tk,hr,Y,b1,l,r2,s2,List.set_set,d,QO,ew];refine aJ (P++[R/4294967296^P.length%4294967296]) ⟨by simp;omega,by rw[bhW,biC];exact bgZ.symm⟩ (by simp;omega) ?_ ?_
   ·rw[bhW,biC];exact Lq
   ·rw[bhW,biC];refine e_ (e_ a_ ?_) ?_<;>simp only[go_sem,l,show ¬u=o from E]
  ·have B:¬(Z' P:Int)<(nl R:Nat):=Om;have Q:=aVC R P.length Om;rw[Q]at bgZ;simp only[go_sem,B,d,QO,ew];refine aJ (P++[0]) ⟨by simp;omega,by rw[bhW,biC];exact bgZ.symm⟩ (by simp;omega) ?_ ?_
   ·rw[bhW,biC];exact Lq
   ·rw[bhW,biC];refine e_ (e_ a_ ?_) ?_<;>simp only[go_sem,l,show ¬u=o from E]
 ·have M:¬(Z' P:Int)<=(Z' y:Nat):=Om;have e:Z' P=Z' y+1:=Om;simp only[go_sem,M];refine hK _ _ (by unfold duF;exact Lq) ?_;have h2:A++fH (Z' y+1) R++p=A++(P++W.drop P.length)++p:=by rw[blV Om,bjI,<-e,<-hD]
  rw[h2];exact b_
end Go.PM
