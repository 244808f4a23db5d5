/-Lemmas for the law. No condition.-/
import Derived.Test.YtjlbgiaeggfcaaaGreatDoorCP2
import Derived.Lib.ItoaNum
set_option linter.unusedSimpArgs false
set_option linter.unusedVariables false
open Nat renaming reduceEqDiff->γ,reduceAdd->δ,reduceSub->ε,reduceMul->ζ,reduceLT->η,reduceLeDiff->θ,reduceBEq->τ
open Int renaming reduceLT->ι,reduceLE->κ,reduceEq->μ,reduceToNat->ν,reduceAdd->ξ,reduceNeg->ο,reduceBEq->ρ,reduceBNe->σ
open List renaming reduceReplicate->υ
open List renaming length_map->bkG,range->bkH,getElem_mem->bkK,replicate->bkM,length_append->bkQ,all_eq_true->bkS,getElem?_eq_getElem->bkT,length_singleton->bkV,mem_cons->bkX,length_take->bkY,take_of_length_le->bkZ,getD_eq_getElem?_getD->blB,getElem?_map->blC,not_mem_nil->blD,take_length->blE,mem_map->blF,map_append->blK,map_cons->blM,mem_range->blN,take_succ_eq_append_getElem->blO,getElem?_eq_some_iff->blQ,mem_append->blV,append_assoc->blW,getElem_map->blX,drop_zero->blY,getElem_of_mem->blZ,getElem?_eq_none->bmA,length_set->bmD,map_nil->bmE,mem_singleton->bmF,append_nil->bmJ,mem_of_getElem?->bmK,drop_eq_getElem_cons->bmP,length_drop->bmQ,getElem?_append_left->bmU,Sublist->bmW,length_nil->bnB,map_congr_left->bnH,nodup_append->bnI,set_append_right->bnJ,ext_getElem->bnM,map_map->bnN,map_take->bnO,take_append_drop->bnP,all_append->bnX,all_cons->bnY,mem_of_mem_take->boC,nil_append->boD,range_succ->boE,set_cons_zero->boF,drop_of_length_le->boK,getElem?_set->boM,countP_le_length->boO,length_filter_le->boP
open Bool renaming and_eq_true->bkI,not_true->bkO,false_and->bkP,true_and->bkR,not_false->bkW,and_false->blR,and_true->bmO,false_eq_true->bmT,and_assoc->bnT
open Nat renaming gcd->bkJ,zero_le->bkL,le_refl->bkN,mul_add->blA,zero_add->blG,le_trans->blH,lt_or_ge->blI,mul_assoc->blL,mul_comm->blP,add_mul->blT,mod_eq_of_lt->bmC,mod_lt->bmG,pow_succ->bmM,add_zero->bmS,eq_zero_or_pos->bmZ,min_eq_left->bnA,add_assoc->bnC,mul_le_mul_left->bnD,pos_of_ne_zero->bnE,sub_self->bnF,pow_pos->bnK,div_le_self->bnQ,pow_le_pow_right->bnR,div_lt_iff_lt_mul->bnU,mul_le_mul->bnV,div_add_mod->boG,div_eq_of_lt->boH
open Option renaming map_some->blJ,some->bmH,getD_some->bnG
open Int renaming toNat_natCast->bmI,tdiv->bmX
open Array renaming getElem?_eq_some_iff->bnZ
open List renaming length->Z'
set_option maxRecDepth 100000
set_option maxHeartbeats 800000
open Go.IntKind renaming i64->i_,u64->u_
open Go.PM.PF renaming nil->n_,args->g_
open Go.PM.PH renaming nil->h_
noncomputable section
namespace Go.PM
open Go Go.Na
structure An(C:Ctx):Prop extends Zx C where
 ends:∀l:dB,l.Ok->LQ l->aH C 102 [.agg l.cells] .nil (aF (.bool (uS l)))
def yR(l:dB)(i:Nat):Bool:=decide ((l.bjA.getD i []).length=Z' l.start)&&(l.bjA.getD i []).all dX&&!((l.bjA.getD i []).map bZ).getD i false
def DH(l:dB):Bool:=match tD (l.start.map RF.v)with
 | .ok (n,a,b)=>decide (sW n a b false 1 1=0)
 | .error _=>false
theorem azU(l:dB):oT l=(within l.start.length 1 4&&decide (Z' l.exit=Z' l.start)&&decide (Z' l.bjA=Z' l.start)&&l.start.all dX&&l.exit.all dX&&(bkH l.bjA.length).all (yR l)&&DH l&&uS l):=rfl
theorem aoZ{l:List FV}{e:Int}(h:tD l=.error e):e≠0:=by
 have:∀(l:List FV)(b:FV)(e:Int),l.foldlM gJ b=.error e->e≠0:=by
  intro l
  induction l with
  |nil=>intro b e h;cases h
  |cons x t p=>
   intro b e h;rw[List.foldlM_cons]at h;cases d:gJ b x with
   |error i=>
    rw[d]at h;have:i=e:=by injection h
    subst this;obtain⟨u,a1,b1⟩:=b;obtain⟨w,a2,b2⟩:=x;simp only[gJ]at d;split at d
    ·split at d
     ·rw[VO d];decide
     ·split at d
      ·rw[VO d];decide
      ·rw[VO d];decide
    ·injection d with d;subst d;decide
   |ok y=>rw[d]at h;exact p y e h
 exact this l _ e h
theorem aDR{l:List FV}{r:FV}(h:tD l=.ok r):r.rf.Ok:=by
 have:∀(l:List FV)(b r:FV),b.rf.Ok->l.foldlM gJ b=.ok r->r.rf.Ok:=by
  intro l
  induction l with
  |nil=>intro b r hb h;injection h with h;subst h;exact hb
  |cons x t e=>
   intro b r hb h;rw[List.foldlM_cons]at h;cases d:gJ b x with
   |error i=>rw[d]at h;cases h
   |ok y=>rw[d]at h;exact e y r (ln d) h
 refine this l _ r ⟨aY _,aY _,?_,?_⟩ h
 ·show(aM 0).length<=_;rw[fJ];simp
 ·show(aM 1).length<=_;rw[uI aU aU];simp
theorem VP{neg:Bool}{a b:Nat}{r:FV}(hb:b≠0)(h:kB neg a b=.ok r):cB r.2.1 r.2.2=true:=by
 unfold kB at h;split at h
 ·cases h
 ·rename_i l;injection h with h
  subst h;have d:bkJ a b ∣ b:=Nat.gcd_dvd_right _ _;have e:b/bkJ a b≠0:=by have:=Nat.div_pos (Nat.le_of_dvd (bnE hb) d) (bnE λh=>hb (Nat.gcd_eq_zero_iff.1 h).2);omega
  have i:=@oN (b/bkJ a b);simp only[cB,bkI,dT_];omega
theorem aHY{x y r:FV}(h:gJ x y=.ok r):cB r.2.1 r.2.2=true:=by
 obtain⟨i,a1,b1⟩:=x;obtain⟨l,a2,b2⟩:=y;simp only[gJ]at h;split at h
 ·rename_i e;rw[bkI]at e;have d:b1*b2≠0:=Nat.mul_ne_zero (eK.1 e.1).1 (eK.1 e.2).1;split at h
  ·exact VP d h
  ·split at h
   ·exact VP d h
   ·exact VP d h
 ·cases h
theorem aNW:cB 0 1=true:=by
 have:dC 1=1:=by rw[vG aU,nL]
 simp[cB,this,nL]
theorem Jo{l:List FV}{r:FV}(h:tD l=.ok r):cB r.2.1 r.2.2=true:=by
 have:∀(l:List FV)(b r:FV),cB b.2.1 b.2.2=true->l.foldlM gJ b=.ok r->cB r.2.1 r.2.2=true:=by
  intro l
  induction l with
  |nil=>intro b r hb h;injection h with h;subst h;exact hb
  |cons x t e=>
   intro b r hb h;rw[List.foldlM_cons]at h;cases d:gJ b x with
   |error i=>rw[d]at h;cases h
   |ok y=>rw[d]at h;exact e y r (aHY d) h
 exact this l _ r aNW h
theorem aWT:(⟨false,[],[]⟩:RF).Ok:=⟨λ_ h=>absurd h (blD),λ_ h=>absurd h (blD),show 0<=35184372087808 by decide,show 0<=35184372087808 by decide⟩
def aYE(l:dB)(k:Nat):PF:=(((((n_.set 1 (.bO l.cells)).set 3 (.int .i64 (Z' l.start:Nat))).set 45 (aMT l.bjA)).set 46 (.int .i64 (Z' l.bjA:Nat))).set 47 (.int .i64 k))
variable{C:Ctx}
theorem aQJ(L:An C)(l:dB)(B:l.Ok)(K:LQ l)(F:PF)(A:F 1=some (.bO l.cells)) :
  aC.wp C (.seq (.region wg) (.seq (.region UR) (.seq (.region US) (.seq (.region CN) .ret)))) (aX [.tmp 2] (cI (.bool (DH l&&uS l)))) F .nil:=by
 simp only[go_sem,wg,A];refine aB (L.tot l.start B.start) rfl ?_;obtain⟨E,x,y,e,R⟩:=zC (tD (l.start.map RF.v));have go:∀(z:RF)(e:Int),z.Ok->(e=0->(wJ z.neg (val z.num) (val z.den) false 1 1=.tup [.int .i64 (sW z.neg (val z.num) (val z.den) false 1 1),.int .i64 0])/\DH l=decide (sW z.neg (val z.num) (val z.den) false 1 1=0))->(e≠0->DH l=false) ->
   frV (tD (l.start.map RF.v))=.tup [.agg z.cells,.int .i64 e] ->
   wpOps C [⟨(some 69),.mv (.tmp 72),none⟩,⟨(some 73),.extract (.tmp 69) 0,none⟩,⟨(some 74),.extract (.tmp 69) 1,none⟩,⟨(some 6),.alloc [(.bool false),.aK,.aK],none⟩,⟨none,.store 3 (.tmp 6) (.tmp 73),none⟩,⟨(some 7),.mv (.tmp 74),none⟩]
    (aC.wp C (.seq (.region UR) (.seq (.region US) (.seq (.region CN) .ret))) (aX [.tmp 2] (cI (.bool (DH l&&uS l))))) ((((F.set 70 (.bO [frs l.start,aMT l.bjA,frs l.exit])).set 71 (frs l.start))).set 72 (.tup [.agg z.cells,.int .i64 e])) .nil:=by
  intro z e O H J _;simp only[go_sem];refine aP λo6 M=>?_;simp only[go_sem,UR];refine aB (L.frac 1 1 aU aU) rfl ?_;rw[ahV];simp only[go_sem,frV];refine aP λo8 p=>?_;have Q:o6≠o8:=by rintro rfl;simp only[bD,if_true]at p;cases p
  simp only[go_sem,US,Q];refine aB (L.ord z (FV.rf (false,1,1)) O aRZ) rfl ?_;rw[show val (FV.rf (false,1,1)).num=1 from aW 1,show val (FV.rf (false,1,1)).den=1 from aW 1,show(FV.rf (false,1,1)).neg=false from rfl];by_cases c:e=0
  ·obtain⟨g1,g2⟩:=H c;rw[g1,g2];by_cases d:sW z.neg (val z.num) (val z.den) false 1 1=0
   ·simp only[go_sem,CN,bW c,bW d,A];refine aB (L.ends l B K) rfl ?_;simp only[go_sem];exact bU rfl (by rw[aV d,bkR])
   ·simp only[go_sem,CN,bW c,bL d];exact bU rfl (by rw[bC d,bkP])
  ·rw[J c];have:∃v w,wJ z.neg (val z.num) (val z.den) false 1 1=.tup [.int .i64 v,.int .i64 w]:=by
    unfold wJ;split
    ·exact⟨_,_,rfl⟩
    ·exact⟨_,_,rfl⟩
   obtain⟨v,w,u⟩:=this;rw[u];simp only[go_sem,CN,bL c];exact bU rfl rfl
 cases i:tD (l.start.map RF.v)with
 |error e =>rw[i]at go;exact go ⟨false,[],[]⟩ e aWT (λh=>absurd h (aoZ i)) (λ_=>by rw[DH,i]) rfl
 |ok r =>obtain⟨n,a,b⟩:=r;rw[i]at go;have N:=aDR i;refine go (FV.rf (n,a,b)) 0 N (λ_=>?_) (λh=>absurd rfl h) rfl;rw[show val (FV.rf (n,a,b)).num=a from aW a,show val (FV.rf (n,a,b)).den=b from aW b,show(FV.rf (n,a,b)).neg=n from rfl];refine⟨?_,by rw[DH,i]⟩;have u:cB a b=true:=Jo i;rw[wJ,u,Xa];rfl
theorem a4N(L:An C)(l:dB)(y:l.Ok):ep.wp C (aX aXM.res (cI (.bool (oT l)))) (g_ [.agg l.cells]) .nil:=by
 rw[azU];simp only[go_sem,ep,ayP,ayQ,aXM,ayR,bkG];refine aB (L.inn l.start.length 1 4) rfl ?_;cases N:within l.start.length 1 4 with
 |false =>simp only[go_sem,bkW,IK];exact bU rfl (by simp only[bkP])
 |true=>
  obtain⟨V,W⟩:=within_iff.1 N;by_cases E:Z' l.exit=Z' l.start
  ·rw[aV E];by_cases F:Z' l.bjA=Z' l.start
   ·rw[aV F];simp only[go_sem,bkO,bkG,cF (Om:(Z' l.exit:Int)=(Z' l.start:Nat)),cF (Om:(Z' l.bjA:Int)=(Z' l.start:Nat))];refine aB (L.aYJ l.start y.start) rfl ?_;cases R:l.start.all dX with
    |false =>simp only[go_sem,bkW,IK];exact bU rfl (by simp only[bkP])
    |true=>
     simp only[go_sem,bkO];refine aB (L.aYJ l.exit y.exit) rfl ?_;cases S:l.exit.all dX with
     |false =>simp only[go_sem,bkW,IK];exact bU rfl (by simp only[bkP])
     |true=>
      simp only[go_sem,bkO,ayS,bkG];have x:∀k (h:k<Z' l.bjA),yR l k=(decide ((l.bjA[k]).length=Z' l.start)&&(l.bjA[k]).all dX&&!((l.bjA[k]).map bZ).getD k false):=by
       intro k h;have:l.bjA.getD k []=l.bjA[k]:=by simp[blB,h]
       rw[yR,this]
      refine wp_loop (α:=Nat) (λk=>aYE l k) (λ_=>.nil) (λk=>k<=Z' l.bjA/\xW (yR l) k) (λk=>Z' l.bjA-k) 0 ⟨bkL _,.zero⟩ ?_ a_ ?_
      ·unfold aYE
       (repeat' (first|exact c_|refine d_ ?_ ?_))<;>first|(simp only[go_sem,bkG]<;>rfl)|rfl
      rintro k ⟨U,M⟩;simp only[go_sem,afM,ayT,aYE];by_cases hlt:k<Z' l.bjA
      ·have e:(k:Int)<(Z' l.bjA:Nat):=Om;have B:(l.bjA.map λr=>[frs r])[k]?=some [frs l.bjA[k]]:=by simp[hlt]
       have d:=x k hlt;have u:=y.row l.bjA[k] (bkK hlt);simp only[go_sem,e,ayU,B,ayV,bkG];by_cases H:(l.bjA[k]).length=Z' l.start
       ·rw[aV H,bkR]at d;simp only[go_sem,cF (show(((l.bjA[k]).length:Nat):Int)=(Z' l.start:Nat) by omega)];refine aB (L.aYJ _ u) rfl ?_;cases J:(l.bjA[k]).all dX with
        |false =>rw[J,bkP]at d;simp only[go_sem,bkW,mf];refine bU (b:=false) rfl ?_;have:(bkH l.bjA.length).all (yR l)=false:=gY hlt d;rw[this];simp only[bkP,blR]
        |true=>
         have w:k<(l.bjA[k]).length:=Om;have Q:((l.bjA[k]).map RF.cells)[k]?=some ((l.bjA[k])[k]).cells:=by simp[w]
         have A:((l.bjA[k]).map bZ).getD k false=bZ (l.bjA[k])[k]:=by simp[blB,w]
         rw[J,bkR,A]at d;simp only[go_sem,bkO,Q];refine aB (L.uR _ (u.all _ (bkK w))) rfl ?_;cases K:bZ (l.bjA[k])[k]with
         |true =>rw[K]at d;simp only[go_sem,mf];refine bU (b:=false) rfl ?_;have:(bkH l.bjA.length).all (yR l)=false:=gY hlt d;rw[this];simp only[bkP,blR]
         |false =>rw[K]at d;simp only[go_sem,ayW,wZz k];refine aG (k+1) ⟨hlt,M.step d⟩ Om ?_ a_;exact Lq
       ·simp only[bC H,bkP]at d;simp only[go_sem,dP (show(((l.bjA[k]).length:Nat):Int)≠(Z' l.start:Nat) by omega),mf];refine bU (b:=false) rfl ?_;have:(bkH l.bjA.length).all (yR l)=false:=gY hlt d;rw[this];simp only[bkP,blR]
      ·have e:¬(k:Int)<(Z' l.bjA:Nat):=Om;have:k=Z' l.bjA:=Om;subst this;have p:(bkH l.bjA.length).all (yR l)=true:=M;have O:LQ l:=⟨by omega,by omega,λr B=>by obtain⟨i,hi,rfl⟩:=blZ B;have:=bkS.1 p i (blN.2 hi);rw[x i hi]at this;simp only[bkI,dT_]at this;omega⟩
       have tail:=aQJ L l y O;simp only[aC.wp,go_sem]at tail;rw[p];simp only[go_sem,e,bkR,bmO];exact tail _ rfl
   ·simp only[go_sem,bkO,bkG,cF (Om:(Z' l.exit:Int)=(Z' l.start:Nat)),dP (Om:(Z' l.bjA:Int)≠(Z' l.start:Nat)),IK];exact bU rfl (by rw[bC F];simp only[bkP,blR])
  ·simp only[go_sem,bkO,bkG,dP (Om:(Z' l.exit:Int)≠(Z' l.start:Nat)),IK];exact bU rfl (by rw[bC E];simp only[bkP,blR])
structure pK(C:Ctx):Prop extends An C where
 law:∀l:dB,l.Ok->aH C 95 [.agg l.cells] .nil (aF (.bool (oT l)))
 pol:∀(p:cJ)(n:Nat),p.Ok->n<=4->aH C 112 [.agg p.cells,.int .i64 n] .nil (aF (.bool (mX n p)))
 bjE:∀f:aE,f.Ok->aH C 111 [.agg f.cells] .nil (aF (.bool (tM f)))
abbrev iU(l:List (List UInt8)):List (List PV):=l.map λs=>[PV.str s]
theorem FA(l:List (List UInt8)){k:Nat}(h:k<Z' l):iU (l.take k)++[[.str l[k]]]=iU (l.take (k+1)):=by
 unfold iU;rw[blO h,blK];rfl
theorem zR{l:List (List UInt8)}(h:Z' l<=1000):roomFor (iU l).length 1 16:=by
 unfold roomFor iU;simp only[bkG,maxLen];omega
def mN{α:Type}(l:List α)(p:α->Bool)(k:Nat):Bool:=(l.take k).all p
theorem AB{α:Type}(l:List α)(p:α->Bool):mN l p 0=true:=rfl
theorem AA{α:Type}(l:List α)(p:α->Bool){k:Nat}(h:k<Z' l):mN l p (k+1)=(mN l p k&&p l[k]):=by
 unfold mN;rw[blO h,bnX];simp
theorem EH{α:Type}(l:List α)(p:α->Bool):mN l p l.length=l.all p:=by unfold mN;rw[blE]
def mR(f:aE)(d e i l p:PV)(ok:Bool):PF:=(((((((n_.set 1 (.bO f.cells)).set 3 (d)).set 4 (e)).set 5 (i)).set 6 (l)).set 7 (p)).set 8 (.bool ok))
structure pN(F:PF)(f:aE)(w3 w4 w5 w6 w7:PV)(ok:Bool):Prop where
 a1:F 1=some (.bO f.cells)
 a3:F 3=some w3
 a4:F 4=some w4
 a5:F 5=some w5
 a6:F 6=some w6
 a7:F 7=some w7
 a8:F 8=some (.bool ok)
theorem aKE(L:pK C)(f:aE)(Q:f.Ok)(W:Z' f.bjC<=4)(B E J M:PV)(K:cH)(F:PF)(H:PH)(l:pN F f .aK B E J M true)
  (x:F 67=some (.sl 4 (f.bjC.map dB.cells))) (y:F 68=some (.int .i64 (Z' f.bjC:Nat))) (A:F 69=some (.int .i64 0))
  (O:∀v N H',pN N f v B E J M (f.bjC.all oT)->cG H' 1 v (iU (f.bjC.map dB.name))->K (.exit 0) N H') :
  aC.wp C (.loop UX) K F H:=by
 refine wp_loop (α:=Nat × PV × PH) (λt=>(((mR f t.2.1 B E J M (mN f.bjC oT t.1)).set 67 (.sl 4 (f.bjC.map dB.cells))).set 68 (.int .i64 (Z' f.bjC:Nat))).set 69 (.int .i64 t.1)) (λt=>t.2.2)
  (λt=>t.1<=Z' f.bjC/\cG t.2.2 1 t.2.1 (iU ((f.bjC.map dB.name).take t.1))) (λt=>Z' f.bjC-t.1) (0,.aK,.nil) ⟨bkL _,.nil⟩ ?_ a_ ?_
 ·unfold mR
  (repeat' (first|exact c_|refine d_ ?_ ?_))<;>first|(simp only[go_sem,l.a1,l.a3,l.a4,l.a5,l.a6,l.a7,l.a8,x,y,A,AB]<;>rfl)|rfl
 rintro⟨k,v,V⟩ ⟨R,w⟩;simp only at R w ⊢;simp only[go_sem,UX,azR,mR];by_cases hlt:k<Z' f.bjC
 ·have e:(k:Int)<(Z' f.bjC:Nat):=Om;have U:(f.bjC.map dB.cells)[k]?=some (f.bjC[k]).cells:=by simp[hlt]
  have u:=FA (f.bjC.map dB.name) (k:=k) (by simpa using hlt);rw[blX]at u;simp only[go_sem,e,azS,U];refine aP λo S=>?_;simp only[go_sem,azT];refine sP w S (zR (by simp;omega)) λv' H' i p=>?_;rw[u]at i;have d:=AA f.bjC oT hlt;cases hb:mN f.bjC oT k with
  |false =>rw[hb,bkP]at d;simp only[go_sem,M1,p,wq,wZz k];refine aG (k+1,v',H') ⟨hlt,i⟩ (by simp only;omega) ?_ b_;simp only[d];exact Lq
  |true =>rw[hb,bkR]at d;simp only[go_sem,M1,p];refine aB (L.law _ (Q.law _ (bkK hlt))) Ev ?_;simp only[go_sem,wq,wZz k];refine aG (k+1,v',H') ⟨hlt,i⟩ (by simp only;omega) ?_ b_;simp only[d];exact Lq
 ·have e:¬(k:Int)<(Z' f.bjC:Nat):=Om;have:k=Z' f.bjC:=Om;subst this;rw[bkZ bH]at w;rw[EH];simp only[go_sem,e];exact O v _ _ ⟨s_,s_,s_,s_,s_,s_,s_⟩ w
theorem NS{n:Nat}(h:n<=1000):i_.wrap ((n:Int)-1)=(n:Int)-1:=wrap_i64 Om Om
theorem aKF(L:pK C)(f:aE)(hs:Z' f.biW<=4)(hl:Z' f.bjC<=4)(u:Bool)(A B E J:PV)(K:cH)(F:PF)(H:PH)(l:pN F f A .aK B E J u)
  (O:F 85=some (.sl 4 (f.biW.map dW.cells))) (Q:F 86=some (.int .i64 (Z' f.biW:Nat))) (R:F 87=some (.int .i64 0))
  (U:∀v p H',pN p f A v B E J (u&&f.biW.all (oW f))->cG H' 1 v (iU (f.biW.map dW.name))->K (.exit 2) p H') :
  aC.wp C (.loop UY) K F H:=by
 refine wp_loop (α:=Nat × PV × PH) (λt=>(((mR f A t.2.1 B E J (u&&mN f.biW (oW f) t.1)).set 85 (.sl 4 (f.biW.map dW.cells))).set 86 (.int .i64 (Z' f.biW:Nat))).set 87 (.int .i64 t.1)) (λt=>t.2.2)
  (λt=>t.1<=Z' f.biW/\cG t.2.2 1 t.2.1 (iU ((f.biW.map dW.name).take t.1))) (λt=>Z' f.biW-t.1) (0,.aK,.nil) ⟨bkL _,.nil⟩ ?_ a_ ?_
 ·unfold mR
  (repeat' (first|exact c_|refine d_ ?_ ?_))<;>first|(simp only[go_sem,l.a1,l.a3,l.a4,l.a5,l.a6,l.a7,l.a8,O,Q,R,AB,bmO]<;>rfl)|rfl
 rintro⟨k,v,Z⟩ ⟨W,M⟩;simp only at W M ⊢;simp only[go_sem,UY,agI,mR];by_cases hlt:k<Z' f.biW
 ·have d:(k:Int)<(Z' f.biW:Nat):=Om;have Y:(f.biW.map dW.cells)[k]?=some (f.biW[k]).cells:=by simp[hlt]
  have y:=FA (f.biW.map dW.name) (k:=k) (by simpa using hlt);rw[blX]at y;simp only[go_sem,d,agJ,Y];refine aP λo X=>?_;simp only[go_sem,agK];refine sP M X (zR (by simp;omega)) λv' H' w e=>?_;rw[y]at w;have i:=AA f.biW (oW f) hlt;have fin:∀(c:Bool)(p:PF),c=(u&&mN f.biW (oW f) (k+1))->((((mR f A v' B E J c).set 85 (.sl 4 (f.biW.map dW.cells))).set 86 (.int .i64 (Z' f.biW:Nat))).set 87 (.int .i64 (k+1:Nat))).le p ->
    jM (λ(t:Nat × PV × PH)=>(((mR f A t.2.1 B E J (u&&mN f.biW (oW f) t.1)).set 85 (.sl 4 (f.biW.map dW.cells))).set 86 (.int .i64 (Z' f.biW:Nat))).set 87 (.int .i64 t.1)) (λ(t:Nat × PV × PH)=>t.2.2)  (λ(t:Nat × PV × PH)=>t.1<=Z' f.biW/\cG t.2.2 1 t.2.1 (iU ((f.biW.map dW.name).take t.1))) (λ(t:Nat × PV × PH)=>Z' f.biW-t.1) (Z' f.biW-k) K .normal p H':=by
   intro c p V x;refine aG (α:=Nat × PV × PH) (k+1,v',H') ⟨hlt,w⟩ (by simp only;omega) ?_ b_;rw[V]at x;exact x
  unfold mR at fin;rw[i,<-bnT]at fin;have S:oW f f.biW[k]=(within (f.biW[k]).bjL 1 16&&within (f.biW[k]).port 1 64&&within (f.biW[k]).law 0 ((Z' f.bjC:Int)-1)):=rfl;cases hb:(u&&mN f.biW (oW f) k)with
  |false =>rw[hb,bkP]at fin;simp only[go_sem,wt,e,KC,wZz k];refine fin false _ rfl ?_;exact Lq
  |true=>
   rw[hb,bkR]at fin;simp only[go_sem,wt,e];refine aB (L.inn _ 1 16) Ev ?_;cases N:within (f.biW[k]).bjL 1 16 with
   |false =>simp only[go_sem,KC,wZz k];refine fin false _ (by rw[S,N];simp only[bkP]) ?_;exact Lq
   |true=>
    simp only[go_sem,e];refine aB (L.inn _ 1 64) Ev ?_;cases e2:within (f.biW[k]).port 1 64 with
    |false =>simp only[go_sem,KC,wZz k];refine fin false _ (by rw[S,N,e2];simp only[bkP,blR]) ?_;exact Lq
    |true =>simp only[go_sem,e,bkG,NS (Om:Z' f.bjC<=1000)];refine aB (L.inn _ 0 _) Ev ?_;simp only[go_sem,KC,wZz k];refine fin (within (f.biW[k]).law 0 ((Z' f.bjC:Int)-1)) _ (by rw[S,N,e2];simp only[bkR]) ?_;exact Lq
 ·have d:¬(k:Int)<(Z' f.biW:Nat):=Om;have:k=Z' f.biW:=Om;subst this;rw[bkZ bH]at M;rw[EH];simp only[go_sem,d];exact U v _ _ ⟨s_,s_,s_,s_,s_,s_,s_⟩ M
theorem aKG(L:pK C)(f:aE)(t:List cY)(V:Z' t<=40)(u:Bool)(A B E J:PV)(K:cH)(F:PF)(H:PH)(e:pN F f A B .aK E J u)
  (w:F 119=some (.sl 7 (t.map cY.cells))) (x:F 120=some (.int .i64 (Z' t:Nat))) (y:F 121=some (.int .i64 0))
  (N:∀v M H',pN M f A B v E J u->cG H' 1 v (iU (t.map cY.name))->K (.exit 4) M H') :
  aC.wp C (.loop UZ) K F H:=by
 refine wp_loop (α:=Nat × PV × PH) (λa=>(((mR f A B a.2.1 E J u).set 119 (.sl 7 (t.map cY.cells))).set 120 (.int .i64 (Z' t:Nat))).set 121 (.int .i64 a.1)) (λa=>a.2.2)
  (λa=>a.1<=Z' t/\cG a.2.2 1 a.2.1 (iU ((t.map cY.name).take a.1))) (λa=>Z' t-a.1) (0,.aK,.nil) ⟨bkL _,.nil⟩ ?_ a_ ?_
 ·unfold mR
  (repeat' (first|exact c_|refine d_ ?_ ?_))<;>first|(simp only[go_sem,e.a1,e.a3,e.a4,e.a5,e.a6,e.a7,e.a8,w,x,y]<;>rfl)|rfl
 rintro⟨k,v,U⟩ ⟨O,p⟩;simp only at O p ⊢;simp only[go_sem,UZ,agL,mR];by_cases hlt:k<Z' t
 ·have d:(k:Int)<(Z' t:Nat):=Om;have S:(t.map cY.cells)[k]?=some (t[k]).cells:=by simp[hlt]
  have l:=FA (t.map cY.name) (k:=k) (by simpa using hlt);rw[blX]at l;simp only[go_sem,d,agM,S];refine aP λo Q=>?_;simp only[go_sem,agN];refine sP p Q (zR (by simp;omega)) λv' H' i R=>?_;rw[l]at i;simp only[go_sem,agO,wZz k];refine aG (k+1,v',H') ⟨hlt,i⟩ (by simp only;omega) ?_ b_;exact Lq
 ·have d:¬(k:Int)<(Z' t:Nat):=Om;have:k=Z' t:=Om;subst this;rw[bkZ bH]at p;simp only[go_sem,d];exact N v _ _ ⟨s_,s_,s_,s_,s_,s_,s_⟩ p
theorem aKH(L:pK C)(f:aE)(d:List (List UInt8))(hn:Z' d<=40)(hs:Z' f.biV<=24)(hm:Z' f.biW<=4)(hd:Z' f.biY<=40)(x:Bool)(E J Y M N:PV)(K:cH)(F:PF)(H:PH)(u:pN F f E J Y M N x)
  (h0:cG H 1 Y (iU d))
  (S:F 132=some (.sl 3 (f.biV.map eS.cells))) (U:F 133=some (.int .i64 (Z' f.biV:Nat))) (V:F 134=some (.int .i64 0))
  (hK:∀v w H',pN w f E J v M N (x&&f.biV.all (mJ f))->cG H' 1 v (iU (d++f.biV.map eS.name))->K (.exit 6) w H') :
  aC.wp C (.loop VA) K F H:=by
 refine wp_loop (α:=Nat × PV × PH) (λt=>(((mR f E J t.2.1 M N (x&&mN f.biV (mJ f) t.1)).set 132 (.sl 3 (f.biV.map eS.cells))).set 133 (.int .i64 (Z' f.biV:Nat))).set 134 (.int .i64 t.1)) (λt=>t.2.2)
  (λt=>t.1<=Z' f.biV/\cG t.2.2 1 t.2.1 (iU (d++(f.biV.map eS.name).take t.1))) (λt=>Z' f.biV-t.1) (0,Y,H) ⟨bkL _,by rw[List.take_zero,bmJ];exact h0⟩ ?_ b_ ?_
 ·unfold mR
  (repeat' (first|exact c_|refine d_ ?_ ?_))<;>first|(simp only[go_sem,u.a1,u.a3,u.a4,u.a5,u.a6,u.a7,u.a8,S,U,V,AB,bmO]<;>rfl)|rfl
 rintro⟨k,v,H0⟩ ⟨hk,R⟩;simp only at hk R ⊢;simp only[go_sem,VA,agP,mR];by_cases hlt:k<Z' f.biV
 ·have e:(k:Int)<(Z' f.biV:Nat):=Om;have hr:(f.biV.map eS.cells)[k]?=some (f.biV[k]).cells:=by simp[hlt]
  have X:iU (d++(f.biV.map eS.name).take k)++[[.str (f.biV[k]).name]]=iU (d++(f.biV.map eS.name).take (k+1)):=by rw[blO (by simpa using hlt),<-blW,blX];unfold iU;simp only[blK,blM,bmE]
  simp only[go_sem,e,agQ,hr];refine aP λo ho=>?_;simp only[go_sem,agR];refine sP R ho (zR (by simp;omega)) λv' H' y l=>?_;rw[X]at y;have p:=AA f.biV (mJ f) hlt;have fin:∀(c:Bool)(w:PF),c=(x&&mN f.biV (mJ f) (k+1))->((((mR f E J v' M N c).set 132 (.sl 3 (f.biV.map eS.cells))).set 133 (.int .i64 (Z' f.biV:Nat))).set 134 (.int .i64 (k+1:Nat))).le w ->
    jM (λ(t:Nat × PV × PH)=>(((mR f E J t.2.1 M N (x&&mN f.biV (mJ f) t.1)).set 132 (.sl 3 (f.biV.map eS.cells))).set 133 (.int .i64 (Z' f.biV:Nat))).set 134 (.int .i64 t.1)) (λ(t:Nat × PV × PH)=>t.2.2)  (λ(t:Nat × PV × PH)=>t.1<=Z' f.biV/\cG t.2.2 1 t.2.1 (iU (d++(f.biV.map eS.name).take t.1))) (λ(t:Nat × PV × PH)=>Z' f.biV-t.1) (Z' f.biV-k) K .normal w H':=by
   intro c w hc A;refine aG (α:=Nat × PV × PH) (k+1,v',H') ⟨hlt,y⟩ (by simp only;omega) ?_ b_;rw[hc]at A;exact A
  unfold mR at fin;rw[p,<-bnT]at fin;have i:mJ f f.biV[k]=(within (f.biV[k]).model 0 ((Z' f.biW:Int)-1)&&within (f.biV[k]).machine 0 ((Z' f.biY:Int)-1)&&decide ((f.biY.map cY.level).getD (f.biV[k]).machine.toNat 0=4)):=rfl;cases hb:(x&&mN f.biV (mJ f) k)with
  |false =>rw[hb,bkP]at fin;simp only[go_sem,wx,l,CO,wZz k];refine fin false _ rfl ?_;exact Lq
  |true=>
   rw[hb,bkR]at fin;simp only[go_sem,wx,l,bkG,NS (Om:Z' f.biW<=1000)];refine aB (L.inn _ 0 _) Ev ?_;cases O:within (f.biV[k]).model 0 ((Z' f.biW:Int)-1)with
   |false =>simp only[go_sem,CO,wZz k];refine fin false _ (by rw[i,O];simp only[bkP]) ?_;exact Lq
   |true=>
    simp only[go_sem,l,bkG,NS (Om:Z' f.biY<=1000)];refine aB (L.inn _ 0 _) Ev ?_;cases e2:within (f.biV[k]).machine 0 ((Z' f.biY:Int)-1)with
    |false =>simp only[go_sem,CO,wZz k];refine fin false _ (by rw[i,O,e2];simp only[bkP,blR]) ?_;exact Lq
    |true=>
     obtain⟨Z,i2⟩:=within_iff.1 e2;have i3:(f.biV[k]).machine.toNat<Z' f.biY:=Om;have B:(f.biY.map cY.cells)[(f.biV[k]).machine.toNat]?=some (f.biY[(f.biV[k]).machine.toNat]).cells:=by simp[i3]
     have W:(f.biY.map cY.level).getD (f.biV[k]).machine.toNat 0=(f.biY[(f.biV[k]).machine.toNat]).level:=by simp[i3]
     rw[W]at i;by_cases Q:(f.biY[(f.biV[k]).machine.toNat]).level=4
     ·simp only[go_sem,l,Z,B,bW Q,CO,wZz k];refine fin true _ (by rw[i,O,e2,aV Q];rfl) ?_;exact Lq
     ·simp only[go_sem,l,Z,B,bL Q,CO,wZz k];refine fin false _ (by rw[i,O,e2,bC Q];rfl) ?_;exact Lq
 ·have e:¬(k:Int)<(Z' f.biV:Nat):=Om;have:k=Z' f.biV:=Om;subst this;rw[bkZ bH]at R;rw[EH];simp only[go_sem,e];exact hK v _ _ ⟨s_,s_,s_,s_,s_,s_,s_⟩ R
theorem aKI(L:pK C)(f:aE)(U:f.Ok)(hs:Z' f.biZ<=4)(W:Z' f.biW<=4)(p:Bool)(A B E J:PV)(K:cH)(F:PF)(H:PH)(i:pN F f A B E .aK J p)
  (N:F 174=some (.sl 17 (f.biZ.map cJ.cells))) (O:F 175=some (.int .i64 (Z' f.biZ:Nat))) (Q:F 176=some (.int .i64 0))
  (R:∀v l H',pN l f A B E v J (p&&f.biZ.all (mX f.biW.length))->cG H' 1 v (iU (f.biZ.map cJ.name))->K (.exit 8) l H') :
  aC.wp C (.loop VB) K F H:=by
 refine wp_loop (α:=Nat × PV × PH) (λt=>(((mR f A B E t.2.1 J (p&&mN f.biZ (mX f.biW.length) t.1)).set 174 (.sl 17 (f.biZ.map cJ.cells))).set 175 (.int .i64 (Z' f.biZ:Nat))).set 176 (.int .i64 t.1)) (λt=>t.2.2)
  (λt=>t.1<=Z' f.biZ/\cG t.2.2 1 t.2.1 (iU ((f.biZ.map cJ.name).take t.1))) (λt=>Z' f.biZ-t.1) (0,.aK,.nil) ⟨bkL _,.nil⟩ ?_ a_ ?_
 ·unfold mR
  (repeat' (first|exact c_|refine d_ ?_ ?_))<;>first|(simp only[go_sem,i.a1,i.a3,i.a4,i.a5,i.a6,i.a7,i.a8,N,O,Q,AB,bmO]<;>rfl)|rfl
 rintro⟨k,v,Z⟩ ⟨V,M⟩;simp only at V M ⊢;simp only[go_sem,VB,agS,mR];by_cases hlt:k<Z' f.biZ
 ·have d:(k:Int)<(Z' f.biZ:Nat):=Om;have Y:(f.biZ.map cJ.cells)[k]?=some (f.biZ[k]).cells:=by simp[hlt]
  have y:=FA (f.biZ.map cJ.name) (k:=k) (by simpa using hlt);rw[blX]at y;simp only[go_sem,d,agT,Y];refine aP λo X=>?_;simp only[go_sem,agU];refine sP M X (zR (by simp;omega)) λv' H' u x=>?_;rw[y]at u;have e:=AA f.biZ (mX f.biW.length) hlt;have fin:∀(c:Bool)(l:PF),c=(p&&mN f.biZ (mX f.biW.length) (k+1))->((((mR f A B E v' J c).set 174 (.sl 17 (f.biZ.map cJ.cells))).set 175 (.int .i64 (Z' f.biZ:Nat))).set 176 (.int .i64 (k+1:Nat))).le l ->
    jM (λ(t:Nat × PV × PH)=>(((mR f A B E t.2.1 J (p&&mN f.biZ (mX f.biW.length) t.1)).set 174 (.sl 17 (f.biZ.map cJ.cells))).set 175 (.int .i64 (Z' f.biZ:Nat))).set 176 (.int .i64 t.1)) (λ(t:Nat × PV × PH)=>t.2.2)  (λ(t:Nat × PV × PH)=>t.1<=Z' f.biZ/\cG t.2.2 1 t.2.1 (iU ((f.biZ.map cJ.name).take t.1))) (λ(t:Nat × PV × PH)=>Z' f.biZ-t.1) (Z' f.biZ-k) K .normal l H':=by
   intro c l S w;refine aG (α:=Nat × PV × PH) (k+1,v',H') ⟨hlt,u⟩ (by simp only;omega) ?_ b_;rw[S]at w;exact w
  unfold mR at fin;rw[e,<-bnT]at fin;cases hb:(p&&mN f.biZ (mX f.biW.length) k)with
  |false =>rw[hb,bkP]at fin;simp only[go_sem,wz,x,w8,wZz k];refine fin false _ rfl ?_;exact Lq
  |true =>rw[hb,bkR]at fin;simp only[go_sem,wz,x,bkG];refine aB (L.pol _ _ (U.bjH _ (bkK hlt)) W) Ev ?_;simp only[go_sem,w8,wZz k];refine fin _ _ rfl ?_;exact Lq
 ·have d:¬(k:Int)<(Z' f.biZ:Nat):=Om;have:k=Z' f.biZ:=Om;subst this;rw[bkZ bH]at M;rw[EH];simp only[go_sem,d];exact R v _ _ ⟨s_,s_,s_,s_,s_,s_,s_⟩ M
theorem aKJ(L:pK C)(f:aE)(hs:Z' f.biX<=12)(Z:Z' f.biZ<=4)(p:Bool)(A B E J:PV)(K:cH)(F:PF)(H:PH)(i:pN F f A B E J .aK p)
  (N:F 195=some (.sl 2 (f.biX.map eI.cells))) (O:F 196=some (.int .i64 (Z' f.biX:Nat))) (Q:F 197=some (.int .i64 0))
  (R:∀v l H',pN l f A B E J v (p&&f.biX.all (tX f))->cG H' 1 v (iU (f.biX.map eI.name))->K (.exit 10) l H') :
  aC.wp C (.loop VC) K F H:=by
 refine wp_loop (α:=Nat × PV × PH) (λt=>(((mR f A B E J t.2.1 (p&&mN f.biX (tX f) t.1)).set 195 (.sl 2 (f.biX.map eI.cells))).set 196 (.int .i64 (Z' f.biX:Nat))).set 197 (.int .i64 t.1)) (λt=>t.2.2)
  (λt=>t.1<=Z' f.biX/\cG t.2.2 1 t.2.1 (iU ((f.biX.map eI.name).take t.1))) (λt=>Z' f.biX-t.1) (0,.aK,.nil) ⟨bkL _,.nil⟩ ?_ a_ ?_
 ·unfold mR
  (repeat' (first|exact c_|refine d_ ?_ ?_))<;>first|(simp only[go_sem,i.a1,i.a3,i.a4,i.a5,i.a6,i.a7,i.a8,N,O,Q,AB,bmO]<;>rfl)|rfl
 rintro⟨k,v,Y⟩ ⟨U,M⟩;simp only at U M ⊢;simp only[go_sem,VC,agV,mR];by_cases hlt:k<Z' f.biX
 ·have d:(k:Int)<(Z' f.biX:Nat):=Om;have X:(f.biX.map eI.cells)[k]?=some (f.biX[k]).cells:=by simp[hlt]
  have y:=FA (f.biX.map eI.name) (k:=k) (by simpa using hlt);rw[blX]at y;simp only[go_sem,d,agW,X];refine aP λo W=>?_;simp only[go_sem,agX];refine sP M W (zR (by simp;omega)) λv' H' u x=>?_;rw[y]at u;have e:=AA f.biX (tX f) hlt;have fin:∀(c:Bool)(l:PF),c=(p&&mN f.biX (tX f) (k+1))->((((mR f A B E J v' c).set 195 (.sl 2 (f.biX.map eI.cells))).set 196 (.int .i64 (Z' f.biX:Nat))).set 197 (.int .i64 (k+1:Nat))).le l ->
    jM (λ(t:Nat × PV × PH)=>(((mR f A B E J t.2.1 (p&&mN f.biX (tX f) t.1)).set 195 (.sl 2 (f.biX.map eI.cells))).set 196 (.int .i64 (Z' f.biX:Nat))).set 197 (.int .i64 t.1)) (λ(t:Nat × PV × PH)=>t.2.2)  (λ(t:Nat × PV × PH)=>t.1<=Z' f.biX/\cG t.2.2 1 t.2.1 (iU ((f.biX.map eI.name).take t.1))) (λ(t:Nat × PV × PH)=>Z' f.biX-t.1) (Z' f.biX-k) K .normal l H':=by
   intro c l S w;refine aG (α:=Nat × PV × PH) (k+1,v',H') ⟨hlt,u⟩ (by simp only;omega) ?_ b_;rw[S]at w;exact w
  unfold mR at fin;rw[e,<-bnT]at fin;have V:tX f f.biX[k]=within (f.biX[k]).bjH 0 ((Z' f.biZ:Int)-1):=rfl;cases hb:(p&&mN f.biX (tX f) k)with
  |false =>rw[hb,bkP]at fin;simp only[go_sem,xa,x,xb,wZz k];refine fin false _ rfl ?_;exact Lq
  |true =>rw[hb,bkR,V]at fin;simp only[go_sem,xa,x,bkG,NS (Om:Z' f.biZ<=1000)];refine aB (L.inn _ 0 _) Ev ?_;simp only[go_sem,xb,wZz k];refine fin _ _ rfl ?_;exact Lq
 ·have d:¬(k:Int)<(Z' f.biX:Nat):=Om;have:k=Z' f.biX:=Om;subst this;rw[bkZ bH]at M;rw[EH];simp only[go_sem,d];exact R v _ _ ⟨s_,s_,s_,s_,s_,s_,s_⟩ M
theorem tC{f:aE}(h:¬(Z' f.bjC<=4/\Z' f.biW<=4/\Z' f.biY<=40/\Z' f.biV<=24/\Z' f.biZ<=4/\Z' f.biX<=12)):tB f=false:=by
 rw[<-Bool.not_eq_true];intro d;simp only[tB,bkI,dT_]at d;omega
theorem auW{f:aE}(h:Z' f.bjC<=4/\Z' f.biW<=4/\Z' f.biY<=40/\Z' f.biV<=24/\Z' f.biZ<=4/\Z' f.biX<=12):tB f=within f.bjZ 1 4:=by
 obtain⟨d,e,i,l,h5,p⟩:=h;simp[tB,d,e,i,l,h5,p]
theorem vS{t:Nat}{n m:Int}{F:PF}{H:PH}(h:F t=some (.int .i64 n))(e:n=m):aX [.tmp t] (cI (.int .i64 m)) .ret F H:=by
 subst e;exact bG (.inr rfl) .nil (vs:=[.int .i64 n]) (by rw[pG,sZ,h,uK]) a_ ⟨.refl _,rfl⟩
def uP(f:aE):Int:=if cQ f then 0 else 1
theorem J7{f:aE}(h:cQ f=false):uP f=1:=by rw[uP,h];rfl
theorem BY{F:PF}{H:PH}{name t s:Nat}{v r:PV}{rows:List (List PV)}{d:Option Nat}{K:PF->PH->Prop}(h:aH C name [.sl s rows] .nil (aF r))(x:cG H s v rows)(p:F t=some v)
  (l:∀(e:PF)(w:PH),(∀i u,F i=some u->Pure u->e i=some u)->K (e.put d r) w):lC C name [.tmp t] [] d K F H:=by
 rcases x with⟨rfl,rfl⟩|⟨q,rs,rfl,h1,h2,h3⟩
 ·refine aB (h.aMZ (.inl ⟨rfl,rfl⟩)) (by rw[JU,Dr,p,ma]) ?_;exact l F H λi u hi _=>hi
 ·rw[<-h3]at h;refine xC (k:=Z' rows) h p h1 h2 (l _ _ λi u hi hp=>?_);rw[xM,hi,blJ,hp q s rs]
theorem Seen.pure{s:Nat}{v:PV}{rows:List (List PV)}(h:Seen s v rows):Pure v:=by
 rcases h with⟨_,rfl⟩|rfl
 ·exact λ_ _ _=>rfl
 ·exact λ_ _ _=>rfl
def bI(b:Bool):Int:=if b then 0 else 1
abbrev mr(f:aE):List (List UInt8):=(f.biY.drop 1).map cY.name++f.biV.map eS.name
def ED(f:aE):Bool:=distinct (f.bjC.map dB.name)&&distinct (f.biW.map dW.name)&&distinct (mr f)&&distinct (f.biZ.map cJ.name)&&distinct (f.biX.map eI.name)
structure Small(f:aE):Prop where
 bjC:Z' f.bjC<=4
 biW:Z' f.biW<=4
 biY:Z' f.biY<=40
 biV:Z' f.biV<=24
 biZ:Z' f.biZ<=4
 biX:Z' f.biX<=12
theorem NJ(L:pK C){v:PV}{l:List (List UInt8)}(h:Seen 1 v (iU l))(d:Z' l<=1000):aH C 110 [v] .nil (aF (.bool (distinct l))):=
 (L.uniq l (Om:Z' l<=9223372036854775807)).aMZ h
theorem aXX(L:pK C)(f:aE)(B:Small f)(e i l p u:PV)(ok:Bool)(F:PF)(H:PH)(d:pN F f e i l p u ok)
  (x:Seen 1 e (iU (f.bjC.map dB.name))) (y:Seen 1 i (iU (f.biW.map dW.name))) (h5:Seen 1 l (iU (mr f))) (A:Seen 1 p (iU (f.biZ.map cJ.name))) (h7:cG H 1 u (iU (f.biX.map eI.name))) :
  aC.wp C (.seq (.seq (.region KD) (.cond (.tmp 243) (.seq (.region tP) .ret) .skip)) (.seq (.region VD) .ret)) (aX [.tmp 2] (cI (.int .i64 (bI (ok&&ED f))))) F H:=by
 obtain⟨s1,s2,s3,s4,W,X⟩:=B;have E:(f.bjC.map dB.name).length<=1000:=by simp;omega
 have J:(f.biW.map dW.name).length<=1000:=by simp;omega
 have K:(mr f).length<=1000:=by simp;omega
 have M:(f.biZ.map cJ.name).length<=1000:=by simp;omega
 have N:(f.biX.map eI.name).length<=9223372036854775807:=by simp;omega
 cases ok with
 |false =>simp only[go_sem,KD,d.a8,tP];exact vS rfl rfl
 |true=>
  simp only[go_sem,KD,d.a8,d.a3];refine aB (NJ L x E) rfl ?_;unfold ED;cases Q:distinct (f.bjC.map dB.name)with
  |false =>simp only[go_sem,tP,bkW];exact vS rfl rfl
  |true=>
   simp only[go_sem,d.a4,bkO];refine aB (NJ L y J) rfl ?_;cases R:distinct (f.biW.map dW.name)with
   |false =>simp only[go_sem,tP,bkW];exact vS rfl rfl
   |true=>
    simp only[go_sem,d.a5,bkO];refine aB (NJ L h5 K) rfl ?_;cases S:distinct (mr f)with
    |false =>simp only[go_sem,tP,bkW];exact vS rfl rfl
    |true=>
     simp only[go_sem,d.a6,bkO];refine aB (NJ L A M) rfl ?_;cases U:distinct (f.biZ.map cJ.name)with
     |false =>simp only[go_sem,tP,bkW];exact vS rfl rfl
     |true=>
      simp only[go_sem,d.a7,bkO];refine BY (L.uniq _ N) h7 rfl λw O hp=>?_;have g:w 239=some (.bool false):=hp 239 _ rfl λ_ _ _=>rfl;cases V:distinct (f.biX.map eI.name)with
      |false =>simp only[go_sem,tP,bkW,g];exact vS rfl rfl
      |true =>simp only[go_sem,VD,bkO,g];exact vS rfl rfl
abbrev O2(b:Bool):cH:=aX [.tmp 2] (cI (.int .i64 (bI b)))
def Zn:aC:=.seq (.seq (.region w9) (.block 10 (.loop VC))) (.seq (.seq (.region KD) (.cond (.tmp 243) (.seq (.region tP) .ret) .skip)) (.seq (.region VD) .ret))
def Zm:aC:=.seq (.seq (.region wy) (.block 8 (.loop VB))) Zn
def Zl:aC:=.seq (.seq (.region ww) (.block 6 (.loop VA))) Zm
def Zk:aC:=.seq (.seq (.region wu) (.block 4 (.loop UZ))) Zl
def Zj:aC:=.seq (.seq (.region wr) (.block 2 (.loop UY))) Zk
def aNV:aC:=.seq (.seq (.region M0) (.block 0 (.loop UX))) Zj
theorem a5A(L:pK C)(f:aE)(u:Small f)(i l p E:PV)(ok:Bool)(F:PF)(H:PH)(d:pN F f i l p E .aK ok)
  (y:Seen 1 i (iU (f.bjC.map dB.name))) (A:Seen 1 l (iU (f.biW.map dW.name))) (h5:Seen 1 p (iU (mr f))) (N:cG H 1 E (iU (f.biZ.map cJ.name))) :
  aC.wp C Zn (O2 (ok&&f.biX.all (tX f)&&ED f)) F H:=by
 unfold Zn;simp only[go_sem,w9,d.a1,bkG];refine xD N λB x K M Q hp=>?_;refine aKJ L f u.biX u.biZ ok i l p B _ K M ⟨hp 1 _ (by simp only[go_sem,d.a1]) λ_ _ _=>rfl,hp 3 _ (by simp only[go_sem,d.a3]) y.pure,hp 4 _ (by simp only[go_sem,d.a4]) A.pure,hp 5 _ (by simp only[go_sem,d.a5]) h5.pure,Q 6 (by simp only[go_sem,d.a6]),hp 7 _ (by simp only[go_sem,d.a7]) λ_ _ _=>rfl,hp 8 _ (by simp only[go_sem,d.a8]) λ_ _ _=>rfl⟩
  (hp 195 _ rfl λ_ _ _=>rfl) (hp 196 _ rfl λ_ _ _=>rfl) (hp 197 _ rfl λ_ _ _=>rfl) λv J H' w O=>?_
 have e:=aXX L f u i l p B v _ J H' w y A h5 x O;simp only[aC.wp,go_sem]at e;simp only[go_sem];exact e
theorem a4Z(L:pK C)(f:aE)(M:f.Ok)(l:Small f)(e i A:PV)(ok:Bool)(F:PF)(H:PH)(d:pN F f e i A .aK .aK ok)
  (w:Seen 1 e (iU (f.bjC.map dB.name))) (x:Seen 1 i (iU (f.biW.map dW.name))) (h5:cG H 1 A (iU (mr f))) :
  aC.wp C Zm (O2 (ok&&f.biZ.all (mX f.biW.length)&&f.biX.all (tX f)&&ED f)) F H:=by
 unfold Zm;simp only[go_sem,wy,d.a1,bkG];refine xD h5 λy u E J N hp=>?_;refine aKI L f M l.biZ l.biW ok e i y .aK _ E J ⟨hp 1 _ (by simp only[go_sem,d.a1]) λ_ _ _=>rfl,hp 3 _ (by simp only[go_sem,d.a3]) w.pure,hp 4 _ (by simp only[go_sem,d.a4]) x.pure,N 5 (by simp only[go_sem,d.a5]),hp 6 _ (by simp only[go_sem,d.a6]) λ_ _ _=>rfl,hp 7 _ (by simp only[go_sem,d.a7]) λ_ _ _=>rfl,hp 8 _ (by simp only[go_sem,d.a8]) λ_ _ _=>rfl⟩
  (hp 174 _ rfl λ_ _ _=>rfl) (hp 175 _ rfl λ_ _ _=>rfl) (hp 176 _ rfl λ_ _ _=>rfl) λv B H' p K=>?_
 simp only[go_sem];exact a5A L f l e i y v _ B H' p w x u K
theorem a4Y(L:pK C)(f:aE)(B:f.Ok)(e:Small f)(i l u:PV)(ok:Bool)(F:PF)(H:PH)(d:pN F f i l u .aK .aK ok)
  (x:Seen 1 i (iU (f.bjC.map dB.name))) (y:Seen 1 l (iU (f.biW.map dW.name))) (h5:cG H 1 u (iU ((f.biY.drop 1).map cY.name))) :
  aC.wp C Zl (O2 (ok&&f.biV.all (mJ f)&&f.biZ.all (mX f.biW.length)&&f.biX.all (tX f)&&ED f)) F H:=by
 unfold Zl;simp only[go_sem,ww,d.a1,bkG];refine aKH L f ((f.biY.drop 1).map cY.name) (by have:=e.biY;simp;omega) e.biV e.biW e.biY ok i l u .aK .aK _ _ H ⟨by simp only[go_sem,d.a1],by simp only[go_sem,d.a3],by simp only[go_sem,d.a4],by simp only[go_sem,d.a5],by simp only[go_sem,d.a6],by simp only[go_sem,d.a7],by simp only[go_sem,d.a8]⟩ h5
  rfl rfl rfl λv w H' p A=>?_
 simp only[go_sem];exact a4Z L f B e i l v _ w H' p x y A
theorem a4X(L:pK C)(f:aE)(N:f.Ok)(x:Small f)(R:0<Z' f.biY)(i A:PV)(ok:Bool)(F:PF)(H:PH)(d:pN F f i A .aK .aK .aK ok)
  (w:Seen 1 i (iU (f.bjC.map dB.name))) (K:cG H 1 A (iU (f.biW.map dW.name))) :
  aC.wp C Zk (O2 (ok&&f.biV.all (mJ f)&&f.biZ.all (mX f.biW.length)&&f.biX.all (tX f)&&ED f)) F H:=by
 unfold Zk;have l:(1:Int)<=(Z' f.biY:Nat):=Om;have O:=x.biY;have e:((f.biY.map cY.cells).take f.biY.length).drop 1=(f.biY.drop 1).map cY.cells:=by rw[bkZ bH,List.map_drop]
 simp only[go_sem,wu,d.a1,bkG,l,bmI,e];refine xD K λy u E J Q hp=>?_;refine aKG L f (f.biY.drop 1) (by simp;omega) ok i y .aK .aK _ E J ⟨hp 1 _ (by simp only[go_sem,d.a1]) λ_ _ _=>rfl,hp 3 _ (by simp only[go_sem,d.a3]) w.pure,Q 4 (by simp only[go_sem,d.a4]),hp 5 _ (by simp only[go_sem,d.a5]) λ_ _ _=>rfl,hp 6 _ (by simp only[go_sem,d.a6]) λ_ _ _=>rfl,hp 7 _ (by simp only[go_sem,d.a7]) λ_ _ _=>rfl,hp 8 _ (by simp only[go_sem,d.a8]) λ_ _ _=>rfl⟩
  (hp 119 _ rfl λ_ _ _=>rfl) (hp 120 _ rfl λ_ _ _=>rfl) (hp 121 _ rfl λ_ _ _=>rfl) λv B H' p M=>?_
 simp only[go_sem];exact a4Y L f N x i y v _ B H' p w u M
theorem a4W(L:pK C)(f:aE)(J:f.Ok)(e:Small f)(E:0<Z' f.biY)(u:PV)(ok:Bool)(F:PF)(H:PH)(d:pN F f u .aK .aK .aK .aK ok)
  (A:cG H 1 u (iU (f.bjC.map dB.name))) :
  aC.wp C Zj (O2 (ok&&f.biW.all (oW f)&&f.biV.all (mJ f)&&f.biZ.all (mX f.biW.length)&&f.biX.all (tX f)&&ED f)) F H:=by
 unfold Zj;simp only[go_sem,wr,d.a1,bkG];refine xD A λp l x y K hp=>?_;refine aKF L f e.biW e.bjC ok p .aK .aK .aK _ x y ⟨hp 1 _ (by simp only[go_sem,d.a1]) λ_ _ _=>rfl,K 3 (by simp only[go_sem,d.a3]),hp 4 _ (by simp only[go_sem,d.a4]) λ_ _ _=>rfl,hp 5 _ (by simp only[go_sem,d.a5]) λ_ _ _=>rfl,hp 6 _ (by simp only[go_sem,d.a6]) λ_ _ _=>rfl,hp 7 _ (by simp only[go_sem,d.a7]) λ_ _ _=>rfl,hp 8 _ (by simp only[go_sem,d.a8]) λ_ _ _=>rfl⟩
  (hp 85 _ rfl λ_ _ _=>rfl) (hp 86 _ rfl λ_ _ _=>rfl) (hp 87 _ rfl λ_ _ _=>rfl) λv w H' i B=>?_
 simp only[go_sem];exact a4X L f J e E p v _ w H' i l B
theorem a4V(L:pK C)(f:aE)(i:f.Ok)(l:Small f)(w:0<Z' f.biY)(F:PF)(H:PH)(d:pN F f .aK .aK .aK .aK .aK true) :
  aC.wp C aNV (O2 (f.bjC.all oT&&f.biW.all (oW f)&&f.biV.all (mJ f)&&f.biZ.all (mX f.biW.length)&&f.biX.all (tX f)&&ED f)) F H:=by
 unfold aNV;simp only[go_sem,M0,d.a1,bkG];refine aKE L f i l.bjC .aK .aK .aK .aK _ _ H ⟨by simp only[go_sem,d.a1],by simp only[go_sem,d.a3],by simp only[go_sem,d.a4],by simp only[go_sem,d.a5],by simp only[go_sem,d.a6],by simp only[go_sem,d.a7],by simp only[go_sem,d.a8]⟩ rfl rfl rfl λv p H' e u=>?_;simp only[go_sem];exact a4W L f i l w v _ p H' e u
theorem a4U(L:pK C)(f:aE)(J:f.Ok):fg.wp C (aX aXW.res (cI (.int .i64 (uP f)))) (g_ [.agg f.cells]) .nil:=by
 have w:cQ f=(tB f&&tM f&&(f.bjC.all oT&&f.biW.all (oW f)&&f.biV.all (mJ f)&&f.biZ.all (mX f.biW.length)&&f.biX.all (tX f))&&ED f):=rfl;simp only[go_sem,fg,azN,azO,aXW];refine aB (L.inn f.bjZ 1 4) rfl ?_;have d:∀(F:PF)(H:PH),cQ f=false->F 2=some (.int .i64 1)->aX [.tmp 2] (cI (.int .i64 (uP f))) .ret F H:=λF H N O=>vS O (J7 N).symm;cases E:within f.bjZ 1 4 with
 |false=>
  have:tB f=false:=by simp[tB,E]
  simp only[go_sem,bkW,wL];exact d _ _ (by rw[w,this];simp only[bkP]) rfl
 |true=>
  by_cases s1:Z' f.bjC<=4
  ·have i:¬(Z' f.bjC:Int)>4:=Om;by_cases s2:Z' f.biW<=4
   ·have l:¬(Z' f.biW:Int)>4:=Om;by_cases s3:Z' f.biY<=40
    ·have p:¬(Z' f.biY:Int)>40:=Om;by_cases s4:Z' f.biV<=24
     ·have u:¬(Z' f.biV:Int)>24:=Om;by_cases K:Z' f.biZ<=4
      ·have x:¬(Z' f.biZ:Int)>4:=Om;by_cases M:Z' f.biX<=12
       ·have y:¬(Z' f.biX:Int)>12:=Om;have A:=auW ⟨s1,s2,s3,s4,K,M⟩;rw[E]at A;simp only[go_sem,bkO,bkG,i,l,p,u,x,y];refine aB (L.bjE f J) rfl ?_;cases B:tM f with
        |false =>simp only[go_sem,bkW,wL];exact d _ _ (by rw[w,B];simp only[blR,bkP]) rfl
        |true=>
         have Q:0<Z' f.biY:=by
          rcases bmZ f.biY.length with h|h
          ·have:f.biY=[]:=List.eq_nil_of_length_eq_zero h;rw[tM,this]at B;cases B
          ·exact h
         have S:uP f=bI (f.bjC.all oT&&f.biW.all (oW f)&&f.biV.all (mJ f)&&f.biZ.all (mX f.biW.length)&&f.biX.all (tX f)&&ED f):=by rw[uP,w,A,B];rfl
         rw[S];simp only[go_sem,bkO,azP,azQ];have e:=λF H R=>a4V L f J ⟨s1,s2,s3,s4,K,M⟩ Q F H R;simp only[aNV,Zj,Zk,Zl,Zm,Zn,aC.wp,go_sem]at e;exact e _ _ ⟨s_,s_,s_,s_,s_,s_,s_⟩
       ·have y:(Z' f.biX:Int)>12:=Om;simp only[go_sem,bkO,bkG,i,l,p,u,x,y,wL];exact d _ _ (by rw[w,tC Om];simp only[bkP]) rfl
      ·have x:(Z' f.biZ:Int)>4:=Om;simp only[go_sem,bkO,bkG,i,l,p,u,x,wL];exact d _ _ (by rw[w,tC Om];simp only[bkP]) rfl
     ·have u:(Z' f.biV:Int)>24:=Om;simp only[go_sem,bkO,bkG,i,l,p,u,wL];exact d _ _ (by rw[w,tC Om];simp only[bkP]) rfl
    ·have p:(Z' f.biY:Int)>40:=Om;simp only[go_sem,bkO,bkG,i,l,p,wL];exact d _ _ (by rw[w,tC Om];simp only[bkP]) rfl
   ·have l:(Z' f.biW:Int)>4:=Om;simp only[go_sem,bkO,bkG,i,l,wL];exact d _ _ (by rw[w,tC Om];simp only[bkP]) rfl
  ·have i:(Z' f.bjC:Int)>4:=Om;simp only[go_sem,bkO,bkG,i,wL];exact d _ _ (by rw[w,tC Om];simp only[bkP]) rfl
def lvl(f:aE)(i:Nat):Int:=(f.biY.map cY.level).getD i 0
def par(f:aE)(i:Nat):Int:=(f.biY.map cY.parent).getD i 0
def XA(f:aE)(i:Nat):Nat:=(par f i).toNat
def eU(f:aE)(d:Nat):Nat:=((f.biV.map eS.machine).getD d 0).toNat
def mdl(f:aE)(d:Nat):Nat:=((f.biV.map eS.model).getD d 0).toNat
def ext(f:aE)(d:Nat):Int:=(f.biW.map dW.bjL).getD (mdl f d) 0
def BB(f:aE)(v:Nat):Nat:=((f.biX.map eI.bjH).getD v 0).toNat
def a2Q:cJ:=⟨[],0,0,0,0,0,0,0,0,[],[],⟨false,[],[]⟩,⟨false,[],[]⟩⟩
def XF(f:aE)(v:Nat):cJ:=f.biZ.getD (BB f v) a2Q
def upN(f:aE):Nat->Nat->Nat
 |0,i=>i
 |k+1,i=>XA f (upN f k i)
theorem getD_at{α β:Type}{l:List α}{g:α->β}{i:Nat}{b:β}(h:i<Z' l):(l.map g).getD i b=g l[i]:=by
 simp[blB,h]
structure VF(f:aE):Prop where
 small:Small f
 root:0<Z' f.biY/\lvl f 0=0/\par f 0=-1
 dom:∀i,0<i->i<Z' f.biY->0<=par f i/\XA f i<i/\lvl f (XA f i)=lvl f i-1/\1<=lvl f i/\lvl f i<=4
 drive:∀d (h:d<Z' f.biV),0<=(f.biV[d]).model/\mdl f d<Z' f.biW/\0<=(f.biV[d]).machine/\eU f d<Z' f.biY/\lvl f (eU f d)=4
 bjH:∀p∈f.biZ,1<=p.k/\p.k<=6/\0<=p.m/\p.m<=4/\p.k+p.m<=8/\p.s0=0/\(∀l,0<=p.spread l/\p.spread l<=8)/\∀m∈p.biW,0<=m/\m<Z' f.biW
 volume:∀v (h:v<Z' f.biX),0<=(f.biX[v]).bjH/\BB f v<Z' f.biZ
 model:∀m∈f.biW,1<=m.bjL/\m.bjL<=16
theorem a6P{p:cJ}{n:Nat}(h:mX n p=true):∀m∈p.biW,0<=m/\m<n:=by
 intro m e;simp only[mX,bkI]at h;obtain⟨i,hi,rfl⟩:=blZ e;have:=bkS.1 h.2 i (blN.2 hi);rw[bkI]at this;have d:=within_iff.1 this.1;simp only[blB,bkT hi,bnG]at d;omega
theorem K5{x:Int}(d:1<=x)(e:x<=4):i_.wrap (x-1)=x-1:=wrap_i64 Om Om
theorem VF.of{f:aE}(h:cQ f=true):VF f:=by
 simp only[cQ,bkI]at h;obtain⟨⟨⟨Q,u⟩,⟨⟨⟨N,A⟩,y⟩,B⟩,E⟩,-⟩:=h;simp only[tB,bkI,dT_]at Q;obtain⟨⟨⟨⟨⟨⟨s0,s1⟩,s2⟩,s3⟩,s4⟩,s5⟩,s6⟩:=Q;cases e:f.biY with
 |nil=>rw[tM,e]at u;cases u
 |cons r t=>
  rw[tM,e]at u;simp only[MI,bkI,dT_]at u;obtain⟨⟨⟨⟨⟨⟨r1,r2⟩,r3⟩,r4⟩,r5⟩,r6⟩,x⟩:=u;have O:Z' f.biY=Z' t+1:=by rw[e];rfl
  refine⟨⟨s1,s2,s3,s4,s5,s6⟩,⟨by omega,by rw[lvl,e];exact r2,by rw[par,e];exact r3⟩,?_,?_,?_,?_,?_⟩
  ·intro i h0 hi;obtain⟨k,rfl⟩:∃k,i=k+1:=⟨i-1,by omega⟩;have H:k<Z' t:=Om;have:=bkS.1 x k (blN.2 H);rw[bkT H]at this;simp only[UB,bkI,dT_]at this;obtain⟨⟨⟨⟨J,F⟩,K⟩,d4⟩,d5⟩:=this;obtain⟨Z,p1⟩:=within_iff.1 J;obtain⟨S,U⟩:=within_iff.1 K;have w:par f (k+1)=(t[k]).parent:=by rw[par,e];simp[blB,H]
   have e2:lvl f (k+1)=(t[k]).level:=by rw[lvl,e];simp[blB,H]
   rw[K5 S U]at F;have V:lvl f (t[k]).parent.toNat=(t[k]).level-1:=F;refine⟨by rw[w];exact Z,?_,?_,by rw[e2];exact S,by rw[e2];exact U⟩
   ·rw[XA,w];omega
   ·rw[XA,w,e2];exact V
  ·intro d u;have:=bkS.1 y _ (bkK u);simp only[mJ,bkI,dT_]at this;obtain⟨⟨J,F⟩,K⟩:=this;have a1:=within_iff.1 J;have a2:=within_iff.1 F;have w:mdl f d=(f.biV[d]).model.toNat:=by rw[mdl,getD_at u]
   have e2:eU f d=(f.biV[d]).machine.toNat:=by rw[eU,getD_at u]
   refine⟨a1.1,by rw[w];omega,a2.1,by rw[e2];omega,by rw[e2];exact K⟩
  ·intro p hp;have M:=bkS.1 B p hp;have W:=a6P M;simp only[mX,WU,bkI,dT_,bnY,List.all_nil,bmO]at M;obtain⟨⟨⟨⟨⟨⟨⟨⟨k1,Y⟩,km⟩,q1⟩,z0⟩,sp⟩,-⟩,-⟩,-⟩:=M;obtain⟨g0,g1,g2,g3,g4⟩:=sp;have b1:=within_iff.1 k1;have b2:=within_iff.1 Y;have b3:=within_iff.1 g0;have b4:=within_iff.1 g1;have b5:=within_iff.1 g2;have b6:=within_iff.1 g3;have b7:=within_iff.1 g4;refine⟨b1.1,b1.2,b2.1,b2.2,km,z0,λl=>?_,W⟩;unfold cJ.spread;split<;>omega
  ·intro v R;have:=bkS.1 E _ (bkK R);have a1:=within_iff.1 this;have w:BB f v=(f.biX[v]).bjH.toNat:=by rw[BB,getD_at R]
   exact⟨a1.1,by rw[w];omega⟩
  ·intro m X;have:=bkS.1 A m X;simp only[oW,bkI]at this;exact within_iff.1 this.1.1
theorem SP{f:aE}(h:VF f){d:Nat}(i:d<Z' f.biV):∀{k:Nat},k<=4->upN f k (eU f d)<Z' f.biY/\lvl f (upN f k (eU f d))=4-(k:Int)
 |0,_=>⟨(h.drive d i).2.2.2.1,by rw[upN,(h.drive d i).2.2.2.2];rfl⟩
 |k+1,x=>by
  obtain⟨u,p⟩:=SP h i (k:=k) Om;have l:0<upN f k (eU f d):=by
   rcases bmZ (upN f k (eU f d))with e|e
   ·rw[e,h.root.2.1]at p;omega
   ·exact e
  obtain⟨g1,g2,g3,g4,w⟩:=h.dom _ l u;refine⟨by rw[upN];omega,?_⟩;rw[upN,g3,p];omega
def dQ(f:aE)(d:Nat)(level:Int):Nat:=upN f (4-level.toNat) (eU f d)
def aJM(f:aE)(v:Nat):Int:=(XF f v).k+(XF f v).m
def tx:=bR [1] Proofs.Tryz.f57
def Wi:=aA tx 0
def Wj:=aA tx 1
def QC:aC:=(sq Wi (sq Wj .ret))
def apO:bB:=⟨1,6,QC,[.tmp 2]⟩
def mE:=bR [2] Proofs.Tryz.f22
def apE:=aA mE 0
def apF:=aA mE 1
def apG:=aA mE 2
def apH:=aA mE 3
def apI:=aA mE 4
def apJ:=aA mE 5
def apK:=aA mE 6
def apL:=cN mE 0
def apM:=aA mE 7
def apN:=cN mE 1
def jy:=aA mE 8
def Wg:aC:=(fP apJ 17 0 jy (sq apK (dq apL (sq apM (.cond (Tm 37) (.draw apN) .skip)))))
def Wh:=aA mE 9
def YN:aC:=(sq apE (dA apF 9 apG (sq apH (.seq (cD apI 0 Wg) (sq Wh .ret)))))
def nt:bB:=⟨2,53,YN,[.tmp 4]⟩
theorem aTP(h:∀f:aE,f.Ok->aH C 96 [.agg f.cells] .nil (aF (.int .i64 (uP f))))(f:aE)(d:f.Ok) :
  QC.wp C (aX apO.res (cI (.bool (cQ f)))) (g_ [.agg f.cells]) .nil:=by
 simp only[go_sem,QC,Wi,Wj,apO];refine aB (h f d) Ev ?_;simp only[go_sem];refine bU Ev ?_;unfold uP;cases cQ f<;>rfl
theorem rK{f:aE}{d:Nat}(h:d<Z' f.biV):(f.biV.map eS.cells)[d]?=some (f.biV[d]).cells:=by simp[h]
theorem jJ{f:aE}{d:Nat}(h:d<Z' f.biY):(f.biY.map cY.cells)[d]?=some (f.biY[d]).cells:=by simp[h]
theorem auN{f:aE}{d:Nat}(h:d<Z' f.biZ):(f.biZ.map cJ.cells)[d]?=some (f.biZ[d]).cells:=by simp[h]
theorem S7{f:aE}{d:Nat}(h:d<Z' f.biW):(f.biW.map dW.cells)[d]?=some (f.biW[d]).cells:=by simp[h]
theorem AP{f:aE}{d:Nat}(h:d<Z' f.biY):(f.biY[d]).level=lvl f d:=by rw[lvl,getD_at h]
theorem Gy{f:aE}{d:Nat}(h:d<Z' f.biY):(f.biY[d]).parent=par f d:=by rw[par,getD_at h]
theorem VF.M9{f:aE}(h:VF f){d:Nat}(e:d<Z' f.biV):(f.biV[d]).machine=((eU f d:Nat):Int):=by
 have:=(h.drive d e).2.2.1;rw[eU,getD_at e];omega
theorem VF.SC{f:aE}(h:VF f){d:Nat}(e:d<Z' f.biV):(f.biV[d]).model=((mdl f d:Nat):Int):=by
 have:=(h.drive d e).1;rw[mdl,getD_at e];omega
theorem VF.N2{f:aE}(h:VF f){i:Nat}(d:0<i)(hi:i<Z' f.biY):par f i=((XA f i:Nat):Int):=by
 have:=(h.dom i d hi).1;rw[XA];omega
theorem aZR{f:aE}(h:VF f){v:Nat}(d:v<Z' f.biX):∃hp:BB f v<Z' f.biZ,f.biZ[BB f v]=XF f v:=by
 have hp:=(h.volume v d).2;exact⟨hp,by simp[XF,blB,hp]⟩
def pick(n:Nat)(p:Nat->Bool):List Int:=((bkH n).filter p).map λ(i:Nat)=>(i:Int)
theorem aSF(n:Nat)(p:Nat->Bool):pick (n+1) p=if p n then pick n p++[(n:Int)]else pick n p:=by
 unfold pick;rw[boE,List.filter_append,blK];by_cases h:p n
 ·rw[aI h];simp[h]
 ·rw[aD h];simp[h]
theorem aZP(n:Nat)(p:Nat->Bool):(pick n p).length<=n:=by
 unfold pick;rw[bkG];exact blH (boP _ _) bH
theorem El(l:List Int)(x:Int):bF l++[[.int .i64 x]]=bF (l++[x]):=by unfold bF;rw[blK];rfl
theorem dK(l:List Int):(bF l).length=Z' l:=by unfold bF;rw[bkG]
theorem SK{t:Nat}{H:PH}{v:PV}{l:List Int}{F:PF}(h:cG H 1 v (bF l))(d:F t=some v):aX [.tmp t] (cI (ints l)) .ret F H:=wY (.inr rfl) h d
theorem BI{t:Nat}{H:PH}{F:PF}(d:F t=some .aK):aX [.tmp t] (cI (ints [])) .ret F H:=wY (rows:=[]) (.inr rfl) .nil d
def RT(f:aE)(dom:Int):List Int:=
 if cQ f/\0<=dom/\dom<f.biY.length then pick f.biV.length λd=>decide ((dQ f d (lvl f dom.toNat):Nat)=dom.toNat)else[]
section
variable (o s:Nat) (rs:List (List PV))
@[go_sem] theorem bfY(k:IntKind)(n:Int):PV.frz o s rs (.int k n)=.int k n:=(rfl)
@[go_sem] theorem beE(b:Bool):PV.frz o s rs (.bool b)=.bool b:=(rfl)
@[go_sem] theorem bgC(l:List UInt8):PV.frz o s rs (.str l)=.str l:=(rfl)
@[go_sem] theorem beF:PV.frz o s rs .aK=.aK:=(rfl)
@[go_sem] theorem bhF(n:Nat)(r:List (List PV)):PV.frz o s rs (.sl n r)=.sl n r:=(rfl)
@[go_sem] theorem beG(c:List PV):PV.frz o s rs (.bO c)=.bO c:=(rfl)
@[go_sem] theorem bgB(q z i c:Nat):PV.frz o s rs (.ptr q z i c)=.ptr q z i c:=(rfl)
@[go_sem] theorem bhE(n:Nat)(c:List PV):PV.frz o s rs (.fn n c)=.fn n c:=(rfl)
@[go_sem] theorem bfZ(q:Nat):PV.frz o s rs (.map q)=.map q:=(rfl)
@[go_sem] theorem bgA(q z d len:Nat):PV.frz o s rs (.osl q z d len)=if q=o then(if z=s/\d+len<=rs.length then .sl s ((rs.drop d).take len)else .junk)else .osl q z d len:=(rfl)
end
def tI(s:Nat)(rows:List (List PV))(r:PV)(H:PH):Prop:=
 (rows=[]/\r=.aK/\H=h_)\/∃q rs,r=.osl q s 0 rows.length/\H=h_.set q (.rows s rs)/\Z' rows<=Z' rs/\rs.take rows.length=rows
theorem axW(q s:Nat)(rs:List (List PV)):(h_.set q (.rows s rs)).frz q s rs=h_:=PH.ext λo=>by
 rw[IM];by_cases e:o=q
 ·rw[aI e];rfl
 ·rw[aD e,bD,aD e];rfl
section
variable {C:Ctx} {K:cH} {F:PF} {H:PH} {s:Nat} {v:PV} {rows:List (List PV)}
theorem tI.over{r:PV}{H':PH}(h:tI s rows r H')(l:qQ H .nil H'):cG (H.over .nil H') s r rows/\∀o x,H o=some x->(H.over .nil H') o=some x:=by
 rcases h with⟨d,i,rfl⟩|⟨q,rs,d,rfl,h3,h4⟩
 ·rw[PH.KN];exact⟨.inl ⟨d,i⟩,λo x h=>h⟩
 ·rw[PH.qN];have p:H q=none:=l q (.rows s rs) (by simp only[bD,if_true]) rfl;refine⟨.inr ⟨q,rs,d,by simp only[bD,if_true],h3,h4⟩,λo x e=>?_⟩;have:o≠q:=by rintro rfl;rw[p]at e;cases e
  simp only[bD,aD this,e]
theorem XN{t:Nat}{e:nY}(d:e=.normal\/e=.ret)(h:cG H s v rows)(i:F t=some v):aX [.tmp t] (tI s rows) e F H:=by
 rcases h with⟨rfl,rfl⟩|⟨q,rs,rfl,h1,h2,h3⟩
 ·exact bG (vs:=[.aK]) d .nil (by rw[pG,sZ,i,uK]) a_ (.inl ⟨rfl,rfl,rfl⟩)
 ·exact bG (vs:=[.osl q s 0 rows.length]) d (h_.set q (.rows s rs)) (by rw[pG,sZ,i,uK]) (e_ a_ h1) (.inr ⟨q,rs,rfl,rfl,h2,h3⟩)
theorem SJ{t:Nat}{e:nY}(d:e=.normal\/e=.ret)(i:F t=some .aK):aX [.tmp t] (tI s []) e F H:=XN d .nil i
theorem aSQ{t:Nat}{e:nY}{r:PV}{H':PH}(d:e=.normal\/e=.ret)(h:tI s rows r H')(l:F t=some r):aX [.tmp t] (tI s rows) e F (H.over .nil H'):=by
 refine bG (vs:=[r]) d H' (by rw[pG,sZ,l,uK]) (λo x i=>?_) h;rw[lM,i]
theorem aH.freeze{name:Nat}{args:List PV}(h:aH C name args H (tI s rows)):aH C name args H (aF (.sl s rows)):=
 ⟨h.1,λE w vs M hW x=>(h.2 E w vs M hW x).mono λe R N=>by
  obtain⟨u,pv,B,H',rfl,d,A,y,hp⟩:=N;rcases hp with⟨rfl,rfl,rfl⟩|⟨q,rs,rfl,rfl,h3,h4⟩
  ·exact⟨u,_,B,_,rfl,d,(Co.nil s).sound A,y,rfl,rfl⟩
  ·have O:kM (n_.set 0 (.osl q s 0 rows.length)) (h_.set q (.rows s rs)) _ _:=.step q (s:=s) (rs:=rs) (by simp only[bD,if_true]) (.refl _ _);obtain⟨J,k1,k2,Q⟩:=O.sound d;have l:=Q (λ_=>u) (λi p hi=>by
    rw[oZ]at hi;split at hi
    ·cases hi;exact A
    ·cases hi) 0 (.sl s rows) (by rw[xM,oZ,aI rfl,blJ,CK h3,h4])
   rw[axW]at k1 k2;exact⟨u,_,J,_,rfl,k1,l,y.trans k2,rfl,rfl⟩⟩
theorem fY.of:∀{E:Env}(ps:List PV)(vs:List Value),Z' vs=Z' ps->(∀(i:Nat) p v,ps[i]?=some p->vs[i]?=some v->bM E p v)->fY E ps vs
 |_,[],[],_,_=>.nil
 |_,[],_::_,h,_=>by simp at h
 |_,_::_,[],h,_=>by simp at h
 |_,p::ps,v::vs,h,k=>.cons (k 0 p v rfl rfl) (fY.of ps vs (by simpa using h) λi q u a b=>k (i+1) q u (by simpa using a) (by simpa using b))
theorem cC.same{E:Env}{w p:World}(hW:cC E H w)(A:w.heap.size<=p.heap.size)(hb:∀b,b<w.heap.size->H b=none->p.heap[b]?=w.heap[b]?)(y:∀o x,H o=some x->p.heap[o]?=w.heap[o]?):cC E H p:=by
 have i:∀b,b<w.heap.size->p.heap[b]?=w.heap[b]?:=λb hlt=>by
  cases e:H b with
  |none=>exact hb b hlt e
  |some x=>exact y b x e
 refine⟨λb cs h=>?_,λo x h=>?_,λo n h=>?_⟩
 ·obtain⟨d,ty,fr,l⟩:=hW.g b cs h;exact⟨d,ty,fr,(i b (bnZ.1 l).1).trans l⟩
 ·obtain⟨d,l⟩:=hW.h o x h;exact⟨Nat.lt_of_lt_of_le d A,l.mono (.refl E) (i o d)⟩
 ·obtain⟨u,ty,fr,d,l⟩:=hW.s o n h;exact⟨u,ty,fr,(i o (bnZ.1 d).1).trans d,l⟩
inductive Plain:PV->Prop
 |int (k:IntKind) (n:Int):Plain (.int k n)
 |bool (b:Bool):Plain (.bool b)
 |str (l:List UInt8):Plain (.str l)
 |two (k k':IntKind) (n n':Int):Plain (.tup [.int k n,.int k' n'])
theorem Plain.rep{v:PV}(h:Plain v){E d:Env}{u:Value}(r:bM E v u):bM d v u:=by
 cases h<;>cases r
 ·exact .int _ _
 ·exact .bool _
 ·exact .str _
 ·rename_i vs e i;refine .tup vs e λj pv v a b=>?_;have h:=i j pv v a b
  match j,a with
  |0,a=>cases a;cases h;exact .int _ _
  |1,a=>cases a;cases h;exact .int _ _
theorem aH.aYH{name o:Nat}{rs:List (List PV)}{args:List PV}(X:Plain v)(h:aH C name (args.map (PV.frz o s rs)) .nil (aF v)) :
  aH C name args (h_.set o (.rows s rs)) (λr H'=>r=v/\H'=h_.set o (.rows s rs)):=by
 refine⟨h.1,λE w vs Q hW B=>?_⟩;have Y:kM (g_ args) (h_.set o (.rows s rs)) _ _:=.step o (s:=s) (rs:=rs) (by simp only[bD,if_true]) (.refl _ _);obtain⟨N,k1,k2,Z⟩:=Y.sound hW;rw[axW]at k1 k2;have A:=B.len;have J:fY N (args.map (PV.frz o s rs)) vs.toList:=by
  refine fY.of _ _ (by rw[bkG];exact A) λi p u hp W=>?_;have:=Z (λi=>(vs.toList[i]?).getD undef) (λj q O=>by have U:=(blQ.1 O).1;have y:j<Z' vs.toList:=Om;simp only[bkT y,bnG];exact B.at_ j q _ O (bkT y)) i p (by rw[xM,args_at,<-blC];exact hp)
  simp only[W,bnG]at this;exact this
 refine(h.2 N w vs (k2.env.num.trans Q) k1 J).mono λe w' S=>?_;obtain⟨u,pv,E2,H2,rfl,R,V,l,rfl,rfl⟩:=S;have d:∀b,b<w.heap.size->w'.heap[b]?=w.heap[b]?:=λb hb=>l.block b hb rfl;refine⟨u,pv,E,_,rfl,hW.same l.size (λb hb _=>d b hb) (λq x M=>d q (hW.h q x M).1),X.rep V,⟨.refl E,l.os,l.tape,l.output,l.size,λb hb _=>d b hb,λq x M=>.inl ⟨x,M⟩,λb cs hb=>.inl hb⟩,rfl,rfl⟩
theorem avG{name o:Nat}{rs:List (List PV)}{args:List aS}{vs:List PV}{d:Option Nat}{K:PF->PH->Prop}(p:Plain v)(h:aH C name (vs.map (PV.frz o s rs)) .nil (aF v))(e:H o=some (.rows s rs))(i:aS.evs F args=some vs)
  (l:K (F.put d v) H):lC C name args [] d K F H:=by
 refine nE (h.aYH p) i (e_ a_ e) ?_;rintro r H' ⟨rfl,rfl⟩ -;rw[PH.over_self _ (e_ a_ e)];exact l
theorem aWJ{Hs:PH}{S:Spec}{name o:Nat}{rs:List (List PV)}{vs:List PV}{R:PH->PV->PH->Prop}{args:List aS}{st:Bool}{d:Option Nat}{K:PF->PH->Prop}(p:S name vs=some ([o],R))(y:Plain v)(x:H o=some (.rows s rs))
  (h:aH C name (vs.map (PV.frz o s rs)) .nil (aF v)) (e:R (h_.set o (.rows s rs)) v (h_.set o (.rows s rs))) (i:∀r H',R (h_.set o (.rows s rs)) r H'->r=v/\H'=h_.set o (.rows s rs)) (u:aS.evs F args=some vs) (l:Hs.le H) (w:K (F.put d v) H) :
  dOp C Hs S st (.call name args) d K F H:=vu p x (h.aYH y) e i u l w
theorem Yy{name t:Nat}{R:PV->PH->Prop}{d:Option Nat}{K:PF->PH->Prop}(h:aH C name [.sl s rows] .nil R)(x:cG H s v rows)(w:F t=some v)
  (p:∀(e:PF)(l:PH),(∀i u,F i=some u->Pure u->e i=some u)->∀r H',R r H'->qQ l .nil H'->K (e.put d r) (l.over .nil H')):lC C name [.tmp t] [] d K F H:=by
 rcases x with⟨rfl,rfl⟩|⟨q,rs,rfl,h1,h2,h3⟩
 ·exact .inl ⟨[.aK],.nil,R,by rw[JU,Dr,w,ma];rfl,a_,h.aMZ (.inl ⟨rfl,rfl⟩),p F H λi u hi _=>hi⟩
 ·refine .inr ⟨_,_,.step q h1 (.refl _ _),[.sl s rows],.nil,R,?_,a_,h,p _ _ λi u hi hp=>?_⟩
  ·simp only[JU,ma,Dr,xM,w,blJ,CK h2,h3,bmJ]
  ·rw[xM,hi,blJ,hp q s rs]
end
def sT(A:List Int)(k:Nat):List Int:=A.take k++bkM (Z' A-k) 0
theorem atX(A:List Int):sT A 0=bkM A.length 0:=by simp[sT]
theorem aJH(A:List Int):sT A A.length=A:=by simp[sT]
theorem Yl(A:List Int){k:Nat}(h:k<=Z' A):(sT A k).length=Z' A:=by simp[sT];omega
theorem aJI(A:List Int){k:Nat}(h:k<Z' A):(sT A k).set k A[k]=sT A (k+1):=by
 unfold sT;rw[bnJ _ _ (by simp;omega),bkY,bnA Om,bnF,show A.length-k=(Z' A-(k+1))+1 by omega,List.replicate_succ,boF,
  blO h,blW]
 rfl
theorem vI(l:List Int)(i:Nat)(x:Int):(bF l).set i [.int .i64 x]=bF (l.set i x):=by unfold bF;rw[List.map_set]
theorem xO(n:Nat):bkM n [PV.int .i64 0]=bF (bkM n 0):=by simp[bF]
theorem xd{l:List Int}{i:Nat}(h:i<Z' l):(bF l)[i]?=some [.int .i64 l[i]]:=by simp[bF,h]
theorem Ek(l:List Int):ints l=.sl 1 (bF l):=rfl
def BJ(f:aE)(room:List Int)(d:Nat):Int:=if room.length=f.biV.length then min (max (room.getD d 0) 0) (ext f d)else ext f d
def sK(f:aE)(room:List Int):List Int:=(bkH f.biV.length).map (BJ f room)
def rW(f:aE)(room:List Int):List Int:=if cQ f then sK f room else[]
theorem NF(f:aE)(room:List Int):(sK f room).length=Z' f.biV:=by simp[sK]
theorem anJ(f:aE)(room:List Int){d:Nat}(h:d<(sK f room).length):(sK f room)[d]=BJ f room d:=by simp[sK]
theorem VF.adB{f:aE}(h:VF f){d:Nat}(i:d<Z' f.biV):∃e:mdl f d<Z' f.biW,(f.biW[mdl f d]).bjL=ext f d:=by
 have e:=(h.drive d i).2.1;exact⟨e,by rw[ext,getD_at e]⟩
def trF(f:aE)(room:List Int)(o k:Nat):PF:=(((((n_.set 1 (ints room)).set 2 (.bO f.cells)).set 5 (.osl o 1 0 f.biV.length)).set 15 (.int .i64 (Z' f.biV:Nat))).set 16 (.int .i64 k))
theorem aAC(a b:Int):(if b<a then b else a)=min a b:=by
 rw[Int.min_def];by_cases h:b<a
 ·rw[aI h,aD Om]
 ·rw[aD h,aI Om]
theorem aTO(valid:∀f:aE,f.Ok->aH C 161 [.agg f.cells] .nil (aF (.bool (cQ f))))(f:aE)(O:f.Ok)(room:List Int) :
  YN.wp C (aX nt.res (tI 1 (bF (rW f room)))) (g_ [.agg f.cells,ints room]) .nil:=by
 simp only[go_sem,YN,apE,apF,nt];refine aB (valid f O) Ev ?_;unfold rW;cases S:cQ f with
 |false =>simp only[go_sem,bkW,apG];exact SJ (.inr rfl) Ev
 |true=>
  have hV:=VF.of S;have M:=hV.small.biV;have F:(Z' f.biV:Int)*((8:Nat):Int)<=140737488355328:=Om;have H:(Z' f.biV:Int)<=9223372036854775807:=Om;simp only[go_sem,bkO,apH,bkG,F,H];refine aP λo X=>?_;simp only[go_sem,apI];have u:=NF f room;have E:=λd h=>anJ f room (d:=d) h;generalize V:sK f room=A at *
  refine wp_loop (α:=Nat) (λk=>trF f room o k) (λk=>h_.set o (.rows 1 (bF (sT A k)))) (λk=>k<=Z' f.biV) (λk=>Z' f.biV-k) 0 (bkL _) ?_ ?_ ?_
  ·unfold trF;exact Lq
  ·refine e_ a_ ?_;simp only[go_sem];rw[atX,u,xO]
  intro k W;simp only[go_sem,Wg,apJ,trF];by_cases hlt:k<Z' f.biV
  ·have e:(k:Int)<(Z' f.biV:Nat):=Om;obtain⟨R,N⟩:=hV.adB hlt;have Q:=Yl A (k:=k) Om;have w:k<Z' A:=Om;have U:=xd (l:=sT A k) (i:=k) Om;have p:=aJI A w;rw[E k w]at p;simp only[go_sem,e,apK];refine bP .nil eJ a_ ?_;simp only[go_sem,apL,rK hlt,hV.SC hlt,S7 R,N,e,blG,U];refine⟨a_,?_⟩;simp only[go_sem,apM,bkG];by_cases c:Z' room=Z' f.biV
   ·have y:((Z' room:Int)==(Z' f.biV:Int))=true:=bW Om;have x:k<Z' room:=Om;have J:(room.map λn=>[PV.int .i64 n])[k]?=some [.int .i64 room[k]]:=by simp[x]
    simp only[go_sem,y];refine bP .nil eJ a_ ?_;have K:(bF ((sT A k).set k (ext f k)))[k]?=some [.int .i64 (ext f k)]:=by rw[<-vI,List.getElem?_set_self (by rw[dK];omega)]
    simp only[go_sem,apN,J,e,blG,K,max_eq,aAC,List.set_set,vI];refine⟨a_,?_⟩;simp only[go_sem,jy,wZz k];refine aG (k+1) hlt Om ?_ ?_
    ·exact Lq
    ·refine e_ a_ ?_;rw[<-p,BJ,aI c,blB,bkT x,bnG];simp only[go_sem]
   ·have y:((Z' room:Int)==(Z' f.biV:Int))=false:=bL Om;simp only[go_sem,y,jy,wZz k,vI];refine aG (k+1) hlt Om ?_ ?_
    ·exact Lq
    ·refine e_ a_ ?_;rw[<-p,BJ,aD c];simp only[go_sem]
  ·have e:¬(k:Int)<(Z' f.biV:Nat):=Om;have:k=Z' f.biV:=Om;subst this;simp only[go_sem,e,Wh];have B:sT A f.biV.length=A:=by rw[<-u,aJH]
   rw[B];exact XN (.inr rfl) (v:=.osl o 1 0 f.biV.length) (.inr ⟨o,bF A,by rw[dK,u],s_,bkN _,bkZ (bkN _)⟩) Sq
abbrev lay(l:List (List Int)):PV:=.sl 1 (l.map λr=>[ints r])
def sQ(n:Nat)(xs:List Int):List Int:=(bkH n).map λ(d:Nat)=>((xs.count (d:Int):Nat):Int)
theorem qF(n:Nat)(xs:List Int):(sQ n xs).length=n:=by simp[sQ]
theorem abF(n:Nat):sQ n []=bkM n 0:=by
 refine bnM (by simp[sQ]) λi d e=>by simp[sQ]
theorem awE{n:Nat}(xs:List Int){d:Nat}(h:d<n):(sQ n xs)[d]'(by rw[qF];exact h)=((xs.count (d:Int):Nat):Int):=by simp[sQ]
theorem awF{n:Nat}(xs:List Int){d:Nat}(h:d<n):(sQ n xs).set d (((xs.count (d:Int):Nat):Int)+1)=sQ n (xs++[(d:Int)]):=by
 refine bnM (by simp[sQ]) λi l p=>?_;simp only[sQ,List.getElem_set,blX,List.getElem_range,List.count_append];by_cases e:d=i
 ·subst e;simp
 ·have:((d:Nat):Int)≠(i:Int):=Om;rw[aD e];simp[List.count_cons,this]
def a9H(f:aE)(l:List (List Int)):List Int:=sQ f.biV.length l.flatten
structure bbU(l:List (List Int)):Prop where
 rows:Z' l<=16777216
 all:Z' l.flatten<=16777216
theorem aPZ(l:List (List Int)){i:Nat}(h:i<Z' l):(l.take (i+1)).flatten=(l.take i).flatten++l[i]:=by
 rw[blO h,List.flatten_append];simp only[List.flatten_cons,List.flatten_nil,bmJ]
structure a8R where
 kind:Int
 vol:Int
 wher:Int
abbrev a8R.cells(x:a8R):List PV:=[.int .i64 x.kind,.int .i64 x.vol,.int .i64 x.wher]
section
variable {C:Ctx} {F:PF} {H:PH}
theorem aOH{name:Nat}{vs cs:List PV}{r:PV}{i:PH}{args:List aS}{d:Option Nat}{K:PF->PH->Prop}(h:aH C name (vs++cs) i (λr' H'=>r'=r/\H'=i))(l:aS.evs F args=some vs)(e:i.le H)
  (p:K (F.put d r) H):lC C name args cs d K F H:=by
 refine .inl ⟨vs++cs,i,_,by rw[l];rfl,e,h,?_⟩;rintro r' H' ⟨rfl,rfl⟩ -;rw[PH.over_self _ e];exact p
theorem cG.ne{s s':Nat}{v:PV}{rows:List (List PV)}{o:Nat}{y:List (List PV)}(h:cG H s v rows)(p:H o=some (.rows s' y))(u:s≠s'):∀l,v≠.osl o s 0 l:=by
 intro l e;rcases h with⟨_,d⟩|⟨q,rs,h1,d,_⟩
 ·rw[d]at e;cases e
 ·rw[h1]at e;injection e with i
  subst i;rw[p]at d;injection d with d
  injection d with d
  exact u d.symm
theorem cG.set{s s':Nat}{v:PV}{rows:List (List PV)}{o:Nat}{y:List (List PV)}{x:bA}(h:cG H s v rows)(l:H o=some (.rows s' y))(p:s≠s'):cG (H.set o x) s v rows:=by
 have i:=h.ne l p;rcases h with⟨d,e⟩|⟨q,rs,d,e,h3,h4⟩
 ·exact .inl ⟨d,e⟩
 ·refine .inr ⟨q,rs,d,?_,h3,h4⟩;have:q≠o:=by rintro rfl;exact i _ d
  simp only[bD,aD this,e]
def Dis(s:Nat)(v u:PV):Prop:=∀q l d e,v=.osl q s 0 l->u=.osl d s 0 e->q≠d
theorem Dis.nil{s:Nat}:Dis s .aK .aK:=λ_ _ _ _ h=>by cases h
theorem Dis.symm{s:Nat}{v u:PV}(h:Dis s v u):Dis s u v:=λq l p i d e=>(h p i q l e d).symm
end
def qT(f:aE)(i:Nat)(d:Int):Bool:=decide (0<=d)&&decide (dQ f d.toNat (lvl f i)=i)
def jB(f:aE)(xs:List Int)(i:Nat):Int:=if i=0 then 0 else((xs.countP (qT f i):Nat):Int)
def rJ(f:aE)(xs:List Int):List Int:=(bkH f.biY.length).map (jB f xs)
def sD(f:aE)(xs:List Int)(d:Nat)(k:Nat):List Int:=(bkH f.biY.length).map λi=>if 4-(k:Int)<lvl f i then jB f (xs++[(d:Int)]) i else jB f xs i
theorem aWN(f:aE)(xs:List Int)(d k:Nat):(sD f xs d k).length=Z' f.biY:=by simp[sD]
theorem VF.oV{f:aE}(h:VF f){i:Nat}(hi:i<Z' f.biY):0<=lvl f i/\lvl f i<=4/\(lvl f i=0↔i=0):=by
 rcases bmZ i with e|e
 ·subst e;rw[h.root.2.1];simp
 ·have:=h.dom i e hi;omega
theorem aPP{f:aE}(h:VF f)(xs:List Int)(d:Nat):sD f xs d 0=rJ f xs:=by
 refine bnM (by simp[sD,rJ]) λi l e=>?_;simp only[sD,rJ,blX,List.getElem_range];have hi:i<Z' f.biY:=by simpa[rJ]using e
 have:=h.oV hi;rw[aD Om]
theorem aPO{f:aE}(h:VF f)(xs:List Int)(d:Nat):sD f xs d 4=rJ f (xs++[(d:Int)]):=by
 refine bnM (by simp[sD,rJ]) λi p l=>?_;simp only[sD,rJ,blX,List.getElem_range];have hi:i<Z' f.biY:=by simpa[rJ]using l
 have:=h.oV hi;by_cases e:i=0
 ·subst e;rw[aD Om];simp[jB]
 ·rw[aI Om]
theorem MG(f:aE)(xs:List Int)(d:Nat){i:Nat}(hi:i≠0):jB f (xs++[(d:Int)]) i=jB f xs i+if dQ f d (lvl f i)=i then 1 else 0:=by
 unfold jB;rw[aD hi,aD hi,List.countP_append];by_cases h:dQ f d (lvl f i)=i
 ·rw[aI h];simp[qT,h]
 ·rw[aD h];simp[qT,h]
theorem a3T{f:aE}(h:VF f)(xs:List Int){d:Nat}(y:d<Z' f.biV){k:Nat}(E:k<4) :
  (sD f xs d k)[upN f k (eU f d)]?=some (jB f xs (upN f k (eU f d))) /\
  (sD f xs d k).set (upN f k (eU f d)) (jB f xs (upN f k (eU f d))+1)=sD f xs d (k+1):=by
 obtain⟨A,w⟩:=SP h y (k:=k) Om;constructor
 ·simp only[sD,blC,List.getElem?_range A,blJ];rw[aD Om]
 ·refine bnM (by simp[sD]) λi B x=>?_;have hi:i<Z' f.biY:=by simpa[sD]using x
  simp only[sD,List.getElem_set,blX,List.getElem_range];have J:=h.oV hi;by_cases e:upN f k (eU f d)=i
  ·rw[aI e];subst e;rw[aI Om];have l:upN f k (eU f d)≠0:=by intro e;rw[e,h.root.2.1]at w;omega
   rw[MG f xs d l,dQ,w];have:4-(4-(k:Int)).toNat=k:=Om;rw[this,aI rfl]
  ·rw[aD e];by_cases c:4-(k:Int)<lvl f i
   ·rw[aI c,aI Om]
   ·rw[aD c];by_cases p:4-((k+1:Nat):Int)<lvl f i
    ·rw[aI p];have u:lvl f i=4-(k:Int):=Om;have l:i≠0:=by intro e;subst e;rw[h.root.2.1]at u;omega
     rw[MG f xs d l,dQ,u];have:4-(4-(k:Int)).toNat=k:=Om;rw[this,aD e];simp
    ·rw[aD p]
theorem a3S(f:aE)(xs:List Int)(i:Nat):0<=jB f xs i/\jB f xs i<=Z' xs:=by
 unfold jB;have:=boO (p:=qT f i) (l:=xs);split<;>omega
structure Obs where
 o5:Nat
 o7:Nat
 o8:Nat
 oD:Nat
 oB:Nat
structure Obs.Ne(o:Obs):Prop where
 a1:o.o5≠o.oD
 a2:o.o5≠o.oB
 a3:o.o7≠o.oD
 a4:o.o7≠o.oB
 a5:o.o8≠o.oD
 a6:o.o8≠o.oB
 a7:o.oD≠o.oB
structure aVG(H:PH)(o:Obs)(v:Nat)(p:cJ)(A:List Bool)(D B:List Int):Prop where
 h5:H o.o5=some (.rows 1 [[.int .i64 v]])
 h7:H o.o7=some (.rows 17 [p.cells])
 h8:H o.o8=some (.rows 1 (eT A))
 hD:H o.oD=some (.rows 1 (bF D))
 hB:H o.oB=some (.rows 1 (bF B))
theorem aVG.keep{H H':PH}{o:Obs}{v:Nat}{p:cJ}{A:List Bool}{D B:List Int}(h:aVG H o v p A D B)(d:∀q s' z,3≠s'->H q=some (.rows s' z)->H' q=some (.rows s' z)):aVG H' o v p A D B:=
 ⟨d _ _ _ aU h.h5,d _ _ _ aU h.h7,d _ _ _ aU h.h8,d _ _ _ aU h.hD,d _ _ _ aU h.hB⟩
structure Y6(f:aE)(row:List Int):Prop where
 len:Z' row<=16777216
 at_:∀x∈row,-1<=x/\x<(Z' f.biV:Nat)
def home(row:List Int)(i:Nat):Bool:=decide (row.getD i 0<0)
def fS(f:aE)(p:cJ)(i:Nat):Int:=p.spread (lvl f i).toNat
theorem ch(n:Nat):bkM n [PV.bool false]=eT (marks n []):=by rw[Sr];simp[eT]
theorem aUT(f:aE):bkM f.biY.length [PV.int .i64 0]=bF (rJ f []):=by
 have:rJ f []=bkM f.biY.length 0:=by refine bnM (by simp[rJ]) λi d e=>?_;simp[rJ,jB]
 rw[this,xO]
def over(f:aE)(l:List (List Int))(room:List Int)(d:Nat):Bool:=decide ((a9H f l).getD d 0>(sK f room).getD d 0)
def MX:=bR [] Proofs.Tryz.f12
def aAK:=aA MX 0
def aAL:=aA MX 1
def aAM:=aA MX 2
def Ng:=aA MX 3
def fx:aC:=(sq aAK (hL aAL 5 (.region aAM) (sq Ng .ret)))
def aYW:bB:=⟨1,12,fx,[.tmp 2]⟩
def AS:=bR [] Proofs.Tryz.f13
def x3:=aA AS 0
def WH:=cN AS 0
def x4:=aA AS 1
def ajE:=aA AS 2
def ajF:=cN AS 1
def HC:aC:=(sq x3 (.seq (dq WH (.cond (Tm 18) (sq x4 .ret) .skip)) (sq ajE (dq ajF .ret))))
def Ze:bB:=⟨2,40,HC,[.tmp 4]⟩
def WC:=bR [] Proofs.Tryz.f87
def aiG:=aA WC 0
def aiH:=aA WC 1
def aiI:=aA WC 2
def WB:aC:=(sq aiG (sq aiH (sq aiI .ret)))
def aLD:bB:=⟨1,16,WB,[.cell 2 (some 3)]⟩
def fE:=bR [45,63,90,95] Proofs.Tryz.f41
def aAE:=aA fE 0
def aAF:=aA fE 1
def aAG:=aA fE 2
def aAH:=aA fE 3
def aAI:=aA fE 4
def aAJ:=aA fE 5
def Nc:=aA fE 6
def Nd:=aA fE 7
def Nf:=aA fE 8
def mq:=aA fE 9
def xo:=aA fE 10
def xp:=aA fE 11
def xq:=aA fE 12
def xr:=aA fE 13
def xt:=aA fE 14
def WF:=aA fE 15
def xu:=aA fE 16
def xv:=aA fE 17
def aiX:=aA fE 18
def aiY:=aA fE 19
def aiZ:=aA fE 20
def xw:=aA fE 21
def xx:=aA fE 22
def xy:=aA fE 23
def WE:aC:=(cT aiX 68 2 xy (sq aiY (hL aiZ 85 (.region xw) (.region xx))))
def xz:=aA fE 24
def ajA:=aA fE 25
def aiW:aC:=(cT aAJ 22 0 ajA (sq Nc (hL Nd 29 (.region Nf) (sq mq (sq xo (sq xp (sq xq (hL xr 58 (.region xt) (sq WF (sq xu (.seq (cD xv 2 WE) (.region xz))))))))))))
def ajB:=aA fE 26
def fw:aC:=(sq aAE (sq aAF (sq aAG (sq aAH (.seq (cD aAI 0 aiW) (sq ajB .ret))))))
def aYT:bB:=⟨2,99,fw,[.cell 4 (some 4)]⟩
def vK:=bR [16] Proofs.Tryz.f44
def aAO:=aA vK 0
def aAP:=aA vK 1
def aAQ:=aA vK 2
def aAR:=aA vK 3
def aAS:=aA vK 4
def aAT:=aA vK 5
def aAN:aC:=(cT aAR 10 0 aAT (.region aAS))
def aAU:=aA vK 6
def ga:aC:=(sq aAO (sq aAP (.seq (cD aAQ 0 aAN) (sq aAU .ret))))
def aYY:bB:=⟨2,19,ga,[.tmp 4]⟩
def Gc:=bR [] Proofs.Tryz.f42
def ajC:=aA Gc 0
def ajD:=aA Gc 1
def WG:aC:=(sq ajC (sq ajD .ret))
def aLG:bB:=⟨2,9,WG,[.tmp 4]⟩
def iH:=bR [60,81,113] Proofs.Tryz.f43
def aiL:=aA iH 0
def aiM:=aA iH 1
def aiN:=aA iH 2
def aiO:=aA iH 3
def WD:=aA iH 4
def xj:=aA iH 5
def xk:=aA iH 6
def aiP:=aA iH 7
def aiQ:=cN iH 0
def aiR:=cN iH 1
def S3:=aA iH 8
def S4:=cN iH 2
def S5:=aA iH 9
def S6:=aA iH 10
def ft:=cN iH 3
def fv:=aA iH 11
def EW:=aA iH 12
def EV:aC:=(cT xj 28 0 EW (hL xk 32 (hL aiP 39 (dq aiQ (.draw aiR)) (.exit 1)) (hL S3 78 .ret (dq S4 (hL S5 98 (.region S6) (dq ft (.region fv)))))))
def HB:aC:=(sq aiL (sq aiM (hL aiN 25 (.region aiO) (cD WD 0 EV))))
def Zd:bB:=⟨4,127,HB,[]⟩
def cE:=bR [40,67,148,154,176] Proofs.Tryz.f14
def St:=aA cE 0
def Su:=aA cE 1
def Sv:=aA cE 2
def Sw:=aA cE 3
def Sx:=aA cE 4
def Sy:=aA cE 5
def Sz:=aA cE 6
def S0:=aA cE 7
def S1:=aA cE 8
def fq:aC:=(cT Sx 29 0 S1 (sq Sy (sq Sz (.region S0))))
def Ff:=aA cE 9
def Fg:=aA cE 10
def Fh:=aA cE 11
def Fi:=cN cE 0
def Fj:=cN cE 1
def Fk:=aA cE 12
def VR:aC:=(cT Fh 48 2 Fk (dq Fi (.draw Fj)))
def Fl:=aA cE 13
def Fm:=aA cE 14
def Fo:=aA cE 15
def Fp:=aA cE 16
def Fq:=aA cE 17
def VU:=aA cE 18
def GW:=cN cE 2
def GX:=cN cE 3
def GY:=aA cE 19
def GZ:=aA cE 20
def VV:=aA cE 21
def Fu:=aA cE 22
def Fv:=aA cE 23
def Fw:=aA cE 24
def VW:=aA cE 25
def GU:aC:=(cT Fu 119 6 VW (sq Fv (.cond (Tm 124) (.region Fw) .skip)))
def VX:=aA cE 26
def VY:=aA cE 27
def VZ:=aA cE 28
def WA:=aA cE 29
def HA:=aA cE 30
def Fy:=aA cE 31
def VS:aC:=(cT Fq 82 4 Fy (sq VU (.seq (dq GW (.draw GX)) (sq GY (sq GZ (.seq (cD VV 6 GU) (sq VX (sq VY (hL VZ 143 (.region WA) (.region HA))))))))))
def F0:=aA cE 32
def F6:=aA cE 33
def F7:=aA cE 34
def F8:=cN cE 4
def F9:=cN cE 5
def Ga:=aA cE 35
def VT:aC:=(cT F7 163 8 Ga (dq F8 (.draw F9)))
def Gb:=aA cE 36
def OX:aC:=(sq St (sq Su (sq Sv (.seq (cD Sw 0 fq) (sq Ff (.seq (cD Fg 2 VR) (sq Fl (sq Fm (sq Fo (.seq (cD Fp 4 VS) (sq F0 (.seq (cD F6 8 VT) (sq Gb .ret)))))))))))))
def aiF:bB:=⟨3,180,OX,[.cell 6 (some 7)]⟩
def qu:=bR [] Proofs.Tryz.f36
def Sm:=aA qu 0
def Sn:=aA qu 1
def OV:aC:=(sq Sm (sq Sn .ret))
def ahU:bB:=⟨3,12,OV,[.cell 6 (some 7)]⟩
def pP:=bR [3,21] Proofs.Tryz.f15
def ajI:=aA pP 0
def ajJ:=aA pP 1
def ajK:=aA pP 2
def ajL:=aA pP 3
def ajM:=aA pP 4
def ajN:=aA pP 5
def ajO:=aA pP 6
def ajP:=aA pP 7
def ajH:aC:=(cT ajN 14 0 ajP (.region ajO))
def ajQ:=aA pP 8
def WI:aC:=(sq ajI (dA ajJ 9 ajK (sq ajL (.seq (cD ajM 0 ajH) (sq ajQ .ret)))))
def aLI:bB:=⟨2,24,WI,[.tmp 4]⟩
def BS:=bR [] Proofs.Tryz.f85
def arD:=aA BS 0
def arE:=aA BS 1
def arF:=aA BS 2
def arG:=aA BS 3
def arC:aC:=(.seq (sq arF (.cond (Tm 15) .skip (.exit 0))) (.block 1 (.region arG)))
def zx:=aA BS 4
def ZD:aC:=(sq arD (sq arE (.seq (.block 0 (.loop arC)) (sq zx .ret))))
def aNT:bB:=⟨1,22,ZD,[.tmp 2]⟩
def Jy:=bR [8] Proofs.Tryz.f46
def aqP:=aA Jy 0
def aqQ:=aA Jy 1
def YU:aC:=(sq aqP (sq aqQ .ret))
def aNO:bB:=⟨1,10,YU,[.tmp 2]⟩
def uq:=bR [] Proofs.Tryz.f136
def Wn:=aA uq 0
def Wo:=aA uq 1
def QP:aC:=(sq Wn (sq Wo .ret))
def aqO:bB:=⟨1,7,QP,[.tmp 2]⟩
def lK:=bR [] Proofs.Tryz.f116
def aEA:=aA lK 0
def aEB:=aA lK 1
def aEC:=aA lK 2
def aED:=aA lK 3
def aEE:=aA lK 4
def aEF:=aA lK 5
def aEG:=aA lK 6
def aEH:=aA lK 7
def aEI:=cN lK 0
def aEJ:=aA lK 8
def aqB:=cN lK 1
def aqC:=aA lK 9
def aqD:=aA lK 10
def aqA:aC:=(cT aEH 24 0 aqD (.seq (dq aEI (.cond (Tm 35) (sq aEJ .ret) .skip)) (dq aqB (.cond (Tm 44) (sq aqC .ret) .skip))))
def aqE:=aA lK 11
def j2:aC:=(sq aEA (sq aEB (hL aEC 14 (dA aED 19 aEE (sq aEF .ret)) (.seq (cD aEG 0 aqA) (sq aqE .ret)))))
def a0V:bB:=⟨2,45,j2,[.tmp 4]⟩
def cM:=bR [76] Proofs.Tryz.f137
def Jr:=aA cM 0
def Js:=aA cM 1
def Jt:=aA cM 2
def Ju:=aA cM 3
def YQ:=aA cM 4
def YR:=aA cM 5
def YS:=aA cM 6
def Jv:=aA cM 7
def Jw:=aA cM 8
def Jx:=aA cM 9
def tz:=aA cM 10
def t6:=aA cM 11
def QD:aC:=(cT Jv 36 0 t6 (sq Jw (sq Jx (.region tz))))
def QE:=aA cM 12
def t7:=aA cM 13
def t8:=aA cM 14
def QF:=aA cM 15
def QG:=aA cM 16
def QH:=aA cM 17
def QI:=aA cM 18
def uc:=aA cM 19
def ud:=cN cM 0
def ue:=aA cM 20
def ug:=aA cM 21
def uh:=aA cM 22
def ui:=cN cM 1
def uj:=aA cM 23
def EA:aC:=(.seq (dq ui (.cond (Tm 146) .skip (.exit 4))) (.block 5 (.region uj)))
def QJ:=aA cM 24
def QK:=aA cM 25
def uk:=aA cM 26
def ul:=aA cM 27
def um:=aA cM 28
def uo:=aA cM 29
def QL:=aA cM 30
def EB:aC:=(cT uk 166 6 QL (sq ul (sq um (.cond (Tm 177) (.region uo) .skip))))
def QM:=aA cM 31
def QN:=aA cM 32
def EC:aC:=(cT uc 105 2 QN (dq ud (sq ue (hL ug 131 (.region uh) (.seq (.block 4 (.loop EA)) (sq QJ (.seq (cD QK 6 EB) (.region QM))))))))
def QO:=aA cM 33
def LF:aC:=(sq Jr (dA Js 23 Jt (hL Ju 28 (sq YQ (sq YR (.seq (cD YS 0 QD) (sq QE .ret)))) (sq t7 (sq t8 (sq QF (sq QG (sq QH (.seq (cD QI 2 EC) (sq QO .ret))))))))))
def Ox:bB:=⟨2,198,LF,[.tmp 4,.tmp 5]⟩
def wA:=bR [] Proofs.Tryz.f90
def aEK:=aA wA 0
def aEL:=aA wA 1
def Ow:=aA wA 2
def aEM:=aA wA 3
def aEN:=aA wA 4
def aEO:=aA wA 5
def aEP:=aA wA 6
def j3:aC:=(sq aEK (dA aEL 14 Ow (dA aEM 18 aEN (sq aEO (sq aEP .ret)))))
def udiv:bB:=⟨2,29,j3,[.tmp 4,.tmp 5,.tmp 6]⟩
def tH:=bR [] Proofs.Tryz.f89
def aER:=aA tH 0
def aES:=aA tH 1
def Oy:=aA tH 2
def aET:=aA tH 3
def aEU:=aA tH 4
def aEV:=aA tH 5
def aEW:=aA tH 6
def aEQ:aC:=(.seq (sq aEU (.cond (Tm 22) .skip (.exit 0))) (.block 1 (sq aEV (.region aEW))))
def aEX:=aA tH 7
def j6:aC:=(sq aER (dA aES 15 Oy (sq aET (.seq (.block 0 (.loop aEQ)) (sq aEX .ret)))))
def a0Z:bB:=⟨2,32,j6,[.tmp 4,.tmp 5]⟩
def nB:=bR [16] Proofs.Tryz.f45
def Ka:=aA nB 0
def Kb:=aA nB 1
def Kc:=aA nB 2
def Kd:=aA nB 3
def Ke:=aA nB 4
def Kf:=aA nB 5
def ZG:=aA nB 6
def ZH:=aA nB 7
def HT:=aA nB 8
def LJ:aC:=(sq Ka (sq Kb (dA Kc 15 Kd (.seq (sq Ke (sq Kf (.cond (Tm 32) (sq ZG (.region ZH)) .skip))) (sq HT .ret)))))
def O4:bB:=⟨3,51,LJ,[.cell 6 (some 3)]⟩
def HV:=bR [] Proofs.Tryz.f47
def asE:=aA HV 0
def asF:=aA HV 1
def asG:=aA HV 2
def asH:=aA HV 3
def ZL:aC:=(sq asE (dA asF 4 asG (sq asH .ret)))
def aOD:bB:=⟨1,12,ZL,[.tmp 2]⟩
def HU:=bR [] Proofs.Tryz.f16
def arU:=aA HU 0
def arV:=aA HU 1
def arW:=aA HU 2
def arX:=aA HU 3
def ZI:aC:=(sq arU (dA arV 7 arW (sq arX .ret)))
def Zo:bB:=⟨2,21,ZI,[.cell 4 (some 3),.tmp 5]⟩
def kj:=bR [] Proofs.Tryz.f24
def aFX:=aA kj 0
def aFY:=aA kj 1
def aFZ:=aA kj 2
def ki:aC:=(sq aFX (sq aFY (sq aFZ .ret)))
def a1O:bB:=⟨1,11,ki,[.cell 2 (some 3)]⟩
def utF(xs:List Nat)(n:Nat):PF:=((n_.set 0 (aN xs)).set 3 (.int .i64 n))
theorem a1K(xs:List Nat)(M:Lim xs)(N:Z' xs<=35184372087808):ZD.wp C (aX aNT.res (tI 1 (aO (aM (val xs))))) (g_ [aN xs]) .nil:=by
 simp only[go_sem,ZD,arD,arE,aNT,bkG];refine wp_loop (α:=Nat) (λn=>utF xs n) (λ_=>.nil) (λn=>n<=Z' xs/\∀j x,n<=j->xs[j]?=some x->x=0) (λn=>n) xs.length ⟨bkN _,λj x w d=>?_⟩ ?_ a_ ?_
 ·rw[bmA w]at d;cases d
 ·unfold utF;exact Lq
 rintro n ⟨J,B⟩;have done:(0<n->∀h:n-1<Z' xs,xs[n-1]≠0)->∀F:PF,(utF xs n).le F->aC.wp C (.seq (.region zx) .ret) (aX [.tmp 2] (tI 1 (aO (aM (val xs))))) F .nil:=by
  intro h F u;have f0:F 0=some (aN xs):=u 0 _ (by unfold utF;simp only[go_sem]);have E:F 3=some (.int .i64 n):=u 3 _ (by unfold utF;simp only[go_sem]);have y:xs.take n=aM (val xs):=YM M J B λx l d=>by
   rw[bkT Om]at d;injection d with d
   subst d;exact h l Om
  have H:((n:Nat):Int)<=(Z' xs:Nat):=Om;simp only[go_sem,zx,f0,E,bkG,H,or_true,blY];refine gZ (rows:=[]) (src:=aO (aM (val xs))) .nil ?_ ?_ λv H' K _=>?_
  ·simp only[go_sem];rw[<-y,<-bnO]
  ·unfold roomFor;rw[cX,<-y,bkY];simp only[bnB,maxLen];omega
  ·exact XN (.inr rfl) (by simpa using K) rfl
 simp only[aC.wp,go_sem]at done;simp only[go_sem,arC,arF,utF];by_cases l:0<n
 ·have i:((n:Nat):Int)>0:=Om;have hlt:n-1<Z' xs:=Om;have p:=cK xs hlt;have A:i_.wrap ((n:Int)-1)=((n-1:Nat):Int):=FF Om l;simp only[go_sem,i,A,p];by_cases c:xs[n-1]=0
  ·simp only[go_sem,bW (Om:((xs[n-1]:Nat):Int)=0),arG,A];refine aG (n-1) ⟨by omega,λj x w d=>?_⟩ Om ?_ a_
   ·by_cases e:j=n-1
    ·subst e;rw[bkT hlt]at d;injection d with d
     omega
    ·exact B j x Om d
   ·exact Lq
  ·simp only[go_sem,bL (Om:((xs[n-1]:Nat):Int)≠0)];exact done (λ_ _=>c) _ (by unfold utF;exact Lq)
 ·have i:¬((n:Nat):Int)>0:=Om;simp only[go_sem,i];exact done (λh=>absurd h l) _ (by unfold utF;exact Lq)
structure uQ(C:Ctx):Prop where
 trimM:∀xs,Lim xs->Z' xs<=35184372087808->aH C 38 [aN xs] .nil (tI 1 (aO (aM (val xs))))
theorem uQ.trim(L:uQ C)(xs:List Nat)(e:Lim xs)(d:Z' xs<=35184372087808):aH C 38 [aN xs] .nil (aF (aN (aM (val xs)))):=(L.trimM xs e d).freeze
theorem a1A(L:uQ C)(v:Nat)(A:v<18446744073709551616):YU.wp C (aX aNO.res (cI (aN (aM v)))) (g_ [.int .u64 v]) .nil:=by
 have u:IntKind.u32.wrap ((v:Nat):Int)=((v%4294967296:Nat):Int):=dN v;have i:v/4294967296<4294967296:=Om;have w:IntKind.u32.wrap ((v/4294967296:Nat):Int)=((v/4294967296:Nat):Int):=by rw[dN,bmC i]
 have y:Lim [v%4294967296,v/4294967296]:=by
  intro x p;simp only[bkX,List.mem_nil_iff,or_false]at p;rcases p with rfl|rfl
  ·exact bmG _ aU
  ·exact i
 have d:val [v%4294967296,v/4294967296]=v:=by simp only[val,Nat.mul_zero,bmS];exact Nat.mod_add_div v 4294967296
 have e:shift .shr .u64 (v:Int) 32=some (.int .u64 ((v/4294967296:Nat):Int)):=HO;have hb:(2:Nat)*1<=16777216:=by decide
 simp only[go_sem,YU,aqP,aqQ,aNO,u,e,w,hb];have l:=L.trim [v%4294967296,v/4294967296] y bH;rw[d]at l;refine aB l rfl ?_;simp only[go_sem];exact bG (.inr rfl) .nil rfl a_ ⟨.refl _,rfl⟩
theorem aTS(L:uQ C)(xs:List Nat)(e:Lim xs)(d:Z' xs<=35184372087808):QP.wp C (aX aqO.res (cI (.bool (decide (nl (val xs)>512))))) (g_ [aN xs]) .nil:=by
 simp only[go_sem,QP,Wn,Wo,aqO];refine aB (L.trim xs e d) rfl ?_;simp only[go_sem,bkG,bE];refine bU rfl ?_;rw[decide_eq_decide];omega
theorem aIQ{a b:Nat}(h:nl a<nl b):eR a b=-1:=by
 have:a<b:=by
  rcases blI a b with h'|h'
  ·exact h'
  ·have:=jO h';omega
 simp[eR,this]
theorem aIP{a b:Nat}(h:nl b<nl a):eR a b=1:=by
 have:b<a:=by
  rcases blI b a with h'|h'
  ·exact h'
  ·have:=jO h';omega
 have d:¬a<b:=Om;simp[eR,this,d]
def aNJ(X Y:List Nat)(i:Int):PF:=(((n_.set 0 (aN X)).set 1 (aN Y)).set 5 (.int .i64 i))
theorem a7K(L:uQ C)(xs ys:List Nat)(x:Lim xs)(y:Lim ys)(R:Z' xs<=35184372087808)(S:Z' ys<=35184372087808) :
  j2.wp C (aX a0V.res (aF (.int .i64 (eR (val xs) (val ys))))) (g_ [aN xs,aN ys]) .nil:=by
 simp only[go_sem,j2,aEA,aEB,a0V];refine aB (L.trim xs x R) Ev ?_;simp only[go_sem];refine aB (L.trim ys y S) Ev ?_;have U:=jF x;have E:=jF y;simp only[go_sem,aEC,bkG,bE];by_cases l:nl (val xs)≠nl (val ys)
 ·simp only[go_sem,dP (show((nl (val xs):Nat):Int)≠(nl (val ys):Nat) by omega),aED];by_cases F:nl (val xs)<nl (val ys)
  ·simp only[go_sem,bkG,bE,show((nl (val xs):Nat):Int)<(nl (val ys):Nat) by omega,aEE];refine aT (.inr rfl) Ev ?_;rw[aIQ F];rfl
  ·simp only[go_sem,bkG,bE,show ¬((nl (val xs):Nat):Int)<(nl (val ys):Nat) by omega,aEF];refine aT (.inr rfl) Ev ?_;rw[aIP Om];rfl
 replace l:=Decidable.of_not_not l;simp only[go_sem,cF (show((nl (val xs):Nat):Int)=(nl (val ys):Nat) by omega),aEG,bkG,bE];have ex:=aW (val xs);have p:=aW (val ys);have A:=aY (val xs);have B:=aY (val ys);generalize M:aM (val xs)=X at *
 generalize N:aM (val ys)=Y at *
 have O:Z' X=nl (val xs):=by rw[<-M];rfl
 have Q:Z' Y=nl (val xs):=by rw[l,<-N];rfl
 refine wp_loop (α:=Nat) (λk=>aNJ X Y ((k:Int)-1)) (λ_=>.nil) (λk=>k<=nl (val xs)/\X.drop k=Y.drop k) (λk=>k) (nl (val xs)) ⟨bkN _,?_⟩ ?_ a_ ?_
 ·rw[boK Om,boK Om]
 ·unfold aNJ
  (repeat' (first|exact c_|refine d_ ?_ ?_))<;>first|(simp only[go_sem,wrap_i64 (show -9223372036854775808<=((nl (val xs):Nat):Int)-1 by omega) (show((nl (val xs):Nat):Int)-1<=9223372036854775807 by omega)]<;>rfl)|rfl
 rintro k ⟨W,d⟩;simp only[go_sem,aqA,aEH,aNJ];by_cases V:0<k
 ·obtain⟨m,rfl⟩:∃m,k=m+1:=⟨k-1,by omega⟩;have w:((m+1:Nat):Int)-1=(m:Int):=Om;have u:(m:Int)>=0:=Om;have e:m<Z' X:=Om;have i:m<Z' Y:=Om;simp only[go_sem,w,u];refine bP .nil eJ a_ ?_;simp only[go_sem,aEI,cK X e,cK Y i];by_cases H:X[m]<Y[m]
  ·simp only[go_sem,show((X[m]:Nat):Int)<(Y[m]:Nat) by omega,aEJ];refine aT (.inr rfl) Ev ?_;have:=Bq A e i d H;rw[ex,p]at this;simp[bN,eR,this]
  ·simp only[go_sem,show ¬((X[m]:Nat):Int)<(Y[m]:Nat) by omega];refine bP .nil eJ a_ ?_;simp only[go_sem,aqB,cK X e,cK Y i];by_cases J:X[m]>Y[m]
   ·simp only[go_sem,show((X[m]:Nat):Int)>(Y[m]:Nat) by omega,aqC];refine aT (.inr rfl) Ev ?_;have:=Bq B i e d.symm J;rw[ex,p]at this;have K:¬val xs<val ys:=Om;simp[bN,eR,this,K]
   ·simp only[go_sem,show ¬((X[m]:Nat):Int)>(Y[m]:Nat) by omega,aqD];refine aG m ⟨by omega,Rk e i d Om⟩ Om ?_ a_
    (repeat' (first|exact c_|refine d_ ?_ ?_))<;>first|(simp only[go_sem,wrap_i64 (Om:-9223372036854775808<=(m:Int)-1) (Om:(m:Int)-1<=9223372036854775807)]<;>rfl)|rfl
 ·have:k=0:=Om;subst this;have w:¬((0:Nat):Int)-1>=0:=by decide
  simp only[go_sem,w,aqE];refine aT (.inr rfl) Ev ?_;rw[blY,blY]at d;have:val xs=val ys:=by rw[<-ex,<-p,d]
  simp[bN,eR,this]
theorem NM(n:Nat):(((n:Nat):Int)==0)=decide (n=0):=by
 by_cases h:n=0
 ·subst h;rfl
 ·rw[bL Om,bC h]
structure Z5(C:Ctx):Prop extends uQ C where
 make:∀v:Nat,v<18446744073709551616->aH C 35 [.int .u64 v] .nil (aF (aN (aM v)))
 large:∀xs,Lim xs->Z' xs<=35184372087808->aH C 41 [aN xs] .nil (aF (.bool (decide (nl (val xs)>512))))
 cmp:∀xs ys,Lim xs->Lim ys->Z' xs<=35184372087808->Z' ys<=35184372087808->aH C 32 [aN xs,aN ys] .nil (aF (.int .i64 (eR (val xs) (val ys))))
def aNN(a b:Nat):PF:=((n_.set 6 (aN (aM a))).set 7 (aN (aM b)))
structure Au(C:Ctx):Prop extends Z5 C where
 divide:∀A B:Nat,B≠0->nl A<=512->nl B<=512->aH C 39 [aN (aM A),aN (aM B)] .nil (aF (xE A B))
def aJV(a b:Nat):PV:=if fO a b then .tup [aN [],.int .i64 2]else .tup [aN (aM (bkJ a b)),.int .i64 0]
theorem a7M(L:Au C)(a b:List Nat)(p:Lim a)(hb:Lim b)(w:Z' a<=35184372087808)(A:Z' b<=35184372087808) :
  j6.wp C (aX a0Z.res (cI (aJV (val a) (val b)))) (g_ [aN a,aN b]) .nil:=by
 unfold aJV;simp only[go_sem,j6,aER,aES,a0Z];refine aB (L.large a p w) rfl ?_;by_cases d:nl (val a)>512
 ·simp only[go_sem,d,Oy];rw[aI (by simp[fO,d])];exact gT rfl
 simp only[go_sem,d];refine aB (L.large b hb A) rfl ?_;by_cases e:nl (val b)>512
 ·simp only[go_sem,e,Oy];rw[aI (by simp[fO,e])];exact gT rfl
 rw[aD (by simp[fO,d,e])];simp only[go_sem,e,aET];refine aB (L.trim a p w) rfl ?_;simp only[go_sem];refine aB (L.trim b hb A) rfl ?_;simp only[go_sem];refine wp_loop (α:=Nat × Nat) (λt=>aNN t.1 t.2) (λ_=>.nil) (λt=>bkJ t.1 t.2=bkJ (val a) (val b)/\nl t.1<=512/\nl t.2<=512) (λt=>t.2) (val a,val b) ⟨rfl,by simp only;omega,by simp only;omega⟩ ?_ a_ ?_
 ·unfold aNN;exact Lq
 rintro⟨x,y⟩ ⟨l,B,u⟩;simp only at l B u;simp only[go_sem,aEQ,aEU,aNN,bE];by_cases i:y=0
 ·subst i;have:¬((nl 0:Nat):Int)>0:=by rw[IT];decide
  simp only[go_sem,this,aEX];refine bG (vs:=[aN (aM x),.int .i64 0]) (.inr rfl) .nil rfl a_ ⟨?_,rfl⟩;rw[<-l,Nat.gcd_zero_right];exact .refl _
 ·have E:nl y≠0:=λh=>i (kV.1 h);have:((nl y:Nat):Int)>0:=Om;simp only[go_sem,this,aEV];refine aB (L.divide x y i Om Om) rfl ?_;simp only[go_sem,xE,aEW];have hlt:x%y<y:=bmG _ (bnE i);refine aG (y,x%y) ⟨?_,u,?_⟩ hlt ?_ a_
  ·simp only;rw[<-l,Nat.gcd_comm y,<-Nat.gcd_rec y x,Nat.gcd_comm]
  ·have:=jO (Nat.le_of_lt hlt);simp only;omega
  ·exact Lq
theorem a7L(L:Au C)(a b:List Nat)(p:Lim a)(hb:Lim b)(u:Z' a<=35184372087808)(l:Z' b<=35184372087808) :
  j3.wp C (aX udiv.res (cI (sH (val a) (val b)))) (g_ [aN a,aN b]) .nil:=by
 unfold sH;simp only[go_sem,j3,aEK,aEL,udiv];refine aB (L.large a p u) rfl ?_;by_cases e:nl (val a)>512
 ·simp only[go_sem,e,Ow];rw[aI (by simp[fO,e])];exact zG rfl
 simp only[go_sem,e];refine aB (L.large b hb l) rfl ?_;by_cases i:nl (val b)>512
 ·simp only[go_sem,i,Ow];rw[aI (by simp[fO,i])];exact zG rfl
 rw[aD (by simp[fO,e,i])];simp only[go_sem,i,aEM];refine aB (L.trim b hb l) rfl ?_;simp only[go_sem,bkG,bE,NM,kV];by_cases d:val b=0
 ·rw[aI d];simp only[go_sem,aV d,aEN];exact zG rfl
 rw[aD d];simp only[go_sem,bC d,aEO];refine aB (L.trim a p u) rfl ?_;simp only[go_sem];refine aB (L.trim b hb l) rfl ?_;simp only[go_sem];refine aB (L.divide (val a) (val b) d Om Om) rfl ?_;simp only[go_sem,xE,aEP];exact bG (.inr rfl) .nil rfl a_ ⟨.refl _,rfl⟩
def pD(neg:Bool)(a b:Nat):FV:=(neg&&decide (a/bkJ a b≠0),a/bkJ a b,b/bkJ a b)
structure Z6(C:Ctx):Prop extends Au C where
 gcd:∀a b,Lim a->Lim b->Z' a<=35184372087808->Z' b<=35184372087808->aH C 34 [aN a,aN b] .nil (aF (aJV (val a) (val b)))
 div:∀a b,Lim a->Lim b->Z' a<=35184372087808->Z' b<=35184372087808->aH C 33 [aN a,aN b] .nil (aF (sH (val a) (val b)))
theorem AW{n:Nat}(h:nl n<=512):(aM n).length<=35184372087808:=by rw[bE];omega
theorem nS:aM 1=[1]:=uI aU aU
theorem Eg{n:Nat}(h:n≠0):aM n=n%4294967296::aM (n/4294967296):=zF h
theorem JZ{n:Nat}(h:n≠0):(nl n>1\/n%4294967296>1)↔n≠1:=by
 constructor
 ·rintro h1 rfl;rcases h1 with h1|h1
  ·rw[nl,nS]at h1;simp at h1
  ·omega
 ·intro h1;by_cases c:nl n>1
  ·exact .inl c
  ·have:n<4294967296^1:=(mQ n 1).1 Om;rw[Nat.pow_one]at this;rw[bmC this];exact .inr Om
theorem aNZ(L:Z6 C)(neg:Bool)(a b:List Nat)(W:Lim a)(hb:Lim b)(Z:Z' a<=35184372087808)(lb:Z' b<=35184372087808)(A:nl (val a)<=512)(u:nl (val b)<=512)(B:val b≠0) :
  LJ.wp C (aX O4.res (cI (.agg (pD neg (val a) (val b)).rf.cells))) (g_ [.bool neg,aN a,aN b]) .nil:=by
 have d:bkJ (val a) (val b)≠0:=λh=>B (Nat.eq_zero_of_gcd_eq_zero_right h);have K:bkJ (val a) (val b)<=val b:=Nat.gcd_le_right _ (bnE B);have O:nl (bkJ (val a) (val b))<=512:=blH (jO K) u;have M:fO (val a) (val b)=false:=lZ A u;simp only[go_sem,LJ,Ka,Kb,O4];refine aP λo ho=>?_;simp only[go_sem];refine aB (L.trim a W Z) rfl ?_;simp only[go_sem];refine aB (L.trim b hb lb) rfl ?_;simp only[go_sem,Kc,bkG,bE,NM,kV];by_cases w:val a=0
 ·simp only[go_sem,aV w,Kd];have e:(pD neg (val a) (val b)).rf=⟨false,[],[1]⟩:=by rw[w];unfold pD FV.rf;simp[fJ,Nat.div_self (bnE B),nS]
  rw[e];refine bG (vs:=[.agg [.bool false,.aK,aN [1]]]) (.inr rfl) .nil ?_ a_ ⟨show Co (.agg _) (.agg _)from CoL.agg (CoL.cons (.refl _) (CoL.cons (.nil 1) (CoL.cons (.refl _) .nil))),rfl⟩;simp only[go_sem];rfl
 have i:=L.gcd (aM (val a)) (aM (val b)) (aY _) (aY _) (AW A) (AW u);rw[aW,aW,aJV,M]at i;simp only[go_sem,bC w,Ke];refine aB i rfl ?_;have fin:∀x y:Nat,x=val a/bkJ (val a) (val b)->y=val b/bkJ (val a) (val b)->∀(F:PF)(H:PH),F 0=some (.bool neg)->F 1=some (aN (aM x))->F 2=some (aN (aM y))->F 6=some (.ptr o 3 0 0)->H o=some (.rows 3 [[.bool false,.aK,.aK]]) ->
   aC.wp C (.seq (.region HT) .ret) (aX [.cell 6 (some 3)] (cI (.agg (pD neg (val a) (val b)).rf.cells))) F H:=by
  intro x y N Y F H f0 f1 f2 f6 E;subst N;subst Y;simp only[go_sem,HT,f0,f1,f2,f6,E];have X:val a/bkJ (val a) (val b)≠0:=by have:=Nat.div_pos (Nat.gcd_le_left (val b) (bnE w)) (bnE d);omega
  have e:(pD neg (val a) (val b)).rf=⟨neg,aM (val a/bkJ (val a) (val b)),aM (val b/bkJ (val a) (val b))⟩:=by unfold pD FV.rf;simp only[X,ne_eq,not_false_eq_true,decide_true,bmO]
  rw[e];refine bG (vs:=[.agg (fC neg (aM (val a/bkJ (val a) (val b))) (aM (val b/bkJ (val a) (val b))))]) (.inr rfl) .nil ?_ a_ ⟨.refl _,rfl⟩;simp only[go_sem,f6]
 simp only[aC.wp,go_sem]at fin;have J:=λx (N:nl x<=512)=>L.div (aM x) (aM (bkJ (val a) (val b))) (aY _) (aY _) (AW N) (AW O);simp only[aW,sH]at J;have tail:bkJ (val a) (val b)≠1->∀(F:PF)(H:PH),F 0=some (.bool neg)->F 1=some (aN (aM (val a)))->F 2=some (aN (aM (val b)))->F 6=some (.ptr o 3 0 0)->F 7=some (aN (aM (bkJ (val a) (val b))))->H o=some (.rows 3 [[.bool false,.aK,.aK]]) ->
   aC.wp C (.seq (.seq (.region ZG) (.region ZH)) (.seq (.region HT) .ret)) (aX [.cell 6 (some 3)] (cI (.agg (pD neg (val a) (val b)).rf.cells))) F H:=by
  intro _ F H f0 f1 f2 f6 f7 E;have S:=J (val a) A;have U:=J (val b) u;rw[lZ A O,aD d]at S;rw[lZ u O,aD d]at U;simp only[go_sem,ZG,f1,f7];refine aB S rfl ?_;simp only[go_sem,bmT,ZH,f2,f7];refine aB U rfl ?_;simp only[go_sem,bmT];exact fin _ _ rfl rfl _ _ (by simp only[go_sem,f0]) rfl rfl (by simp only[go_sem,f6]) E
 simp only[aC.wp,go_sem]at tail;simp only[go_sem,bmT,Kf,bkG,bE];by_cases Q:nl (bkJ (val a) (val b))>1
 ·have l:((nl (bkJ (val a) (val b)):Nat):Int)>1:=Om;simp only[go_sem,l];exact tail ((JZ d).1 (.inl Q)) _ _ rfl rfl rfl rfl rfl Sq
 ·have l:¬((nl (bkJ (val a) (val b)):Nat):Int)>1:=Om;simp only[go_sem,l,Eg d];by_cases R:bkJ (val a) (val b)%4294967296>1
  ·have p:((bkJ (val a) (val b)%4294967296:Nat):Int)>1:=Om;simp only[go_sem,p];exact tail ((JZ d).1 (.inr R)) _ _ rfl rfl rfl rfl (by simp only[go_sem,Eg d]) Sq
  ·have p:¬((bkJ (val a) (val b)%4294967296:Nat):Int)>1:=Om;have V:bkJ (val a) (val b)=1:=by
    rcases Decidable.em (bkJ (val a) (val b)=1)with h|h
    ·exact h
    ·rcases(JZ d).2 h with h|h
     ·exact absurd h Q
     ·exact absurd h R
   simp only[go_sem,p];exact fin (val a) (val b) (by rw[V,Nat.div_one]) (by rw[V,Nat.div_one]) _ _ rfl rfl rfl rfl Sq
theorem a1U(v:Int)(l:-9223372036854775808<=v)(p:v<=9223372036854775807) :
  ZL.wp C (aX aOD.res (aF (.int .u64 (v.natAbs:Nat)))) (g_ [.int .i64 v]) .nil:=by
 simp only[go_sem,ZL,asE,asF,aOD];by_cases c:v<0
 ·have d:i_.wrap (v+1)=v+1:=wrap_i64 Om Om;have e2:i_.wrap (0-(v+1))=-(v+1):=by rw[wrap_i64 Om Om];omega
  have i:u_.wrap (u_.wrap (-(v+1))+1)=(v.natAbs:Int):=by rw[kC,kC];omega
  simp only[go_sem,c,asG,d,e2,i];refine aT (.inr rfl) rfl ?_;rfl
 ·have e:u_.wrap v=(v.natAbs:Int):=by rw[kC];omega
  simp only[go_sem,c,asH,e];refine aT (.inr rfl) rfl ?_;rfl
structure aHW(C:Ctx):Prop extends Z6 C where
 lowest:∀neg a b,Lim a->Lim b->Z' a<=35184372087808->Z' b<=35184372087808->nl (val a)<=512->nl (val b)<=512->val b≠0->aH C 58 [.bool neg,aN a,aN b] .nil (aF (.agg (pD neg (val a) (val b)).rf.cells))
 size:∀v:Int,dJ v->aH C 59 [.int .i64 v] .nil (aF (.int .u64 (v.natAbs:Nat)))
def mkT(n d:Int):RF:=(pD (decide (n<0) != decide (d<0)) n.natAbs d.natAbs).rf
def xU(n d:Int):PV:=if d=0 then GP 3 else .tup [.agg (mkT n d).cells,.int .i64 0]
theorem arT(L:aHW C)(n d:Int)(e:dJ n)(i:dJ d) :
  ZI.wp C (aX Zo.res (cI (xU n d))) (g_ [.int .i64 n,.int .i64 d]) .nil:=by
 simp only[go_sem,ZI,arU,arV];refine aP λo l=>?_;unfold xU;by_cases c:d=0
 ·subst c;simp only[go_sem,arW];refine gS ?_;simp only[go_sem,Zo]
 ·rw[aD c];simp only[go_sem,bL c,arX];refine aB (L.size n e) rfl ?_;simp only[go_sem];refine aB (L.make n.natAbs Om) rfl ?_;simp only[go_sem];refine aB (L.size d i) rfl ?_;simp only[go_sem];refine aB (L.make d.natAbs Om) rfl ?_;simp only[go_sem];have p:nl n.natAbs<=2:=lE Om;have u:nl d.natAbs<=2:=lE Om;have low:=L.lowest (decide (n<0) != decide (d<0)) (aM n.natAbs) (aM d.natAbs) (aY _) (aY _) (by rw[bE];omega) (by rw[bE];omega);rw[aW,aW]at low;have low:=low Om Om Om;refine aB low rfl ?_;simp only[go_sem];exact bG (.inr rfl) .nil (vs:=[.agg (mkT n d).cells,.int .i64 0]) (by simp only[go_sem,Zo];rfl) a_ ⟨.refl _,rfl⟩
structure Av(C:Ctx):Prop extends aHW C where
 fmk:∀n d:Int,dJ n->dJ d->aH C 50 [.int .i64 n,.int .i64 d] .nil (aF (xU n d))
theorem O3(L:Av C)(n:Int)(i:dJ n) :
  ki.wp C (aX a1O.res (cI (.agg (mkT n 1).cells))) (g_ [.int .i64 n]) .nil:=by
 simp only[go_sem,ki,aFX,aFY,a1O];refine aP λo l=>?_;simp only[go_sem];refine aB (L.fmk n 1 i (by unfold dJ;omega)) rfl ?_;unfold xU;rw[aD aU];simp only[go_sem];refine aP λp hp=>?_;have d:o≠p:=by rintro rfl;simp only[bD,if_true]at hp;cases hp
 have e:p≠o:=λh=>d h.symm;simp only[go_sem,d,aFZ];refine bG (vs:=[.agg (mkT n 1).cells]) (.inr rfl) .nil ?_ a_ ⟨.refl _,rfl⟩;simp only[go_sem,e]
def aJ(l:List Nat)(n a:Nat):Nat × Nat:=if l.length<=a\/n<2 then(0,a)else(l.getD a 0%n,a+1)
theorem cR(l:List Nat){n:Nat}(h:0<n)(a:Nat):(aJ l n a).1<n:=by
 unfold aJ;split
 ·exact h
 ·exact bmG _ h
theorem bY(l:List Nat)(n:Nat){a:Nat}(h:a<=Z' l):(aJ l n a).2<=Z' l:=by
 unfold aJ;split
 ·exact h
 ·simp only;omega
def jK(l:List Nat)(a:Nat):RF × Nat:=
 let x:=aJ l 6 a
 let y:=aJ l 8 x.2
 (mkT ((1+x.1:Nat):Int) ((1+y.1:Nat):Int),y.2)
abbrev oE:RF:=mkT 0 1
def mP(l:List Nat)(i j a:Nat):RF × Nat:=
 if j=i+1 then jK l a
 else if j=i then(oE,a)
 else let t:=aJ l 3 a
  if t.1=0 then jK l t.2 else(oE,t.2)
def fL(l:List Nat)(i a:Nat):Nat->List RF × Nat
 |0=>([],a)
 |j+1=>let s:=fL l i a j
  let z:=mP l i j s.2
  (s.1++[z.1],z.2)
structure NW where
 start:List RF
 exit:List RF
 bjA:List (List RF)
 left:Nat
 a:Nat
def fI(l:List Nat)(n i:Nat)(s:NW):Nat × Nat:=if i+1<n then aJ l (s.left+1) s.a else(s.left,s.a)
def hZ(l:List Nat)(n i a:Nat):RF × Nat:=
 let e:=jK l a
 if i+1<n then(let t:=aJ l 3 e.2;(if t.1=0 then oE else e.1,t.2))else e
def kA(l:List Nat)(n a:Nat):Nat->NW
 |0=>⟨[],[],[],8,a⟩
 |i+1=>let s:=kA l n a i
  let k:=fI l n i s
  let e:=hZ l n i k.2
  let r:=fL l i e.2 n
  ⟨s.start++[mkT (k.1:Nat) 8],s.exit++[e.1],s.bjA++[r.1],s.left-k.1,r.2⟩
def xF(l:List Nat)(fS a:Nat):dB × Nat:=
 let t:=aJ l fS a
 let s:=kA l (1+t.1) t.2 (1+t.1)
 (⟨[],s.start,s.bjA,s.exit⟩,s.a)
def oY(l:List Nat)(a:Nat):Nat->List RF × Nat
 |0=>([],a)
 |k+1=>let s:=oY l a k
  let z:=jK l s.2
  (s.1++[z.1],z.2)
abbrev cU(n:Nat):List UInt8:=Lib.decDigits n
def kU(l:List Nat)(a:Nat):Nat->List dB × Nat
 |0=>([],a)
 |k+1=>let s:=kU l a k
  let z:=xF l 2 s.2
  (s.1++[{ z.1 with name:=[108,97,119]++cU k }],z.2)
def fX(l:List Nat)(bjC a:Nat):Nat->List dW × Nat
 |0=>([],a)
 |k+1=>let s:=fX l bjC a k
  let x:=aJ l 4 s.2
  let y:=aJ l 8 x.2
  let z:=aJ l bjC y.2
  (s.1++[⟨[109]++cU k,(1+x.1:Nat),(1+y.1:Nat),(z.1:Nat)⟩],z.2)
structure GS where
 bjE:List cY
 bjO:List eS
 a:Nat
def nZ(l:List Nat)(mc biV d:Nat)(s:GS):Nat->GS
 |0=>s
 |i+1=>let s:=nZ l mc biV d s i
  if s.bjO.length<biV then
   let t:=aJ l mc s.a
   { s with bjO:=s.bjO++[⟨[100]++cU s.bjO.length,(t.1:Nat),(d:Nat)⟩],a:=t.2 }
  else s
def qC(level:Nat):UInt8:=match level with
 |0=>45
 |1=>115
 |2=>114
 |3=>107
 |_=>109
def sS(l:List Nat)(level d:Nat)(s:GS):GS:=
 let u:=aJ l 16 s.a
 let t:=aJ l 3 u.2
 let k:=aJ l 6 t.2
 let sh:RF × Nat:=if t.1=0 then(mkT 1 ((2+k.1:Nat):Int),k.2)else(oE,t.2)
 { s with bjE:=s.bjE++[⟨[qC level]++cU s.bjE.length,(level:Nat),(d:Nat),(1+u.1:Nat),sh.1⟩],a:=sh.2 }
def wK(biV:Nat)(s:GS):Bool:=decide (biV<=Z' s.bjO)||decide (35<=Z' s.bjE)
def kL(l:List Nat)(level biV d:Nat)(rec:Nat->GS->GS)(s:GS):Nat->GS
 |0=>s
 |i+1=>let s:=kL l level biV d rec s i
  if wK biV s then s else(let s':=sS l level d s;rec (Z' s'.bjE-1) s')
def gW(l:List Nat)(mc biV:Nat):Nat->Nat->GS->GS
 |0,d,s=>let t:=aJ l 2 s.a
  nZ l mc biV d { s with a:=t.2 } (1+t.1)
 |k+1,d,s=>let t:=aJ l 2 s.a
  kL l (4-k) biV d (gW l mc biV k) { s with a:=t.2 } (if 4-k=2 then 1 else 1+t.1)
def qX:cY:=⟨[],0,-1,0,oE⟩
def kW(l:List Nat)(a:Nat):Int × Nat:=
 let t:=aJ l 3 a
 let k:=aJ l 3 t.2
 if t.1=0 then((1+k.1:Nat),k.2)else(0,t.2)
def rD(l:List Nat)(biW i a:Nat):cJ × Nat:=
 let k:=aJ l 2 a
 let m:=aJ l 3 k.2
 let h:=aJ l 4 m.2
 let q:=aJ l (m.1+1) h.2
 let r:=oY l q.2 (max m.1 1)
 let g:=aJ l 9 r.2
 let s1:=kW l g.2
 let s2:=kW l s1.2
 let s3:=kW l s2.2
 let s4:=kW l s3.2
 let f:=aJ l biW s4.2
 let b:=aJ l 2 f.2
 let ms:List Int × Nat:=if 1<biW then(if b.1=0 then([(f.1:Int),1-(f.1:Int)],b.2)else([(f.1:Int)],b.2))else([(f.1:Int)],f.2)
 (⟨[112]++cU i,(1+k.1:Nat),(m.1:Nat),(1+k.1+q.1:Nat),0,s1.1,s2.1,s3.1,s4.1,ms.1,r.1,mkT (g.1:Nat) 8,mkT ((1+h.1:Nat):Int) 1⟩,ms.2)
def fM(l:List Nat)(biW a:Nat):Nat->List cJ × Nat
 |0=>([],a)
 |k+1=>let s:=fM l biW a k
  let z:=rD l biW k s.2
  (s.1++[z.1],z.2)
def gD(l:List Nat)(pols a:Nat):Nat->List eI × Nat
 |0=>([],a)
 |k+1=>let s:=gD l pols a k
  let z:=aJ l pols s.2
  (s.1++[⟨[118]++cU k,(z.1:Nat)⟩],z.2)
def kO(l:List Nat)(biV biX a:Nat):aE × Nat:=
 let e:=aJ l 2 a
 let i:=aJ l 2 e.2
 let bjC:=kU l i.2 (1+i.1)
 let d:=aJ l 2 bjC.2
 let biW:=fX l (1+i.1) d.2 (1+d.1)
 let g:=gW l (1+d.1) biV 4 0 ⟨[qX],[],biW.2⟩
 let pl:=aJ l 2 g.a
 let pols:=fM l (1+d.1) pl.2 (1+pl.1)
 let p:=aJ l (biX+1) pols.2
 let vols:=gD l (1+pl.1) p.2 p.1
 (⟨(1+e.1:Nat),bjC.1,biW.1,g.bjE,g.bjO,pols.1,vols.1⟩,vols.2)
def rX(l:List Nat)(a:Nat):Nat->List Int × Nat
 |0=>([],a)
 |k+1=>let s:=rX l a k
  let z:=aJ l 7 s.2
  (s.1++[(z.1:Int)-1],z.2)
def uW(l:List Nat)(f:aE)(a:Nat):List Int × Nat:=
 let t:=aJ l 4 a
 if t.1=0 then([],t.2)else rX l t.2 f.biV.length
abbrev mG(l:List Nat):List (List PV):=l.map λ(n:Nat)=>[PV.int .u8 (n:Int)]
theorem kc(l:List Nat):(mG l).length=Z' l:=by simp
theorem a1I(l:List Nat){i:Nat}(h:i<Z' l):(mG l)[i]?=some [.int .u8 (l[i]:Nat)]:=by simp[h]
abbrev bJ(v:PV)(a:Nat):bA:=.rows 2 [[v,.int .i64 a]]
structure Tp(l:List Nat)(v:PV):Prop where
 seen:Seen 1 v (mG l)
 byte:∀x∈l,x<256
 len:Z' l<=400
def L8(l:List Nat)(r:PV)(H:PH):Prop:=∃o v,r=.ptr o 2 0 0/\Tp (l.take 400) v/\H=h_.set o (bJ v 0)
theorem Yq{t q s:Nat}{rs:List (List PV)}{F:PF}{H H2:PH}{R:PV->PH->Prop}{v:PV}{e:nY}(x:e=.normal\/e=.ret)(A:F t=some v)(y:H q=some (.rows s rs))(p:H2.le (H.frz q s rs))(w:R (PV.frz q s rs v) H2):aX [.tmp t] R e F H:=by
 have d:∃vs,eC.evs F H [.tmp t]=some vs/\∃i l H2,kM (n_.set 0 (bN vs)) H i l/\H2.le l/\∃u,i 0=some u/\R u H2:=by refine⟨[v],by rw[pG,sZ,A,uK],_,_,H2,.step q y (.refl _ _),p,PV.frz q s rs v,?_,w⟩;rw[xM,oZ,aI rfl,blJ];rfl
 rcases x with rfl|rfl<;>exact d
theorem a5P(l:List Nat)(hb:∀x∈l,x<256)(M:Z' l<=9223372036854775807):fx.wp C (aX aYW.res (L8 l)) (g_ [.sl 1 (mG l)]) .nil:=by
 simp only[go_sem,fx,aAK,aAL,aYW,bkG];have fin:∀F:PF,F 0=some (.sl 1 (mG (l.take 400)))->aC.wp C (.seq (.region Ng) .ret) (aX [.tmp 2] (L8 l)) F .nil:=by
  intro F f0;have w:(l.take 400).length<=400:=by rw[bkY];omega
  have u:∀x∈l.take 400,x<256:=λx J=>hb x (boC J);have y:∀o v,Seen 1 v (mG (l.take 400))->L8 l (.ptr o 2 0 0) (h_.set o (bJ v 0)):=λo v H=>⟨o,v,rfl,⟨H,u,w⟩,rfl⟩;generalize K:l.take 400=L at *
  simp only[go_sem,Ng,f0];refine BW (src:=mG L) rfl ?_ (λh=>?_) λh o E=>?_
  ·unfold roomFor;rw[kc];simp only[maxLen];omega
  ·simp only[go_sem,bkX,blD,or_false,forall_eq];refine aP λo E=>?_;simp only[go_sem];exact bG (vs:=[.ptr o 2 0 0]) (.inr rfl) (h_.set o (bJ .aK 0)) rfl b_ (y o .aK (.inl ⟨h,rfl⟩))
  ·simp only[go_sem,bkX,blD,or_false,forall_eq];refine aP λp hp=>?_;have d:¬p=o:=(kP.1 hp).1;have e:¬o=p:=λh=>d h.symm;simp only[go_sem];refine Yq (v:=.ptr p 2 0 0) (q:=o) (s:=1) (rs:=mG L) (H2:=h_.set p (bJ (.sl 1 (mG L)) 0)) (.inr rfl) rfl (by simp only[go_sem,e]) (e_ a_ ?_) (y p _ (.inr rfl));have B:(mG L).take L.length=mG L:=bkZ (by rw[kc];exact bkN _);simp only[go_sem,d,bA.frz,PV.eF,bkG,B];rfl
 simp only[aC.wp,go_sem]at fin;by_cases c:Z' l>400
 ·have i:(Z' l:Int)>400:=Om;have A:(400:Int)<=(Z' l:Int):=Om;simp only[go_sem,i,aAM,bkG,A];refine fin _ ?_;rw[oZ,aI rfl];simp[mG]
 ·have i:¬(Z' l:Int)>400:=Om;simp only[go_sem,i];refine fin _ ?_;rw[bkZ Om];simp only[go_sem]
def Ar(l:List Nat)(v:PV)(o n a:Nat)(r:PV)(H:PH):Prop:=r=.int .i64 ((aJ l n a).1:Nat)/\H=h_.set o (bJ v (aJ l n a).2)
theorem aYX{l:List Nat}{v:PV}(T:Tp l v)(o n a:Nat)(Q:n<=1000000)(N:a<=Z' l):HC.wp C (aX Ze.res (Ar l v o n a)) (g_ [.ptr o 2 0 0,.int .i64 n]) (h_.set o (bJ v a)):=by
 obtain⟨K,hb,O⟩:=T;have zero:(Z' l<=a\/n<2)->∀F,aC.wp C (.seq (.region x4) .ret) (aX [.tmp 4] (Ar l v o n a)) F (h_.set o (bJ v a)):=by
  intro h F;have e:aJ l n a=(0,a):=by unfold aJ;rw[aI h]
  simp only[go_sem,x4];exact bG (vs:=[.int .i64 0]) (.inr rfl) _ rfl b_ ⟨by rw[e];rfl,by rw[e]⟩
 simp only[aC.wp,go_sem]at zero;rcases K with⟨H,rfl⟩|rfl
 ·have M:Z' l=0:=by rw[<-kc,H];rfl
  have u:(a:Int)>=0:=Om;simp only[go_sem,HC,x3,Ze];refine bP .nil eJ a_ ?_;simp only[go_sem,WH,u];exact zero (.inl Om) _
 simp only[go_sem,HC,x3,Ze];refine bP .nil eJ a_ ?_;by_cases x:Z' l<=a
 ·have d:(a:Int)>=(Z' l:Nat):=Om;simp only[go_sem,WH,bkG,d];exact zero (.inl x) _
 have d:¬(a:Int)>=(Z' l:Nat):=Om;simp only[go_sem,WH,bkG,d];by_cases y:n<2
 ·have i:(n:Int)<2:=Om;simp only[go_sem,i];exact zero (.inr y) _
 have i:¬(n:Int)<2:=Om;have p:a<Z' l:=Om;have e:aJ l n a=(l[a]%n,a+1):=by unfold aJ;rw[aD Om];simp[blB,p]
 have E:i_.wrap ((a:Int)+1)=((a+1:Nat):Int):=eM Om;have B:i_.wrap (((a+1:Nat):Int)-1)=((a:Nat):Int):=by rw[wrap_i64 Om Om];omega
 have J:=a1I l p;have R:=hb _ (bkK p);have A:i_.wrap ((l[a]:Nat):Int)=((l[a]:Nat):Int):=zz Om;have w:¬((n:Nat):Int)=0:=Om;have em:Int.tmod ((l[a]:Nat):Int) ((n:Nat):Int)=((l[a]%n:Nat):Int):=rfl;simp only[go_sem,i,ajE,E];refine bP .nil eJ a_ ?_;simp only[go_sem,ajF,B,J,A,w,em];exact bG (vs:=[.int .i64 (l[a]%n:Nat)]) (.inr rfl) _ rfl b_ ⟨by rw[e];rfl,by rw[e]⟩
def PV.oid:PV->Option Nat
 | .osl q _ _ _=>some q
 |_=>none
abbrev LI:=PV × Nat × List (List PV)
abbrev BX:=Nat × bA
def gQ(B:List BX):List Nat:=B.map (·.1)
def fV(L:List LI):List Nat:=L.filterMap λx=>x.1.oid
structure aR(H:PH)(B:List BX)(L:List LI):Prop where
 box:∀b∈B,H b.1=some b.2
 lst:∀x∈L,cG H x.2.1 x.1 x.2.2
 nd:(gQ B++fV L).Nodup
section
variable {C:Ctx} {H:PH} {B:List BX} {L:List LI} {K:PV->PH->Prop}
theorem cG.id{s q:Nat}{v:PV}{rows:List (List PV)}(h:cG H s v rows)(d:v.oid=some q):∃rs,H q=some (.rows s rs)/\v=.osl q s 0 rows.length/\Z' rows<=Z' rs/\rs.take rows.length=rows:=by
 rcases h with⟨_,rfl⟩|⟨p,rs,rfl,h1,h2,h3⟩
 ·cases d
 ·cases d;exact⟨rs,h1,rfl,h2,h3⟩
theorem cG.same{s:Nat}{v:PV}{rows:List (List PV)}{H':PH}(h:cG H s v rows)(d:∀q,v.oid=some q->H' q=H q):cG H' s v rows:=by
 rcases h with h|⟨p,rs,rfl,h1,h2,h3⟩
 ·exact .inl h
 ·exact .inr ⟨p,rs,rfl,by rw[d p rfl];exact h1,h2,h3⟩
theorem qL{x:LI}{q:Nat}(h:x∈L)(d:x.1.oid=some q):q∈fV L:=List.mem_filterMap.2 ⟨x,h,d⟩
theorem CS{b:BX}(h:b∈B):b.1∈gQ B:=blF.2 ⟨b,h,rfl⟩
theorem aR.nil:aR H [] []:=⟨by simp,by simp,by simp[gQ,fV]⟩
theorem aR.at(h:aR H B L)(i:Nat){o:Nat}{x:bA}(hi:B[i]?=some (o,x)):H o=some x:=h.box _ (bmK hi)
theorem aR.own(h:aR H B L)(i:Nat){s:Nat}{v:PV}{rows:List (List PV)}(hi:L[i]?=some (v,s,rows)):cG H s v rows:=h.lst _ (bmK hi)
theorem aR.ndB(h:aR H B L):(gQ B).Nodup:=(bnI.1 h.nd).1
theorem aR.ndL(h:aR H B L):(fV L).Nodup:=(bnI.1 h.nd).2.1
theorem aR.ndX(h:aR H B L){o q:Nat}(d:o∈gQ B)(e:q∈fV L):o≠q:=(bnI.1 h.nd).2.2 o d q e
theorem aR.ne(h:aR H B L)(i j:Nat){o p:Nat}{x y:bA}(hi:B[i]?=some (o,x))(F:B[j]?=some (p,y))(d:i≠j):o≠p:=by
 intro e;have A:(gQ B)[i]?=some o:=by unfold gQ;rw[blC,hi];rfl
 have E:(gQ B)[j]?=some p:=by unfold gQ;rw[blC,F];rfl
 obtain⟨u,l⟩:=blQ.1 A;obtain⟨w,e2⟩:=blQ.1 E;have hp:=List.pairwise_iff_getElem.1 h.ndB;rcases Nat.lt_or_gt_of_ne d with g|g
 ·exact hp i j u w g (by rw[l,e2,e])
 ·exact hp j i w u g (by rw[l,e2,e])
theorem aR.neL(h:aR H B L)(i j:Nat){o q:Nat}{x:bA}{y:LI}(hi:B[i]?=some (o,x))(d:L[j]?=some y)(e:y.1.oid=some q):o≠q:=
 h.ndX (CS (bmK hi)) (qL (bmK d) e)
theorem aR.fresh(h:aR H B L){o:Nat}(d:H o=none):o ∉ gQ B/\o ∉ fV L:=by
 refine⟨λi=>?_,λi=>?_⟩
 ·obtain⟨b,hb,rfl⟩:=blF.1 i;rw[h.box b hb]at d;cases d
 ·obtain⟨x,p,e⟩:=List.mem_filterMap.1 i;obtain⟨rs,l,_⟩:=(h.lst x p).id e;rw[l]at d;cases d
theorem aR.keep(h:aR H B L){H':PH}(d:∀q,q∈gQ B\/q∈fV L->H' q=H q):aR H' B L:=
 ⟨λb hb=>by rw[d _ (.inl (CS hb))];exact h.box b hb,λx e=>(h.lst x e).same λq i=>d q (.inr (qL e i)),h.nd⟩
theorem aXZ{i:Nat}{o:Nat}{x y:bA}(hi:B[i]?=some (o,x)):gQ (B.set i (o,y))=gQ B:=by
 unfold gQ;rw[List.map_set];refine List.ext_getElem? λj=>?_;rw[boM];split
 ·rename_i e;subst e;rw[blC,hi];have:=(blQ.1 hi).1;simp[this]
 ·rfl
theorem aR.set(h:aR H B L)(i:Nat){o:Nat}{x:bA}(hi:B[i]?=some (o,x))(y:bA):aR (H.set o y) (B.set i (o,y)) L:=by
 have p:o∈gQ B:=CS (bmK hi);refine⟨λb hb=>?_,λz u=>(h.lst z u).same λq w=>?_,by rw[aXZ hi];exact h.nd⟩
 ·obtain⟨j,d⟩:=List.mem_iff_getElem?.1 hb;rw[boM]at d;split at d
  ·split at d
   ·cases d;simp only[bD,if_true]
   ·cases d
  ·rename_i l;have:b.1≠o:=λe=>h.ne i j hi (show B[j]?=some (b.1,b.2)from d) l e.symm;rw[bD,aD this];exact h.box b (bmK d)
 ·have:q≠o:=λe=>h.ndX p (qL u w) e.symm;rw[bD,aD this]
theorem aR.new(h:aR H B L){o:Nat}(i:H o=none)(y:bA):aR (H.set o y) (B++[(o,y)]) L:=by
 obtain⟨f1,f2⟩:=h.fresh i;refine⟨λb hb=>?_,λz d=>(h.lst z d).same λq hq=>?_,?_⟩
 ·rw[blV,bmF]at hb;rcases hb with hb|rfl
  ·have:b.1≠o:=λe=>f1 (e ▸ CS hb);rw[bD,aD this];exact h.box b hb
  ·simp only[bD,if_true]
 ·have:q≠o:=λe=>f2 (e ▸ qL d hq);rw[bD,aD this]
 ·have:=h.nd;simp only[gQ,blK,blM,bmE]at *
  rw[blW,bnI]at *
  obtain⟨a,b,c⟩:=this;refine⟨a,?_,λp hp q hq=>?_⟩
  ·rw[List.singleton_append,List.nodup_cons];exact⟨f2,b⟩
  ·rw[List.singleton_append,bkX]at hq;rcases hq with rfl|hq
   ·intro e;subst e;exact f1 hp
   ·exact c p hp q hq
theorem pT(L1 L2:List LI):fV (L1++L2)=fV L1++fV L2:=List.filterMap_append ..
theorem aR.rA(h:aR H B L)(s:Nat):aR H B (L++[(.aK,s,[])]):=by
 refine⟨h.box,λz d=>?_,?_⟩
 ·rw[blV,bmF]at d;rcases d with d|rfl
  ·exact h.lst z d
  ·exact .nil
 ·rw[pT,show fV [((.aK:PV),s,([]:List (List PV)))]=[]from rfl,bmJ];exact h.nd
theorem aR.aLQ(h:aR H B L){o s:Nat}{rows:List (List PV)}(l:H o=none):aR (H.set o (.rows s rows)) B (L++[(.osl o s 0 rows.length,s,rows)]):=by
 obtain⟨f1,f2⟩:=h.fresh l;have i:=h.keep (H':=H.set o (.rows s rows)) λq d=>by
  have:q≠o:=by rintro rfl;exact d.elim f1 f2
  rw[bD,aD this]
 refine⟨i.box,λz e=>?_,?_⟩
 ·rw[blV,bmF]at e;rcases e with e|rfl
  ·exact i.lst z e
  ·exact .inr ⟨o,rows,rfl,by simp only[bD,if_true],bkN _,blE⟩
 ·rw[pT,show fV [((.osl o s 0 rows.length:PV),s,rows)]=[o]from rfl,<-blW,bnI];refine⟨h.nd,by simp,λp hp q d=>?_⟩;rw[bmF]at d;subst d;rintro rfl;rcases blV.1 hp with hp|hp
  ·exact f1 hp
  ·exact f2 hp
theorem agZ{i:Nat}{v v':PV}{s s':Nat}{rows rows':List (List PV)}(hi:L[i]?=some (v,s,rows)):∃L1 L2,L=L1++(v,s,rows)::L2/\L.set i (v',s',rows')=L1++(v',s',rows')::L2:=by
 obtain⟨d,e⟩:=blQ.1 hi;refine⟨L.take i,L.drop (i+1),?_,?_⟩
 ·rw[<-e,<-bmP d,bnP]
 ·rw[List.set_eq_take_append_cons_drop,aI d]
theorem aR.YO(h:aR H B L)(i:Nat){s:Nat}{v:PV}{rows:List (List PV)}(hi:L[i]?=some (v,s,rows)){s':Nat}{v':PV}{rows':List (List PV)}{H':PH}(M:cG H' s' v' rows')
  (E:∀q,v'.oid=some q->v.oid=some q\/H q=none) (J:∀q,q∈gQ B\/q∈fV L->(∀p,v.oid=some p->q≠p)->H' q=H q):aR H' B (L.set i (v',s',rows')):=by
 obtain⟨L1,L2,F,e2⟩:=agZ (v':=v') (s':=s') (rows':=rows') hi;rw[e2];subst F;have d:=h.nd;have y:fV (L1++(v,s,rows)::L2)=fV L1++(v.oid.toList++fV L2):=by rw[pT];congr 1;unfold fV;rw[List.filterMap_cons];cases e:v.oid<;>simp
 have A:fV (L1++(v',s',rows')::L2)=fV L1++(v'.oid.toList++fV L2):=by rw[pT];congr 1;unfold fV;rw[List.filterMap_cons];cases e:v'.oid<;>simp
 rw[y]at d;have w:∀q,q∈gQ B\/q∈fV L1\/q∈fV L2->∀p,v.oid=some p->q≠p:=by
  intro q hq p hp e;subst e;rw[hp]at d;simp only[Option.toList_some]at d;rw[bnI]at d;obtain⟨a,b,c⟩:=d;rw[bnI]at b;obtain⟨b1,b2,x⟩:=b;rw[List.singleton_append,List.nodup_cons]at b2;rcases hq with hq|hq|hq
  ·exact c q hq q bH rfl
  ·exact x q hq q bH rfl
  ·exact b2.1 hq
 have l:∀q,q∈gQ B\/q∈fV L1\/q∈fV L2->H' q=H q:=by
  intro q hq;refine J q ?_ (w q hq);rw[y];simp only[blV];rcases hq with hq|hq|hq
  ·exact .inl hq
  ·exact .inr (.inl hq)
  ·exact .inr (.inr (.inr hq))
 refine⟨λb hb=>by rw[l _ (.inl (CS hb))];exact h.box b hb,λz hz=>?_,?_⟩
 ·rw[blV,bkX]at hz;rcases hz with hz|rfl|hz
  ·exact(h.lst z (by simp[hz])).same λq hq=>l q (.inr (.inl (qL hz hq)))
  ·exact M
  ·exact(h.lst z (by simp[hz])).same λq hq=>l q (.inr (.inr (qL hz hq)))
 ·rw[A];cases e:v'.oid with
  |none =>simp only[Option.toList_none,boD];refine List.Nodup.sublist ?_ d;exact bmW.append (bmW.refl _) (bmW.append (bmW.refl _) (List.sublist_append_right _ _))
  |some q=>
   rcases E q e with N|hn
   ·rw[N]at d;exact d
   ·obtain⟨f1,f2⟩:=h.fresh hn;rw[y]at f2;simp only[blV,not_or]at f2;have u:(gQ B++(fV L1++fV L2)).Nodup:=List.Nodup.sublist (bmW.append (bmW.refl _) (bmW.append (bmW.refl _) (List.sublist_append_right _ _))) d;simp only[Option.toList_some];rw[bnI]at u ⊢;obtain⟨a,b,c⟩:=u;rw[bnI]at b;obtain⟨b1,b2,x⟩:=b;refine⟨a,?_,?_⟩
    ·rw[bnI];refine⟨b1,by rw[List.singleton_append,List.nodup_cons];exact⟨f2.2.2,b2⟩,λp hp r hr=>?_⟩;rw[List.singleton_append,bkX]at hr;rcases hr with rfl|hr
     ·rintro rfl;exact f2.1 hp
     ·exact x p hp r hr
    ·intro p hp r hr;rw[blV,List.singleton_append,bkX]at hr;rcases hr with hr|rfl|hr
     ·exact c p hp r (by simp[hr])
     ·rintro rfl;exact f1 hp
     ·exact c p hp r (by simp[hr])
theorem aR.append(h:aR H B L)(i:Nat){s b:Nat}{v y:PV}{rows src:List (List PV)}(hi:L[i]?=some (v,s,rows))(E:eD H s y=some src)(A:roomFor rows.length src.length b)
  (w:∀v' H',aR H' B (L.set i (v',s,rows++src))->(src≠[]->∃q,v'=.osl q s 0 (rows++src).length)->K v' H'):sF H s b v y K:=by
 rcases h.own i hi with⟨rfl,rfl⟩|⟨q,rs,rfl,h1,h2,h3⟩
 ·refine⟨src,E,A,λe=>?_,λe o l=>?_⟩
  ·subst e;refine w _ _ ?_ λh=>absurd rfl h;exact h.YO i hi (.inl ⟨rfl,rfl⟩) (λq u=>by cases u) λq _ _=>rfl
  ·refine w _ _ (h.YO i hi (.inr ⟨o,src,rfl,by simp only[bD,if_true],bkN _,blE⟩) (λq u=>by cases u;exact .inr l) λq u _=>?_) λ_=>⟨o,rfl⟩;obtain⟨f1,f2⟩:=h.fresh l;have:q≠o:=by rintro rfl;exact u.elim f1 f2
   rw[bD,aD this]
 ·have d:(rows++src).length=Z' rows+Z' src:=bkQ;refine⟨src,E,rfl,rfl,A,rs,h1,h2,?_,λo l=>?_⟩
  ·rw[h3];refine w _ _ (h.YO i hi (.inr ⟨q,rows++src,by rw[d],by simp only[bD,if_true],bkN _,blE⟩) (λp hp=>by cases hp;exact .inl rfl) λp _ hp=>?_) λ_=>⟨q,by rw[d]⟩;rw[bD,aD (hp q rfl)]
  ·rw[h3];refine w _ _ (h.YO i hi (.inr ⟨o,rows++src,by rw[d],by simp only[bD,if_true],bkN _,blE⟩) (λp hp=>by cases hp;exact .inr l) λp x hp=>?_) λ_=>⟨o,by rw[d]⟩;obtain⟨f1,f2⟩:=h.fresh l;have F:p≠o:=by rintro rfl;exact x.elim f1 f2
   rw[bD,aD F]
theorem aR.sub(h:aR H B L){B':List BX}{L':List LI}(hB:B'.Sublist B)(d:L'.Sublist L):aR H B' L':=
 ⟨λb hb=>h.box b (hB.subset hb),λx e=>h.lst x (d.subset e),List.Nodup.sublist (bmW.append (hB.map _) (d.filterMap _)) h.nd⟩
theorem aR.qR(h:aR H B L)(i:Nat):aR H (B.eraseIdx i) L:=h.sub (List.eraseIdx_sublist ..) (bmW.refl _)
theorem aR.aJB(h:aR H B L)(i:Nat):aR H B (L.eraseIdx i):=h.sub (bmW.refl _) (List.eraseIdx_sublist ..)
end
section
variable {C:Ctx} {F:PF} {H:PH} {B:List BX} {L:List LI}
theorem aR.nj(h:aR H B L){q:Nat}(hq:q∈gQ B\/q∈fV L):∃x,H q=some x:=by
 rcases hq with hq|hq
 ·obtain⟨b,hb,rfl⟩:=blF.1 hq;exact⟨_,h.box b hb⟩
 ·obtain⟨x,i,e⟩:=List.mem_filterMap.1 hq;obtain⟨rs,d,_⟩:=(h.lst x i).id e;exact⟨_,d⟩
theorem aR.perm(h:aR H B L){B':List BX}{L':List LI}(hB:B.Perm B')(d:L.Perm L'):aR H B' L':=
 ⟨λb hb=>h.box b (hB.mem_iff.2 hb),λx e=>h.lst x (d.mem_iff.2 e),(List.Perm.nodup_iff ((hB.map _).append (d.filterMap _))).1 h.nd⟩
theorem aR.only(h:aR H B L){B1:List BX}{L1:List LI}(hB:B1.Sublist B)(d:L1.Sublist L):aR (H.only (gQ B1++fV L1)) B1 L1:=by
 refine(h.sub hB d).keep λq e=>?_;rw[zH];rw[aI (blV.2 e)]
theorem a9L{a b c d:List Nat}(i:(a++c).Nodup)(l:(b++d).Nodup)(u:∀q,q∈a\/q∈c->q∈b\/q∈d->False):((a++b)++(c++d)).Nodup:=by
 have e:List.Perm ((a++b)++(c++d)) ((a++c)++(b++d)):=by rw[blW,blW];exact List.Perm.append_left a (by rw[<-blW,<-blW];exact List.Perm.append_right d List.perm_append_comm)
 rw[e.nodup_iff,bnI];refine⟨i,l,λp hp q w=>?_⟩;rintro rfl;exact u p (blV.1 hp) (blV.1 w)
theorem aR.frame{H':PH}{B1 B2 B':List BX}{L1 L2 L':List LI}(h:aR H (B1++B2) (L1++L2))(u:aR H' B' L')(J:qQ H (H.only (gQ B1++fV L1)) H'):aR (H.over (H.only (gQ B1++fV L1)) H') (B'++B2) (L'++L2):=by
 have A:aR H B2 L2:=h.sub (List.sublist_append_right ..) (List.sublist_append_right ..);have l:∀q,q∈gQ B2\/q∈fV L2->¬(q∈gQ B1++fV L1):=by
  intro q d K;have i:=h.nd;rw[show gQ (B1++B2)=gQ B1++gQ B2 from blK,pT]at i;have e:List.Perm ((gQ B1++gQ B2)++(fV L1++fV L2)) ((gQ B1++fV L1)++(gQ B2++fV L2)):=by rw[blW,blW];exact List.Perm.append_left _ (by rw[<-blW,<-blW];exact List.Perm.append_right _ List.perm_append_comm)
  rw[e.nodup_iff,bnI]at i;exact i.2.2 q K q (blV.2 d) rfl
 have new:∀q,q∈gQ B'\/q∈fV L'->(H.over (H.only (gQ B1++fV L1)) H') q=H' q:=by intro q d;obtain⟨x,hx⟩:=u.nj d;rw[lM,hx]
 have E:∀q,q∈gQ B2\/q∈fV L2->(H.over (H.only (gQ B1++fV L1)) H') q=H q:=by
  intro q d;obtain⟨x,hx⟩:=A.nj d;have w:(H.only (gQ B1++fV L1)) q=none:=by rw[zH,aD (l q d)]
  rw[lM];cases e:H' q with
  |none=>simp only[w]
  |some y =>have:=J q y e w;rw[hx]at this;cases this
 have k1:=u.keep new;have k2:=A.keep E;refine⟨λb hb=>?_,λx hx=>?_,?_⟩
 ·rcases blV.1 hb with hb|hb
  ·exact k1.box b hb
  ·exact k2.box b hb
 ·rcases blV.1 hx with hx|hx
  ·exact k1.lst x hx
  ·exact k2.lst x hx
 ·rw[show gQ (B'++B2)=gQ B'++gQ B2 from blK,pT];refine a9L u.nd A.nd λq d p=>?_;obtain⟨x,hx⟩:=u.nj d;obtain⟨y,M⟩:=A.nj p;have w:(H.only (gQ B1++fV L1)) q=none:=by rw[zH,aD (l q p)]
  have:=J q x hx w;rw[M]at this;cases this
theorem RA{name:Nat}{vs:List PV}{args:List aS}{d:Option Nat}{K:PF->PH->Prop}{B1 B2:List BX}{L1 L2:List LI}{Q:PV->List BX->List LI->Prop}(h:aR H (B1++B2) (L1++L2))
  (u:∀i,aR i B1 L1->aH C name vs i (λr H'=>∃B' L',Q r B' L'/\aR H' B' L')) (p:aS.evs F args=some vs)
  (w:∀r B' L' H',Q r B' L'->aR H' (B'++B2) (L'++L2)->K (F.put d r) H'):lC C name args [] d K F H:=by
 refine nE (u (H.only (gQ B1++fV L1)) (h.only (List.sublist_append_left ..) (List.sublist_append_left ..))) p (my H _) ?_;rintro r H' ⟨B',L',x,l⟩ e;exact w r B' L' _ x (h.frame l e)
theorem aR.JH{B:List BX}{o:Nat}{x:bA}(h:aR H (B++[(o,x)]) L):H o=some x:=h.box (o,x) bH
theorem aR.SO{B:List BX}{o:Nat}{x:bA}(h:aR H (B++[(o,x)]) L)(y:bA):aR (H.set o y) (B++[(o,y)]) L:=by
 have:=h.set B.length (o:=o) (x:=x) bH y
 rwa[bnJ _ _ (bkN _),bnF]at this
theorem aR.dropLast{B:List BX}{b:BX}(h:aR H (B++[b]) L):aR H B L:=h.sub (List.sublist_append_left ..) (bmW.refl _)
theorem aR.a7C{B:List BX}{o:Nat}{x:bA}(h:aR H ((o,x)::B) L)(y:bA):aR (H.set o y) ((o,y)::B) L:=h.set 0 rfl y
theorem aR.a8V{B:List BX}{o:Nat}{x:bA}(h:aR H ((o,x)::B) L):H o=some x:=h.at 0 rfl
theorem qA{name o:Nat}{x y:bA}{r:PV}{vs:List PV}{args:List aS}{d:Option Nat}{K:PF->PH->Prop}(h:aH C name vs (h_.set o x) (λr' H'=>r'=r/\H'=h_.set o y))(l:H o=some x)(e:aS.evs F args=some vs)
  (i:K (F.put d r) (H.set o y)):lC C name args [] d K F H:=by
 refine nE h e (e_ a_ l) ?_;rintro r' H' ⟨rfl,rfl⟩ -;rw[PH.BA];exact i
theorem TZ{Hs:PH}{S:Spec}{name o:Nat}{x y:bA}{r:PV}{vs:List PV}{R:PH->PV->PH->Prop}{args:List aS}{st:Bool}{d:Option Nat}{K:PF->PH->Prop}(N:S name vs=some ([o],R))(J:H o=some x)
  (h:aH C name vs (h_.set o x) (λr' H'=>r'=r/\H'=h_.set o y)) (i:R (h_.set o x) r (h_.set o y)) (u:∀r' H',R (h_.set o x) r' H'->r'=r/\H'=h_.set o y) (O:aS.evs F args=some vs)
  (w:Hs.le (H.set o y)) (Q:K (F.put d r) (H.set o y)):dOp C Hs S st (.call name args) d K F H:=by
 have e:=yr J;refine⟨vs,[o],_,O,N,λq M=>?_,?_,λG=>⟨r,_,by rw[e];exact i,λq z E p=>?_⟩,λr' H' l _=>?_⟩
 ·simp at M;subst M;exact⟨x,J⟩
 ·rw[e];exact h.post λr' H' l=>⟨r',.refl _,by rw[l.1,l.2];exact i⟩
 ·rw[e]at p;rw[bD]at E p;split at p
  ·cases p
  ·rename_i A;rw[aD A]at E;cases E
 ·rw[e]at l;obtain⟨rfl,rfl⟩:=u r' H' l;rw[e,PH.BA];exact⟨w,Q⟩
theorem a0R{s:Nat}{q z:Nat}{rs:List (List PV)}{v:PV}{rows:List (List PV)}(h:cG H s v rows)(i:v.oid≠some q):cG (H.frz q z rs) s v (rows.map λr=>r.map (PV.eF q z rs)):=by
 rcases h with⟨rfl,rfl⟩|⟨p,rs',rfl,h1,h2,h3⟩
 ·exact .inl ⟨rfl,rfl⟩
 ·have d:¬p=q:=λe=>i (by rw[e];rfl);refine .inr ⟨p,rs'.map λr=>r.map (PV.eF q z rs),by rw[bkG],?_,by simpa using h2,?_⟩
  ·rw[IM,aD d,h1];rfl
  ·rw[bkG,<-bnO,h3]
theorem aR.frz(h:aR H B L)(i:Nat){q s k:Nat}{rows:List (List PV)}(hi:L[i]?=some (.osl q s 0 k,s,rows)):∃rs,H q=some (.rows s rs)/\PV.eF q s rs (.osl q s 0 k)=.sl s rows/\PV.frz q s rs (.osl q s 0 k)=.sl s rows/\(∀j x,j≠i->L[j]?=some x->PV.eF q s rs x.1=x.1) /\
  aR (H.frz q s rs) (B.map λb=>(b.1,b.2.frz q s rs)) ((L.eraseIdx i).map λx=>(x.1,x.2.1,x.2.2.map λr=>r.map (PV.eF q s rs))):=by
 obtain⟨rs,U,V,W,X⟩:=(h.own i hi).id rfl;injection V with _ _ _ hk
 subst hk;have e:PV.frz q s rs (.osl q s 0 rows.length)=.sl s rows:=by rw[CK W,X]
 refine⟨rs,U,e,e,?_⟩;refine⟨λj x K R=>?_,?_⟩
 ·have l:x.1.oid≠some q:=by
   intro l;obtain⟨M,J⟩:=blQ.1 hi;obtain⟨α,Y⟩:=blQ.1 R;have u:x∈L.eraseIdx i:=List.mem_eraseIdx_iff_getElem?.2 ⟨j,K,R⟩;have d:=h.ndL;have O:L=L.take i++(L[i]::L.drop (i+1)):=by rw[<-bmP M,bnP]
   rw[List.eraseIdx_eq_take_drop_succ]at u;rw[O,pT]at d;have E:fV (L[i]::L.drop (i+1))=q::fV (L.drop (i+1)):=by rw[J];rfl
   rw[E,bnI]at d;obtain⟨a,b,c⟩:=d;rcases blV.1 u with hx|hx
   ·exact c q (qL hx l) q bH rfl
   ·exact(List.nodup_cons.1 b).1 (qL hx l)
  cases hx:x.1<;>try rfl
  rename_i p z β len;have:¬p=q:=λe=>l (by rw[hx,e];rfl);simp only[PV.eF,aD this]
 obtain⟨L1,L2,e1,e2⟩:=agZ (v':=.aK) (s':=s) (rows':=rows) hi;have Z:i=Z' L1\/True:=.inr trivial;have w:(L.eraseIdx i).Sublist L:=List.eraseIdx_sublist ..;have N:∀x∈L.eraseIdx i,x.1.oid≠some q:=by
  intro x hx l;obtain⟨M,J⟩:=blQ.1 hi;have d:=h.ndL;have O:L=L.take i++(L[i]::L.drop (i+1)):=by rw[<-bmP M,bnP]
  rw[List.eraseIdx_eq_take_drop_succ]at hx;rw[O,pT]at d;have E:fV (L[i]::L.drop (i+1))=q::fV (L.drop (i+1)):=by rw[J];rfl
  rw[E,bnI]at d;obtain⟨a,b,c⟩:=d;rcases blV.1 hx with hx|hx
  ·exact c q (qL hx l) q bH rfl
  ·exact(List.nodup_cons.1 b).1 (qL hx l)
 refine⟨λb hb=>?_,λx hx=>?_,?_⟩
 ·obtain⟨Q,y,rfl⟩:=blF.1 hb;have:¬Q.1=q:=h.ndX (CS y) (qL (bmK hi) rfl);simp only;rw[IM,aD this,h.box Q y];rfl
 ·obtain⟨S,A,rfl⟩:=blF.1 hx;exact a0R (h.lst S (w.subset A)) (N S A)
 ·have i1:gQ (B.map λb=>(b.1,b.2.frz q s rs))=gQ B:=by unfold gQ;rw[bnN];rfl
  have i2:fV ((L.eraseIdx i).map λx=>(x.1,x.2.1,x.2.2.map λr=>r.map (PV.eF q s rs)))=fV (L.eraseIdx i):=by unfold fV;rw[List.filterMap_map];rfl
  rw[i1,i2];exact List.Nodup.sublist (bmW.append (bmW.refl _) (w.filterMap _)) h.nd
def Flat(rows:List (List PV)):Prop:=∀q s rs,rows.map (λr=>r.map (PV.eF q s rs))=rows
theorem Flat.nil:Flat []:=λ_ _ _=>rfl
theorem Flat.of{rows:List (List PV)}(h:∀r∈rows,∀c∈r,∀q s rs,PV.eF q s rs c=c):Flat rows:=λq s rs=>by
 conv=>rhs;rw[<-List.map_id rows]
 refine bnH λr e=>?_
 conv=>rhs;rw[id,<-List.map_id r]
 exact bnH λc d=>h r e c d q s rs
theorem Flat.map{α:Type}{f:α->List PV}(l:List α)(h:∀x,∀c∈f x,∀q s rs,PV.eF q s rs c=c):Flat (l.map f):=Flat.of λr d=>by
 obtain⟨x,_,rfl⟩:=blF.1 d;exact h x
theorem Flat.append{r1 r2:List (List PV)}(d:Flat r1)(e:Flat r2):Flat (r1++r2):=λq s rs=>by rw[blK,d,e]
theorem aR.flat{φ:PV->List (List PV)}(h:aR H B L):aR H B L:=h
def LW(v:PV)(H:PH)(R:PV->PH->Prop):Prop:=∃d e H2,kM (n_.set 0 v) H d e/\H2.le e/\∃u,d 0=some u/\R u H2
theorem LW.done{v:PV}{H2:PH}{R:PV->PH->Prop}(e:R v H2)(d:H2.le H):LW v H R:=⟨_,_,H2,.refl _ _,d,v,by rw[oZ,aI rfl],e⟩
theorem LW.step{v:PV}{q s:Nat}{rs:List (List PV)}{R:PV->PH->Prop}(x:H q=some (.rows s rs))(h:LW (PV.frz q s rs v) (H.frz q s rs) R):LW v H R:=by
 obtain⟨d,l,H2,p,u,w⟩:=h;have e:(n_.set 0 v).frz q s rs=n_.set 0 (PV.frz q s rs v):=by funext i;rw[xM,oZ,oZ];split<;>rfl
 exact⟨d,l,H2,.step q x (by rw[e];exact p),u,w⟩
theorem zN{res:List eC}{R:PV->PH->Prop}{vs:List PV}{e:nY}(p:e=.normal\/e=.ret)(h:eC.evs F H res=some vs)(w:LW (bN vs) H R):aX res R e F H:=by
 have d:∃vs,eC.evs F H res=some vs/\∃i l H2,kM (n_.set 0 (bN vs)) H i l/\H2.le l/\∃u,i 0=some u/\R u H2:=⟨vs,h,w⟩;rcases p with rfl|rfl<;>exact d
theorem D6{u:PV}(h:u.oid=none)(q s:Nat)(rs:List (List PV)):PV.eF q s rs u=u:=by
 cases u<;>first|rfl|(simp[PV.oid]at h)
theorem Seen.co{s:Nat}{v:PV}{rows:List (List PV)}(h:Seen s v rows):Co v (.sl s rows):=by
 rcases h with⟨rfl,rfl⟩|rfl
 ·exact .nil s
 ·exact .refl _
theorem aR.giveUp:∀(L:List LI){H:PH}{B:List BX},aR H B L->(∀x∈L,Flat x.2.2)->(∀b∈B,∀q s rs,bA.frz q s rs b.2=b.2) ->
  ∃(φ:PV->PV)(i:PH),(∀x∈L,Seen x.2.1 (φ x.1) x.2.2)/\(∀u,u.oid=none->φ u=u)/\aR i B []/\∀cs R,LW (.agg (cs.map φ)) i R->LW (.agg cs) H R
 |[],H,B,h,_,_=>⟨id,H,by simp,λ_ _=>rfl,h,λcs R y=>by rwa[List.map_id]at y⟩
 |(w,s,rows)::L,H,B,h,p,hB=>by
  have d:∀q z rs,(L.map λx=>(x.1,x.2.1,x.2.2.map λr=>r.map (PV.eF q z rs)))=L:=λq z rs=>by
   conv=>rhs;rw[<-List.map_id L]
   refine bnH λx hx=>?_;rw[p x (by simp[hx]) q z rs];rfl
  rcases h.own 0 rfl with⟨l,N⟩|⟨q,rs,l,_⟩
  ·obtain⟨φ,i,k1,k2,A,E⟩:=aR.giveUp L (h.aJB 0) (λx hx=>p x (by simp[hx])) hB;refine⟨φ,i,λx hx=>?_,k2,A,E⟩;rw[bkX]at hx;rcases hx with rfl|hx
   ·exact .inl ⟨l,by simp only;rw[N];exact k2 _ rfl⟩
   ·exact k1 x hx
  ·subst l;obtain⟨rs,Q,S,W,U,K⟩:=h.frz 0 rfl;have V:aR (H.frz q s rs) B L:=by
    have M:(B.map λb=>(b.1,b.2.frz q s rs))=B:=by
     conv=>rhs;rw[<-List.map_id B]
     refine bnH λb hb=>?_;rw[hB b hb q s rs];rfl
    rw[M]at K;have:=K;simp only[List.eraseIdx_cons_zero]at this
    rwa[d q s rs]at this
   obtain⟨φ,i,k1,k2,A,E⟩:=aR.giveUp L V (λx hx=>p x (by simp[hx])) hB;refine⟨λu=>φ (PV.eF q s rs u),i,λx hx=>?_,λu J=>?_,A,λcs R y=>?_⟩
   ·rw[bkX]at hx;rcases hx with rfl|hx
    ·simp only;rw[S];exact .inr (k2 _ rfl)
    ·obtain⟨j,O⟩:=List.mem_iff_getElem?.1 hx;have:=U (j+1) x Om (by simpa using O);simp only;rw[this];exact k1 x hx
   ·simp only;rw[D6 J,k2 u J]
   ·refine .step Q ?_;have e:PV.frz q s rs (.agg cs)=.agg (cs.map (PV.eF q s rs)):=rfl;rw[e];refine E _ R ?_;rw[bnN];exact y
theorem Sl{K:cH}{α:Type}{d:α->PF}{Hs:α->PH}{e:α->Prop}{m:α->Nat}{n q s:Nat}{rs:List (List PV)}(a:α)(w:H q=some (.rows s rs))(i:e a)(u:m a<n)(l:(d a).le (F.frz q s rs))(p:(Hs a).le (H.frz q s rs)):jM d Hs e m n K .normal F H:=
 ⟨a,_,_,.step q w (.refl _ _),i,u,l,p⟩
end
structure LY(C:Ctx):Prop extends Av C where
 int:∀n:Int,dJ n->aH C 47 [.int .i64 n] .nil (aF (.agg (mkT n 1).cells))
 itoa:∀n:Nat,n<100->aH C 195 [.int .i64 n] .nil (aF (.str (cU n)))
 next:∀(l:List Nat)(v:PV),Tp l v->∀(o n a:Nat),n<=1000000->a<=Z' l->aH C 4 [.ptr o 2 0 0,.int .i64 n] (h_.set o (bJ v a)) (Ar l v o n a)
section
variable {C:Ctx} {F:PF} {H:PH} {l:List Nat} {v:PV} {o a:Nat}
theorem eP(i:LY C)(T:Tp l v){n:Nat}{args:List aS}{d:Option Nat}{K:PF->PH->Prop}(w:n<=1000000)(p:a<=Z' l)(e:aS.evs F args=some [.ptr o 2 0 0,.int .i64 n])(x:H o=some (bJ v a))
  (u:K (F.put d (.int .i64 ((aJ l n a).1:Nat))) (H.set o (bJ v (aJ l n a).2))):lC C 4 args [] d K F H:=
 qA (i.next l v T o n a w p) x e u
end
def a2H(l:List Nat)(v:PV)(o a:Nat)(r:PV)(H:PH):Prop:=r=.agg (jK l a).1.cells/\H=h_.set o (bJ v (jK l a).2)
theorem CJ(l:List Nat){a:Nat}(h:a<=Z' l):(jK l a).2<=Z' l:=bY l 8 (bY l 6 h)
theorem aYR(e:LY C){l:List Nat}{v:PV}(T:Tp l v)(o a:Nat)(w:a<=Z' l):WB.wp C (aX aLD.res (a2H l v o a)) (g_ [.ptr o 2 0 0]) (h_.set o (bJ v a)):=by
 simp only[go_sem,WB,aiG,aLD];refine aP λp hp=>?_;have y:¬p=o:=(kP.1 hp).1;have d:¬o=p:=λh=>y h.symm;have K:=cR l (show 0<6 by decide) a;have a1:=bY l 6 w;simp only[go_sem,aiH];refine eP e T (o:=o) (n:=6) (a:=a) aU w rfl (by simp only[go_sem,d]) ?_;have E:i_.wrap (1+((aJ l 6 a).1:Int))=((1+(aJ l 6 a).1:Nat):Int):=by rw[wrap_i64 Om Om];omega
 simp only[go_sem,E];have M:=cR l (show 0<8 by decide) (aJ l 6 a).2;refine eP e T (o:=o) (n:=8) (a:=(aJ l 6 a).2) aU a1 rfl Sq ?_;have e2:i_.wrap (1+((aJ l 8 (aJ l 6 a).2).1:Int))=((1+(aJ l 8 (aJ l 6 a).2).1:Nat):Int):=by rw[wrap_i64 Om Om];omega
 simp only[go_sem,e2];refine aB (e.fmk ((1+(aJ l 6 a).1:Nat):Int) ((1+(aJ l 8 (aJ l 6 a).2).1:Nat):Int) (by unfold dJ;omega) (by unfold dJ;omega)) rfl ?_;have J:¬((1+(aJ l 8 (aJ l 6 a).2).1:Nat):Int)=0:=Om;unfold xU;rw[aD J];simp only[go_sem];refine aP λq x=>?_;have A:¬q=o:=(kP.1 x).1;have B:¬q=p:=(kP.1 (kP.1 x).2).1;have u:¬p=q:=λh=>B h.symm;have i:¬o=q:=λh=>A h.symm;simp only[go_sem,aiI,y,d,A,B,u];refine bG (vs:=[.agg (jK l a).1.cells]) (.inr rfl) (h_.set o (bJ v (jK l a).2)) ?_ (e_ a_ ?_) ⟨rfl,rfl⟩
 ·simp only[go_sem];rfl
 ·simp only[go_sem,d,i];rfl
structure Z1(C:Ctx):Prop extends LY C where
 frac:∀(l:List Nat)(v:PV),Tp l v->∀(o a:Nat),a<=Z' l->aH C 1 [.ptr o 2 0 0] (h_.set o (bJ v a)) (a2H l v o a)
abbrev kE(l:List RF):List (List PV):=l.map RF.cells
theorem GQ(l:List RF)(x:RF):kE l++[x.cells]=kE (l++[x]):=by simp[kE]
theorem UK(l:List RF):Flat (kE l):=Flat.map l λx c d q s rs=>by
 simp only[RF.cells,fC,bkX,blD,or_false]at d;rcases d with rfl|rfl|rfl<;>rfl
theorem rP(l:List RF):(kE l).length=Z' l:=by simp[kE]
theorem Tp.frz{l:List Nat}{v:PV}(T:Tp l v)(q s:Nat)(rs:List (List PV)):PV.eF q s rs v=v:=by
 rcases T.seen with⟨_,rfl⟩|rfl<;>rfl
theorem SI(l:List Nat){a:Nat}(h:a<=Z' l):∀k,(oY l a k).2<=Z' l
 |0=>h
 |k+1=>CJ l (SI l h k)
theorem amY(l:List Nat)(a:Nat):∀k,(oY l a k).1.length=k
 |0=>rfl
 |k+1=>by simp only[oY,bkQ,bkV,amY l a k]
def a8O(l:List Nat)(v:PV)(o a k:Nat)(r:PV)(H:PH):Prop:=r=frs (oY l a k).1/\H=h_.set o (bJ v (oY l a k).2)
def aLH(o:Nat)(m:Nat)(w:PV)(i:Nat):PF:=((((n_.set 0 (.ptr o 2 0 0)).set 1 (.int .i64 m)).set 5 (w)).set 6 (.int .i64 i))
theorem a5R(K:Z1 C){l:List Nat}{v:PV}(T:Tp l v)(o a m:Nat)(U:m<=1000)(O:a<=Z' l):ga.wp C (aX aYY.res (a8O l v o a (max m 1))) (g_ [.ptr o 2 0 0,.int .i64 m]) (h_.set o (bJ v a)):=by
 have u:∀i:Nat,((i:Int)<(if(m:Int)<1 then 1 else(m:Int)))↔i<max m 1:=by intro i;split<;>omega
 simp only[go_sem,ga,aAO,aAP,aAQ,aYY];have M:aR (h_.set o (bJ v a)) [(o,bJ v a)] [(.aK,3,kE [])]:=(aR.nil.new (H:=h_) rfl (bJ v a)).rA 3;refine wp_loop (α:=Nat × PV × PH) (λt=>aLH o m t.2.1 t.1) (λt=>t.2.2) (λt=>t.1<=max m 1/\aR t.2.2 [(o,bJ v (oY l a t.1).2)] [(t.2.1,3,kE (oY l a t.1).1)]) (λt=>max m 1-t.1) (0,.aK,h_.set o (bJ v a)) ⟨bkL _,M⟩ ?_ b_ ?_
 ·unfold aLH;exact Lq
 rintro⟨k,w,S⟩ ⟨Q,p⟩;simp only at Q p ⊢;simp only[go_sem,aAN,aAR,aLH];have B:=SI l O k;have d:=amY l a k;by_cases hlt:k<max m 1
 ·have A:=(u k).2 hlt;simp only[go_sem,A,aAS];refine qA (K.frac l v T o _ B) (p.at 0 rfl) rfl ?_;have y:=p.set 0 rfl (bJ v (jK l (oY l a k).2).2);have x:(1:Nat)*3<=16777216:=by decide
  simp only[go_sem,x];refine y.append 0 (src:=[(jK l (oY l a k).2).1.cells]) rfl rfl (by unfold roomFor;rw[rP,d];simp only[bkV,maxLen];omega) λR H' J _=>?_;rw[GQ]at J;simp only[go_sem,aAT,wZz k];refine aG (k+1,R,H') ⟨hlt,J⟩ (by simp only;omega) ?_ b_;exact Lq
 ·have A:¬((k:Int)<(if(m:Int)<1 then 1 else(m:Int))):=λh=>hlt ((u k).1 h);have e:k=max m 1:=Om;subst e;simp only[go_sem,A,aAU];have E:kE (oY l a (max m 1)).1≠[]:=λh=>by have:=congrArg List.length h;rw[rP,d]at this;simp at this
  rcases p.own 0 rfl with⟨N,_⟩|⟨q,rs,rfl,_⟩
  ·exact absurd N E
  obtain⟨rs,g1,g2,g3,-,g4⟩:=p.frz 0 rfl;refine zN (vs:=[.osl q 3 0 (kE (oY l a (max m 1)).1).length]) (.inr rfl) rfl (.step g1 (.done (H2:=h_.set o (bJ v (oY l a (max m 1)).2)) ?_ (e_ a_ ?_)))
  ·rw[bN,g3];exact⟨rfl,rfl⟩
  ·have:=g4.at 0 rfl;rw[this];simp only[bA.frz,blM,bmE,T.frz];rfl
theorem aYV(e:LY C)(s:List UInt8)(n:Nat)(u:Z' s<=100)(i:n<100):WG.wp C (aX aLG.res (aF (.str (s++cU n)))) (g_ [.str s,.int .i64 n]) .nil:=by
 have p:(cU n).length<=2:=by
  unfold cU;rw[Lib.decDigits];split
  ·simp
  ·rw[Lib.decDigits,dif_pos Om];simp
 have d:¬(((Z' s+(cU n).length:Nat):Int)>9223372036854775807):=Om;simp only[go_sem,WG,ajC,ajD,aLG];refine aB (e.itoa n i) rfl ?_;simp only[go_sem,aIG,d];refine aT (.inr rfl) rfl ?_;rfl
structure zY(C:Ctx):Prop extends Z1 C where
 rep:∀(l:List Nat)(v:PV),Tp l v->∀(o a m:Nat),m<=1000->a<=Z' l->aH C 5 [.ptr o 2 0 0,.int .i64 m] (h_.set o (bJ v a)) (a8O l v o a (max m 1))
 name:∀(s:List UInt8)(n:Nat),Z' s<=100->n<100->aH C 29 [.str s,.int .i64 n] .nil (aF (.str (s++cU n)))
theorem aVR(l:List Nat)(i j:Nat){a:Nat}(h:a<=Z' l):(mP l i j a).2<=Z' l:=by
 unfold mP;split
 ·exact CJ l h
 ·split
  ·exact h
  ·simp only;split
   ·exact CJ l (bY l 3 h)
   ·exact bY l 3 h
theorem Oj(l:List Nat)(i:Nat){a:Nat}(h:a<=Z' l):∀j,(fL l i a j).2<=Z' l
 |0=>h
 |j+1=>aVR l i j (Oj l i h j)
theorem zd(l:List Nat)(i a:Nat):∀j,(fL l i a j).1.length=j
 |0=>rfl
 |j+1=>by simp only[fL,bkQ,bkV,zd l i a j]
theorem xf(l:List Nat)(n i:Nat)(s:NW)(h:s.a<=Z' l):(fI l n i s).2<=Z' l/\(fI l n i s).1<=s.left:=by
 unfold fI;split
 ·exact⟨bY l _ h,by have:=cR l (Om:0<s.left+1) s.a;omega⟩
 ·exact⟨h,bkN _⟩
theorem adA(l:List Nat)(n i:Nat){a:Nat}(h:a<=Z' l):(hZ l n i a).2<=Z' l:=by
 unfold hZ;simp only;split
 ·exact bY l 3 (CJ l h)
 ·exact CJ l h
theorem M6(l:List Nat)(n:Nat){a:Nat}(h:a<=Z' l):∀i,(kA l n a i).a<=Z' l/\(kA l n a i).left<=8/\(kA l n a i).start.length=i/\(kA l n a i).exit.length=i/\(kA l n a i).bjA.length=i
 |0=>⟨h,bkN _,rfl,rfl,rfl⟩
 |i+1=>by
  obtain⟨d,w,e,p,h5⟩:=M6 l n h i;have u:=xf l n i (kA l n a i) d;refine⟨?_,?_,?_,?_,?_⟩
  ·exact Oj l i (adA l n i u.1) n
  ·simp only[kA];omega
  ·simp only[kA,bkQ,bkV,e]
  ·simp only[kA,bkQ,bkV,p]
  ·simp only[kA,bkQ,bkV,h5]
abbrev DC(l:List (List RF)):List (List PV):=l.map λr=>[frs r]
theorem U6(l:List (List RF)):Flat (DC l):=Flat.map l λx c d q s rs=>by
 simp only[bkX,blD,or_false]at d;subst d;rfl
abbrev xe(d e i:PV):bA:=.rows 4 [[.str [],d,e,i]]
abbrev ahF:bA:=.rows 4 [[.str [],.aK,.aK,.aK]]
def jQ(o o4 o6 n left i:Nat)(w:PV)(j:Nat):PF:=((((((((n_.set 0 (.ptr o 2 0 0)).set 4 (.ptr o4 4 0 0)).set 5 (.int .i64 n)).set 6 (.ptr o6 4 0 0)).set 7 (.int .i64 left)).set 8 (.int .i64 i)).set 13 (w)).set 14 (.int .i64 j))
def eG(o o4 o6 n left i:Nat):PF:=((((((n_.set 0 (.ptr o 2 0 0)).set 4 (.ptr o4 4 0 0)).set 5 (.int .i64 n)).set 6 (.ptr o6 4 0 0)).set 7 (.int .i64 left)).set 8 (.int .i64 i))
theorem xn{l:List RF}(h:Z' l<=1000):roomFor (kE l).length 1 56:=by
 unfold roomFor;rw[rP];simp only[maxLen];omega
theorem aYU(W:zY C){l:List Nat}{v:PV}(T:Tp l v)(o o4 o6 n left i a:Nat)(ha:a<=Z' l)(hn:n<=100)(hi:i<n)(B:List BX)(L:List LI)(K:cH)(F:PF)(H:PH)
  (hF:(jQ o o4 o6 n left i .aK 0).le F) (Q:aR H ((o,bJ v a)::B) L)
  (hK:∀w e H',(jQ o o4 o6 n left i w n).le e->aR H' ((o,bJ v (fL l i a n).2)::B) (L++[(w,3,kE (fL l i a n).1)])->K (.exit 2) e H') :
  aC.wp C (.loop WE) K F H:=by
 refine wp_loop (α:=Nat × PV × PH) (λt=>jQ o o4 o6 n left i t.2.1 t.1) (λt=>t.2.2) (λt=>t.1<=n/\aR t.2.2 ((o,bJ v (fL l i a t.1).2)::B) (L++[(t.2.1,3,kE (fL l i a t.1).1)])) (λt=>n-t.1) (0,.aK,H) ⟨bkL _,Q.rA 3⟩ hF b_ ?_;rintro⟨j,w,H0⟩ ⟨hj,Q⟩;simp only at hj Q ⊢;have O:=Oj l i ha j;have ε:=zd l i a j;have e1:i_.wrap ((i:Int)+1)=((i+1:Nat):Int):=eM Om;simp only[go_sem,WE,aiX,jQ];by_cases hlt:j<n
 ·have E:(j:Int)<(n:Nat):=Om;simp only[go_sem,E,aiY];refine aB (W.int 0 (by unfold dJ;omega)) rfl ?_;simp only[go_sem];refine aP λp hp=>?_;have y:=Q.new hp (.rows 3 [oE.cells]);simp only[go_sem,aiZ,e1];have fin:∀(e:PF)(H':PH),(jQ o o4 o6 n left i w j).le e->e 15=some (.ptr p 3 0 0)->aR H' ((o,bJ v (mP l i j (fL l i a j).2).2)::B++[(p,.rows 3 [(mP l i j (fL l i a j).2).1.cells])]) (L++[(w,3,kE (fL l i a j).1)]) ->
    aC.wp C (.region xx) (gE 3 (kD C (aC.wp C (.region xy)) (jM (λ(t:Nat × PV × PH)=>jQ o o4 o6 n left i t.2.1 t.1) (λt=>t.2.2) (λt=>t.1<=n/\aR t.2.2 ((o,bJ v (fL l i a t.1).2)::B) (L++[(t.2.1,3,kE (fL l i a t.1).1)])) (λt=>n-t.1) (n-j) K))) e H':=by
   intro e H' d J R;have f0:e 0=some (.ptr o 2 0 0):=d 0 _ (by unfold jQ;simp only[go_sem]);have f4:e 4=some (.ptr o4 4 0 0):=d 4 _ (by unfold jQ;simp only[go_sem]);have f5:e 5=some (.int .i64 n):=d 5 _ (by unfold jQ;simp only[go_sem]);have f6:e 6=some (.ptr o6 4 0 0):=d 6 _ (by unfold jQ;simp only[go_sem]);have f7:e 7=some (.int .i64 left):=d 7 _ (by unfold jQ;simp only[go_sem]);have f8:e 8=some (.int .i64 i):=d 8 _ (by unfold jQ;simp only[go_sem]);have f13:e 13=some w:=d 13 _ (by unfold jQ;simp only[go_sem]);have f14:e 14=some (.int .i64 j):=d 14 _ (by unfold jQ;simp only[go_sem]);have γ:H' p=some (.rows 3 [(mP l i j (fL l i a j).2).1.cells]):=R.box (p,.rows 3 [(mP l i j (fL l i a j).2).1.cells]) bH;have Y:(1:Nat)*3<=16777216:=by decide
   simp only[go_sem,xx,f13,J,γ,Y];refine R.append (v:=w) (s:=3) (rows:=kE (fL l i a j).1) L.length (src:=[(mP l i j (fL l i a j).2).1.cells]) bH rfl (xn Om) λw' H2 h2 _=>?_;rw[GQ,bnJ _ _ (bkN _),bnF]at h2;simp only[go_sem,xy,f14,wZz j];refine aG (α:=Nat × PV × PH) (j+1,w',H2) ⟨hlt,h2.sub (List.sublist_append_left ..) (bmW.refl _)⟩ (by simp only;omega) ?_ b_;unfold jQ;exact Lq
  simp only[aC.wp,go_sem]at fin;have V:∀x:RF,PH.set (PH.set H0 p (.rows 3 [oE.cells])) p (.rows 3 [x.cells])=PH.set H0 p (.rows 3 [x.cells]):=λx=>PH.set_set p _ _;have draw:∀(e:PF)(S:PH)(a1:Nat),a1<=Z' l->(jQ o o4 o6 n left i w j).le e->e 15=some (.ptr p 3 0 0)->aR S ((o,bJ v a1)::B++[(p,.rows 3 [oE.cells])]) (L++[(w,3,kE (fL l i a j).1)])->mP l i j (fL l i a j).2=jK l a1->∀K',(∀N H2,(jQ o o4 o6 n left i w j).le N->N 15=some (.ptr p 3 0 0)->aR H2 ((o,bJ v (mP l i j (fL l i a j).2).2)::B++[(p,.rows 3 [(mP l i j (fL l i a j).2).1.cells])]) (L++[(w,3,kE (fL l i a j).1)])->K' N H2) ->
    wpOps C xw K' e S:=by
   intro e S a1 β d J y M K' Z;have f0:e 0=some (.ptr o 2 0 0):=d 0 _ (by unfold jQ;simp only[go_sem]);simp only[go_sem,xw,f0];refine qA (W.frac l v T o a1 β) (y.at 0 rfl) rfl ?_;have A:aR (S.set o (bJ v (jK l a1).2)) ((o,bJ v (jK l a1).2)::B++[(p,.rows 3 [oE.cells])]) (L++[(w,3,kE (fL l i a j).1)]):=y.set 0 rfl _;have δ:=A.JH;simp only[go_sem,J,δ];refine Z _ _ ?_ (by simp only[go_sem,J]) ?_
   ·have g:=λ(q:Nat) u h=>d q u h;unfold jQ at g ⊢;refine d_ (d_ (d_ (d_ (d_ (d_ (d_ (d_ c_ ?_) ?_) ?_) ?_) ?_) ?_) ?_) ?_
    ·simp only[go_sem,f0]
    ·simp only[go_sem,g 4 _ rfl]
    ·simp only[go_sem,g 5 _ rfl]
    ·simp only[go_sem,g 6 _ rfl]
    ·simp only[go_sem,g 7 _ rfl]
    ·simp only[go_sem,g 8 _ rfl]
    ·simp only[go_sem,g 13 _ rfl]
    ·simp only[go_sem,g 14 _ rfl]
   ·rw[M];exact A.SO (.rows 3 [(jK l a1).1.cells])
  by_cases U:j=i+1
  ·have M:mP l i j (fL l i a j).2=jK l (fL l i a j).2:=by unfold mP;rw[aI U]
   simp only[go_sem,bW (Om:(j:Int)=((i+1:Nat):Int))];refine draw _ _ _ O (by unfold jQ;exact Lq) rfl y M _ ?_;intro N H2 k1 k2 k3;exact fin N H2 k1 k2 k3
  ·simp only[go_sem,bL (Om:¬(j:Int)=((i+1:Nat):Int))];by_cases X:j=i
   ·have M:mP l i j (fL l i a j).2=(oE,(fL l i a j).2):=by unfold mP;rw[aD U,aI X]
    simp only[go_sem,cF (Om:(j:Int)=(i:Int))];exact fin _ _ (by unfold jQ;exact Lq) rfl (by rw[M];exact y)
   ·simp only[go_sem,dP (Om:¬(j:Int)=(i:Int))];refine eP W.toLY T (o:=o) (n:=3) (a:=(fL l i a j).2) aU O rfl (y.at 0 rfl) ?_;have A:aR _ ((o,bJ v (aJ l 3 (fL l i a j).2).2)::B++[(p,.rows 3 [oE.cells])]) (L++[(w,3,kE (fL l i a j).1)]):=y.set 0 rfl _;by_cases c3:(aJ l 3 (fL l i a j).2).1=0
    ·have M:mP l i j (fL l i a j).2=jK l (aJ l 3 (fL l i a j).2).2:=by unfold mP;rw[aD U,aD X];simp only[c3,if_true]
     simp only[go_sem,bW (show(((aJ l 3 (fL l i a j).2).1:Nat):Int)=0 by omega)];refine draw _ _ _ (bY l 3 O) (by unfold jQ;exact Lq) rfl A M _ ?_;intro N H2 k1 k2 k3;exact fin N H2 k1 k2 k3
    ·have M:mP l i j (fL l i a j).2=(oE,(aJ l 3 (fL l i a j).2).2):=by unfold mP;rw[aD U,aD X];simp only[c3,if_false]
     simp only[go_sem,bL (show ¬(((aJ l 3 (fL l i a j).2).1:Nat):Int)=0 by omega)];exact fin _ _ (by unfold jQ;exact Lq) rfl (by rw[M];exact A)
 ·have E:¬(j:Int)<(n:Nat):=Om;have:j=n:=Om;subst this;simp only[go_sem,E];exact hK w _ _ (by unfold jQ;exact Lq) Q
abbrev xY(o o4 o6:Nat)(v d e i:PV)(a:Nat):List BX:=[(o,bJ v a),(o4,ahF),(o6,xe d e i)]
abbrev DS(s:NW)(d e i:PV):List LI:=[(d,3,kE s.start),(e,1,DC s.bjA),(i,3,kE s.exit)]
theorem aQY(J:zY C){l:List Nat}{v:PV}(T:Tp l v)(o o4 o6 n i:Nat)(s:NW)(E:s.a<=Z' l)(U:s.left<=8)(V:n<=100)(hi:i<n)(B:List BX)(L:List LI)(rest:aC)(K:cH)(F:PF)(H:PH)
  (d:(eG o o4 o6 n s.left i).le F) (x:aR H ((o,bJ v s.a)::B) L)
  (p:∀u H',(eG o o4 o6 n (s.left-(fI l n i s).1) i).le u->u 9=some (.int .i64 ((fI l n i s).1:Nat))->aR H' ((o,bJ v (fI l n i s).2)::B) L->aC.wp C rest K u H') :
  aC.wp C (.seq (.region Nc) (.seq (.seq (.region Nd) (.cond (.tmp 29) (.region Nf) .skip)) (.seq (.region mq) rest))) K F H:=by
 have f0:F 0=some (.ptr o 2 0 0):=d 0 _ (by unfold eG;simp only[go_sem]);have R:F 4=some (.ptr o4 4 0 0):=d 4 _ (by unfold eG;simp only[go_sem]);have O:F 5=some (.int .i64 n):=d 5 _ (by unfold eG;simp only[go_sem]);have f6:F 6=some (.ptr o6 4 0 0):=d 6 _ (by unfold eG;simp only[go_sem]);have f7:F 7=some (.int .i64 s.left):=d 7 _ (by unfold eG;simp only[go_sem]);have Q:F 8=some (.int .i64 i):=d 8 _ (by unfold eG;simp only[go_sem]);have M:i_.wrap ((i:Int)+1)=((i+1:Nat):Int):=eM Om;have S:=(xf l n i s E).2;have e:i_.wrap ((s.left:Int)-((fI l n i s).1:Int))=((s.left-(fI l n i s).1:Nat):Int):=by rw[wrap_i64 Om Om];omega
 simp only[go_sem,Nc,f7,Nd,Q,O,M];by_cases c:i+1<n
 ·have w:((i+1:Nat):Int)<(n:Nat):=Om;have A:fI l n i s=aJ l (s.left+1) s.a:=by unfold fI;rw[aI c]
  have N:i_.wrap ((s.left:Int)+1)=((s.left+1:Nat):Int):=eM Om;rw[A]at p e;simp only[go_sem,w,Nf,f0,f7,N];refine eP J.toLY T (o:=o) (n:=s.left+1) (a:=s.a) Om E rfl x.a8V ?_;have y:=x.a7C (bJ v (aJ l (s.left+1) s.a).2);simp only[go_sem,mq,f7,e];refine p _ _ ?_ rfl y;unfold eG;exact Lq
 ·have w:¬((i+1:Nat):Int)<(n:Nat):=Om;have A:fI l n i s=(s.left,s.a):=by unfold fI;rw[aD c]
  rw[A]at p e;simp only at p e;simp only[go_sem,w,mq,f7,e];refine p _ _ ?_ rfl x;unfold eG;exact Lq
theorem aLF(Q:zY C){l:List Nat}{v:PV}(o o4 o6 n i left k a:Nat)(hk:k<=8)(hi:i<n)(hn:n<=100)(s:NW)(hs:Z' s.start=i)(O w x:PV)(B:List BX)(rest:aC)(K:cH)(F:PF)(H:PH)
  (u:(eG o o4 o6 n left i).le F) (R:F 9=some (.int .i64 k)) (W:aR H (xY o o4 o6 v O w x a++B) (DS s O w x))
  (X:∀e N H' B',(eG o o4 o6 n left i).le N->aR H' (xY o o4 o6 v e w x a++B') (DS { s with start:=s.start++[mkT (k:Nat) 8] } e w x)->aC.wp C rest K N H') :
  aC.wp C (.seq (.region xo) (.seq (.region xp) rest)) K F H:=by
 have f0:F 0=some (.ptr o 2 0 0):=u 0 _ (by unfold eG;simp only[go_sem]);have Z:F 4=some (.ptr o4 4 0 0):=u 4 _ (by unfold eG;simp only[go_sem]);have f5:F 5=some (.int .i64 n):=u 5 _ (by unfold eG;simp only[go_sem]);have f6:F 6=some (.ptr o6 4 0 0):=u 6 _ (by unfold eG;simp only[go_sem]);have f7:F 7=some (.int .i64 left):=u 7 _ (by unfold eG;simp only[go_sem]);have f8:F 8=some (.int .i64 i):=u 8 _ (by unfold eG;simp only[go_sem]);simp only[go_sem,xo,R];refine aB (Q.fmk (k:Int) 8 (by unfold dJ;omega) (by unfold dJ;omega)) rfl ?_;unfold xU;rw[aD aU];simp only[go_sem];refine aP λp hp=>?_;have d:=W.new hp (.rows 3 [(mkT (k:Nat) 8).cells]);have S:=d.at 2 rfl;have U:=d.JH;have E:(1:Nat)*3<=16777216:=by decide
 have Y:∀y,PH.set (PH.set H p (.rows 3 [[PV.bool false,PV.aK,PV.aK]])) p y=PH.set H p y:=λy=>PH.set_set p _ _;simp only[go_sem,xp,f6,S,U,E];refine d.append 0 (src:=[(mkT (k:Nat) 8).cells]) rfl rfl (xn Om) λe H2 J M=>?_;rw[GQ]at J M;rw[rP]at M;obtain⟨q,rfl⟩:=M bH;have A:=J.at 2 rfl;simp only[go_sem,A,bkX,blD,or_false,forall_eq];have V:=J.set 2 rfl (xe (.osl q 3 0 (s.start++[mkT (k:Nat) 8]).length) w x);refine X _ _ _ (B++[(p,.rows 3 [(mkT (k:Nat) 8).cells])]) ?_ V;unfold eG;exact Lq
theorem aQX(O:zY C){l:List Nat}{v:PV}(T:Tp l v)(o o4 o6 n i left a:Nat)(ha:a<=Z' l)(hi:i<n)(hn:n<=100)(s:NW)(hs:Z' s.exit=i)(u w M:PV)(B:List BX)(rest:aC)(K:cH)(F:PF)(H:PH)
  (J:(eG o o4 o6 n left i).le F) (hH:aR H (xY o o4 o6 v u w M a++B) (DS s u w M))
  (hK:∀E d H' B',(eG o o4 o6 n left i).le d->aR H' (xY o o4 o6 v u w E (hZ l n i a).2++B') (DS { s with exit:=s.exit++[(hZ l n i a).1] } u w E)->aC.wp C rest K d H') :
  aC.wp C (.seq (.region xq) (.seq (.seq (.region xr) (.cond (.tmp 58) (.region xt) .skip)) (.seq (.region WF) rest))) K F H:=by
 have f0:F 0=some (.ptr o 2 0 0):=J 0 _ (by unfold eG;simp only[go_sem]);have f4:F 4=some (.ptr o4 4 0 0):=J 4 _ (by unfold eG;simp only[go_sem]);have f5:F 5=some (.int .i64 n):=J 5 _ (by unfold eG;simp only[go_sem]);have f6:F 6=some (.ptr o6 4 0 0):=J 6 _ (by unfold eG;simp only[go_sem]);have f7:F 7=some (.int .i64 left):=J 7 _ (by unfold eG;simp only[go_sem]);have f8:F 8=some (.int .i64 i):=J 8 _ (by unfold eG;simp only[go_sem]);have e1:i_.wrap ((i:Int)+1)=((i+1:Nat):Int):=eM Om;simp only[go_sem,xq,f0];refine qA (O.frac l v T o a ha) (hH.at 0 rfl) rfl ?_;have X:=hH.set 0 rfl (bJ v (jK l a).2);simp only[go_sem];refine aP λp hp=>?_;have y:=X.new hp (.rows 3 [(jK l a).1.cells]);simp only[go_sem,xr,f8,f5,e1];have fin:∀(d:PF)(H':PH),(eG o o4 o6 n left i).le d->d 12=some (.ptr p 3 0 0)->aR H' (xY o o4 o6 v u w M (hZ l n i a).2++B++[(p,.rows 3 [(hZ l n i a).1.cells])]) (DS s u w M)->wpOps C WF (aC.wp C rest K) d H':=by
  intro d H' e R x;have q0:d 0=some (.ptr o 2 0 0):=e 0 _ (by unfold eG;simp only[go_sem]);have q4:d 4=some (.ptr o4 4 0 0):=e 4 _ (by unfold eG;simp only[go_sem]);have q5:d 5=some (.int .i64 n):=e 5 _ (by unfold eG;simp only[go_sem]);have q6:d 6=some (.ptr o6 4 0 0):=e 6 _ (by unfold eG;simp only[go_sem]);have q7:d 7=some (.int .i64 left):=e 7 _ (by unfold eG;simp only[go_sem]);have q8:d 8=some (.int .i64 i):=e 8 _ (by unfold eG;simp only[go_sem]);have g6:=x.at 2 rfl;have U:=x.JH;have V:(1:Nat)*3<=16777216:=by decide
  simp only[go_sem,WF,q6,g6,R,U,V];refine x.append 2 (src:=[(hZ l n i a).1.cells]) rfl rfl (xn Om) λE H2 W Z=>?_;rw[GQ]at W Z;rw[rP]at Z;obtain⟨q,rfl⟩:=Z bH;have S:=W.at 2 rfl;simp only[go_sem,S,bkX,blD,or_false,forall_eq];have h3:=W.set 2 rfl (xe u w (.osl q 3 0 (s.exit++[(hZ l n i a).1]).length));refine hK _ _ _ (B++[(p,.rows 3 [(hZ l n i a).1.cells])]) ?_ h3;unfold eG;exact Lq
 by_cases c:i+1<n
 ·have Q:((i+1:Nat):Int)<(n:Nat):=Om;have Y:=CJ l ha;simp only[go_sem,Q,f0];refine eP O.toLY T (o:=o) (n:=3) (a:=(jK l a).2) aU Y rfl (y.at 0 rfl) ?_;have A:=y.set 0 rfl (bJ v (aJ l 3 (jK l a).2).2);by_cases c3:(aJ l 3 (jK l a).2).1=0
  ·have N:hZ l n i a=(oE,(aJ l 3 (jK l a).2).2):=by unfold hZ;simp only[aI c,c3,if_true]
   have U:=aR.JH (B:=xY o o4 o6 v u w M (aJ l 3 (jK l a).2).2++B) A;simp only[go_sem,bW (show(((aJ l 3 (jK l a).2).1:Nat):Int)=0 by omega),xt];refine aB (O.int 0 (by unfold dJ;omega)) rfl ?_;simp only[go_sem,U];refine fin _ _ ?_ rfl ?_
   ·unfold eG;exact Lq
   ·rw[N];exact aR.SO (B:=xY o o4 o6 v u w M (aJ l 3 (jK l a).2).2++B) A (.rows 3 [oE.cells])
  ·have N:hZ l n i a=((jK l a).1,(aJ l 3 (jK l a).2).2):=by unfold hZ;simp only[aI c,c3,if_false]
   simp only[go_sem,bL (show ¬(((aJ l 3 (jK l a).2).1:Nat):Int)=0 by omega)];refine fin _ _ ?_ rfl ?_
   ·unfold eG;exact Lq
   ·rw[N];exact A
 ·have Q:¬((i+1:Nat):Int)<(n:Nat):=Om;have N:hZ l n i a=jK l a:=by unfold hZ;simp only[aD c]
  simp only[go_sem,Q];refine fin _ _ ?_ rfl ?_
  ·unfold eG;exact Lq
  ·rw[N];exact y
def aVF(l:List Nat)(v:PV)(o fS a:Nat)(r:PV)(H:PH):Prop:=r=.agg (xF l fS a).1.cells/\H=h_.set o (bJ v (xF l fS a).2)
theorem aSV{l:List (List RF)}(h:Z' l<=1000):roomFor (DC l).length 1 24:=by
 unfold roomFor;simp only[bkG,maxLen];omega
theorem aSW(l:List (List RF))(x:List RF):DC l++[[frs x]]=DC (l++[x]):=by simp[DC]
theorem aLE(Lb:zY C){l:List Nat}{v:PV}(T:Tp l v)(o o4 o6 n left i a:Nat)(ha:a<=Z' l)(hn:n<=100)(hi:i<n)(s:NW)(hs:Z' s.bjA=i)(x N E:PV)(B:List BX)(K:cH)(F:PF)(H:PH)
  (J:(eG o o4 o6 n left i).le F) (hH:aR H (xY o o4 o6 v x N E a++B) (DS s x N E))
  (hK:∀A y V H' B',(eG o o4 o6 n left i).le V->(∃q,y=.osl q 3 0 n)->aR H' (xY o o4 o6 v x A E (fL l i a n).2++B') [(x,3,kE s.start),(A,1,DC s.bjA++[[y]]),(E,3,kE s.exit),(y,3,kE (fL l i a n).1)]->K .normal V H') :
  aC.wp C (.seq (.region xu) (.seq (.seq (.region xv) (.block 2 (.loop WE))) (.region xz))) K F H:=by
 have f0:F 0=some (.ptr o 2 0 0):=J 0 _ (by unfold eG;simp only[go_sem]);have f4:F 4=some (.ptr o4 4 0 0):=J 4 _ (by unfold eG;simp only[go_sem]);have f5:F 5=some (.int .i64 n):=J 5 _ (by unfold eG;simp only[go_sem]);have f6:F 6=some (.ptr o6 4 0 0):=J 6 _ (by unfold eG;simp only[go_sem]);have f7:F 7=some (.int .i64 left):=J 7 _ (by unfold eG;simp only[go_sem]);have f8:F 8=some (.int .i64 i):=J 8 _ (by unfold eG;simp only[go_sem]);simp only[go_sem,xu,xv];refine aYU (C:=C) Lb T o o4 o6 n left i a ha hn hi ([(o4,ahF),(o6,xe x N E)]++B) (DS s x N E) _ _ H ?_ hH ?_
 ·unfold jQ
  (repeat' (first|exact c_|refine d_ ?_ ?_))<;>first|(simp only[go_sem,f0,f4,f5,f6,f7,f8]<;>rfl)|rfl
 intro w p H1 d u;have e:=zd l i a n;have hw:∃q,w=.osl q 3 0 n:=by
  rcases u.own (v:=w) 3 rfl with⟨M,_⟩|⟨q,rs,M,_⟩
  ·have:=congrArg List.length M;rw[rP,e]at this;simp at this;omega
  ·rw[rP,e]at M;exact⟨q,M⟩
 obtain⟨q,rfl⟩:=hw;have g0:p 0=some (.ptr o 2 0 0):=d 0 _ (by unfold jQ;simp only[go_sem]);have g4:p 4=some (.ptr o4 4 0 0):=d 4 _ (by unfold jQ;simp only[go_sem]);have g5:p 5=some (.int .i64 n):=d 5 _ (by unfold jQ;simp only[go_sem]);have W:p 6=some (.ptr o6 4 0 0):=d 6 _ (by unfold jQ;simp only[go_sem]);have g7:p 7=some (.int .i64 left):=d 7 _ (by unfold jQ;simp only[go_sem]);have g8:p 8=some (.int .i64 i):=d 8 _ (by unfold jQ;simp only[go_sem]);have Q:p 13=some (.osl q 3 0 n):=d 13 _ (by unfold jQ;simp only[go_sem]);have b6:=u.at 2 rfl;have R:(1:Nat)*1<=16777216:=by decide
 simp only[go_sem,xz,W,b6,Q,R,bkX,blD,or_false,forall_eq];refine u.append 1 (src:=[[.osl q 3 0 n]]) rfl Sq (aSV Om) λA H2 X U=>?_;obtain⟨Z,rfl⟩:=U bH;have O:=X.at 2 rfl;simp only[go_sem,O,bkX,blD,or_false,forall_eq];have Y:=X.set 2 rfl (xe x (.osl Z 1 0 (DC s.bjA++[[PV.osl q 3 0 n]]).length) E);have S:(DC s.bjA++[[(PV.osl q 3 0 n:PV)]]).length=Z' s.bjA+1:=by simp
 rw[S]at Y ⊢;refine hK (.osl Z 1 0 (Z' s.bjA+1)) (.osl q 3 0 n) _ _ B ?_ ⟨q,rfl⟩ Y;unfold eG
 (repeat' (first|exact c_|refine d_ ?_ ?_))<;>first|(simp only[go_sem,g0,g4,g5,W,g7,g8]<;>rfl)|rfl
theorem a5O(K:zY C){l:List Nat}{v:PV}(T:Tp l v)(o fS a:Nat)(hm:0<fS)(δ:fS<=50)(ha:a<=Z' l):fw.wp C (aX aYT.res (aVF l v o fS a)) (g_ [.ptr o 2 0 0,.int .i64 fS]) (h_.set o (bJ v a)):=by
 have h0:aR (h_.set o (bJ v a)) [(o,bJ v a)] []:=aR.nil.new (H:=h_) rfl (bJ v a);simp only[go_sem,fw,aAE,aYT];refine aP λo4 β=>?_;have J:=h0.new β ahF;simp only[go_sem,aAF];refine eP K.toLY T (o:=o) (n:=fS) (a:=a) Om ha Sq (J.at 0 rfl) ?_;have h2:=J.set 0 rfl (bJ v (aJ l fS a).2);have hN:=cR l hm a;have Y:=bY l fS ha;have e1:i_.wrap (1+((aJ l fS a).1:Int))=((1+(aJ l fS a).1:Nat):Int):=by rw[wrap_i64 Om Om];omega
 have Z:∀s:NW,s=kA l (1+(aJ l fS a).1) (aJ l fS a).2 (1+(aJ l fS a).1)->xF l fS a=(⟨[],s.start,s.bjA,s.exit⟩,s.a):=λs hs=>by rw[hs];rfl
 have X:∀r H,aVF l v o fS a r H↔r=.agg (xF l fS a).1.cells/\H=h_.set o (bJ v (xF l fS a).2):=λ_ _=>Iff.rfl;generalize hn:1+(aJ l fS a).1=n at *
 generalize hb:(aJ l fS a).2=b at *
 have ε:0<n:=Om;have d:n<=100:=Om;simp only[go_sem,e1,aAG];refine aP λo6 γ=>?_;have h3:=((h2.new γ ahF).rA 3).rA 1;have h4:=h3.rA 3;simp only[go_sem,aAH,aAI];refine wp_loop (α:=Nat × PV × PV × PV × PH) (λt=>eG o o4 o6 n (kA l n b t.1).left t.1) (λt=>t.2.2.2.2)
  (λt=>t.1<=n/\aR t.2.2.2.2 (xY o o4 o6 v t.2.1 t.2.2.1 t.2.2.2.1 (kA l n b t.1).a) (DS (kA l n b t.1) t.2.1 t.2.2.1 t.2.2.2.1)) (λt=>n-t.1) (0,.aK,.aK,.aK,_) ⟨bkL _,h4⟩ ?_ b_ ?_
 ·unfold eG
  (repeat' (first|exact c_|refine d_ ?_ ?_))<;>first|(simp only[go_sem,kA]<;>rfl)|rfl
 rintro⟨i,w1,M,N,H0⟩ ⟨hi,E⟩;simp only at hi E ⊢;obtain⟨k1,k2,k3,k4,k5⟩:=M6 l n Y i;simp only[go_sem,aiW,aAJ,eG];by_cases hlt:i<n
 ·have A:(i:Int)<(n:Nat):=Om;have B:kA l n b (i+1)=⟨(kA l n b i).start++[mkT ((fI l n i (kA l n b i)).1:Nat) 8],(kA l n b i).exit++[(hZ l n i (fI l n i (kA l n b i)).2).1],(kA l n b i).bjA++[(fL l i (hZ l n i (fI l n i (kA l n b i)).2).2 n).1],(kA l n b i).left-(fI l n i (kA l n b i)).1,(fL l i (hZ l n i (fI l n i (kA l n b i)).2).2 n).2⟩:=rfl;have kl:=xf l n i (kA l n b i) k1;have ke:=adA l n i kl.1;generalize hs:kA l n b i=s at *
  simp only[go_sem,A];refine aQY (C:=C) K T o o4 o6 n i s k1 k2 d hlt [(o4,ahF),(o6,xe w1 M N)] (DS s w1 M N) _ _ _ H0 (by unfold eG;exact Lq) E ?_;intro F1 H1 O f9 S;refine aLF (C:=C) (l:=l) K o o4 o6 n i _ (fI l n i s).1 (fI l n i s).2 Om hlt d s k3 w1 M N [] _ _ F1 H1 O f9 S ?_;intro e F2 H2 B2 Q U;refine aQX (C:=C) K T o o4 o6 n i _ (fI l n i s).2 kl.1 hlt d { s with start:=s.start++[mkT ((fI l n i s).1:Nat) 8] } k4 e M N B2 _ _ F2 H2 Q U ?_;intro p F3 H3 B3 R V;refine aLE (C:=C) K T o o4 o6 n _ i (hZ l n i (fI l n i s).2).2 ke d hlt { s with start:=s.start++[mkT ((fI l n i s).1:Nat) 8],exit:=s.exit++[(hZ l n i (fI l n i s).2).1] } k5 e M p B3 _ F3 H3 R V ?_;rintro y ζ F H4 B4 u ⟨q,rfl⟩ W;have g0:F 0=some (.ptr o 2 0 0):=u 0 _ (by unfold eG;simp only[go_sem]);have g4:F 4=some (.ptr o4 4 0 0):=u 4 _ (by unfold eG;simp only[go_sem]);have g5:F 5=some (.int .i64 n):=u 5 _ (by unfold eG;simp only[go_sem]);have g6:F 6=some (.ptr o6 4 0 0):=u 6 _ (by unfold eG;simp only[go_sem]);have g7:F 7=some (.int .i64 (s.left-(fI l n i s).1:Nat)):=u 7 _ (by unfold eG;simp only[go_sem]);have g8:F 8=some (.int .i64 i):=u 8 _ (by unfold eG;simp only[go_sem]);obtain⟨rs,z1,z2,z3,z4,z5⟩:=W.frz 3 rfl;have y1:=z4 0 _ aU rfl;have y2:=z4 1 _ aU rfl;have y3:=z4 2 _ aU rfl;simp only at y1 y2 y3;have y4:=T.frz q 3 rs;simp only[go_sem,ajA,g8,wZz i];refine Sl (i+1,e,y,p,H4.frz q 3 rs) z1 ⟨hlt,?_⟩ (by simp only;omega) ?_ b_
  ·rw[B];have eB:(xY o o4 o6 v e y p (fL l i (hZ l n i (fI l n i s).2).2 n).2).map (λb=>(b.1,b.2.frz q 3 rs))=xY o o4 o6 v e y p (fL l i (hZ l n i (fI l n i s).2).2 n).2:=by simp only[blM,bmE,bA.frz,y1,y2,y3,y4];rfl
   have eL:([(e,3,kE (s.start++[mkT ((fI l n i s).1:Nat) 8])),(y,1,DC s.bjA++[[.osl q 3 0 n]]),(p,3,kE (s.exit++[(hZ l n i (fI l n i s).2).1]))]:List LI).map (λx=>(x.1,x.2.1,x.2.2.map λr=>r.map (PV.eF q 3 rs))) =
     DS ⟨s.start++[mkT ((fI l n i s).1:Nat) 8],s.exit++[(hZ l n i (fI l n i s).2).1],s.bjA++[(fL l i (hZ l n i (fI l n i s).2).2 n).1],s.left-(fI l n i s).1,(fL l i (hZ l n i (fI l n i s).2).2 n).2⟩ e y p:=by
    have e2:(DC s.bjA++[[PV.osl q 3 0 n]]).map (λr=>r.map (PV.eF q 3 rs))=DC (s.bjA++[(fL l i (hZ l n i (fI l n i s).2).2 n).1]):=by rw[blK,U6,blM,bmE,blM,bmE,z2,aSW]
    show([(e,3,(kE (s.start++[mkT ((fI l n i s).1:Nat) 8])).map (λr=>r.map (PV.eF q 3 rs))),(y,1,(DC s.bjA++[[PV.osl q 3 0 n]]).map (λr=>r.map (PV.eF q 3 rs))),(p,3,(kE (s.exit++[(hZ l n i (fI l n i s).2).1])).map (λr=>r.map (PV.eF q 3 rs)))]:List LI)=_;rw[UK,e2,UK]
   rw[<-eB,<-eL];exact z5.sub (by rw[blK];exact List.sublist_append_left ..) (bmW.refl _)
  ·rw[B]
   (repeat' (first|exact c_|refine d_ ?_ ?_))<;>first|(simp only[go_sem,g0,g4,g5,g6,g7,g8]<;>rfl)|rfl
 ·have A:¬(i:Int)<(n:Nat):=Om;have:i=n:=Om;subst this;simp only[go_sem,A,ajB];have b4:=E.at 1 rfl;have b6:=E.at 2 rfl;have osl:∀{w:PV}{z:Nat}{rows:List (List PV)},Z' rows=i->cG H0 z w rows->∃q,w=.osl q z 0 i:=by
   intro w z rows hr hO;rcases hO with⟨J,_⟩|⟨q,rs,J,_⟩
   ·rw[J]at hr;simp at hr;omega
   ·exact⟨q,by rw[J,hr]⟩
  obtain⟨q1,rfl⟩:=osl (by rw[rP,k3]) (E.own 0 rfl);obtain⟨q2,rfl⟩:=osl (by rw[bkG,k5]) (E.own 1 rfl);obtain⟨q3,rfl⟩:=osl (by rw[rP,k4]) (E.own 2 rfl);have hR:=Z (kA l i b i) rfl;simp only[go_sem,b6,b4,bkX,blD,or_false,forall_eq,forall_eq_or_imp];have x1:=E.set 1 rfl (xe (.osl q1 3 0 i) (.osl q2 1 0 i) (.osl q3 3 0 i));obtain⟨r1,s1,s2,s3,s4,s5⟩:=x1.frz 0 rfl;have u2:=s4 1 _ aU rfl;have u3:=s4 2 _ aU rfl;simp only at u2 u3;have u4:=T.frz q1 3 r1;obtain⟨r2,t1,t2,t3,t4,t5⟩:=s5.frz 0 rfl;have m3:=t4 1 _ aU rfl;simp only at m3;have m4:=T.frz q2 1 r2;obtain⟨r3,n1,n2,n3,n4,n5⟩:=t5.frz 0 rfl;have n4:=T.frz q3 3 r3;refine zN (vs:=[.agg [.str [],.osl q1 3 0 i,.osl q2 1 0 i,.osl q3 3 0 i]]) (.inr rfl) ?_ (.step s1 (.step t1 (.step n1 (.done (H2:=h_.set o (bJ v (kA l i b i).a)) ?_ (e_ a_ ?_)))))
  ·simp only[go_sem]
  ·rw[X,hR];refine⟨?_,rfl⟩;simp only[bN,PV.frz,PV.tO,blM,bmE,s2,u2,u3,t2,m3,n2];simp only[PV.eF,UK _ _ _ _,U6 _ _ _ _]
  ·have:=n5.at 0 rfl;rw[this];simp only[bA.frz,blM,bmE,u4,m4,n4];rfl
structure sO(C:Ctx):Prop extends zY C where
 law:∀(l:List Nat)(v:PV),Tp l v->∀(o fS a:Nat),0<fS->fS<=50->a<=Z' l->aH C 2 [.ptr o 2 0 0,.int .i64 fS] (h_.set o (bJ v a)) (aVF l v o fS a)
structure GOk(l:List Nat)(biV:Nat)(s:GS):Prop where
 bjE:Z' s.bjE<=35
 bjO:Z' s.bjO<=biV
 a:s.a<=Z' l
theorem wh{l:List Nat}{mc biV dom:Nat}{s:GS}(h:GOk l biV s):∀i,GOk l biV (nZ l mc biV dom s i)/\(nZ l mc biV dom s i).bjE=s.bjE
 |0=>⟨h,rfl⟩
 |i+1=>by
  obtain⟨⟨d,u,e⟩,p⟩:=wh (mc:=mc) (dom:=dom) h i;simp only[nZ];split
  ·exact⟨⟨d,by simp only[bkQ,bkV];omega,bY l mc e⟩,p⟩
  ·exact⟨⟨d,u,e⟩,p⟩
theorem awK{l:List Nat}{level dom biV:Nat}{s:GS}(h:GOk l biV s)(d:wK biV s=false):GOk l biV (sS l level dom s)/\∃x:cY,(sS l level dom s).bjE=s.bjE++[x]/\x.level=(level:Int)/\x.parent=(dom:Int):=by
 obtain⟨p,e,i⟩:=h;unfold wK at d;rw[Bool.or_eq_false_iff]at d;have u:=of_decide_eq_false d.2;refine⟨⟨?_,e,?_⟩,_,rfl,rfl,rfl⟩
 ·simp only[sS,bkQ,bkV];omega
 ·have a1:=bY l 3 (bY l 16 i);simp only[sS];split
  ·exact bY l 6 a1
  ·exact a1
theorem wj{l:List Nat}{level biV dom:Nat}{rec:Nat->GS->GS}(e:∀d t,GOk l biV t->GOk l biV (rec d t)/\∃u,(rec d t).bjE=t.bjE++u){s:GS}(h:GOk l biV s) :
  ∀i,GOk l biV (kL l level biV dom rec s i)/\∃u,(kL l level biV dom rec s i).bjE=s.bjE++u
 |0=>⟨h,[],by simp[kL]⟩
 |i+1=>by
  obtain⟨p,u,w⟩:=wj e h i;simp only[kL];split
  ·exact⟨p,u,w⟩
  ·rename_i y;obtain⟨g1,x,g2,-⟩:=awK (level:=level) (dom:=dom) p (by simpa using y);obtain⟨k1,A,k2⟩:=e ((sS l level dom (kL l level biV dom rec s i)).bjE.length-1) _ g1;exact⟨k1,u++[x]++A,by rw[k2,g2,w];simp⟩
theorem UV{l:List Nat}{mc biV:Nat}:∀(k dom:Nat){s:GS},GOk l biV s->GOk l biV (gW l mc biV k dom s)/\∃u,(gW l mc biV k dom s).bjE=s.bjE++u
 |0,dom,s,h=>by have e:GOk l biV { s with a:=(aJ l 2 s.a).2 }:=⟨h.bjE,h.bjO,bY l 2 h.a⟩;obtain⟨i,p⟩:=wh (mc:=mc) (dom:=dom) e (1+(aJ l 2 s.a).1);exact⟨i,[],by simp only[gW];rw[p];simp⟩
 |k+1,dom,s,h=>by have e:GOk l biV { s with a:=(aJ l 2 s.a).2 }:=⟨h.bjE,h.bjO,bY l 2 h.a⟩;exact wj (level:=4-k) (dom:=dom) (λd t w=>UV k d w) e (if 4-k=2 then 1 else 1+(aJ l 2 s.a).1)
theorem aKB {l : List Nat} {level biV dom : Nat} {rec : Nat -> GS -> GS} {s : GS} {i : Nat} (h : wK biV (kL l level biV dom rec s i) = true) : ∀ n, i <= n -> kL l level biV dom rec s n = kL l level biV dom rec s i := by
  intro n hn
  induction n with
  | zero => have : i = 0 := Om
            subst this; rfl
  | succ n ih =>
    rcases blI n i with h' | h'
    · have : i = n + 1 := Om
      subst this; rfl
    · have e := ih h'
      simp only [kL];rw [e, aI h]
def mkS(l:List Nat)(v:PV):Spec:=λname vs=>match name,vs with
 |29,[.str s,.int _ i]=>some ([],λ_=>aF (.str (s++cU i.toNat)))
 |47,[.int _ n]=>some ([],λ_=>aF (.agg (mkT n 1).cells))
 |4,[.ptr o _ _ _,.int _ n]=>some ([o],λd r H'=>∀a,d o=some (bJ v a)->Ar l v o n.toNat a r H')
 |_,_=>none
section
variable {C:Ctx} {F:PF} {H Hs:PH} {l:List Nat} {v:PV} {o a:Nat}
theorem yJ(u:LY C)(T:Tp l v){n:Nat}{st:Bool}{args:List aS}{d:Option Nat}{K:PF->PH->Prop}(B:n<=1000000)(w:a<=Z' l)(e:aS.evs F args=some [.ptr o 2 0 0,.int .i64 n])(E:H o=some (bJ v a))
  (i:Hs.le (H.set o (bJ v (aJ l n a).2))) (A:K (F.put d (.int .i64 ((aJ l n a).1:Nat))) (H.set o (bJ v (aJ l n a).2))):dOp C Hs (mkS l v) st (.call 4 args) d K F H:=by
 refine TZ (x:=bJ v a) (y:=bJ v (aJ l n a).2) (r:=.int .i64 ((aJ l n a).1:Nat)) (R:=λp r H'=>∀a,p o=some (bJ v a)->Ar l v o n a r H') rfl E (u.next l v T o n a B w) ?_ ?_ e i A
 ·intro b hb;rw[cW]at hb;injection hb with hb
  injection hb with _ hb
  injection hb with hb _
  injection hb with _ hb
  injection hb with hb _
  injection hb with _ hb
  have:a=b:=Om;subst this;exact⟨rfl,rfl⟩
 ·intro r' H' J;exact J a (by rw[cW])
theorem TY(p:zY C){s:List UInt8}{n:Nat}{st:Bool}{args:List aS}{d:Option Nat}{K:PF->PH->Prop}(x:Z' s<=100)(w:n<100)(e:aS.evs F args=some [.str s,.int .i64 n])(i:Hs.le H)(u:K (F.put d (.str (s++cU n))) H) :
  dOp C Hs (mkS l v) st (.call 29 args) d K F H:=
 bK (v:=.str (s++cU n)) rfl (p.name s n x w) e i u
theorem a3P(p:LY C){n:Int}{st:Bool}{args:List aS}{d:Option Nat}{K:PF->PH->Prop}(w:dJ n)(e:aS.evs F args=some [.int .i64 n])(i:Hs.le H)(u:K (F.put d (.agg (mkT n 1).cells)) H) :
  dOp C Hs (mkS l v) st (.call 47 args) d K F H:=
 bK (v:=.agg (mkT n 1).cells) rfl (p.int n w) e i u
end
theorem cG.uN{H:PH}{s:Nat}{v:PV}{rows:List (List PV)}(h:cG H s v rows):PV.uN v=some (.int .i64 (Z' rows:Nat)):=by
 rcases h with⟨rfl,rfl⟩|⟨q,rs,rfl,_⟩<;>rfl
abbrev oQ(l:List cY):List (List PV):=l.map cY.cells
abbrev rL(l:List eS):List (List PV):=l.map eS.cells
abbrev flB(ext wl e d i wp wv:PV):bA:=.rows 7 [[ext,wl,e,d,i,wp,wv]]
structure GE where
 o:Nat
 fo:Nat
 qm:Nat
 ext:PV
 wl:PV
 wp:PV
 wv:PV
abbrev GE.boxes(G:GE)(v:PV)(mc:Nat)(d e:PV)(a:Nat):List BX:=[(G.o,bJ v a),(G.fo,flB G.ext G.wl (.osl G.qm 4 0 mc) d e G.wp G.wv)]
abbrev qS(s:GS)(d e:PV):List LI:=[(d,7,oQ s.bjE),(e,3,rL s.bjO)]
def iD(G:GE)(dom biV level n i:Nat):PF:=(((((((n_.set 0 (.ptr G.o 2 0 0)).set 1 (.ptr G.fo 7 0 0)).set 2 (.int .i64 dom)).set 3 (.int .i64 biV)).set 8 (.int .i64 level)).set 9 (.int .i64 n)).set 10 (.int .i64 i))
theorem cG.one{H:PH}{s:Nat}{v:PV}{rows:List (List PV)}(h:cG H s v rows)(d:0<Z' rows):∃q,v=.osl q s 0 rows.length:=by
 rcases h with⟨rfl,_⟩|⟨q,rs,rfl,_⟩
 ·simp at d
 ·exact⟨q,rfl⟩
theorem aiJ(R:sO C){l:List Nat}{v:PV}(T:Tp l v)(G:GE)(mc biV dom n:Nat)(γ:0<mc)(X:mc<=1000)(β:biV<=60)(hn:n<=10)(s:GS)(hs:GOk l biV s)(u x:PV)(K:cH)(F:PF)(H:PH)
  (hF:(iD G dom biV 5 n 0).le F) (w:aR H (G.boxes v mc u x s.a) (qS s u x))
  (hK:∀J A Y H',aR H' (G.boxes v mc J A (nZ l mc biV dom s n).a) (qS (nZ l mc biV dom s n) J A)->K (.exit 0) Y H') :
  aC.wp C (.loop EV) K F H:=by
 refine wp_loop (α:=Nat × PV × PV × PH) (λt=>iD G dom biV 5 n t.1) (λt=>t.2.2.2) (λt=>t.1<=n/\aR t.2.2.2 (G.boxes v mc t.2.1 t.2.2.1 (nZ l mc biV dom s t.1).a) (qS (nZ l mc biV dom s t.1) t.2.1 t.2.2.1)) (λt=>n-t.1) (0,u,x,H) ⟨bkL _,w⟩ hF b_ ?_;rintro⟨i,u,x,Q⟩ ⟨hi,w⟩;simp only at hi w ⊢;obtain⟨N,-⟩:=wh (mc:=mc) (dom:=dom) hs i;have d:nZ l mc biV dom s (i+1)=(if(nZ l mc biV dom s i).bjO.length<biV then{ nZ l mc biV dom s i with bjO:=(nZ l mc biV dom s i).bjO++[⟨[100]++cU (nZ l mc biV dom s i).bjO.length,((aJ l mc (nZ l mc biV dom s i).a).1:Nat),(dom:Nat)⟩],a:=(aJ l mc (nZ l mc biV dom s i).a).2 }else nZ l mc biV dom s i):=rfl;simp only[go_sem,EV,xj,iD];by_cases hlt:i<n
 ·have p:(i:Int)<(n:Nat):=Om;generalize hg:nZ l mc biV dom s i=g at *
  have b1:=w.at 1 rfl;have O:=(w.own 1 rfl).uN;rw[bkG]at O;have S:=wZz i;simp only[go_sem,p,xk,show(((5:Nat):Int)==5)=true from rfl,aiP,b1,O];by_cases W:Z' g.bjO<biV
  ·have y:(Z' g.bjO:Int)<(biV:Nat):=Om;rw[aI W]at d;simp only[go_sem,y];have E:(h_.set G.fo (flB G.ext G.wl (.osl G.qm 4 0 mc) u x G.wp G.wv)).le Q:=e_ a_ b1;refine bP (h_.set G.fo (flB G.ext G.wl (.osl G.qm 4 0 mc) u x G.wp G.wv)) (mkS l v) E ?_;simp only[go_sem,aiQ,b1,O];refine TY R.tozY (s:=[100]) (n:=Z' g.bjO) aU (by have:=N.bjO;omega) rfl E ?_;simp only[go_sem];have ho:=w.at 0 rfl;have U:=w.set 0 rfl (bJ v (aJ l mc g.a).2);have M:=U.at 1 rfl;refine yJ R.toLY T (o:=G.o) (n:=mc) (a:=g.a) Om N.a rfl ho (e_ a_ M) ?_;have B:(1:Nat)*3<=16777216:=by decide
   simp only[go_sem,B,bkX,blD,or_false,forall_eq,forall_eq_or_imp];refine U.append 1 (src:=[(⟨[100]++cU g.bjO.length,((aJ l mc g.a).1:Nat),(dom:Nat)⟩:eS).cells]) rfl rfl (by unfold roomFor;rw[bkG];have:=N.bjO;simp only[bkV,maxLen];omega) λA H2 V hw=>?_;obtain⟨q,rfl⟩:=hw bH;have b2:=V.at 1 rfl;refine⟨e_ a_ b2,?_⟩;refine bP .nil eJ a_ ?_;simp only[go_sem,aiR,b2,bkX,blD,or_false,forall_eq];have Z:=V.set 1 rfl (flB G.ext G.wl (.osl G.qm 4 0 mc) u (.osl q 3 0 (rL g.bjO++[(⟨[100]++cU g.bjO.length,((aJ l mc g.a).1:Nat),(dom:Nat)⟩:eS).cells]).length) G.wp G.wv);refine⟨a_,?_⟩;simp only[go_sem,EW,S];refine aG (i+1,u,.osl q 3 0 (rL g.bjO++[(⟨[100]++cU g.bjO.length,((aJ l mc g.a).1:Nat),(dom:Nat)⟩:eS).cells]).length,_) ⟨hlt,?_⟩ (by simp only;omega) ?_ b_
   ·rw[d];have e:rL (g.bjO++[(⟨[100]++cU g.bjO.length,((aJ l mc g.a).1:Nat),(dom:Nat)⟩:eS)])=rL g.bjO++[(⟨[100]++cU g.bjO.length,((aJ l mc g.a).1:Nat),(dom:Nat)⟩:eS).cells]:=by simp[rL]
    unfold qS;simp only;rw[e];exact Z
   ·exact Lq
  ·have y:¬(Z' g.bjO:Int)<(biV:Nat):=Om;rw[aD W]at d;simp only[go_sem,y,EW,S];refine aG (i+1,u,x,Q) ⟨hlt,by rw[d];exact w⟩ (by simp only;omega) ?_ b_;exact Lq
 ·have p:¬(i:Int)<(n:Nat):=Om;have:i=n:=Om;subst this;simp only[go_sem,p];exact hK u x _ _ w
def aHV(G:GE)(v:PV)(mc:Nat)(s':GS)(r:PV)(B':List BX)(L':List LI):Prop:=r=.tup []/\∃d e,B'=G.boxes v mc d e s'.a/\L'=qS s' d e
def Ap(C:Ctx)(l:List Nat)(v:PV)(mc biV k:Nat):Prop:=
 ∀(G:GE)(e i:PV)(s:GS)(dom:Nat)(x:cY),GOk l biV s->s.bjE[dom]?=some x->x.level=4-(k:Int)->∀d,aR d (G.boxes v mc e i s.a) (qS s e i) ->
  aH C 7 [.ptr G.o 2 0 0,.ptr G.fo 7 0 0,.int .i64 dom,.int .i64 biV] d (λr H'=>∃B' L',aHV G v mc (gW l mc biV k dom s) r B' L'/\aR H' B' L')
theorem aQP{lv:Nat}(h:lv<=4):([45,115,114,107,109]:List UInt8)[lv]?=some (qC lv):=by
 match lv,h with
 |0,_=>rfl
 |1,_=>rfl
 |2,_=>rfl
 |3,_=>rfl
 |4,_=>rfl
theorem qx{l:List Nat}{v:PV}(G:GE)(mc biV dom lv n i k p:Nat)(γ:lv=4-k)(hk:k<4)(y:Ap C l v mc biV k)(g:GS)(x:cY)(a:Nat)(V:GOk l biV { g with bjE:=g.bjE++[x],a:=a })(hx:x.level=(lv:Nat))(W w:PV)(β:biV<=60)(K:cH)(F:PF)(H:PH)
  (d:(iD G dom biV lv n i).le F) (f11:F 11=some (.ptr p 7 0 0)) (J:aR H (G.boxes v mc W w a++[(p,.rows 7 [x.cells])]) (qS g W w))
  (hK:∀u A S H',(iD G dom biV lv n i).le S->aR H' (G.boxes v mc u A (gW l mc biV k g.bjE.length { g with bjE:=g.bjE++[x],a:=a }).a) (qS (gW l mc biV k g.bjE.length { g with bjE:=g.bjE++[x],a:=a }) u A)->K .normal S H') :
  aC.wp C (.draw ft) (kD C (aC.wp C (.region fv)) K) F H:=by
 have f0:F 0=some (.ptr G.o 2 0 0):=d 0 _ (by unfold iD;simp only[go_sem]);have f1:F 1=some (.ptr G.fo 7 0 0):=d 1 _ (by unfold iD;simp only[go_sem]);have f2:F 2=some (.int .i64 dom):=d 2 _ (by unfold iD;simp only[go_sem]);have f3:F 3=some (.int .i64 biV):=d 3 _ (by unfold iD;simp only[go_sem]);have f8:F 8=some (.int .i64 lv):=d 8 _ (by unfold iD;simp only[go_sem]);have f9:F 9=some (.int .i64 n):=d 9 _ (by unfold iD;simp only[go_sem]);have α:F 10=some (.int .i64 i):=d 10 _ (by unfold iD;simp only[go_sem]);have O:=V.bjE;simp only[bkQ,bkV]at O;have b1:=J.at 1 rfl;have b2:=J.at 2 rfl;have B:(1:Nat)*7<=16777216:=by decide
 refine bP .nil eJ a_ ?_;simp only[go_sem,ft,f1,f11,b1,b2,B,bkX,blD,or_false,forall_eq,forall_eq_or_imp];refine J.append 0 (src:=[x.cells]) rfl rfl (by unfold roomFor;rw[bkG];simp only[bkV,maxLen];omega) λu H2 E hw=>?_;obtain⟨q,rfl⟩:=hw bH;have hl:(oQ g.bjE++[x.cells]).length=Z' g.bjE+1:=by simp
 rw[hl]at E ⊢;have Y:=E.at 1 rfl;refine⟨a_,?_⟩;simp only[go_sem,Y,bkX,blD,or_false,forall_eq];have U:=E.set 1 rfl (flB G.ext G.wl (.osl G.qm 4 0 mc) (.osl q 7 0 (Z' g.bjE+1)) w G.wp G.wv);have c2:=U.at 1 rfl;refine⟨a_,?_⟩;have e:oQ (g.bjE++[x])=oQ g.bjE++[x.cells]:=by simp[oQ]
 have Z:i_.wrap (((Z' g.bjE+1:Nat):Int)-1)=(Z' g.bjE:Int):=by rw[wrap_i64 Om Om];omega
 simp only[go_sem,fv,f0,f1,f3,Z];have h4:aR (H2.set G.fo (flB G.ext G.wl (.osl G.qm 4 0 mc) (.osl q 7 0 (Z' g.bjE+1)) w G.wp G.wv)) (G.boxes v mc (.osl q 7 0 (Z' g.bjE+1)) w a++[(p,.rows 7 [x.cells])]) (qS { g with bjE:=g.bjE++[x],a:=a } (.osl q 7 0 (Z' g.bjE+1)) w++[]):=by unfold qS;simp only;rw[e];exact U
 refine RA h4 (λX N=>y G _ w { g with bjE:=g.bjE++[x],a:=a } g.bjE.length x V bH (by rw[hx];omega) X N) rfl ?_;rintro r B' L' H' ⟨rfl,Q,R,rfl,rfl⟩ M;refine hK Q R _ _ ?_ (M.sub (List.sublist_append_left ..) (by rw[bmJ];exact bmW.refl _));unfold iD;exact Lq
theorem bi(V:sO C){l:List Nat}{v:PV}(T:Tp l v)(G:GE)(mc biV dom n k:Nat)(hk:k<4)(X:biV<=60)(hn:n<=10)(R:Ap C l v mc biV k)(s:GS)(hs:GOk l biV s)(ζ:0<Z' s.bjE)(O Q:PV)(K:cH)(F:PF)(H:PH)
  (hF:(iD G dom biV (4-k) n 0).le F) (E:aR H (G.boxes v mc O Q s.a) (qS s O Q))
  (hK:∀e A B y H',(e=.exit 0\/e=.ret)->aR H' (G.boxes v mc A B (kL l (4-k) biV dom (gW l mc biV k) s n).a) (qS (kL l (4-k) biV dom (gW l mc biV k) s n) A B)->K e y H') :
  aC.wp C (.loop EV) K F H:=by
 obtain⟨lv,U⟩:∃lv,lv=4-k:=⟨_,rfl⟩;rw[<-U]at hF hK;refine wp_loop (α:=Nat × PV × PV × PH) (λt=>iD G dom biV lv n t.1) (λt=>t.2.2.2) (λt=>t.1<=n/\aR t.2.2.2 (G.boxes v mc t.2.1 t.2.2.1 (kL l lv biV dom (gW l mc biV k) s t.1).a) (qS (kL l lv biV dom (gW l mc biV k) s t.1) t.2.1 t.2.2.1)) (λt=>n-t.1) (0,O,Q,H) ⟨bkL _,E⟩ hF b_ ?_;rintro⟨i,O,Q,H0⟩ ⟨hi,E⟩;simp only at hi E ⊢;obtain⟨Z,u,gu⟩:=wj (level:=lv) (dom:=dom) (λd t ht=>UV (mc:=mc) k d ht) hs i;have M:=λh=>aKB (l:=l) (level:=lv) (biV:=biV) (dom:=dom) (rec:=gW l mc biV k) (s:=s) (i:=i) h n hi;have x:kL l lv biV dom (gW l mc biV k) s (i+1)=(if wK biV (kL l lv biV dom (gW l mc biV k) s i)then kL l lv biV dom (gW l mc biV k) s i else gW l mc biV k ((sS l lv dom (kL l lv biV dom (gW l mc biV k) s i)).bjE.length-1) (sS l lv dom (kL l lv biV dom (gW l mc biV k) s i))):=rfl;simp only[go_sem,EV,xj,iD];by_cases hlt:i<n
 ·have N:(i:Int)<(n:Nat):=Om;generalize hg:kL l lv biV dom (gW l mc biV k) s i=g at *
  have ε:0<Z' g.bjE:=by rw[gu,bkQ];omega
  have b1:=E.at 1 rfl;have lr:=(E.own 1 rfl).uN;have ld:=(E.own 0 rfl).uN;rw[bkG]at lr ld;have ei:=wZz i;simp only[go_sem,N,xk,bL (Om:((lv:Nat):Int)≠5),S3,b1,lr];by_cases c1:biV<=Z' g.bjO
  ·have W:wK biV g=true:=by unfold wK;simp[c1]
   simp only[go_sem,show(Z' g.bjO:Int)>=(biV:Nat) by omega];exact hK _ O Q _ _ (.inr rfl) (by rw[M W];exact E)
  simp only[go_sem,show ¬(Z' g.bjO:Int)>=(biV:Nat) by omega,b1,ld];by_cases c2:35<=Z' g.bjE
  ·have W:wK biV g=true:=by unfold wK;simp[c2]
   simp only[go_sem,show(Z' g.bjE:Int)>=35 by omega];exact hK _ O Q _ _ (.inr rfl) (by rw[M W];exact E)
  have W:wK biV g=false:=by unfold wK;simp[c1,c2]
  rw[aD (by rw[W];decide)]at x;simp only[go_sem,show ¬(Z' g.bjE:Int)>=35 by omega];have ls:=aQP (Om:lv<=4);refine bP .nil (mkS l v) a_ ?_;have γ:jX [[PV.int IntKind.u8 (((qC lv).toNat:Nat):Int)]]=some [qC lv]:=by simp[jX]
  obtain⟨Y,x0,β,-⟩:=awK (level:=lv) (dom:=dom) Z W;have δ:(sS l lv dom g).bjE.length-1=Z' g.bjE:=by rw[β];simp
  rw[δ]at x;have h1:=E.set 0 rfl (bJ v (aJ l 16 g.a).2);have a1:=bY l 16 Z.a;have n1:=cR l (show 0<16 by decide) g.a;have e1:i_.wrap (1+((aJ l 16 g.a).1:Int))=((1+(aJ l 16 g.a).1:Nat):Int):=by rw[wrap_i64 Om Om];omega
  simp only[go_sem,S4,ls,γ,b1,ld];refine TY V.tozY (s:=[qC lv]) (n:=Z' g.bjE) bH (by have:=Z.bjE;omega) rfl a_ ?_;simp only[go_sem];refine yJ V.toLY T (o:=G.o) (n:=16) (a:=g.a) Om Z.a rfl (E.at 0 rfl) a_ ?_;simp only[go_sem,e1];refine a3P V.toLY (n:=0) (by unfold dJ;omega) rfl a_ ?_;simp only[go_sem,bkX,blD,or_false,forall_eq,forall_eq_or_imp];refine aP λp hp=>?_;have h2:=h1.new hp (.rows 7 [(⟨[qC lv]++cU g.bjE.length,(lv:Nat),(dom:Nat),(1+(aJ l 16 g.a).1:Nat),oE⟩:cY).cells]);simp only[go_sem,bkX,blD,or_false,forall_eq,forall_eq_or_imp];refine⟨a_,?_⟩;simp only[go_sem,S5];refine eP V.toLY T (o:=G.o) (n:=3) (a:=(aJ l 16 g.a).2) aU a1 rfl (h2.at 0 rfl) ?_;have h3:=h2.set 0 rfl (bJ v (aJ l 3 (aJ l 16 g.a).2).2);have a2:=bY l 3 a1;by_cases c3:(aJ l 3 (aJ l 16 g.a).2).1=0
  ·have hd:sS l lv dom g={ g with bjE:=g.bjE++[⟨[qC lv]++cU g.bjE.length,(lv:Nat),(dom:Nat),(1+(aJ l 16 g.a).1:Nat),mkT 1 ((2+(aJ l 6 (aJ l 3 (aJ l 16 g.a).2).2).1:Nat):Int)⟩],a:=(aJ l 6 (aJ l 3 (aJ l 16 g.a).2).2).2 }:=by unfold sS;simp only[c3,if_true]
   rw[hd]at x Y;have n2:=cR l (show 0<6 by decide) (aJ l 3 (aJ l 16 g.a).2).2;have e2:i_.wrap (2+((aJ l 6 (aJ l 3 (aJ l 16 g.a).2).2).1:Int))=((2+(aJ l 6 (aJ l 3 (aJ l 16 g.a).2).2).1:Nat):Int):=by rw[wrap_i64 Om Om];omega
   simp only[go_sem,bW (show(((aJ l 3 (aJ l 16 g.a).2).1:Nat):Int)=0 by omega),S6];refine eP V.toLY T (o:=G.o) (n:=6) (a:=(aJ l 3 (aJ l 16 g.a).2).2) aU a2 rfl (h3.at 0 rfl) ?_;have h4:=h3.set 0 rfl (bJ v (aJ l 6 (aJ l 3 (aJ l 16 g.a).2).2).2);rw[PH.set_set]at h4;simp only[go_sem,e2];refine aB (V.fmk 1 ((2+(aJ l 6 (aJ l 3 (aJ l 16 g.a).2).2).1:Nat):Int) (by unfold dJ;omega) (by unfold dJ;omega)) rfl ?_;unfold xU;rw[aD Om];simp only[go_sem,show ¬p=G.o from h4.ne 2 0 rfl rfl aU];have h5:=h4.set 2 rfl (.rows 7 [(⟨[qC lv]++cU g.bjE.length,(lv:Nat),(dom:Nat),(1+(aJ l 16 g.a).1:Nat),mkT 1 ((2+(aJ l 6 (aJ l 3 (aJ l 16 g.a).2).2).1:Nat):Int)⟩:cY).cells])
   try simp only[Pd]
   refine qx G mc biV dom lv n i k p U hk R g _ _ Y rfl O Q X _ _ _ (by unfold iD;exact Lq) rfl h5 ?_;intro A B y H' w J;rw[<-x]at J;have S:y 10=some (.int .i64 i):=w 10 _ (by unfold iD;simp only[go_sem]);have g0:y 0=some (.ptr G.o 2 0 0):=w 0 _ (by unfold iD;simp only[go_sem]);have g1:y 1=some (.ptr G.fo 7 0 0):=w 1 _ (by unfold iD;simp only[go_sem]);have g2:y 2=some (.int .i64 dom):=w 2 _ (by unfold iD;simp only[go_sem]);have g3:y 3=some (.int .i64 biV):=w 3 _ (by unfold iD;simp only[go_sem]);have g8:y 8=some (.int .i64 lv):=w 8 _ (by unfold iD;simp only[go_sem]);have g9:y 9=some (.int .i64 n):=w 9 _ (by unfold iD;simp only[go_sem]);simp only[go_sem,EW,S,ei];refine aG (i+1,A,B,H') ⟨hlt,J⟩ (by simp only;omega) ?_ b_;exact Lq
  ·have hd:sS l lv dom g={ g with bjE:=g.bjE++[⟨[qC lv]++cU g.bjE.length,(lv:Nat),(dom:Nat),(1+(aJ l 16 g.a).1:Nat),oE⟩],a:=(aJ l 3 (aJ l 16 g.a).2).2 }:=by unfold sS;simp only[c3,if_false]
   rw[hd]at x Y;simp only[go_sem,bL (show ¬(((aJ l 3 (aJ l 16 g.a).2).1:Nat):Int)=0 by omega)]
   try simp only[Pd]
   refine qx G mc biV dom lv n i k p U hk R g _ _ Y rfl O Q X _ _ _ (by unfold iD;exact Lq) rfl h3 ?_;intro A B y H' w J;rw[<-x]at J;have S:y 10=some (.int .i64 i):=w 10 _ (by unfold iD;simp only[go_sem]);have g0:y 0=some (.ptr G.o 2 0 0):=w 0 _ (by unfold iD;simp only[go_sem]);have g1:y 1=some (.ptr G.fo 7 0 0):=w 1 _ (by unfold iD;simp only[go_sem]);have g2:y 2=some (.int .i64 dom):=w 2 _ (by unfold iD;simp only[go_sem]);have g3:y 3=some (.int .i64 biV):=w 3 _ (by unfold iD;simp only[go_sem]);have g8:y 8=some (.int .i64 lv):=w 8 _ (by unfold iD;simp only[go_sem]);have g9:y 9=some (.int .i64 n):=w 9 _ (by unfold iD;simp only[go_sem]);simp only[go_sem,EW,S,ei];refine aG (i+1,A,B,H') ⟨hlt,J⟩ (by simp only;omega) ?_ b_;exact Lq
 ·have N:¬(i:Int)<(n:Nat):=Om;have:i=n:=Om;subst this;simp only[go_sem,N];exact hK _ O Q _ _ (.inl rfl) E
theorem aiK(N:sO C){l:List Nat}{v:PV}(T:Tp l v)(mc biV k:Nat)(S:0<mc)(H:mc<=1000)(A:biV<=60)(hk:k<=4)(K:∀Y,k=Y+1->Ap C l v mc biV Y)(G:GE)(V M:PV)(s:GS)(dom:Nat)(x:cY)
  (O:GOk l biV s) (X:s.bjE[dom]?=some x) (hl:x.level=4-(k:Int)) (Q:PH) (E:aR Q (G.boxes v mc V M s.a) (qS s V M)) :
  HB.wp C (aX Zd.res (λr H'=>∃B' L',aHV G v mc (gW l mc biV k dom s) r B' L'/\aR H' B' L')) (g_ [.ptr G.o 2 0 0,.ptr G.fo 7 0 0,.int .i64 dom,.int .i64 biV]) Q:=by
 have y:dom<Z' s.bjE:=(blQ.1 X).1;have b1:=E.at 1 rfl;have fin:∀(e:nY)(d i:PV)(u:PF)(H':PH),(e=.exit 0\/e=.ret)->aR H' (G.boxes v mc d i (gW l mc biV k dom s).a) (qS (gW l mc biV k dom s) d i) ->
   gE 0 (aX Zd.res (λr H'=>∃B' L',aHV G v mc (gW l mc biV k dom s) r B' L'/\aR H' B' L')) e u H':=by
  intro e d i u H' F p;rcases F with rfl|rfl
  ·rw[NY,aI rfl];exact bG (vs:=[]) (.inl rfl) H' rfl b_ ⟨_,_,⟨rfl,d,i,rfl,rfl⟩,p⟩
  ·exact bG (vs:=[]) (.inr rfl) H' rfl b_ ⟨_,_,⟨rfl,d,i,rfl,rfl⟩,p⟩
 obtain⟨q,rs,e1,e2,e3,e4⟩:∃q rs,V=.osl q 7 0 s.bjE.length/\Q q=some (.rows 7 rs)/\Z' s.bjE<=Z' rs/\rs.take s.bjE.length=oQ s.bjE:=by
  rcases E.own 0 rfl with⟨w,_⟩|⟨q,rs,w,h2,h3,h4⟩
  ·have:=congrArg List.length w;rw[bkG]at this;simp at this;rw[this]at y;simp at y
  ·rw[bkG]at w h3 h4;exact⟨q,rs,w,h2,h3,h4⟩
 have U:rs[dom]?=some x.cells:=by
  have:(oQ s.bjE)[dom]?=some x.cells:=by simp[oQ,X]
  rw[<-e4,List.getElem?_take_of_lt y]at this;exact this
 subst e1;have Z:(dom:Int)<(Z' s.bjE:Nat):=Om;have ew:i_.wrap (x.level+1)=((5-k:Nat):Int):=by rw[hl,wrap_i64 Om Om];omega
 have β:=cR l (show 0<2 by decide) s.a;have en:i_.wrap (1+((aJ l 2 s.a).1:Int))=((1+(aJ l 2 s.a).1:Nat):Int):=by rw[wrap_i64 Om Om];omega
 have w:=E.set 0 rfl (bJ v (aJ l 2 s.a).2);have B:GOk l biV { s with a:=(aJ l 2 s.a).2 }:=⟨O.bjE,O.bjO,bY l 2 O.a⟩;have α:¬q=G.o:=λh=>E.neL 0 0 rfl rfl rfl h.symm;simp only[go_sem,HB,aiL,b1,Z,e2,U,ew,aiM];refine eP N.toLY T (o:=G.o) (n:=2) (a:=s.a) aU O.a (by simp only[go_sem];rfl) (E.at 0 rfl) ?_;simp only[go_sem,en,aiN];cases k with
 |zero=>
  simp only[go_sem,bL (Om:¬((5-0:Nat):Int)=2),WD];refine aiJ (C:=C) N T G mc biV dom (1+(aJ l 2 s.a).1) S H A Om { s with a:=(aJ l 2 s.a).2 } B _ M _ _ _ ?_ w ?_
  ·unfold iD;exact Lq
  ·intro d i u H' p;exact fin _ d i u H' (.inl rfl) p
 |succ k=>
  have J:=K k rfl;by_cases W:4-k=2
  ·have R:gW l mc biV (k+1) dom s=kL l (4-k) biV dom (gW l mc biV k) { s with a:=(aJ l 2 s.a).2 } 1:=by simp only[gW,aI W]
   simp only[go_sem,bW (show((5-(k+1):Nat):Int)=2 by omega),aiO,WD];refine bi (C:=C) N T G mc biV dom 1 k Om A aU J { s with a:=(aJ l 2 s.a).2 } B (by simp only;omega) _ M _ _ _ ?_ w ?_
   ·unfold iD
    (repeat' (first|exact c_|refine d_ ?_ ?_))<;>first|(simp only[go_sem,show 4-k=5-(k+1) by omega]<;>rfl)|rfl
   ·intro e d i u H' F p;rw[<-R]at p;exact fin e d i u H' F p
  ·have R:gW l mc biV (k+1) dom s=kL l (4-k) biV dom (gW l mc biV k) { s with a:=(aJ l 2 s.a).2 } (1+(aJ l 2 s.a).1):=by simp only[gW,aD W]
   simp only[go_sem,bL (show ¬((5-(k+1):Nat):Int)=2 by omega),WD];refine bi (C:=C) N T G mc biV dom (1+(aJ l 2 s.a).1) k Om A Om J { s with a:=(aJ l 2 s.a).2 } B (by simp only;omega) _ M _ _ _ ?_ w ?_
   ·unfold iD
    (repeat' (first|exact c_|refine d_ ?_ ?_))<;>first|(simp only[go_sem,show 4-k=5-(k+1) by omega]<;>rfl)|rfl
   ·intro e d i u H' F p;rw[<-R]at p;exact fin e d i u H' F p
theorem afY(w:sO C){l:List Nat}{v:PV}(T:Tp l v)(mc biV:Nat)(p:0<mc)(d:mc<=1000)(i:biV<=60)
  (y:∀(args:List PV)(H:PH)(R:PV->PH->Prop),Z' args=4->HB.wp C (aX Zd.res R) (g_ args) H->aH C 7 args H R):∀k,k<=4->Ap C l v mc biV k
 |0,h=>λG J K s dom x E F B u A=>y _ _ _ rfl (aiK w T mc biV 0 p d i h (λ_ e=>by omega) G J K s dom x E F B u A)
 |k+1,h=>λG J K s dom x E F B u A=>y _ _ _ rfl (aiK w T mc biV (k+1) p d i h (λM e=>by have:M=k:=Om;subst this;exact afY w T mc biV p d i y M Om) G J K s dom x E F B u A)
theorem a5F(l:List Nat)(fS:Nat){a:Nat}(h:a<=Z' l):(xF l fS a).2<=Z' l:=(M6 l (1+(aJ l fS a).1) (bY l fS h) (1+(aJ l fS a).1)).1
theorem VI(l:List Nat){a:Nat}(h:a<=Z' l):∀k,(kU l a k).2<=Z' l/\(kU l a k).1.length=k
 |0=>⟨h,rfl⟩
 |k+1=>by obtain⟨d,e⟩:=VI l h k;exact⟨a5F l 2 d,by simp only[kU,bkQ,bkV,e]⟩
theorem HD(l:List Nat)(bjC:Nat){a:Nat}(h:a<=Z' l):∀k,(fX l bjC a k).2<=Z' l/\(fX l bjC a k).1.length=k
 |0=>⟨h,rfl⟩
 |k+1=>by obtain⟨d,e⟩:=HD l bjC h k;exact⟨bY l bjC (bY l 8 (bY l 4 d)),by simp only[fX,bkQ,bkV,e]⟩
structure FE where
 o:Nat
 o6:Nat
 o7:Nat
 biV:Nat
 biX:Nat
abbrev flZ:bA:=flB (.int .i64 0) .aK .aK .aK .aK .aK .aK
abbrev FE.boxes(E:FE)(v ext d e i l p u:PV)(a:Nat):List BX:=[(E.o,bJ v a),(E.o7,flB ext d e i l p u),(E.o6,flZ)]
def jZ(E:FE):PF:=(((((n_.set 0 (.ptr E.o 2 0 0)).set 1 (.int .i64 E.biV)).set 2 (.int .i64 E.biX)).set 6 (.ptr E.o6 7 0 0)).set 7 (.ptr E.o7 7 0 0))
abbrev lS(l:List dB):List (List PV):=l.map dB.cells
abbrev oF(l:List dW):List (List PV):=l.map dW.cells
theorem mp{E:FE}{F:PF}(d:F 0=some (.ptr E.o 2 0 0))(e:F 1=some (.int .i64 E.biV))(i:F 2=some (.int .i64 E.biX))(l:F 6=some (.ptr E.o6 7 0 0))(h7:F 7=some (.ptr E.o7 7 0 0)):(jZ E).le F:=
 d_ (d_ (d_ (d_ (d_ c_ d) e) i) l) h7
theorem aYO(O:sO C){l:List Nat}{v:PV}(T:Tp l v)(E:FE)(n a:Nat)(hn:n<=10)(W:a<=Z' l)(ext:PV)(K:cH)(F:PF)(H:PH)
  (U:(((jZ E).set 8 (.int .i64 n)).set 9 (.int .i64 0)).le F) (x:aR H (E.boxes v ext .aK .aK .aK .aK .aK .aK a) [])
  (V:∀J N H',(jZ E).le N->aR H' (E.boxes v ext J .aK .aK .aK .aK .aK (kU l a n).2) [(J,4,lS (kU l a n).1)]->K (.exit 0) N H') :
  aC.wp C (.loop fq) K F H:=by
 refine wp_loop (α:=Nat × PV × PH) (λt=>((jZ E).set 8 (.int .i64 n)).set 9 (.int .i64 t.1)) (λt=>t.2.2) (λt=>t.1<=n/\aR t.2.2 (E.boxes v ext t.2.1 .aK .aK .aK .aK .aK (kU l a t.1).2) [(t.2.1,4,lS (kU l a t.1).1)]) (λt=>n-t.1) (0,.aK,H) ⟨bkL _,x.rA 4⟩ U b_ ?_;rintro⟨i,J,Y⟩ ⟨hi,x⟩;simp only at hi x ⊢;obtain⟨k1,k2⟩:=VI l W i;have w:kU l a (i+1)=((kU l a i).1++[{ (xF l 2 (kU l a i).2).1 with name:=[108,97,119]++cU i }],(xF l 2 (kU l a i).2).2):=rfl;simp only[go_sem,fq,Sx,jZ];by_cases hlt:i<n
 ·have d:(i:Int)<(n:Nat):=Om;generalize Z:kU l a i=g at *
  simp only[go_sem,d,Sy];refine qA (O.law l v T E.o 2 g.2 aU aU k1) (x.at 0 rfl) rfl ?_;have R:=x.set 0 rfl (bJ v (xF l 2 g.2).2);generalize hz:xF l 2 g.2=z at *
  simp only[go_sem];refine aP λp hp=>?_;have S:=R.new hp (.rows 4 [z.1.cells]);simp only[go_sem,Sz,bkX,blD,or_false,forall_eq,forall_eq_or_imp];refine aB (O.name [108,97,119] i aU Om) rfl ?_;have y:=S.set 3 rfl (.rows 4 [({ z.1 with name:=[108,97,119]++cU i }:dB).cells]);rw[PH.set_set]at y;have b1:=y.at 1 rfl;have A:¬E.o7=p:=y.ne 1 3 rfl rfl aU;have u:¬E.o7=E.o:=y.ne 1 0 rfl rfl aU;simp only[bD,aD A,aD u]at b1;have M:(1:Nat)*4<=16777216:=by decide
  simp only[go_sem,S0,A,u,b1,M,bkX,blD,or_false,forall_eq,forall_eq_or_imp];refine y.append 0 (src:=[({ z.1 with name:=[108,97,119]++cU i }:dB).cells]) rfl rfl (by unfold roomFor;rw[bkG];simp only[bkV,maxLen];omega) λw' H2 Q X=>?_;obtain⟨q,rfl⟩:=X bH;have b2:=Q.at 1 rfl;simp only[go_sem,b2,bkX,blD,or_false,forall_eq];have h5:=Q.set 1 rfl (flB ext (.osl q 4 0 (lS g.1++[({ z.1 with name:=[108,97,119]++cU i }:dB).cells]).length) .aK .aK .aK .aK .aK);simp only[go_sem,S1,wZz i];refine aG (i+1,.osl q 4 0 (lS g.1++[({ z.1 with name:=[108,97,119]++cU i }:dB).cells]).length,_) ⟨hlt,?_⟩ (by simp only;omega) ?_ b_
  ·rw[w];have e:lS (g.1++[{ z.1 with name:=[108,97,119]++cU i }])=lS g.1++[({ z.1 with name:=[108,97,119]++cU i }:dB).cells]:=by simp[lS]
   simp only;rw[e];exact h5.dropLast (B:=E.boxes v ext _ .aK .aK .aK .aK .aK z.2)
  ·exact Lq
 ·have d:¬(i:Int)<(n:Nat):=Om;have:i=n:=Om;subst this;simp only[go_sem,d];exact V J _ _ (mp rfl rfl rfl rfl rfl) x
theorem aLB(Q:sO C){l:List Nat}{v:PV}(T:Tp l v)(E:FE)(n a nl:Nat)(hn:n<=10)(β:nl<=1000)(ha:a<=Z' l)(ext p:PV)(bjC:List dB)(V:Z' bjC=nl)(K:cH)(F:PF)(H:PH)
  (hF:(((jZ E).set 11 (.int .i64 n)).set 12 (.int .i64 0)).le F) (u:aR H (E.boxes v ext p .aK .aK .aK .aK .aK a) [(p,4,lS bjC)])
  (hK:∀B R H',(jZ E).le R->R 11=some (.int .i64 n)->aR H' (E.boxes v ext p B .aK .aK .aK .aK (fX l nl a n).2) [(p,4,lS bjC),(B,4,oF (fX l nl a n).1)]->K (.exit 2) R H') :
  aC.wp C (.loop VR) K F H:=by
 refine wp_loop (α:=Nat × PV × PH) (λt=>((jZ E).set 11 (.int .i64 n)).set 12 (.int .i64 t.1)) (λt=>t.2.2) (λt=>t.1<=n/\aR t.2.2 (E.boxes v ext p t.2.1 .aK .aK .aK .aK (fX l nl a t.1).2) [(p,4,lS bjC),(t.2.1,4,oF (fX l nl a t.1).1)]) (λt=>n-t.1) (0,.aK,H) ⟨bkL _,u.rA 4⟩ hF b_ ?_;rintro⟨i,B,H0⟩ ⟨hi,u⟩;simp only at hi u ⊢;obtain⟨k1,k2⟩:=HD l nl ha i;have w:fX l nl a (i+1)=((fX l nl a i).1++[⟨[109]++cU i,(1+(aJ l 4 (fX l nl a i).2).1:Nat),(1+(aJ l 8 (aJ l 4 (fX l nl a i).2).2).1:Nat),((aJ l nl (aJ l 8 (aJ l 4 (fX l nl a i).2).2).2).1:Nat)⟩],(aJ l nl (aJ l 8 (aJ l 4 (fX l nl a i).2).2).2).2):=rfl;simp only[go_sem,VR,Fh,jZ];by_cases hlt:i<n
 ·have d:(i:Int)<(n:Nat):=Om;generalize hg:fX l nl a i=g at *
  have hx:=cR l (show 0<4 by decide) g.2;have W:=bY l 4 k1;have hy:=cR l (show 0<8 by decide) (aJ l 4 g.2).2;have X:=bY l 8 W;have az:=bY l nl X;have S:=u.set 0 rfl (bJ v (aJ l 4 g.2).2);have A:=S.set 0 rfl (bJ v (aJ l 8 (aJ l 4 g.2).2).2);have h3:=A.set 0 rfl (bJ v (aJ l nl (aJ l 8 (aJ l 4 g.2).2).2).2);generalize M:aJ l 4 g.2=x at *
  generalize N:aJ l 8 x.2=y at *
  generalize O:aJ l nl y.2=z at *
  have b1:=u.at 1 rfl;have Z:=(u.own 0 rfl).uN;rw[bkG,V]at Z;have J:(h_.set E.o7 (flB ext p B .aK .aK .aK .aK)).le H0:=e_ a_ b1;have ex:i_.wrap (1+(x.1:Int))=((1+x.1:Nat):Int):=by rw[wrap_i64 Om Om];omega
  have ey:i_.wrap (1+(y.1:Int))=((1+y.1:Nat):Int):=by rw[wrap_i64 Om Om];omega
  simp only[go_sem,d];refine bP (h_.set E.o7 (flB ext p B .aK .aK .aK .aK)) (mkS l v) J ?_;simp only[go_sem,Fi];refine TY Q.tozY (s:=[109]) (n:=i) aU Om rfl J ?_;simp only[go_sem];refine yJ Q.toLY T (o:=E.o) (n:=4) (a:=g.2) aU k1 rfl (u.at 0 rfl) ?_ ?_
  ·rw[M];exact e_ a_ (S.at 1 rfl)
  rw[M];simp only[go_sem,ex];refine yJ Q.toLY T (o:=E.o) (n:=8) (a:=x.2) aU W rfl (S.at 0 rfl) ?_ ?_
  ·rw[N];exact e_ a_ (A.at 1 rfl)
  rw[N];simp only[go_sem,ey,Z];rw[PH.set_set]at A;refine yJ Q.toLY T (o:=E.o) (n:=nl) (a:=y.2) Om X rfl (A.at 0 rfl) ?_ ?_
  ·rw[O];exact e_ a_ ((A.set 0 rfl (bJ v z.2)).at 1 rfl)
  rw[O];have Y:=A.set 0 rfl (bJ v z.2);have U:(1:Nat)*4<=16777216:=by decide
  simp only[go_sem,U,bkX,blD,or_false,forall_eq,forall_eq_or_imp];rw[PH.set_set]at Y;refine Y.append 1 (src:=[(⟨[109]++cU i,(1+x.1:Nat),(1+y.1:Nat),(z.1:Nat)⟩:dW).cells]) rfl rfl (by unfold roomFor;rw[bkG];simp only[bkV,maxLen];omega) λw' H2 h5 hw=>?_;obtain⟨q,rfl⟩:=hw bH;have b2:=h5.at 1 rfl;refine⟨e_ a_ b2,?_⟩;refine bP .nil eJ a_ ?_;simp only[go_sem,Fj,b2,bkX,blD,or_false,forall_eq];have h6:=h5.set 1 rfl (flB ext p (.osl q 4 0 (oF g.1++[(⟨[109]++cU i,(1+x.1:Nat),(1+y.1:Nat),(z.1:Nat)⟩:dW).cells]).length) .aK .aK .aK .aK);refine⟨a_,?_⟩;simp only[go_sem,Fk,wZz i];refine aG (i+1,.osl q 4 0 (oF g.1++[(⟨[109]++cU i,(1+x.1:Nat),(1+y.1:Nat),(z.1:Nat)⟩:dW).cells]).length,_) ⟨hlt,?_⟩ (by simp only;omega) ?_ b_
  ·rw[w];have e:oF (g.1++[⟨[109]++cU i,(1+x.1:Nat),(1+y.1:Nat),(z.1:Nat)⟩])=oF g.1++[(⟨[109]++cU i,(1+x.1:Nat),(1+y.1:Nat),(z.1:Nat)⟩:dW).cells]:=by simp[oF]
   simp only;rw[e];exact h6
  ·exact Lq
 ·have d:¬(i:Int)<(n:Nat):=Om;have:i=n:=Om;subst this;simp only[go_sem,d];exact hK B _ _ (mp rfl rfl rfl rfl rfl) rfl u
abbrev FP(x:cJ)(w:PV):List PV:=[.str x.name,.int .i64 x.k,.int .i64 x.m,.int .i64 x.bjT,.int .i64 x.s0,.int .i64 x.s1,.int .i64 x.s2,.int .i64 x.s3,.int .i64 x.s4,w,frs x.repair,
 .bool x.target.neg,aN x.target.num,aN x.target.den,.bool x.bjF.neg,aN x.bjF.num,aN x.bjF.den]
def Nb(E:FE)(mc n i:Nat):PF:=(((jZ E).set 11 (.int .i64 mc)).set 13 (.int .i64 n)).set 14 (.int .i64 i)
structure PAt(E:FE)(mc n i:Nat)(F:PF):Prop where
 f0:F 0=some (.ptr E.o 2 0 0)
 f1:F 1=some (.int .i64 E.biV)
 f2:F 2=some (.int .i64 E.biX)
 f6:F 6=some (.ptr E.o6 7 0 0)
 f7:F 7=some (.ptr E.o7 7 0 0)
 f11:F 11=some (.int .i64 mc)
 f13:F 13=some (.int .i64 n)
 f14:F 14=some (.int .i64 i)
def xJ(l:List Nat)(a:Nat):Nat->List Int × Nat
 |0=>([],a)
 |j+1=>let s:=xJ l a j
  let t:=kW l s.2
  (s.1++[t.1],t.2)
theorem BP(l:List Nat){a:Nat}(h:a<=Z' l):(kW l a).2<=Z' l:=by
 unfold kW;simp only;split
 ·exact bY l 3 (bY l 3 h)
 ·exact bY l 3 h
theorem Ou(l:List Nat){a:Nat}(h:a<=Z' l):∀j,(xJ l a j).2<=Z' l/\(xJ l a j).1.length=j
 |0=>⟨h,rfl⟩
 |j+1=>by obtain⟨d,e⟩:=Ou l h j;exact⟨BP l d,by simp only[xJ,bkQ,bkV,e]⟩
abbrev xI(pre post:List PV)(s:List Int):List PV:=pre++(s.map λx=>PV.int .i64 x)++bkM (4-Z' s) (.int .i64 0)++post
theorem a7F{pre post:List PV}{s:List Int}(hp:Z' pre=5)(e:Z' s<4)(x:Int):(xI pre post s).set (5+Z' s) (.int .i64 x)=xI pre post (s++[x]):=by
 obtain⟨k,d⟩:∃k,4-Z' s=k+1:=⟨3-Z' s,by omega⟩;unfold xI;rw[bkQ,bkV,show 4-(Z' s+1)=k by omega,d,List.replicate_succ,blK,blM,bmE];rw[List.set_append_left _ _ (by simp[hp]),bnJ _ _ (by simp[hp])];have:5+Z' s-(pre++s.map λx=>PV.int .i64 x).length=0:=by simp[hp]
 rw[this,boF];simp
theorem a0P{pre post:List PV}{s:List Int}(hp:Z' pre=5)(e:Z' s<4):xI pre post s=xI pre post (s++[0]):=by
 obtain⟨k,d⟩:∃k,4-Z' s=k+1:=⟨3-Z' s,by omega⟩;unfold xI;rw[bkQ,bkV,show 4-(Z' s+1)=k by omega,d,List.replicate_succ,blK,blM,bmE];simp
theorem aLC(Z:sO C){l:List Nat}{v:PV}(T:Tp l v)(E:FE)(mc n i a p:Nat)(ha:a<=Z' l)(B:List BX)(L:List LI)(pre post:List PV)(d:Z' pre=5)(y:Z' post=8)(K:cH)(F:PF)(H:PH)
  (u:PAt E mc n i F) (S:F 15=some (.ptr p 17 0 0)) (U:F 16=some (.int .i64 1)) (A:aR H ((E.o,bJ v a)::B++[(p,.rows 17 [xI pre post []])]) L)
  (hK:∀Q H',PAt E mc n i Q->Q 15=some (.ptr p 17 0 0)->aR H' ((E.o,bJ v (xJ l a 4).2)::B++[(p,.rows 17 [xI pre post (xJ l a 4).1])]) L->K (.exit 6) Q H') :
  aC.wp C (.loop GU) K F H:=by
 refine wp_loop (α:=Nat × PH) (λt=>((Nb E mc n i).set 15 (.ptr p 17 0 0)).set 16 (.int .i64 (t.1+1:Nat))) (λt=>t.2) (λt=>t.1<=4/\aR t.2 ((E.o,bJ v (xJ l a t.1).2)::B++[(p,.rows 17 [xI pre post (xJ l a t.1).1])]) L) (λt=>4-t.1) (0,H) ⟨bkL _,A⟩ ?_ b_ ?_
 ·unfold Nb jZ
  (repeat' (first|exact c_|refine d_ ?_ ?_))<;>first|(simp only[go_sem,u.f0,u.f1,u.f2,u.f6,u.f7,u.f11,u.f13,u.f14,S,U]<;>rfl)|rfl
 rintro⟨j,H0⟩ ⟨hj,A⟩;simp only at hj A ⊢;obtain⟨k1,k2⟩:=Ou l ha j;have e:xJ l a (j+1)=((xJ l a j).1++[(kW l (xJ l a j).2).1],(kW l (xJ l a j).2).2):=rfl;simp only[go_sem,GU,Fu,Nb,jZ];by_cases hlt:j<4
 ·generalize hg:xJ l a j=g at *
  have ei:=eM (Om:j+1<9223372036854775807);simp only[go_sem,show((j+1:Nat):Int)<5 by omega,Fv];refine eP Z.toLY T (o:=E.o) (n:=3) (a:=g.2) aU k1 (by simp only[go_sem];rfl) (A.at 0 rfl) ?_;have N:aR _ ((E.o,bJ v (aJ l 3 g.2).2)::B++[(p,.rows 17 [xI pre post g.1])]) L:=A.set 0 rfl (bJ v (aJ l 3 g.2).2);by_cases c:(aJ l 3 g.2).1=0
  ·have Y:kW l g.2=(((1+(aJ l 3 (aJ l 3 g.2).2).1:Nat):Int),(aJ l 3 (aJ l 3 g.2).2).2):=by unfold kW;simp only[c,if_true]
   have n2:=cR l (show 0<3 by decide) (aJ l 3 g.2).2;have e2:i_.wrap (1+((aJ l 3 (aJ l 3 g.2).2).1:Int))=((1+(aJ l 3 (aJ l 3 g.2).2).1:Nat):Int):=by rw[wrap_i64 Om Om];omega
   simp only[go_sem,bW (show(((aJ l 3 g.2).1:Nat):Int)=0 by omega),Fw];refine eP Z.toLY T (o:=E.o) (n:=3) (a:=(aJ l 3 g.2).2) aU (bY l 3 k1) (by simp only[go_sem];rfl) (N.at 0 rfl) ?_;have O:aR _ ((E.o,bJ v (aJ l 3 (aJ l 3 g.2).2).2)::B++[(p,.rows 17 [xI pre post g.1])]) L:=N.set 0 rfl (bJ v (aJ l 3 (aJ l 3 g.2).2).2);have R:=O.JH;rw[PH.set_set]at R O;have M:¬p=E.o:=λh=>by have X:=O.ndB;simp[gQ,h]at X
   simp only[bD,aD M]at R;have W:((j+1:Nat):Int)<((5:Nat):Int):=Om;have V:(0:Int)<=((j+1:Nat):Int):=Om;have β:(xI pre post g.1).length=17:=by simp[xI,d,y,k2];omega
   have w:=a7F (pre:=pre) (post:=post) (s:=g.1) d Om ((1+(aJ l 3 (aJ l 3 g.2).2).1:Nat):Int);rw[k2]at w;have J:4+(j+1)*1=5+j:=Om;have x:5+j+1<=17:=Om;simp only[go_sem,e2,W,V,J,M,R,x,bkX,blD,or_false,forall_eq,w,VW,ei];refine aG (j+1,_) ⟨hlt,?_⟩ (by simp only;omega) ?_ b_
   ·rw[e,Y];exact O.SO _
   ·exact Lq
  ·have Y:kW l g.2=(0,(aJ l 3 g.2).2):=by unfold kW;simp only[c,if_false]
   simp only[go_sem,bL (show ¬(((aJ l 3 g.2).1:Nat):Int)=0 by omega),VW,ei];refine aG (j+1,_) ⟨hlt,?_⟩ (by simp only;omega) ?_ b_
   ·rw[a0P (pre:=pre) (post:=post) (s:=g.1) d Om]at N;rw[e,Y];exact N
   ·exact Lq
 ·have:j=4:=Om;subst this;simp only[go_sem,show ¬((4+1:Nat):Int)<5 by decide];exact hK _ _ ⟨s_,s_,s_,s_,s_,s_,s_,s_⟩ Sq A
theorem aR.vH{E:FE}{v ext d e i l p u:PV}{a:Nat}{H:PH}{B:List BX}{L:List LI}(h:aR H (E.boxes v ext d e i l p u a++B) L)(b:Nat):aR (H.set E.o (bJ v b)) (E.boxes v ext d e i l p u b++B) L:=h.set 0 rfl _
abbrev yv(s:List UInt8)(k m q:Int)(w r d e i:PV)(h:RF):List PV:=[.str s,.int .i64 k,.int .i64 m,.int .i64 q,.int .i64 0,.int .i64 0,.int .i64 0,.int .i64 0,.int .i64 0,w,r,d,e,i,.bool h.neg,aN h.num,aN h.den]
theorem aYP {C : Ctx} (Lb : sO C) {l : List Nat} {v : PV} (T : Tp l v) (E : FE) (mc n i a : Nat) (ha : a <= l.length) (hi : i < 50) (ext w1 w2 w3 w4 w5 w6 : PV) (L : List LI) (rest : aC) (K : cH) (F : PF) (H : PH)
    (hF : PAt E mc n i F) (hH : aR H (E.boxes v ext w1 w2 w3 w4 w5 w6 a) L)
    (hK : ∀ p F' H', PAt E mc n i F' -> F' 15 = some (.ptr p 17 0 0) ->
      (let k := aJ l 2 a; let m := aJ l 3 k.2; let h := aJ l 4 m.2; let q := aJ l (m.1 + 1) h.2; let r := oY l q.2 (max m.1 1); let g := aJ l 9 r.2
       aR H' (E.boxes v ext w1 w2 w3 w4 w5 w6 g.2 ++ [(p, .rows 17 [xI [.str ([112] ++ cU i), .int .i64 (1 + k.1 : Nat), .int .i64 (m.1 : Nat), .int .i64 (1 + k.1 + q.1 : Nat), .int .i64 0]
        ([.aK, frs r.1] ++ (mkT (g.1 : Nat) 8).cells ++ (mkT ((1 + h.1 : Nat) : Int) 1).cells) []])]) L) -> aC.wp C rest K F' H') :
    aC.wp C (.seq (.region VU) (.seq (.seq (.draw GW) (.draw GX)) (.seq (.region GY) (.seq (.region GZ) rest)))) K F H := by
  obtain ⟨f0, f1, f2, f6, f7, f11, f13, f14⟩ := hF;have nk := cR l (show 0 < 2 by decide) a;have ak := bY l 2 ha;have nm := cR l (show 0 < 3 by decide) (aJ l 2 a).2;have am := bY l 3 ak;simp only at hK;generalize hk : aJ l 2 a = k at *
  generalize hm : aJ l 3 k.2 = m at *
  have nh := cR l (show 0 < 4 by decide) m.2;have ah := bY l 4 am;generalize hh : aJ l 4 m.2 = h at *
  have nq := cR l (Om : 0 < m.1 + 1) h.2;have aq := bY l (m.1 + 1) ah;generalize hq : aJ l (m.1 + 1) h.2 = q at *
  have ar := SI l aq (max m.1 1);generalize hr : oY l q.2 (max m.1 1) = r at *
  have ng := cR l (show 0 < 9 by decide) r.2;have ag := bY l 9 ar;generalize hg : aJ l 9 r.2 = g at *
  have ek : i_.wrap (1 + (k.1 : Int)) = ((1 + k.1 : Nat) : Int) := by rw [wrap_i64 Om Om]; omega
  have eh : i_.wrap (1 + (h.1 : Int)) = ((1 + h.1 : Nat) : Int) := by rw [wrap_i64 Om Om]; omega
  have em : i_.wrap ((m.1 : Int) + 1) = ((m.1 + 1 : Nat) : Int) := eM Om;have eq' : i_.wrap (((1 + k.1 : Nat) : Int) + (q.1 : Int)) = ((1 + k.1 + q.1 : Nat) : Int) := by rw [wrap_i64 Om Om]; omega
  have h0 : aR H (E.boxes v ext w1 w2 w3 w4 w5 w6 a ++ []) L := by rw [bmJ]; exact hH
  simp only[go_sem,VU,f14];refine aB (Lb.name [112] i aU Om) rfl ?_;simp only[go_sem,f0];refine eP Lb.toLY T (o := E.o) (n := 2) (a := a) aU ha rfl (h0.at 0 rfl) ?_;have g1 := h0.vH k.2;rw [hk];simp only[go_sem,ek,f0];refine eP Lb.toLY T (o := E.o) (n := 3) (a := k.2) aU ak rfl (g1.at 0 rfl) ?_;have g2 := g1.vH m.2;rw [hm];rw [PH.set_set] at g2;simp only[go_sem,f0];refine eP Lb.toLY T (o := E.o) (n := 4) (a := m.2) aU am rfl (g2.at 0 rfl) ?_;have g3 := g2.vH h.2;rw [hh];rw [PH.set_set] at g3;simp only[go_sem,eh];refine aB (Lb.int ((1 + h.1 : Nat) : Int) (by unfold dJ; omega)) rfl ?_;simp only[go_sem,bkX,blD,or_false,forall_eq,forall_eq_or_imp];refine aP fun p hp => ?_;have g4 := g3.new hp (.rows 17 [yv ([112] ++ cU i) (1 + k.1 : Nat) (m.1 : Nat) 0 .aK .aK (.bool false) .aK .aK (mkT ((1 + h.1 : Nat) : Int) 1)]);have hpo : ¬ p = E.o := g4.ne 3 0 rfl rfl aU;have hop : ¬ E.o = p := fun e => hpo e.symm;have q2 : ∀ (F2 : PF) (H2 : PH), PAt E mc n i F2 -> F2 15 = some (.ptr p 17 0 0) -> aR H2 (E.boxes v ext w1 w2 w3 w4 w5 w6 h.2 ++ [(p, .rows 17 [yv ([112] ++ cU i) (1 + k.1 : Nat) (m.1 : Nat) 0 .aK .aK (.bool false) .aK .aK (mkT ((1 + h.1 : Nat) : Int) 1)])]) L ->
      aC.wp C (.seq (.seq (.draw GW) (.draw GX)) (.seq (.region GY) (.seq (.region GZ) rest))) K F2 H2 := by
    intro F2 H2 hF2 f15 hH2;obtain ⟨f0, f1, f2, f6, f7, f11, f13, f14⟩ := hF2;have bp := hH2.at 3 rfl;have hHs : (h_.set p (.rows 17 [yv ([112] ++ cU i) (1 + k.1 : Nat) (m.1 : Nat) 0 .aK .aK (.bool false) .aK .aK (mkT ((1 + h.1 : Nat) : Int) 1)])).le H2 := e_ a_ bp;simp only[go_sem];refine bP _ (mkS l v) hHs ?_;simp only[go_sem,GW,f15,bp,em,f0];refine yJ Lb.toLY T (o := E.o) (n := m.1 + 1) (a := h.2) Om ah rfl (hH2.at 0 rfl) ?_ ?_
    · rw [hq]; exact e_ a_ ((hH2.vH q.2).at 3 rfl)
    rw [hq];have g5 := hH2.vH q.2;simp only[go_sem,eq',f15];refine bP .nil eJ a_ ?_;simp only[go_sem,GX,hpo,bp];refine ⟨a_, ?_⟩;have g6 : aR _ (E.boxes v ext w1 w2 w3 w4 w5 w6 q.2 ++ [(p, .rows 17 [yv ([112] ++ cU i) (1 + k.1 : Nat) (m.1 : Nat) (1 + k.1 + q.1 : Nat) .aK .aK (.bool false) .aK .aK (mkT ((1 + h.1 : Nat) : Int) 1)])]) L := g5.set 3 rfl (.rows 17 [yv ([112] ++ cU i) (1 + k.1 : Nat) (m.1 : Nat) (1 + k.1 + q.1 : Nat) .aK .aK (.bool false) .aK .aK (mkT ((1 + h.1 : Nat) : Int) 1)]);have bq := g6.at 3 rfl;simp only[go_sem,GY,f0,f15];refine qA (Lb.rep l v T E.o q.2 m.1 Om aq) (g6.at 0 rfl) rfl ?_;have g7 := g6.vH r.2;rw [hr];simp only[go_sem,hpo,f15];have g8 : aR _ (E.boxes v ext w1 w2 w3 w4 w5 w6 r.2 ++ [(p, .rows 17 [yv ([112] ++ cU i) (1 + k.1 : Nat) (m.1 : Nat) (1 + k.1 + q.1 : Nat) .aK (frs r.1) (.bool false) .aK .aK (mkT ((1 + h.1 : Nat) : Int) 1)])]) L := g7.set 3 rfl (.rows 17 [yv ([112] ++ cU i) (1 + k.1 : Nat) (m.1 : Nat) (1 + k.1 + q.1 : Nat) .aK (frs r.1) (.bool false) .aK .aK (mkT ((1 + h.1 : Nat) : Int) 1)]);simp only[go_sem,GZ,f0];refine eP Lb.toLY T (o := E.o) (n := 9) (a := r.2) aU ar rfl (g8.at 0 rfl) ?_;have g9 := g8.vH g.2;rw [hg];simp only[go_sem];refine aB (Lb.fmk (g.1 : Int) 8 (by unfold dJ; omega) (by unfold dJ; omega)) rfl ?_;unfold xU;rw [aD aU];simp only[go_sem,f15,hpo];have g10 := g9.set 3 rfl (.rows 17 [xI [.str ([112] ++ cU i), .int .i64 (1 + k.1 : Nat), .int .i64 (m.1 : Nat), .int .i64 (1 + k.1 + q.1 : Nat), .int .i64 0]
        ([.aK, frs r.1] ++ (mkT (g.1 : Nat) 8).cells ++ (mkT ((1 + h.1 : Nat) : Int) 1).cells) []])
    refine hK p _ _ ⟨by simp only[go_sem,f0], by simp only[go_sem,f1], by simp only[go_sem,f2], by simp only[go_sem,f6], by simp only[go_sem,f7], by simp only[go_sem,f11], by simp only[go_sem,f13], by simp only[go_sem,f14]⟩ (by simp only[go_sem,f15]) g10
  simp only [aC.wp, go_sem] at q2;simp only[go_sem,bkX,blD,or_false,forall_eq,forall_eq_or_imp];exact q2 _ _ ⟨by simp only[go_sem,f0], by simp only[go_sem,f1], by simp only[go_sem,f2], by simp only[go_sem,f6], by simp only[go_sem,f7], by simp only[go_sem,f11], by simp only[go_sem,f13], by simp only[go_sem,f14]⟩ rfl g4
abbrev FE.lists(u w x y A:PV)(i:List dB)(l:List dW)(d:List cY)(e:List eS)(p:List (List PV)):List LI:=[(u,4,lS i),(w,4,oF l),(x,7,oQ d),(y,3,rL e),(A,17,p)]
theorem aYQ(Lb:sO C){l:List Nat}{v:PV}(T:Tp l v)(E:FE)(mc n i a:Nat)(ha:a<=Z' l)(η:0<mc)(μ:mc<=50)(ext y A B J w5:PV)(lw:List dB)(md:List dW)(dm:List cY)(dv:List eS)(pr:List (List PV))(ρ:Z' pr<=50)
  (s:List UInt8) (k m q:Int) (r t h:RF) (N:List RF) (p:Nat) (K:cH) (F:PF) (H:PH)
  (hF:PAt E mc n i F) (u:F 15=some (.ptr p 17 0 0))
  (hH:aR H (E.boxes v ext y A B J w5 .aK a++[(p,.rows 17 [xI [.str s,.int .i64 k,.int .i64 m,.int .i64 q,.int .i64 0] ([.aK,frs N]++t.cells++h.cells) []])]) (FE.lists y A B J w5 lw md dm dv pr))
  (V:(let M:=xJ l a 4;let f:=aJ l mc M.2;let b:=aJ l 2 f.2
   let ms:List Int × Nat:=if 1<mc then(if b.1=0 then([(f.1:Int),1-(f.1:Int)],b.2)else([(f.1:Int)],b.2))else([(f.1:Int)],f.2)
   ∀(w d:PV)(W:PF)(H':PH)(B':List BX),PAt E mc n i W->(∃o,w=.osl o 1 0 ms.1.length)->aR H' (E.boxes v ext y A B J d .aK ms.2++B')
    (FE.lists y A B J d lw md dm dv (pr++[FP ⟨s,k,m,q,0,(M.1.getD 0 0),(M.1.getD 1 0),(M.1.getD 2 0),(M.1.getD 3 0),ms.1,N,t,h⟩ w])++[(w,1,bF ms.1)])->K .normal W H')) :
  aC.wp C (.seq (.seq (.region VV) (.block 6 (.loop GU))) (.seq (.region VX) (.seq (.region VY) (.seq (.seq (.region VZ) (.cond (.tmp 143) (.region WA) .skip)) (.region HA))))) K F H:=by
 obtain⟨f0,f1,f2,f6,f7,f11,f13,f14⟩:=hF;simp only[go_sem,VV];refine aLC (C:=C) Lb T E mc n i a p ha [(E.o7,flB ext y A B J w5 .aK),(E.o6,flZ)] _ _ _ rfl rfl _ _ H ⟨by simp only[go_sem,f0],by simp only[go_sem,f1],by simp only[go_sem,f2],by simp only[go_sem,f6],by simp only[go_sem,f7],by simp only[go_sem,f11],by simp only[go_sem,f13],by simp only[go_sem,f14]⟩ (by simp only[go_sem,u]) rfl hH ?_;clear f0 f1 f2 f6 f7 f11 f13 f14 u hH;intro F1 H1 ε u x;obtain⟨f0,f1,f2,f6,f7,f11,f13,f14⟩:=ε;obtain⟨α,ls⟩:=Ou l ha 4;have ι:∃O Q R S,(xJ l a 4).1=[O,Q,R,S]:=⟨_,_,_,_,rfl⟩;simp only at V;generalize ν:xJ l a 4=M at *
 obtain⟨O,Q,R,S,hx⟩:=ι;rw[hx]at V x;replace x:aR H1 (E.boxes v ext y A B J w5 .aK M.2++[(p,.rows 17 [FP ⟨s,k,m,q,0,O,Q,R,S,[],N,t,h⟩ .aK])]) (FE.lists y A B J w5 lw md dm dv pr):=x;have nf:=cR l η M.2;have af:=bY l mc α;generalize hf:aJ l mc M.2=f at *
 have ab:=bY l 2 af;generalize hb:aJ l 2 f.2=b at *
 have Z:¬p=E.o:=x.ne 3 0 rfl rfl aU;have θ:¬p=E.o7:=x.ne 3 1 rfl rfl aU;have ο:¬E.o7=p:=λe=>θ e.symm;have ξ:¬E.o7=E.o:=x.ne 1 0 rfl rfl aU;simp only[go_sem,VX,f0,f11];refine eP Lb.toLY T (o:=E.o) (n:=mc) (a:=M.2) Om α rfl (x.at 0 rfl) ?_;have h2:=x.set 0 rfl (bJ v f.2);rw[hf];simp only[go_sem,VY];refine aP λo ho=>?_;have h3:=h2.aLQ (s:=1) (rows:=bF [(f.1:Int)]) ho;have b3:=h3.at 3 rfl;have ob:¬p=o:=h3.neL 3 5 rfl rfl rfl;have σ:¬E.o7=o:=h3.neL 1 5 rfl rfl rfl;have τ:¬E.o=o:=h3.neL 0 5 rfl rfl rfl;simp only[bD,aD ob,aD Z]at b3;simp only[go_sem,u,ob,Z,b3,bkX,blD,or_false,forall_eq];have h4:=h3.set 3 rfl (.rows 17 [FP ⟨s,k,m,q,0,O,Q,R,S,[],N,t,h⟩ (.osl o 1 0 1)]);have fin:∀(w:PV)(ms:List Int)(a':Nat)(W:PF)(H':PH),PAt E mc n i W->W 15=some (.ptr p 17 0 0)->(∃o,w=.osl o 1 0 ms.length) ->
   aR H' (E.boxes v ext y A B J w5 .aK a'++[(p,.rows 17 [FP ⟨s,k,m,q,0,O,Q,R,S,ms,N,t,h⟩ w])]) (FE.lists y A B J w5 lw md dm dv pr++[(w,1,bF ms)]) ->
   (∀(d:PV)(U:PF)(H2:PH),PAt E mc n i U->aR H2 (E.boxes v ext y A B J d .aK a'++[(p,.rows 17 [FP ⟨s,k,m,q,0,O,Q,R,S,ms,N,t,h⟩ w])]) (FE.lists y A B J d lw md dm dv (pr++[FP ⟨s,k,m,q,0,O,Q,R,S,ms,N,t,h⟩ w])++[(w,1,bF ms)])->K .normal U H2) ->
   wpOps C HA (K .normal) W H':=by
  intro w ms a' W H' δ u hw Y ζ;obtain⟨wo,rfl⟩:=hw;obtain⟨f0,f1,f2,f6,f7,f11,f13,f14⟩:=δ;have c1:=Y.at 1 rfl;have c3:=Y.at 3 rfl;have γ:(1:Nat)*17<=16777216:=by decide
  simp only[go_sem,HA,f7,u,c1,c3,γ,bkX,blD,or_false,forall_eq,forall_eq_or_imp];refine Y.append 4 (src:=[FP ⟨s,k,m,q,0,O,Q,R,S,ms,N,t,h⟩ (.osl wo 1 0 ms.length)]) rfl rfl (by unfold roomFor;simp only[bkV,maxLen];omega) λd H2 h5 κ=>?_;obtain⟨q5,rfl⟩:=κ bH;have c2:=h5.at 1 rfl;simp only[go_sem,c2,bkX,blD,or_false,forall_eq];exact ζ _ _ _ ⟨by simp only[go_sem,f0],by simp only[go_sem,f1],by simp only[go_sem,f2],by simp only[go_sem,f6],by simp only[go_sem,f7],by simp only[go_sem,f11],by simp only[go_sem,f13],by simp only[go_sem,f14]⟩ (h5.set 1 rfl (flB ext y A B J _ .aK))
 simp only[go_sem,VZ,f11];by_cases c:1<mc
 ·have c':(mc:Int)>1:=Om;simp only[go_sem,c',f0];refine eP Lb.toLY T (o:=E.o) (n:=2) (a:=f.2) aU af rfl (h4.at 0 rfl) ?_;have h5:=h4.set 0 rfl (bJ v b.2);rw[hb];by_cases c2:b.1=0
  ·have X:(b.1:Int)=0:=Om;rw[aI c,aI c2]at V;have e1:i_.wrap (1-(f.1:Int))=1-(f.1:Int):=wrap_i64 Om Om;have c3:=h5.at 3 rfl;have β:(1:Nat)*1<=16777216:=by decide
   simp only[go_sem,bW X,WA,u,Z,e1,β];refine h5.append 5 (src:=[[.int .i64 (1-(f.1:Int))]]) rfl rfl (by unfold roomFor;simp only[bF,bkG,bkV,maxLen];omega) λw' H2 h6 hw=>?_;obtain⟨q2,rfl⟩:=hw bH;have c4:=h6.at 3 rfl;simp only[go_sem,c4,u,bkX,blD,or_false,forall_eq];have h7:=h6.set 3 rfl (.rows 17 [FP ⟨s,k,m,q,0,O,Q,R,S,[(f.1:Int),1-(f.1:Int)],N,t,h⟩ (.osl q2 1 0 2)]);exact fin (.osl q2 1 0 2) [(f.1:Int),1-(f.1:Int)] b.2 _ _ ⟨by simp only[go_sem,f0],by simp only[go_sem,f1],by simp only[go_sem,f2],by simp only[go_sem,f6],by simp only[go_sem,f7],by simp only[go_sem,f11],by simp only[go_sem,f13],by simp only[go_sem,f14]⟩ (by simp only[go_sem,u]) ⟨q2,rfl⟩ h7 (λd U H2 g1 g2=>V _ d U H2 _ g1 ⟨q2,rfl⟩ g2)
  ·have X:¬(b.1:Int)=0:=Om;rw[aI c,aD c2]at V;simp only[go_sem,bL X];exact fin (.osl o 1 0 1) [(f.1:Int)] b.2 _ _ ⟨by simp only[go_sem,f0],by simp only[go_sem,f1],by simp only[go_sem,f2],by simp only[go_sem,f6],by simp only[go_sem,f7],by simp only[go_sem,f11],by simp only[go_sem,f13],by simp only[go_sem,f14]⟩ (by simp only[go_sem,u]) ⟨o,rfl⟩ h5 (λd U H2 g1 g2=>V _ d U H2 _ g1 ⟨o,rfl⟩ g2)
 ·have c':¬(mc:Int)>1:=Om;rw[aD c]at V;simp only[go_sem,c'];exact fin (.osl o 1 0 1) [(f.1:Int)] f.2 _ _ ⟨by simp only[go_sem,f0],by simp only[go_sem,f1],by simp only[go_sem,f2],by simp only[go_sem,f6],by simp only[go_sem,f7],by simp only[go_sem,f11],by simp only[go_sem,f13],by simp only[go_sem,f14]⟩ (by simp only[go_sem,u]) ⟨o,rfl⟩ h4 (λd U H2 g1 g2=>V _ d U H2 _ g1 ⟨o,rfl⟩ g2)
abbrev qU(l:List cJ):List (List PV):=l.map cJ.cells
abbrev uF(l:List eI):List (List PV):=l.map eI.cells
theorem wV{rows:List (List PV)}(h:∀r∈rows,∀c∈r,c.oid=none):Flat rows:=Flat.of λr e c d q s rs=>D6 (h r e c d) q s rs
theorem azZ(l:List dB):Flat (lS l):=wV λr e c d=>by
 obtain⟨x,_,rfl⟩:=blF.1 e;simp only[dB.cells,bkX,blD,or_false]at d;rcases d with rfl|rfl|rfl|rfl<;>rfl
theorem aAB(l:List dW):Flat (oF l):=wV λr e c d=>by
 obtain⟨x,_,rfl⟩:=blF.1 e;simp only[dW.cells,bkX,blD,or_false]at d;rcases d with rfl|rfl|rfl|rfl<;>rfl
theorem awJ(l:List cY):Flat (oQ l):=wV λr e c d=>by
 obtain⟨x,_,rfl⟩:=blF.1 e;simp only[cY.cells,bkX,blD,or_false]at d;rcases d with rfl|rfl|rfl|rfl|rfl|rfl|rfl<;>rfl
theorem awL(l:List eS):Flat (rL l):=wV λr e c d=>by
 obtain⟨x,_,rfl⟩:=blF.1 e;simp only[eS.cells,bkX,blD,or_false]at d;rcases d with rfl|rfl|rfl<;>rfl
theorem a7S(l:List eI):Flat (uF l):=wV λr e c d=>by
 obtain⟨x,_,rfl⟩:=blF.1 e;simp only[eI.cells,bkX,blD,or_false]at d;rcases d with rfl|rfl<;>rfl
theorem aCS(l:List cJ):Flat (qU l):=wV λr e c d=>by
 obtain⟨x,_,rfl⟩:=blF.1 e;simp only[cJ.cells,bkX,blD,or_false]at d;rcases d with rfl|rfl|rfl|rfl|rfl|rfl|rfl|rfl|rfl|rfl|rfl|rfl|rfl|rfl|rfl|rfl|rfl<;>rfl
theorem aMH(l:List Nat)(mc i:Nat){a:Nat}(h:a<=Z' l):(rD l mc i a).2<=Z' l:=by
 have e:=bY l 9 (SI l (bY l ((aJ l 3 (aJ l 2 a).2).1+1) (bY l 4 (bY l 3 (bY l 2 h)))) (max (aJ l 3 (aJ l 2 a).2).1 1));have d:=bY l mc (BP l (BP l (BP l (BP l e))));unfold rD;simp only;split
 ·split
  ·exact bY l 2 d
  ·exact bY l 2 d
 ·exact d
theorem BC(l:List Nat)(mc:Nat){a:Nat}(h:a<=Z' l):∀k,(fM l mc a k).2<=Z' l/\(fM l mc a k).1.length=k
 |0=>⟨h,rfl⟩
 |k+1=>by obtain⟨d,e⟩:=BC l mc h k;exact⟨aMH l mc k d,by simp only[fM,bkQ,bkV,e]⟩
theorem QT(l:List Nat)(pc:Nat){a:Nat}(h:a<=Z' l):∀k,(gD l pc a k).2<=Z' l/\(gD l pc a k).1.length=k
 |0=>⟨h,rfl⟩
 |k+1=>by obtain⟨d,e⟩:=QT l pc h k;exact⟨bY l pc d,by simp only[gD,bkQ,bkV,e]⟩
theorem aiE(Lb:sO C){l:List Nat}{v:PV}(T:Tp l v)(E:FE)(mc n a:Nat)(hn:n<=10)(θ:0<mc)(Z:mc<=50)(ha:a<=Z' l)(O:Int)(e u y A:PV)(S:List dB)(U:List dW)(Q:List cY)(R:List eS)(K:cH)(F:PF)(H:PH)
  (M:PAt E mc n 0 F) (W:aR H (E.boxes v (.int .i64 O) e u y A .aK .aK a) [(e,4,lS S),(u,4,oF U),(y,7,oQ Q),(A,3,rL R)])
  (hK:∀V F' H',(jZ E).le F'->aR H' (E.boxes v (.int .i64 O) e u y A V .aK (fM l mc a n).2) (FE.lists e u y A V S U Q R (qU (fM l mc a n).1))->K (.exit 4) F' H') :
  aC.wp C (.loop VS) K F H:=by
 refine wp_loop (α:=Nat × PV × PH) (λt=>Nb E mc n t.1) (λt=>t.2.2) (λt=>t.1<=n/\aR t.2.2 (E.boxes v (.int .i64 O) e u y A t.2.1 .aK (fM l mc a t.1).2) (FE.lists e u y A t.2.1 S U Q R (qU (fM l mc a t.1).1))) (λt=>n-t.1) (0,.aK,H) ⟨bkL _,W.rA 17⟩ ?_ b_ ?_
 ·unfold Nb jZ
  (repeat' (first|exact c_|refine d_ ?_ ?_))<;>first|(simp only[go_sem,M.f0,M.f1,M.f2,M.f6,M.f7,M.f11,M.f13,M.f14]<;>rfl)|rfl
 rintro⟨i,V,H0⟩ ⟨hi,W⟩;simp only at hi W ⊢;obtain⟨k1,k2⟩:=BC l mc ha i;have J:fM l mc a (i+1)=((fM l mc a i).1++[(rD l mc i (fM l mc a i).2).1],(rD l mc i (fM l mc a i).2).2):=rfl;simp only[go_sem,VS,Fq,Nb,jZ];by_cases hlt:i<n
 ·have B:(i:Int)<(n:Nat):=Om;generalize hg:fM l mc a i=g at *
  simp only[go_sem,B];refine aYP (C:=C) Lb T E mc n i g.2 k1 Om (.int .i64 O) e u y A V .aK _ _ _ _ H0 ⟨s_,s_,s_,s_,s_,s_,s_,s_⟩ W ?_;intro p F1 H1 γ β X;simp only at X;have ι:rD l mc i g.2=_:=rfl;have Y:=bY l 9 (SI l (bY l ((aJ l 3 (aJ l 2 g.2).2).1+1) (bY l 4 (bY l 3 (bY l 2 k1)))) (max (aJ l 3 (aJ l 2 g.2).2).1 1));refine aYQ (C:=C) Lb T E mc n i _ Y θ Z (.int .i64 O) e u y A V S U Q R _ (by rw[bkG,k2];omega) _ _ _ _ (mkT 0 1) _ _ _ p _ F1 H1 γ β X ?_;intro N f b ms w d F2 H2 B' δ hw ε;obtain⟨o,rfl⟩:=hw;have hP:rD l mc i g.2=(⟨[112]++cU i,(1+(aJ l 2 g.2).1:Nat),((aJ l 3 (aJ l 2 g.2).2).1:Nat),(1+(aJ l 2 g.2).1+(aJ l ((aJ l 3 (aJ l 2 g.2).2).1+1) (aJ l 4 (aJ l 3 (aJ l 2 g.2).2).2).2).1:Nat),0,N.1.getD 0 0,N.1.getD 1 0,N.1.getD 2 0,N.1.getD 3 0,ms.1,(oY l (aJ l ((aJ l 3 (aJ l 2 g.2).2).1+1) (aJ l 4 (aJ l 3 (aJ l 2 g.2).2).2).2).2 (max (aJ l 3 (aJ l 2 g.2).2).1 1)).1,mkT ((aJ l 9 (oY l (aJ l ((aJ l 3 (aJ l 2 g.2).2).1+1) (aJ l 4 (aJ l 3 (aJ l 2 g.2).2).2).2).2 (max (aJ l 3 (aJ l 2 g.2).2).1 1)).2).1:Nat) 8,mkT ((1+(aJ l 4 (aJ l 3 (aJ l 2 g.2).2).2).1:Nat):Int) 1⟩,ms.2):=rfl;rw[hP]at J;generalize ζ:(⟨[112]++cU i,(1+(aJ l 2 g.2).1:Nat),((aJ l 3 (aJ l 2 g.2).2).1:Nat),(1+(aJ l 2 g.2).1+(aJ l ((aJ l 3 (aJ l 2 g.2).2).1+1) (aJ l 4 (aJ l 3 (aJ l 2 g.2).2).2).2).1:Nat),0,N.1.getD 0 0,N.1.getD 1 0,N.1.getD 2 0,N.1.getD 3 0,ms.1,(oY l (aJ l ((aJ l 3 (aJ l 2 g.2).2).1+1) (aJ l 4 (aJ l 3 (aJ l 2 g.2).2).2).2).2 (max (aJ l 3 (aJ l 2 g.2).2).1 1)).1,mkT ((aJ l 9 (oY l (aJ l ((aJ l 3 (aJ l 2 g.2).2).1+1) (aJ l 4 (aJ l 3 (aJ l 2 g.2).2).2).2).2 (max (aJ l 3 (aJ l 2 g.2).2).1 1)).2).1:Nat) 8,mkT ((1+(aJ l 4 (aJ l 3 (aJ l 2 g.2).2).2).1:Nat):Int) 1⟩:cJ)=P at *
  have η:P.biW=ms.1:=by rw[<-ζ]
  obtain⟨rs,z1,z2,z3,z4,z5⟩:=ε.frz 5 rfl;have y1:=z4 0 _ aU rfl;have y2:=z4 1 _ aU rfl;have y3:=z4 2 _ aU rfl;have y4:=z4 3 _ aU rfl;have y5:=z4 4 _ aU rfl;simp only at y1 y2 y3 y4 y5;have y0:=T.frz o 1 rs;obtain⟨f0,f1,f2,f6,f7,f11,f13,f14⟩:=δ;simp only[go_sem,Fy,f14,wZz i];refine Sl (i+1,d,H2.frz o 1 rs) z1 ⟨hlt,?_⟩ (by simp only;omega) ?_ b_
  ·rw[J];have eB:(E.boxes v (.int .i64 O) e u y A d .aK ms.2).map (λb=>(b.1,b.2.frz o 1 rs))=E.boxes v (.int .i64 O) e u y A d .aK ms.2:=by show[(E.o,bA.rows 2 [[PV.eF o 1 rs v,.int .i64 ms.2]]),(E.o7,bA.rows 7 [[.int .i64 O,PV.eF o 1 rs e,PV.eF o 1 rs u,PV.eF o 1 rs y,PV.eF o 1 rs A,PV.eF o 1 rs d,.aK]]),(E.o6,flZ)]=_;rw[y0,y1,y2,y3,y4,y5]
   have e5:(qU g.1++[FP P (.osl o 1 0 ms.1.length)]).map (λr=>r.map (PV.eF o 1 rs))=qU (g.1++[P]):=by
    rw[blK,aCS];have:([FP P (.osl o 1 0 ms.1.length)]:List (List PV)).map (λr=>r.map (PV.eF o 1 rs))=[P.cells]:=by show[[PV.str P.name,.int .i64 P.k,.int .i64 P.m,.int .i64 P.bjT,.int .i64 P.s0,.int .i64 P.s1,.int .i64 P.s2,.int .i64 P.s3,.int .i64 P.s4,PV.eF o 1 rs (.osl o 1 0 ms.1.length),frs P.repair,.bool P.target.neg,aN P.target.num,aN P.target.den,.bool P.bjF.neg,aN P.bjF.num,aN P.bjF.den]]=_;rw[z2,<-η];rfl
    rw[this];simp[qU]
   have eL:(FE.lists e u y A d S U Q R (qU g.1++[FP P (.osl o 1 0 ms.1.length)])).map (λx=>(x.1,x.2.1,x.2.2.map λr=>r.map (PV.eF o 1 rs)))=FE.lists e u y A d S U Q R (qU (g.1++[P])):=by show[(e,4,(lS S).map _),(u,4,(oF U).map _),(y,7,(oQ Q).map _),(A,3,(rL R).map _),(d,17,(qU g.1++[FP P (.osl o 1 0 ms.1.length)]).map _)]=_;rw[azZ,aAB,awJ,awL,e5]
   rw[<-eB,<-eL];exact z5.sub (by rw[blK];exact List.sublist_append_left ..) (bmW.refl _)
  ·(repeat' (first|exact c_|refine d_ ?_ ?_))<;>first|(simp only[go_sem,f0,f1,f2,f6,f7,f11,f13]<;>rfl)|rfl
 ·have B:¬(i:Int)<(n:Nat):=Om;have:i=n:=Om;subst this;simp only[go_sem,B];exact hK V _ _ (mp Sq Sq Sq Sq Sq) W
theorem auG(U:sO C){l:List Nat}{v:PV}(T:Tp l v)(E:FE)(pc n a:Nat)(hn:n<=60)(β:pc<=50)(ha:a<=Z' l)(ext A B J M d:PV)(y:List cJ)(R:Z' y=pc)(L:List LI)(K:cH)(F:PF)(H:PH)
  (Z:(((jZ E).set 18 (.int .i64 n)).set 19 (.int .i64 0)).le F) (w:aR H (E.boxes v ext A B J M d .aK a) ((d,17,qU y)::L))
  (hK:∀u S H',(jZ E).le S->aR H' (E.boxes v ext A B J M d u (gD l pc a n).2) ((d,17,qU y)::L++[(u,2,uF (gD l pc a n).1)])->K (.exit 8) S H') :
  aC.wp C (.loop VT) K F H:=by
 refine wp_loop (α:=Nat × PV × PH) (λt=>((jZ E).set 18 (.int .i64 n)).set 19 (.int .i64 t.1)) (λt=>t.2.2) (λt=>t.1<=n/\aR t.2.2 (E.boxes v ext A B J M d t.2.1 (gD l pc a t.1).2) ((d,17,qU y)::L++[(t.2.1,2,uF (gD l pc a t.1).1)])) (λt=>n-t.1) (0,.aK,H) ⟨bkL _,w.rA 2⟩ Z b_ ?_;rintro⟨i,u,X⟩ ⟨hi,w⟩;simp only at hi w ⊢;obtain⟨k1,k2⟩:=QT l pc ha i;have x:gD l pc a (i+1)=((gD l pc a i).1++[⟨[118]++cU i,((aJ l pc (gD l pc a i).2).1:Nat)⟩],(aJ l pc (gD l pc a i).2).2):=rfl;simp only[go_sem,VT,F7,jZ];by_cases hlt:i<n
 ·have p:(i:Int)<(n:Nat):=Om;generalize hg:gD l pc a i=g at *
  have V:=w.set 0 rfl (bJ v (aJ l pc g.2).2);generalize O:aJ l pc g.2=z at *
  have b1:=w.at 1 rfl;have W:=(w.own 0 rfl).uN;rw[bkG,R]at W;have N:(h_.set E.o7 (flB ext A B J M d u)).le X:=e_ a_ b1;simp only[go_sem,p];refine bP (h_.set E.o7 (flB ext A B J M d u)) (mkS l v) N ?_;simp only[go_sem,F8];refine TY U.tozY (s:=[118]) (n:=i) aU Om rfl N ?_;simp only[go_sem,W];refine yJ U.toLY T (o:=E.o) (n:=pc) (a:=g.2) Om k1 rfl (w.at 0 rfl) ?_ ?_
  ·rw[O];exact e_ a_ (V.at 1 rfl)
  rw[O];have Q:(1:Nat)*2<=16777216:=by decide
  simp only[go_sem,Q,bkX,blD,or_false,forall_eq,forall_eq_or_imp];refine V.append (v:=u) (s:=2) (rows:=uF g.1) (Z' L+1) (src:=[(⟨[118]++cU i,(z.1:Nat)⟩:eI).cells]) bH rfl (by unfold roomFor;rw[bkG];simp only[bkV,maxLen];omega) λw' H2 h5 hw=>?_;obtain⟨q,rfl⟩:=hw bH;rw[show((d,17,qU y)::L++[(u,2,uF g.1)])=((d,17,qU y)::L)++[(u,2,uF g.1)]from rfl,bnJ _ _ bH,show L.length+1-((d,17,qU y)::L).length=0 by simp]at h5;have b2:=h5.at 1 rfl;refine⟨e_ a_ b2,?_⟩;refine bP .nil eJ a_ ?_;simp only[go_sem,F9,b2,bkX,blD,or_false,forall_eq];have Y:=h5.set 1 rfl (flB ext A B J M d (.osl q 2 0 (uF g.1++[(⟨[118]++cU i,(z.1:Nat)⟩:eI).cells]).length));refine⟨a_,?_⟩;simp only[go_sem,Ga,wZz i];refine aG (i+1,.osl q 2 0 (uF g.1++[(⟨[118]++cU i,(z.1:Nat)⟩:eI).cells]).length,_) ⟨hlt,?_⟩ (by simp only;omega) ?_ b_
  ·rw[x];have e:uF (g.1++[⟨[118]++cU i,(z.1:Nat)⟩])=uF g.1++[(⟨[118]++cU i,(z.1:Nat)⟩:eI).cells]:=by simp[uF]
   simp only;rw[e];exact Y
  ·exact Lq
 ·have p:¬(i:Int)<(n:Nat):=Om;have:i=n:=Om;subst this;simp only[go_sem,p];exact hK u _ _ (mp rfl rfl rfl rfl rfl) w
def bx(l:List Nat)(v:PV)(o biV biX a:Nat)(r:PV)(H:PH):Prop:=Co r (.agg (kO l biV biX a).1.cells)/\H=h_.set o (bJ v (kO l biV biX a).2)
structure Z2(C:Ctx):Prop extends sO C where
 grow:∀(l:List Nat)(v:PV),Tp l v->∀(mc biV:Nat),0<mc->mc<=1000->biV<=60->Ap C l v mc biV 4
theorem aQW(O:Z2 C){l:List Nat}{v:PV}(T:Tp l v)(o biV biX a:Nat)(Γ:biV<=60)(Φ:biX<=50)(ha:a<=Z' l) :
  OX.wp C (aX aiF.res (bx l v o biV biX a)) (g_ [.ptr o 2 0 0,.int .i64 biV,.int .i64 biX]) (h_.set o (bJ v a)):=by
 have hT:kO l biV biX a=kO l biV biX a:=rfl
 conv at hT=>rhs;unfold kO
 dsimp only at hT;have hR:∀r H,bx l v o biV biX a r H↔Co r (.agg (kO l biV biX a).1.cells)/\H=h_.set o (bJ v (kO l biV biX a).2):=λ_ _=>Iff.rfl;have ne:=cR l (show 0<2 by decide) a;have ae:=bY l 2 ha;generalize he:aJ l 2 a=e at *
 have Ψ:=cR l (show 0<2 by decide) e.2;have ε:=bY l 2 ae;generalize Δ:aJ l 2 e.2=N at *
 obtain⟨Q,γ⟩:=VI l ε (1+N.1);generalize Z:kU l N.2 (1+N.1)=bjC at *
 have Ω:=cR l (show 0<2 by decide) bjC.2;have ζ:=bY l 2 Q;generalize Θ:aJ l 2 bjC.2=i at *
 obtain⟨R,W⟩:=HD l (1+N.1) ζ (1+i.1);generalize U:fX l (1+N.1) i.2 (1+i.1)=biW at *
 have ι:GOk l biV ⟨[qX],[],biW.2⟩:=⟨by simp,bkL _,R⟩;obtain⟨hG,-⟩:=UV (mc:=1+i.1) 4 0 ι;generalize hg:gW l (1+i.1) biV 4 0 ⟨[qX],[],biW.2⟩=g at *
 have a':=cR l (show 0<2 by decide) g.a;have η:=bY l 2 hG.a;generalize Ξ:aJ l 2 g.a=pl at *
 obtain⟨S,δ⟩:=BC l (1+i.1) η (1+pl.1);generalize α:fM l (1+i.1) pl.2 (1+pl.1)=pols at *
 have b':=cR l (Om:0<biX+1) pols.2;have ρ:=bY l (biX+1) S;generalize ξ:aJ l (biX+1) pols.2=vo at *
 generalize β:gD l (1+pl.1) vo.2 vo.1=vols at *
 have ee:i_.wrap (1+(e.1:Int))=((1+e.1:Nat):Int):=by rw[wrap_i64 Om Om];omega
 have σ:i_.wrap (1+(N.1:Int))=((1+N.1:Nat):Int):=by rw[wrap_i64 Om Om];omega
 have τ:i_.wrap (1+(i.1:Int))=((1+i.1:Nat):Int):=by rw[wrap_i64 Om Om];omega
 have υ:i_.wrap (1+(pl.1:Int))=((1+pl.1:Nat):Int):=by rw[wrap_i64 Om Om];omega
 have χ:i_.wrap ((biX:Int)+1)=((biX+1:Nat):Int):=eM Om;have h0:aR (h_.set o (bJ v a)) [(o,bJ v a)] []:=aR.nil.new (H:=h_) rfl (bJ v a);simp only[go_sem,OX,St,aiF];refine aP λo6 κ=>?_;have p:=h0.new κ flZ;simp only[go_sem,Su];refine eP O.toLY T (o:=o) (n:=2) (a:=a) aU ha rfl (p.at 0 rfl) ?_;have w:=p.set 0 rfl (bJ v e.2);rw[he];simp only[go_sem,ee];refine aP λo7 μ=>?_;have F:=w.new μ (flB (.int .i64 (1+e.1:Nat)) .aK .aK .aK .aK .aK .aK);simp only[go_sem,Sv,bkX,blD,or_false,forall_eq,forall_eq_or_imp];refine eP O.toLY T (o:=o) (n:=2) (a:=e.2) aU ae rfl (F.at 0 rfl) ?_;have h4:=F.set 0 rfl (bJ v N.2);rw[Δ];have h5:=h4.perm (B':=FE.boxes ⟨o,o6,o7,biV,biX⟩ v (.int .i64 (1+e.1:Nat)) .aK .aK .aK .aK .aK .aK N.2) (L':=[]) (List.Perm.cons _ (List.Perm.swap _ _ _)) (List.Perm.refl _);obtain⟨E,d⟩:∃E:FE,E=⟨o,o6,o7,biV,biX⟩:=⟨_,rfl⟩;rw[<-d]at h5;simp only[go_sem,σ,Sw];refine aYO (C:=C) O.tosO T E (1+N.1) N.2 Om ε _ _ _ _ ?_ h5 ?_
 ·rw[d];unfold jZ;exact Lq
 clear h5 h4 F w p h0 κ μ;intro u F1 H1 J p;rw[Z]at p;have f0:F1 0=some (.ptr o 2 0 0):=J 0 _ (by rw[d];unfold jZ;simp only[go_sem]);have f1:F1 1=some (.int .i64 biV):=J 1 _ (by rw[d];unfold jZ;simp only[go_sem]);have f2:F1 2=some (.int .i64 biX):=J 2 _ (by rw[d];unfold jZ;simp only[go_sem]);have f6:F1 6=some (.ptr o6 7 0 0):=J 6 _ (by rw[d];unfold jZ;simp only[go_sem]);have f7:F1 7=some (.ptr o7 7 0 0):=J 7 _ (by rw[d];unfold jZ;simp only[go_sem]);have X:=p.at 0 rfl;rw[d]at X;simp only[go_sem,Ff,f0];refine eP O.toLY T (o:=o) (n:=2) (a:=bjC.2) aU Q rfl X ?_;have w:=p.set 0 rfl (bJ v i.2);rw[Θ];simp only[go_sem,τ,Fg];refine aLB (C:=C) O.tosO T E (1+i.1) i.2 (1+N.1) Om Om ζ (.int .i64 (1+e.1:Nat)) u bjC.1 γ _ _ _ ?_ (by rw[d]at w ⊢;exact w) ?_
 ·rw[d];unfold jZ;exact Lq
 clear X w p f0 f1 f2 f6 f7 J;intro w2 F2 H2 K f11 w;rw[U]at w;have f0:F2 0=some (.ptr o 2 0 0):=K 0 _ (by rw[d];unfold jZ;simp only[go_sem]);have f1:F2 1=some (.int .i64 biV):=K 1 _ (by rw[d];unfold jZ;simp only[go_sem]);have f2:F2 2=some (.int .i64 biX):=K 2 _ (by rw[d];unfold jZ;simp only[go_sem]);have f6:F2 6=some (.ptr o6 7 0 0):=K 6 _ (by rw[d];unfold jZ;simp only[go_sem]);have f7:F2 7=some (.ptr o7 7 0 0):=K 7 _ (by rw[d];unfold jZ;simp only[go_sem]);obtain⟨qm,ν⟩:=(w.own 1 rfl).one (by rw[bkG];omega);rw[bkG,W]at ν;subst ν;have ψ:(1:Nat)*7<=16777216:=by decide
 simp only[go_sem,Fl];refine aB (O.int 0 (by unfold dJ;omega)) rfl ?_;simp only[go_sem,bkX,blD,or_false,forall_eq,forall_eq_or_imp,ψ];refine aP λod Λ=>?_;have F:=w.aLQ (s:=7) (rows:=oQ [qX]) Λ;have b7:=w.at 1 rfl;rw[d]at b7;have n7:¬o7=od:=by have:=F.neL 1 2 rfl rfl rfl;rw[d]at this;exact this
 simp only[go_sem,f7,b7,n7,bkX,blD,or_false,forall_eq];have h4:=(F.set 1 rfl (flB (.int .i64 (1+e.1:Nat)) u (.osl qm 4 0 (1+i.1)) (.osl od 7 0 1) .aK .aK .aK)).rA 3;rw[d]at h4;have h5:=h4.perm (B':=(GE.mk o o7 qm (.int .i64 (1+e.1:Nat)) u .aK .aK).boxes v (1+i.1) (.osl od 7 0 1) .aK biW.2++[(o6,flZ)]) (L':=qS ⟨[qX],[],biW.2⟩ (.osl od 7 0 1) .aK++[(u,4,lS bjC.1),(.osl qm 4 0 (1+i.1),4,oF biW.1)]) (List.Perm.refl _)
  (List.perm_append_comm (l₁:=[(u,4,lS bjC.1),(.osl qm 4 0 (1+i.1),4,oF biW.1)]) (l₂:=qS ⟨[qX],[],biW.2⟩ (.osl od 7 0 1) .aK))
 simp only[go_sem,Fm,f0,f1,f7];refine RA h5 (λH0 ω=>O.grow l v T (1+i.1) biV Om Om Γ (GE.mk o o7 qm (.int .i64 (1+e.1:Nat)) u .aK .aK) (.osl od 7 0 1) .aK ⟨[qX],[],biW.2⟩ 0 qX ι rfl rfl H0 ω) (by simp only[go_sem,f0,f1,f7];rfl) ?_;rintro r B' L' H3 ⟨rfl,A,B,rfl,rfl⟩ h6;rw[hg]at h6;have h7:=h6.perm (B':=E.boxes v (.int .i64 (1+e.1:Nat)) u (.osl qm 4 0 (1+i.1)) A B .aK .aK g.a) (L':=[(u,4,lS bjC.1),(.osl qm 4 0 (1+i.1),4,oF biW.1),(A,7,oQ g.bjE),(B,3,rL g.bjO)]) (by rw[d];exact List.Perm.refl _)
  (List.perm_append_comm (l₁:=qS g A B) (l₂:=[(u,4,lS bjC.1),(.osl qm 4 0 (1+i.1),4,oF biW.1)]))
 have X:=h7.at 0 rfl;rw[d]at X;simp only[go_sem,Fo,f0];refine eP O.toLY T (o:=o) (n:=2) (a:=g.a) aU hG.a rfl X ?_;have h8:=h7.set 0 rfl (bJ v pl.2);rw[Ξ];simp only[go_sem,υ,Fp];refine aiE (C:=C) O.tosO T E (1+i.1) (1+pl.1) pl.2 Om Om Om η ((1+e.1:Nat):Int) u (.osl qm 4 0 (1+i.1)) A B bjC.1 biW.1 g.bjE g.bjO _ _ _ (by rw[d];exact⟨by simp only[go_sem,f0],by simp only[go_sem,f1],by simp only[go_sem,f2],by simp only[go_sem,f6],by simp only[go_sem,f7],by simp only[go_sem,f11],s_,by simp only[go_sem];rfl⟩) (by rw[d]at h8 ⊢;exact h8) ?_;clear h8 h7 h6 h5 h4 F w X b7 f0 f1 f2 f6 f7 K;intro Y F4 H4 M p;rw[α]at p;have f0:F4 0=some (.ptr o 2 0 0):=M 0 _ (by rw[d];unfold jZ;simp only[go_sem]);have f1:F4 1=some (.int .i64 biV):=M 1 _ (by rw[d];unfold jZ;simp only[go_sem]);have f2:F4 2=some (.int .i64 biX):=M 2 _ (by rw[d];unfold jZ;simp only[go_sem]);have f6:F4 6=some (.ptr o6 7 0 0):=M 6 _ (by rw[d];unfold jZ;simp only[go_sem]);have f7:F4 7=some (.ptr o7 7 0 0):=M 7 _ (by rw[d];unfold jZ;simp only[go_sem]);have X:=p.at 0 rfl;rw[d]at X;simp only[go_sem,F0,f0,f2,χ];refine eP O.toLY T (o:=o) (n:=biX+1) (a:=pols.2) Om S rfl X ?_;have w:=p.set 0 rfl (bJ v vo.2);rw[ξ];have F:=w.perm (B':=E.boxes v (.int .i64 (1+e.1:Nat)) u (.osl qm 4 0 (1+i.1)) A B Y .aK vo.2) (L':=(Y,17,qU pols.1)::[(u,4,lS bjC.1),(.osl qm 4 0 (1+i.1),4,oF biW.1),(A,7,oQ g.bjE),(B,3,rL g.bjO)]) (List.Perm.refl _)
  (List.perm_append_comm (l₁:=[(u,4,lS bjC.1),(.osl qm 4 0 (1+i.1),4,oF biW.1),(A,7,oQ g.bjE),(B,3,rL g.bjO)]) (l₂:=[(Y,17,qU pols.1)]))
 simp only[go_sem,F6];refine auG (C:=C) O.tosO T E (1+pl.1) vo.1 vo.2 Om Om ρ _ _ _ _ _ Y pols.1 δ _ _ _ _ ?_ (by rw[d]at F ⊢;exact F) ?_
 ·rw[d];unfold jZ;exact Lq
 clear F w p X f0 f1 f2 f6 f7 M;intro w6 F5 H5 θ p;rw[β]at p;have f6:F5 6=some (.ptr o6 7 0 0):=θ 6 _ (by rw[d];unfold jZ;simp only[go_sem]);have f7:F5 7=some (.ptr o7 7 0 0):=θ 7 _ (by rw[d];unfold jZ;simp only[go_sem]);rw[d]at p;have b7:=p.at 1 rfl;have b6:=p.at 2 rfl;have one:∀(x:PV),x∈[u,A,B,Y,w6]->(∃q s n,x=.osl q s 0 n)\/x=.aK:=by
  intro x hx;have V:∀{s:Nat}{rows:List (List PV)},cG H5 s x rows->(∃q s n,x=.osl q s 0 n)\/x=.aK:=by
   rintro s rows (⟨_,h⟩|⟨q,rs,h,_⟩)
   ·exact .inr h
   ·exact .inl ⟨q,s,_,h⟩
  simp only[bkX,blD,or_false]at hx;rcases hx with rfl|rfl|rfl|rfl|rfl
  ·exact V (p.own 1 rfl)
  ·exact V (p.own 3 rfl)
  ·exact V (p.own 4 rfl)
  ·exact V (p.own 0 rfl)
  ·exact V (p.own 5 rfl)
 have y:∀(x:PV),x∈[u,A,B,Y,w6]->PV.one x=true:=λx hx=>by rcases one x hx with⟨q,s,n,rfl⟩|rfl<;>rfl
 have o1:=y u bH;have o3:=y A bH;have o4:=y B bH;have o5:=y Y bH;have ο:=y w6 bH;simp only[PV.one]at o1 o3 o4 o5 ο;simp only[go_sem,Gb,f6,f7,b7,b6,bkX,blD,or_false,forall_eq,forall_eq_or_imp,o1,o3,o4,o5,ο];have w:=p.set 2 rfl (flB (.int .i64 (1+e.1:Nat)) u (.osl qm 4 0 (1+i.1)) A B Y w6);have F:=w.sub (B':=[(o,bJ v vols.2)]) (bmW.cons_cons _ (List.nil_sublist _)) (bmW.refl _);obtain⟨φ,H6,k1,k2,k3,k4⟩:=aR.giveUp _ F (λx hx=>by
  simp only[List.cons_append,boD,bkX,blD,or_false]at hx;rcases hx with rfl|rfl|rfl|rfl|rfl|rfl
  ·exact aCS _
  ·exact azZ _
  ·exact aAB _
  ·exact awJ _
  ·exact awL _
  ·exact a7S _) (λb hb q s rs=>by
  simp only[bkX,blD,or_false]at hb;subst hb;simp only[bA.frz,blM,bmE,T.frz];rfl)
 refine zN (vs:=[.agg [.int .i64 (1+e.1:Nat),u,.osl qm 4 0 (1+i.1),A,B,Y,w6]]) (.inr rfl) (by simp only[go_sem,f6]) (k4 _ _ (.done (H2:=h_.set o (bJ v vols.2)) ?_ (e_ a_ (k3.at 0 rfl))));rw[hR,hT];refine⟨CoL.agg ?_,rfl⟩;have s5:=k1 (Y,17,qU pols.1) bH;have s1:=k1 (u,4,lS bjC.1) bH;have s2:=k1 (.osl qm 4 0 (1+i.1),4,oF biW.1) bH;have s3:=k1 (A,7,oQ g.bjE) bH;have s4:=k1 (B,3,rL g.bjO) bH;have s6:=k1 (w6,2,uF vols.1) bH;have s0:φ (.int .i64 (1+e.1:Nat))=.int .i64 (1+e.1:Nat):=k2 _ rfl;show CoL [φ (.int .i64 (1+e.1:Nat)),φ u,φ (.osl qm 4 0 (1+i.1)),φ A,φ B,φ Y,φ w6] _;rw[s0];exact CoL.cons (.refl _) (CoL.cons s1.co (CoL.cons s2.co (CoL.cons s3.co (CoL.cons s4.co (CoL.cons s5.co (CoL.cons s6.co .nil))))))
structure aOR(C:Ctx):Prop extends Z2 C where
 new:∀(l:List Nat),(∀x∈l,x<256)->Z' l<=9223372036854775807->aH C 28 [.sl 1 (mG l)] .nil (L8 l)
 fleet:∀(l:List Nat)(v:PV),Tp l v->∀(o biV biX a:Nat),biV<=60->biX<=50->a<=Z' l ->
  aH C 0 [.ptr o 2 0 0,.int .i64 biV,.int .i64 biX] (h_.set o (bJ v a)) (λr H=>r=.agg (kO l biV biX a).1.cells/\H=h_.set o (bJ v (kO l biV biX a).2))
theorem bx.exact{name:Nat}{args:List PV}{H:PH}{l:List Nat}{v:PV}{o biV biX a:Nat}(h:aH C name args H (bx l v o biV biX a)):aH C name args H (λr H=>r=.agg (kO l biV biX a).1.cells/\H=h_.set o (bJ v (kO l biV biX a).2)):=
 h.post λr H' d=>⟨_,d.1,rfl,d.2⟩
theorem aQV(u:aOR C)(l:List Nat)(hb:∀x∈l,x<256)(y:Z' l<=9223372036854775807)(biV biX:Nat)(d:biV<=60)(p:biX<=50) :
  OV.wp C (aX ahU.res (cI (.agg (kO (l.take 400) biV biX 0).1.cells))) (g_ [.sl 1 (mG l),.int .i64 biV,.int .i64 biX]) .nil:=by
 simp only[go_sem,OV,Sm,ahU];refine aP λo6 A=>?_;simp only[go_sem,Sn];refine nE (u.new l hb y) rfl a_ ?_;rintro r H' ⟨o,v,rfl,T,rfl⟩ w;have i:¬o6=o:=by intro e;subst e;have:=w o6 (bJ v 0) (by rw[bD,aI rfl]) rfl;rw[bD,aI rfl]at this;cases this
 rw[PH.qN];simp only[go_sem];refine qA (u.fleet _ v T o biV biX 0 d p (bkL _)) (by rw[bD,aI rfl]) rfl ?_;simp only[go_sem,i];exact bG (vs:=[.agg (kO (l.take 400) biV biX 0).1.cells]) (.inr rfl) .nil Sq a_ ⟨.refl _,rfl⟩
theorem CoL.bgH:CoL [] []:=⟨rfl,λj p q h=>by simp at h⟩
theorem CoL.aIR{p q:PV}{ps e:List PV}(h:Co p q)(d:CoL ps e):CoL (p::ps) (q::e):=by
 refine⟨by simp[d.len],λj x y a b=>?_⟩;cases j with
 |zero =>simp only[List.getElem?_cons_zero,bmH.injEq]at a b;subst a;subst b;exact h
 |succ j=>exact d.at_ j x y (by simpa using a) (by simpa using b)
theorem aH.seen{name:Nat}{args:List PV}{H:PH}{v:PV}(h:aH C name args H (cI v)):aH C name args H (aF v):=
 h.post λr H' d=>⟨v,d.1,rfl,d.2⟩
def ni(x:RF):Bool:=(x.num.all (λn=>decide (n<4294967296))&&x.den.all λn=>decide (n<4294967296))&&(decide (Z' x.num<=9)&&decide (Z' x.den<=9))
theorem XP{x:RF}(h:ni x=true):x.Ok:=by
 simp only[ni,bkI,bkS,dT_]at h;exact⟨h.1.1,h.1.2,by omega,by omega⟩
def SL(l:List RF):Bool:=decide (Z' l<=9)&&l.all ni
theorem NE{l:List RF}(h:SL l=true):nI l:=by
 simp only[SL,bkI,bkS,dT_]at h;exact⟨by unfold Fits;omega,λx d=>XP (h.2 x d)⟩
def ahE(x:dB):Bool:=(SL x.start&&SL x.exit)&&(decide (Z' x.bjA<=9)&&x.bjA.all SL)
theorem aQL{x:dB}(h:ahE x=true):x.Ok:=by
 simp only[ahE,bkI,bkS,dT_]at h;exact⟨NE h.1.1,NE h.1.2,by unfold Fits;omega,λr d=>NE (h.2.2 r d)⟩
def amE(x:cJ):Bool:=(decide (dJ x.k/\dJ x.m/\dJ x.bjT)&&(decide (Z' x.biW<=9)&&x.biW.all λm=>decide (dJ m)))&&(SL x.repair&&(ni x.target&&ni x.bjF))
theorem aSH{x:cJ}(h:amE x=true):x.Ok:=by
 simp only[amE,bkI,bkS,dT_]at h;exact⟨h.1.1.1,h.1.1.2.1,h.1.1.2.2,by unfold Fits;omega,h.1.2.2,NE h.2.1,XP h.2.2.1,XP h.2.2.2⟩
def okB(f:aE):Bool:=(decide (Z' f.bjC<=99/\Z' f.biW<=99/\Z' f.biY<=99/\Z' f.biV<=99/\Z' f.biZ<=99/\Z' f.biX<=99)&&(f.bjC.all ahE&&f.biZ.all amE)) &&
 (f.biY.all (λx=>ni x.bjK&&decide (dJ x.level/\dJ x.parent))&&(f.biV.all (λx=>decide (dJ x.model/\dJ x.machine))&&f.biX.all λx=>decide (dJ x.bjH)))
theorem a9O{f:aE}(h:okB f=true):f.Ok:=by
 simp only[okB,bkI,bkS,dT_]at h;obtain⟨⟨⟨u,w,y,A,B,E⟩,i,l⟩,e,p,h5⟩:=h;exact⟨by unfold Fits;omega,by unfold Fits;omega,by unfold Fits;omega,by unfold Fits;omega,by unfold Fits;omega,by unfold Fits;omega,λx d=>aQL (i x d),λx d=>⟨XP (e x d).1,(e x d).2⟩,p,λx d=>aSH (l x d),h5⟩
def gU:=bR [43] Proofs.Tryz.f161
def Wp:=aA gU 0
def Wq:=aA gU 1
def Ws:=aA gU 2
def Wt:=aA gU 3
def Wu:=aA gU 4
def Wv:=aA gU 5
def Ww:=aA gU 6
def Wx:=aA gU 7
def j7:=aA gU 8
def j8:=aA gU 9
def YV:=aA gU 10
def YW:=aA gU 11
def YX:=aA gU 12
def HQ:=aA gU 13
def HR:=aA gU 14
def Jz:aC:=(cT Wu 13 0 HR (sq Wv (hL Ww 20 (.region Wx) (sq j7 (sq j8 (hL YV 35 (sq YW (.region YX)) (.region HQ)))))))
def J0:=aA gU 15
def QQ:aC:=(sq Wp (sq Wq (sq Ws (.seq (cD Wt 0 Jz) (sq J0 .ret)))))
def aqR:bB:=⟨2,47,QQ,[.tmp 4]⟩
def kG:=bR [51] Proofs.Tryz.f160
def aqW:=aA kG 0
def aqX:=aA kG 1
def aqY:=aA kG 2
def aqZ:=aA kG 3
def arA:=aA kG 4
def zt:=aA kG 5
def zu:=aA kG 6
def zw:=aA kG 7
def YZ:=aA kG 8
def ZA:=aA kG 9
def NN:=aA kG 10
def NO:=aA kG 11
def NP:=aA kG 12
def W0:aC:=(cT arA 22 0 NP (sq zt (hL zu 29 (.region zw) (hL YZ 40 (.region ZA) (sq NN (.region NO))))))
def kb:=aA kG 13
def YY:aC:=(sq aqW (sq aqX (sq aqY (.seq (cD aqZ 0 W0) (sq kb .ret)))))
def aNR:bB:=⟨2,57,YY,[.tmp 4]⟩
def jT:=bR [] Proofs.Tryz.f173
def W1:=aA jT 0
def W2:=aA jT 1
def W3:=aA jT 2
def W4:=aA jT 3
def kf:=aA jT 4
def kg:=aA jT 5
def W5:=aA jT 6
def W6:=cN jT 0
def W7:=aA jT 7
def W8:=aA jT 8
def J4:=aA jT 9
def ZB:aC:=(cT W5 25 2 J4 (dq W6 (sq W7 (.region W8))))
def ZC:=aA jT 10
def J5:=aA jT 11
def J3:aC:=(cT W4 19 0 J5 (sq kf (.seq (cD kg 2 ZB) (.region ZC))))
def J6:=aA jT 12
def QR:aC:=(sq W1 (sq W2 (.seq (cD W3 0 J3) (sq J6 .ret))))
def arB:bB:=⟨2,68,QR,[.tmp 4]⟩
def vZ:=bR [] Proofs.Tryz.f115
def aDU:=aA vZ 0
def aDV:=aA vZ 1
def Ov:=aA vZ 2
def aDW:=aA vZ 3
def aDX:=aA vZ 4
def aDY:=aA vZ 5
def aDZ:=aA vZ 6
def jz:aC:=(sq aDU (dA aDV 12 Ov (sq aDW (dA aDX 19 aDY (sq aDZ .ret)))))
def a0T:bB:=⟨2,21,jz,[.tmp 4,.tmp 5]⟩
def zS:=bR [] Proofs.Tryz.f117
def aFG:=aA zS 0
def aFH:=aA zS 1
def O0:=aA zS 2
def aFI:=aA zS 3
def aFJ:=aA zS 4
def aFK:=aA zS 5
def kd:aC:=(sq aFG (dA aFH 11 O0 (dA aFI 15 aFJ (sq aFK .ret))))
def a1J:bB:=⟨2,21,kd,[.tmp 4,.tmp 5]⟩
def wB:=bR [] Proofs.Tryz.f159
def aEY:=aA wB 0
def aEZ:=aA wB 1
def Oz:=aA wB 2
def aFA:=aA wB 3
def aFB:=aA wB 4
def aFC:=aA wB 5
def aFD:=aA wB 6
def j9:aC:=(sq aEY (dA aEZ 12 Oz (sq aFA (dA aFB 19 aFC (sq aFD .ret)))))
def a1B:bB:=⟨2,21,j9,[.tmp 4,.tmp 5]⟩
def oL:=bR [] Proofs.Tryz.f171
def apR:=aA oL 0
def apS:=aA oL 1
def apT:=aA oL 2
def apU:=aA oL 3
def apV:=aA oL 4
def apW:=aA oL 5
def apX:=aA oL 6
def apY:=aA oL 7
def apZ:=aA oL 8
def apQ:aC:=(cT apX 21 0 apZ (.region apY))
def Wk:=aA oL 9
def YP:aC:=(sq apR (sq apS (dA apT 9 apU (sq apV (.seq (cD apW 0 apQ) (sq Wk .ret))))))
def aNI:bB:=⟨1,27,YP,[.tmp 2]⟩
def pJ:=bR [35,42] Proofs.Tryz.f172
def aTX:=aA pJ 0
def aTY:=aA pJ 1
def aTZ:=aA pJ 2
def aUA:=aA pJ 3
def aUB:=aA pJ 4
def aUC:=aA pJ 5
def aUD:=aA pJ 6
def aUE:=aA pJ 7
def aUF:=aA pJ 8
def aUG:=aA pJ 9
def aFM:=aA pJ 10
def aFL:aC:=(cT aUD 18 0 aFM (sq aUE (sq aUF (.region aUG))))
def aFN:=aA pJ 11
def zy:aC:=(sq aTX (dA aTY 11 aTZ (sq aUA (sq aUB (.seq (cD aUC 0 aFL) (sq aFN .ret))))))
def uup:bB:=⟨2,45,zy,[.tmp 4]⟩
def mF:=bR [47] Proofs.Tryz.f174
def aqF:=aA mF 0
def aqG:=aA mF 1
def aqH:=aA mF 2
def aqI:=aA mF 3
def aqJ:=aA mF 4
def aqK:=aA mF 5
def aqL:=aA mF 6
def aqM:=aA mF 7
def aqN:=aA mF 8
def zq:=aA mF 9
def j5:=aA mF 10
def Wl:aC:=(cT aqK 18 0 j5 (sq aqL (hL aqM 30 (.region aqN) (.region zq))))
def Wm:=aA mF 11
def YT:aC:=(sq aqF (dA aqG 12 aqH (sq aqI (.seq (cD aqJ 0 Wl) (sq Wm .ret)))))
def aNM:bB:=⟨2,51,YT,[.tmp 4]⟩
def uu:=bR [1] Proofs.Tryz.f38
def Xq:=aA uu 0
def Xr:=aA uu 1
def QX:aC:=(sq Xq (sq Xr .ret))
def asK:bB:=⟨1,22,QX,[.tmp 2]⟩
def ut:=bR [1] Proofs.Tryz.f158
def Xb:=aA ut 0
def Xc:=aA ut 1
def QS:aC:=(sq Xb (sq Xc .ret))
def arQ:bB:=⟨1,13,QS,[.tmp 2]⟩
def HS:=bR [1] Proofs.Tryz.f113
def arL:=aA HS 0
def arM:=aA HS 1
def arN:=aA HS 2
def arO:=aA HS 3
def ZE:aC:=(sq arL (dA arM 5 arN (sq arO .ret)))
def aNX:bB:=⟨1,8,ZE,[.cell 2 (some 3),.tmp 3]⟩
def BV:=bR [1] Proofs.Tryz.f112
def Kg:=aA BV 0
def Kh:=aA BV 1
def Ki:=aA BV 2
def Kj:=aA BV 3
def LK:aC:=(sq Kg (dA Kh 6 Ki (sq Kj .ret)))
def O6:bB:=⟨1,15,LK,[.cell 2 (some 3),.tmp 3]⟩
def QW:=bR [] Proofs.Tryz.f114
def Xn:=aA QW 0
def Xo:=aA QW 1
def Xp:=aA QW 2
def QV:aC:=(sq Xn (sq Xo (sq Xp .ret)))
def asJ:bB:=⟨2,14,QV,[.tmp 4]⟩
def mT:=bR [2,3] Proofs.Tryz.f76
def Xd:=aA mT 0
def Xe:=cN mT 0
def Xf:=aA mT 1
def Xg:=aA mT 2
def Xh:=aA mT 3
def Xi:=aA mT 4
def Xj:=aA mT 5
def Xk:=aA mT 6
def Xl:=aA mT 7
def Xm:=aA mT 8
def QU:aC:=(sq Xd (dq Xe (sq Xf (.seq (.block 0 (sq Xg (.cond (Tm 33) (sq Xh .ret) (sq Xi (.cond (Tm 39) (sq Xj .ret) (sq Xk (.cond (Tm 45) (sq Xl .ret) .skip))))))) (sq Xm .ret)))))
def arZ:bB:=⟨2,53,QU,[.tmp 4]⟩
def J9:=bR [2,3] Proofs.Tryz.f35
def arR:=aA J9 0
def arS:=aA J9 1
def ZF:aC:=(sq arR (sq arS .ret))
def aNY:bB:=⟨2,9,ZF,[.tmp 4]⟩
def Kl:=bR [2,3] Proofs.Tryz.f39
def asA:=aA Kl 0
def asB:=aA Kl 1
def ZJ:aC:=(sq asA (sq asB .ret))
def aOB:bB:=⟨2,9,ZJ,[.tmp 4]⟩
def Km:=bR [1] Proofs.Tryz.f33
def asC:=aA Km 0
def asD:=cN Km 0
def ZK:aC:=(sq asC (dq asD .ret))
def aOC:bB:=⟨1,6,ZK,[.tmp 2]⟩
def nT:=bR [2,3] Proofs.Tryz.f61
def aFO:=aA nT 0
def aFP:=aA nT 1
def O1:=aA nT 2
def aFQ:=cN nT 0
def aFR:=aA nT 3
def aFS:=aA nT 4
def aFT:=aA nT 5
def aFU:=aA nT 6
def aFV:=aA nT 7
def aFW:=aA nT 8
def arH:=aA nT 9
def arI:=aA nT 10
def NQ:aC:=(sq aFO (dA aFP 22 O1 (dq aFQ (hL aFR 43 (sq aFS (sq aFT .ret)) (hL aFU 61 (sq aFV (sq aFW .ret)) (sq arH (sq arI .ret)))))))
def aNU:bB:=⟨2,90,NQ,[.cell 4 (some 3),.tmp 5]⟩
def pZ:=bR [] Proofs.Tryz.f155
def aGM:=aA pZ 0
def aGN:=aA pZ 1
def aGO:=aA pZ 2
def aGP:=aA pZ 3
def aGQ:=cN pZ 0
def O8:=aA pZ 4
def aGR:=aA pZ 5
def aGS:=aA pZ 6
def aGT:=aA pZ 7
def aGL:aC:=(cT aGP 12 0 aGT (dq aGQ (dA O8 25 aGR (.region aGS))))
def asI:=aA pZ 8
def kr:aC:=(sq aGM (sq aGN (.seq (cD aGO 0 aGL) (sq asI .ret))))
def a1V:bB:=⟨1,30,kr,[.cell 2 (some 3),.tmp 3]⟩
def I9:=bR [] Proofs.Tryz.f156
def DF:=aA I9 0
def DG:=aA I9 1
def tW:aC:=(sq DF (sq DG .ret))
def YC:bB:=⟨2,25,tW,[.tmp 4]⟩
def ky:=bR [] Proofs.Tryz.f177
def K0:=aA ky 0
def K3:=aA ky 1
def LN:aC:=(sq K0 (sq K3 .ret))
def Pc:bB:=⟨1,17,LN,[.tmp 2]⟩
def uv:=bR [] Proofs.Tryz.f187
def Xt:=aA uv 0
def Xu:=aA uv 1
def QZ:aC:=(sq Xt (sq Xu .ret))
def asL:bB:=⟨1,9,QZ,[.tmp 2]⟩
def kx:=bR [] Proofs.Tryz.f178
def Kp:=aA kx 0
def Kq:=aA kx 1
def LL:aC:=(sq Kp (sq Kq .ret))
def Pa:bB:=⟨1,17,LL,[.tmp 2]⟩
def nC:=bR [] Proofs.Tryz.f152
def Ks:=aA nC 0
def Kt:=aA nC 1
def HW:=aA nC 2
def Ku:=aA nC 3
def Kv:=aA nC 4
def Kw:=aA nC 5
def Kx:=aA nC 6
def Ky:=aA nC 7
def Kr:aC:=(cT Kv 21 0 Ky (sq Kw (.cond (Tm 28) (sq Kx .ret) .skip)))
def Kz:=aA nC 8
def LM:aC:=(sq Ks (dA Kt 17 HW (.seq (cD Ku 0 Kr) (sq Kz .ret))))
def Pb:bB:=⟨1,29,LM,[.tmp 2]⟩
theorem wU(P:List Nat)(v:Nat):aO P++[[.int .u32 (v:Int)]]=aO (P++[v]):=by simp[aO]
theorem wT{P:List Nat}(h:Z' P<=35184372087808):roomFor (aO P).length 1 4:=by
 unfold roomFor;rw[cX];simp only[maxLen];omega
def nu(a b:List Nat)(v:PV)(c i:Nat):PF:=(((((n_.set 0 (aN a)).set 1 (aN b)).set 5 (v)).set 6 (.int .u64 c)).set 7 (.int .i64 i))
theorem aTT(L:uQ C)(a b:List Nat)(ha:Lim a)(hb:Lim b)(η:val b<=val a)(hl:Z' b<=Z' a)(h1:Z' a<=35184372087808) :
  QQ.wp C (aX aqR.res (cI (aN (aM (val a-val b))))) (g_ [aN a,aN b]) .nil:=by
 simp only[go_sem,QQ,Wp,Wq,Ws,Wt,aqR];refine wp_loop (α:=List Nat × Nat × PV × PH) (λs=>nu a b s.2.2.1 s.2.1 s.1.length) (λs=>s.2.2.2)
  (λs=>s.1.length<=Z' a/\Lim s.1/\s.2.1<=1/\val (a.take s.1.length)+4294967296^s.1.length*s.2.1=val s.1+val (b.take s.1.length)/\cG s.2.2.2 1 s.2.2.1 (aO s.1)) (λs=>Z' a-s.1.length) ([],0,.aK,.nil) ⟨by simp,by simp[Lim],by simp,by simp[val],.nil⟩ ?_ a_ ?_
 ·unfold nu;exact Lq
 rintro⟨P,c,v,H0⟩ ⟨hP,i,hc,A,S⟩;simp only at hP i hc A S ⊢;simp only[go_sem,Jz,Wu,nu];by_cases U:Z' P<Z' a
 ·have E:(Z' P:Int)<(Z' a:Nat):=Om;have ε:=ha _ (bkK U);have δ:=dE a U;have β:(aO a)[Z' P]?=some [.int .u32 ((a[Z' P]:Nat):Int)]:=cK a U;generalize hx:a[Z' P]=x at *
  have ex:u_.wrap ((x:Nat):Int)=((x:Nat):Int):=bV Om;have fin:∀(t:Nat)(B:PF),t<4294967296->val (b.take (Z' P+1))=val (b.take P.length)+4294967296^P.length*t ->
    B 0=some (aN a)->B 1=some (aN b)->B 5=some v->B 8=some (.int .u64 (c+t:Nat))->B 7=some (.int .i64 P.length) ->
    ∀K:cH,(∀w l v' R H2,Z' w=Z' P+1->Lim w->l<=1->val (a.take (Z' P+1))+4294967296^w.length*l=val w+val (b.take (Z' P+1))->(nu a b v' l w.length).le R->cG H2 1 v' (aO w)->K .normal R H2) ->
    aC.wp C (.seq (.region j7) (.seq (.region j8) (.seq (.seq (.region YV) (.cond (.tmp 35) (.seq (.region YW) (.region YX)) .skip)) (.region HQ)))) (gE 1 (kD C (aC.wp C (.region HR)) K)) B H0:=by
   intro t B ht u g0 g1 g5 Z Y K hK;have step:∀(d l:Nat),d<4294967296->l<=1->x+4294967296*l=d+(c+t)->val (a.take (Z' P+1))+4294967296^(Z' P+1)*l=val (P++[d])+val (b.take (Z' P+1)):=by
    intro d l hd ζ he;have h2:4294967296^P.length*(x+4294967296*l)=4294967296^P.length*(d+(c+t)):=by rw[he]
    rw[blA,blA,blA]at h2;rw[nA,bmM,blL,δ,u];omega
   simp only[go_sem,j7,g0,Y,β,ex,j8,YV,Z];by_cases c2:x<c+t
   ·have F:((x:Nat):Int)<((c+t:Nat):Int):=Om;have N:u_.wrap ((x:Int)+4294967296)=((x+4294967296:Nat):Int):=by rw[show(x:Int)+4294967296=((x+4294967296:Nat):Int) by omega];exact bV Om
    have e2:u_.wrap (((x+4294967296:Nat):Int)-((c+t:Nat):Int))=((x+4294967296-(c+t):Nat):Int):=by rw[show((x+4294967296:Nat):Int)-((c+t:Nat):Int)=((x+4294967296-(c+t):Nat):Int) by omega];exact bV Om
    have J:IntKind.u32.wrap ((x+4294967296-(c+t):Nat):Int)=((x+4294967296-(c+t):Nat):Int):=by rw[dN,bmC Om]
    have M:(1:Nat)*1<=16777216:=by decide
    simp only[go_sem,F,YW,N,YX,HQ,g5,Z,e2,J,M];refine gZ (src:=[[.int .u32 ((x+4294967296-(c+t):Nat):Int)]]) S rfl (wT Om) λv' H' p _=>?_;rw[wU]at p;simp only[go_sem,HR,Y,eM (Om:Z' P<9223372036854775807)];refine hK _ 1 v' _ H' bH (i.app λy Q=>by simp at Q;subst Q;omega) (bkN _) ?_ ?_ p
    ·rw[bkQ,bkV];exact step _ 1 Om (bkN _) Om
    ·unfold nu;rw[bkQ,bkV];exact Lq
   ·have F:¬((x:Nat):Int)<((c+t:Nat):Int):=Om;have e2:u_.wrap (((x:Nat):Int)-((c+t:Nat):Int))=((x-(c+t):Nat):Int):=by rw[show((x:Nat):Int)-((c+t:Nat):Int)=((x-(c+t):Nat):Int) by omega];exact bV Om
    have J:IntKind.u32.wrap ((x-(c+t):Nat):Int)=((x-(c+t):Nat):Int):=by rw[dN,bmC Om]
    have M:(1:Nat)*1<=16777216:=by decide
    simp only[go_sem,F,HQ,g5,Z,e2,J,M];refine gZ (src:=[[.int .u32 ((x-(c+t):Nat):Int)]]) S rfl (wT Om) λv' H' p _=>?_;rw[wU]at p;simp only[go_sem,HR,Y,eM (Om:Z' P<9223372036854775807)];refine hK _ 0 v' _ H' bH (i.app λy Q=>by simp at Q;subst Q;omega) aU ?_ ?_ p
    ·rw[bkQ,bkV];exact step _ 0 Om aU Om
    ·unfold nu;rw[bkQ,bkV];exact Lq
  simp only[aC.wp,go_sem]at fin;simp only[go_sem,E,Wv,Ww];by_cases V:Z' P<Z' b
  ·have H:(Z' P:Int)<(Z' b:Nat):=Om;have γ:=hb _ (bkK V);have u:=dE b V;have eb:u_.wrap ((b[Z' P]:Nat):Int)=((b[Z' P]:Nat):Int):=bV Om;have es:u_.wrap ((c:Int)+(b[Z' P]:Int))=((c+b[Z' P]:Nat):Int):=iY Om;simp only[go_sem,H,Wx,cK b V,eb,es];refine fin b[Z' P] _ γ u rfl rfl rfl rfl rfl _ ?_;intro w l v' R H2 N e2 J O W X;rw[<-N]at O;exact aG (α:=List Nat × Nat × PV × PH) (w,l,v',H2) ⟨by simp only;omega,e2,J,O,X⟩ (by simp only;omega) W b_
  ·have H:¬(Z' P:Int)<(Z' b:Nat):=Om;have u:val (b.take (Z' P+1))=val (b.take P.length)+4294967296^P.length*0:=by rw[bkZ Om,bkZ Om];simp
   simp only[go_sem,H];refine fin 0 _ aU u rfl rfl rfl rfl rfl _ ?_;intro w l v' R H2 N e2 J O W X;rw[<-N]at O;exact aG (α:=List Nat × Nat × PV × PH) (w,l,v',H2) ⟨by simp only;omega,e2,J,O,X⟩ (by simp only;omega) W b_
 ·have e:Z' P=Z' a:=Om;have E:¬(Z' P:Int)<(Z' a:Nat):=Om;have hV:val P=val a-val b:=by
   rw[e,blE,bkZ hl]at A;have hlt:=iW i;rw[e]at hlt;rcases bmZ c with h|h
   ·subst h;omega
   ·have:c=1:=Om;subst this;omega
  simp only[go_sem,E,J0];have hs:=L.trim _ i Om;rw[hV]at hs;refine BY hs S rfl λF1 H1 _=>?_;simp only[go_sem];exact bG (.inr rfl) .nil rfl a_ ⟨.refl _,rfl⟩
def yV(a b:List Nat)(o i:Nat):PF:=((((n_.set 0 (aN a)).set 1 (aN b)).set 5 (.osl o 1 0 (Z' a+Z' b))).set 6 (.int .i64 i))
def utG(a b:List Nat)(o i c j:Nat):PF:=((((((n_.set 0 (aN a)).set 1 (aN b)).set 5 (.osl o 1 0 (Z' a+Z' b))).set 6 (.int .i64 i)).set 7 (.int .u64 c)).set 8 (.int .i64 j))
theorem aNS(a b:List Nat)(ha:Lim a)(hb:Lim b)(h1:Z' a<=35184372087808)(h2:Z' b<=35184372087808)(L:List Nat)(i:Nat)(hi:i<Z' a)(N:RK a b L i)(q:Nat)(K:cH)(F:PF)(H:PH)(J:(yV a b q i).le F)(hH:H q=some (.rows 1 (aO L)))
  (hK:∀L' F' H',RK a b L' (i+1)->(yV a b q i).le F'->H' q=some (.rows 1 (aO L'))->K .normal F' H') :
  aC.wp C (.block 1 (.seq (.region kf) (.seq (.seq (.region kg) (.block 2 (.loop ZB))) (.region ZC)))) K F H:=by
 have f0:=J 0 _ (by unfold yV;simp only[go_sem];rfl);have f1:=J 1 _ (by unfold yV;simp only[go_sem];rfl);have f5:=J 5 _ (by unfold yV;simp only[go_sem];rfl);have f6:=J 6 _ (by unfold yV;simp only[go_sem];rfl);have hx:=ha _ (bkK hi);have Y:=dE a hi;generalize β:a[i]=x at *
 have V:(aO a)[i]?=some [.int .u32 ((x:Nat):Int)]:=by rw[cK a hi,β]
 simp only[go_sem,kf,kg];refine wp_loop (α:=List Nat × Nat × Nat) (λt=>utG a b q i t.2.1 t.2.2) (λt=>h_.set q (.rows 1 (aO t.1)))
  (λt=>t.2.2<=Z' b/\t.1.length=Z' a+Z' b/\Lim t.1/\t.2.1<4294967296/\val t.1+4294967296^(i+t.2.2)*t.2.1=val (a.take i)*val b+4294967296^i*(x*val (b.take t.2.2))/\∀j y,i+Z' b<=j->t.1[j]?=some y->y=0) (λt=>Z' b-t.2.2) (L,0,0)
  ⟨by simp,N.len,N.lim,by simp,by simp[val,N.v],N.z⟩ ?_ (e_ a_ hH) ?_
 ·unfold utG;exact Lq
 rintro⟨M,c,j⟩ ⟨hj,U,e,X,u,Q⟩;simp only at hj U e X u Q;simp only[go_sem,ZB,W5,utG];by_cases R:j<Z' b
 ·have w:(j:Int)<(Z' b:Nat):=Om;have O:=hb _ (bkK R);have Z:=dE b R;generalize γ:b[j]=y at *
  have W:(aO b)[j]?=some [.int .u32 ((y:Nat):Int)]:=by rw[cK b R,γ]
  have d:i+j<Z' M:=Om;have E:=e _ (bkK d);have p:=SQ d;generalize δ:M[i+j]=z at *
  have B:(aO M)[i+j]?=some [.int .u32 ((z:Nat):Int)]:=by rw[cK M d,δ]
  have ex:u_.wrap ((x:Nat):Int)=((x:Nat):Int):=bV Om;have ey:u_.wrap ((y:Nat):Int)=((y:Nat):Int):=bV Om;have ez:u_.wrap ((z:Nat):Int)=((z:Nat):Int):=bV Om;have em:=aAV hx O;have ζ:x*y<=4294967295*4294967295:=bnV Om Om;have e1:u_.wrap (((x*y:Nat):Int)+(z:Int))=((x*y+z:Nat):Int):=iY Om;have e2:u_.wrap (((x*y+z:Nat):Int)+(c:Int))=((x*y+z+c:Nat):Int):=iY Om;have A:i_.wrap ((i:Int)+(j:Int))=((i+j:Nat):Int):=kT Om;have hlt:((i+j:Nat):Int)<((Z' a+Z' b:Nat):Int):=Om;generalize ht:x*y+z+c=t at *
  have ε:t<4294967296*4294967296:=Om;have l:(aO M).set (i+j) [.int .u32 ((t%4294967296:Nat):Int)]=aO (M.set (i+j) (t%4294967296)):=jW M (i+j) _;simp only[go_sem,w];refine bP .nil eJ a_ ?_;simp only[go_sem,W6,V,W,ex,ey,em,A,hlt,B,ez,e1,e2,W7,dN,l,W8,HO,J4,wZz j];refine aG (M.set (i+j) (t%4294967296),t/4294967296,j+1) ⟨by simp only;omega,by simp only[bmD];exact U,e.set _ (bmG _ aU),by simp only;omega,?_,K6 Q _ _ Om⟩ (by simp only;omega) ?_ (e_ a_ Sq)
  ·simp only;have S:=p (t%4294967296);have h4:4294967296^(i+(j+1))*(t/4294967296)+4294967296^(i+j)*(t%4294967296)=4294967296^(i+j)*t:=by rw[<-bnC,bmM,blL,<-blA,boG]
   have h5:4294967296^(i+j)*t=4294967296^(i+j)*(x*y)+4294967296^(i+j)*z+4294967296^(i+j)*c:=by rw[<-ht,blA,blA]
   have h6:4294967296^i*(x*val (b.take (j+1)))=4294967296^i*(x*val (b.take j))+4294967296^(i+j)*(x*y):=by rw[Z,blA,blA,Nat.pow_add];congr 1;rw[Nat.mul_left_comm x,blL]
   omega
  ·exact Lq
 ·have he:j=Z' b:=Om;have w:¬(j:Int)<(Z' b:Nat):=Om;subst he;have d:i+Z' b<Z' M:=Om;have E:M[i+Z' b]=0:=Q _ _ (bkN _) (bkT d);have p:=SQ d;have B:(aO M)[i+Z' b]?=some [.int .u32 ((0:Nat):Int)]:=by rw[cK M d,E]
  have A:i_.wrap ((i:Int)+(Z' b:Int))=((i+Z' b:Nat):Int):=kT Om;have hlt:((i+Z' b:Nat):Int)<((Z' a+Z' b:Nat):Int):=Om;have l:(aO M).set (i+Z' b) [.int .u32 ((c%4294967296:Nat):Int)]=aO (M.set (i+Z' b) c):=by rw[bmC X];exact jW M _ _
  simp only[go_sem,w,ZC,A,dN,hlt,B,l];refine hK (M.set (i+Z' b) c) _ _ ⟨by rw[bmD];exact U,e.set _ X,?_,λj y hj O=>?_⟩ (by unfold yV;exact Lq) Sq
  ·have S:=p c;rw[E,Nat.mul_zero,bmS]at S;rw[S,u,blE,Y,blT,blL]
  ·rw[List.getElem?_set_ne Om]at O;exact Q j y Om O
theorem aTW(L:uQ C)(a b:List Nat)(K:Lim a)(hb:Lim b)(S:Z' a<=8388608)(U:Z' b<=8388608) :
  QR.wp C (aX arB.res (cI (aN (aM (val a*val b))))) (g_ [aN a,aN b]) .nil:=by
 have p:i_.wrap ((Z' a:Int)+(Z' b:Int))=((Z' a+Z' b:Nat):Int):=kT Om;have A:((Z' a+Z' b:Nat):Int)*((4:Nat):Int)<=140737488355328:=Om;have B:((Z' a+Z' b:Nat):Int)<=9223372036854775807:=Om;have O:bkM (Z' a+Z' b) [PV.int .u32 0]=aO (bkM (Z' a+Z' b) 0):=by simp[aO]
 simp only[go_sem,QR,W1,W2,arB,bkG,p,A,B,O];refine aP λo V=>?_;simp only[go_sem,W3];refine wp_loop (α:=List Nat × Nat) (λt=>yV a b o t.2) (λt=>h_.set o (.rows 1 (aO t.1))) (λt=>t.2<=Z' a/\RK a b t.1 t.2) (λt=>Z' a-t.2) (bkM (Z' a+Z' b) 0,0)
  ⟨by simp,by simp,ET _,by simp[val,zT],λj x _ F=>by rw[List.getElem?_replicate]at F;split at F<;>simp_all⟩ ?_ (e_ a_ Sq) ?_
 ·unfold yV;exact Lq
 rintro⟨M,i⟩ ⟨hi,e⟩;simp only at hi e;simp only[go_sem,J3,W4,yV];by_cases H:i<Z' a
 ·have l:(i:Int)<(Z' a:Nat):=Om;have u:=aNS (C:=C) a b K hb Om Om M i H e o;simp only[go_sem]at u;simp only[go_sem,l];refine u _ _ _ (by unfold yV;exact Lq) Sq ?_;intro L' Q H' y d w;have J:=d 6 _ (by unfold yV;simp only[go_sem];rfl);have g0:=d 0 _ (by unfold yV;simp only[go_sem];rfl);have g1:=d 1 _ (by unfold yV;simp only[go_sem];rfl);have R:=d 5 _ (by unfold yV;simp only[go_sem];rfl);simp only[go_sem,J5,J,wZz i];refine aG (L',i+1) ⟨by simp only;omega,y⟩ (by simp only;omega) ?_ (e_ a_ w);exact Lq
 ·have N:i=Z' a:=Om;subst N;have l:¬(Z' a:Int)<(Z' a:Nat):=Om;have hV:val M=val a*val b:=by rw[e.v,blE]
  simp only[go_sem,J6];have E:=L.trim _ e.lim (by rw[e.len];omega);rw[hV]at E;refine xC (o:=o) (s:=1) (k:=Z' a+Z' b) (rs:=aO M) (v:=aN (aM (val a*val b))) ?_ rfl Sq (by rw[cX,e.len];exact bkN _) ?_
  ·rw[bkZ (by rw[cX,e.len];exact bkN _)];exact E
  ·simp only[go_sem];exact bG (.inr rfl) .nil rfl a_ ⟨.refl _,rfl⟩
structure Z7(C:Ctx):Prop extends Z5 C where
 minus:∀a b,Lim a->Lim b->val b<=val a->Z' b<=Z' a->Z' a<=35184372087808->aH C 42 [aN a,aN b] .nil (aF (aN (aM (val a-val b))))
 times:∀a b,Lim a->Lim b->Z' a<=8388608->Z' b<=8388608->aH C 44 [aN a,aN b] .nil (aF (aN (aM (val a*val b))))
theorem a7N(L:Z7 C)(a b:List Nat)(l:Lim a)(hb:Lim b)(w:Z' a<=35184372087808)(x:Z' b<=35184372087808) :
  j9.wp C (aX a1B.res (cI (opV (fO (val a) (val b)) (val a*val b)))) (g_ [aN a,aN b]) .nil:=by
 unfold opV;simp only[go_sem,j9,aEY,aEZ,a1B];refine aB (L.large a l w) rfl ?_;by_cases e:nl (val a)>512
 ·simp only[go_sem,e,Oz];rw[aI (by simp[fO,e])];exact gT rfl
 simp only[go_sem,e];refine aB (L.large b hb x) rfl ?_;by_cases i:nl (val b)>512
 ·simp only[go_sem,i,Oz];rw[aI (by simp[fO,i])];exact gT rfl
 rw[aD (by simp[fO,e,i])];simp only[go_sem,i,aFA];refine aB (L.trim a l w) rfl ?_;simp only[go_sem];refine aB (L.trim b hb x) rfl ?_;simp only[go_sem];have u:=L.times (aM (val a)) (aM (val b)) (aY _) (aY _) (by rw[bE];omega) (by rw[bE];omega);rw[aW,aW]at u;refine aB u rfl ?_;have y:=kZ (a:=val a) (b:=val b) (m:=512) (n:=512) Om Om;have p:=L.large (aM (val a*val b)) (aY _) (by rw[bE];omega);rw[aW]at p;simp only[go_sem,aFB];refine aB p rfl ?_;unfold szV szL szE;by_cases d:nl (val a*val b)>512
 ·rw[aI d,aI d];simp only[go_sem,d,aFC];exact gT rfl
 ·rw[aD d,aD d];simp only[go_sem,d,aFD];exact bG (.inr rfl) .nil rfl a_ ⟨.refl _,rfl⟩
def GK(a:List Nat)(i:Nat):Nat:=a.getD i 0
theorem acN{a:List Nat}(h:Lim a)(i:Nat):GK a i<4294967296:=by
 unfold GK;rw[blB];rcases blI i a.length with h1|h1
 ·rw[bkT h1];exact h _ (bkK h1)
 ·rw[bmA h1];decide
theorem vw{a:List Nat}{i:Nat}(h:i<Z' a):GK a i=a[i]:=by simp[GK,blB,h]
theorem dj{a:List Nat}{i:Nat}(h:¬i<Z' a):GK a i=0:=by simp[GK,blB,h]
theorem kh(a:List Nat)(i:Nat):val (a.take (i+1))=val (a.take i)+4294967296^i*GK a i:=by
 rcases blI i a.length with h|h
 ·rw[vw h];exact dE a h
 ·rw[dj Om,bkZ Om,bkZ Om];simp
def BR(a b:List Nat)(v:PV)(c i:Nat):PF:=(((((n_.set 0 (aN a)).set 1 (aN b)).set 5 (v)).set 6 (.int .u64 c)).set 7 (.int .i64 i))
theorem a1H(L:uQ C)(a b:List Nat)(ha:Lim a)(hb:Lim b)(h1:Z' a<=8388608)(h2:Z' b<=8388608) :
  YY.wp C (aX aNR.res (cI (aN (aM (val a+val b))))) (g_ [aN a,aN b]) .nil:=by
 simp only[go_sem,YY,aqW,aqX,aqY,aqZ,aNR];refine wp_loop (α:=List Nat × Nat × PV × PH) (λs=>BR a b s.2.2.1 s.2.1 s.1.length) (λs=>s.2.2.2)
  (λs=>s.1.length<=max a.length b.length+1/\(s.1.length<=max a.length b.length\/s.2.1=0)/\Lim s.1/\s.2.1<=1/\val s.1+4294967296^s.1.length*s.2.1=val (a.take s.1.length)+val (b.take s.1.length)/\cG s.2.2.2 1 s.2.2.1 (aO s.1)) (λs=>max a.length b.length+1-s.1.length) ([],0,.aK,.nil)
  ⟨by simp,by simp,by simp[Lim],by simp,by simp[val],.nil⟩ ?_ a_ ?_
 ·unfold BR;exact Lq
 rintro⟨P,c,v,H0⟩ ⟨hP,δ,l,hc,E,hO⟩;simp only at hP δ l hc E hO ⊢;have ι:=acN ha P.length;have κ:=acN hb P.length;have η:=kh a P.length;have θ:=kh b P.length;generalize hx:GK a P.length=x at *
 generalize Z:GK b P.length=y at *
 have ex:u_.wrap ((x:Nat):Int)=((x:Nat):Int):=bV Om;have ey:u_.wrap ((y:Nat):Int)=((y:Nat):Int):=bV Om;have N:u_.wrap ((c:Int)+(x:Int))=((c+x:Nat):Int):=iY Om;have e2:u_.wrap (((c+x:Nat):Int)+(y:Int))=((c+x+y:Nat):Int):=iY Om;have ζ:Z' P<Z' a->(aO a)[Z' P]?=some [.int .u32 ((x:Nat):Int)]:=λh=>by rw[cK a h,<-hx,vw h]
 have X:Z' P<Z' b->(aO b)[Z' P]?=some [.int .u32 ((y:Nat):Int)]:=λh=>by rw[cK b h,<-Z,vw h]
 have Y:¬Z' P<Z' a->x=0:=λh=>by rw[<-hx,dj h]
 have O:¬Z' P<Z' b->y=0:=λh=>by rw[<-Z,dj h]
 have body:(Z' P<=max a.length b.length)->∀K:cH,(∀i u v' Q H2,Z' i=Z' P+1->Lim i->u<=1->(Z' P+1<=max a.length b.length\/u=0)->val i+4294967296^i.length*u=val (a.take (Z' P+1))+val (b.take (Z' P+1))->(BR a b v' u i.length).le Q->cG H2 1 v' (aO i)->K .normal Q H2) ->
   ∀F:PF,(BR a b v c P.length).le F->aC.wp C (.seq (.block 1 (.seq (.region zt) (.seq (.seq (.region zu) (.cond (.tmp 29) (.region zw) .skip)) (.seq (.seq (.region YZ) (.cond (.tmp 40) (.region ZA) .skip)) (.seq (.region NN) (.region NO)))))) (.region NP)) K F H0:=by
  intro μ K hK F V;have g0:F 0=some (aN a):=V 0 _ (by unfold BR;simp only[go_sem]);have g1:F 1=some (aN b):=V 1 _ (by unfold BR;simp only[go_sem]);have g5:F 5=some v:=V 5 _ (by unfold BR;simp only[go_sem]);have g6:F 6=some (.int .u64 c):=V 6 _ (by unfold BR;simp only[go_sem]);have w:F 7=some (.int .i64 P.length):=V 7 _ (by unfold BR;simp only[go_sem]);have fin:∀H:PF,H 0=some (aN a)->H 1=some (aN b)->H 5=some v->H 7=some (.int .i64 P.length)->H 8=some (.int .u64 (c+x+y:Nat)) ->
    aC.wp C (.seq (.region NN) (.region NO)) (gE 1 (kD C (aC.wp C (.region NP)) K)) H H0:=by
   intro H q0 q1 q5 q7 q8;have ε:(1:Nat)*1<=16777216:=by decide
   generalize ht:c+x+y=t at *
   have ν:t<2*4294967296:=Om;simp only[go_sem,NN,q5,q8,ε,dN];refine gZ (src:=[[.int .u32 ((t%4294967296:Nat):Int)]]) hO rfl (wT Om) λv' H' W _=>?_;rw[wU]at W;simp only[go_sem,NO,q8,HO,NP,q7,eM (Om:Z' P<9223372036854775807)];refine hK (P++[t%4294967296]) (t/4294967296) v' _ H' bH (l.app λy Z=>by simp at Z;subst Z;omega) Om ?_ ?_ ?_ W
   ·rcases blI P.length (max a.length b.length)with h|h
    ·exact .inl h
    ·right;have h1:=Y Om;have h2:=O Om;omega
   ·rw[nA,bkQ,bkV,η,θ,bmM,blL,bnC,<-blA];rw[show t%4294967296+4294967296*(t/4294967296)=t from Nat.mod_add_div t 4294967296];have h3:4294967296^P.length*t=4294967296^P.length*c+4294967296^P.length*x+4294967296^P.length*y:=by rw[<-ht,blA,blA]
    omega
   ·unfold BR;rw[bkQ,bkV];exact Lq
  simp only[aC.wp,go_sem]at fin;simp only[go_sem,zt,g6,zu,w,g0];by_cases c1:Z' P<Z' a
  ·have e:(Z' P:Int)<(Z' a:Nat):=Om;simp only[go_sem,e,zw,g0,w,ζ c1,ex,N,YZ,g1];by_cases J:Z' P<Z' b
   ·have d:(Z' P:Int)<(Z' b:Nat):=Om;simp only[go_sem,d,ZA,g1,w,X J,ey,e2];exact fin _ (by simp only[go_sem,g0]) (by simp only[go_sem,g1]) (by simp only[go_sem,g5]) (by simp only[go_sem,w]) rfl
   ·have d:¬(Z' P:Int)<(Z' b:Nat):=Om;have h0:=O J;simp only[go_sem,d];exact fin _ (by simp only[go_sem,g0]) (by simp only[go_sem,g1]) (by simp only[go_sem,g5]) (by simp only[go_sem,w]) (by simp only[go_sem,h0])
  ·have e:¬(Z' P:Int)<(Z' a:Nat):=Om;have h0:=Y c1;simp only[go_sem,e,YZ,g1,w];by_cases J:Z' P<Z' b
   ·have d:(Z' P:Int)<(Z' b:Nat):=Om;have β:u_.wrap ((c:Int)+(y:Int))=((c+x+y:Nat):Int):=by rw[h0];exact iY Om
    simp only[go_sem,d,ZA,g1,w,X J,ey,β];exact fin _ (by simp only[go_sem,g0]) (by simp only[go_sem,g1]) (by simp only[go_sem,g5]) (by simp only[go_sem,w]) rfl
   ·have d:¬(Z' P:Int)<(Z' b:Nat):=Om;have γ:=O J;simp only[go_sem,d];exact fin _ (by simp only[go_sem,g0]) (by simp only[go_sem,g1]) (by simp only[go_sem,g5]) (by simp only[go_sem,w]) (by simp only[go_sem,h0,γ])
 simp only[aC.wp,go_sem]at body;have p:¬Z' P<Z' a->¬Z' P<Z' b->c=0->∀F:PF,F 5=some v->aC.wp C (.seq (.region kb) .ret) (aX [.tmp 4] (cI (aN (aM (val a+val b))))) F H0:=by
  intro n1 n2 n3 F f5;have hV:val P=val a+val b:=by rw[n3,bkZ Om,bkZ Om]at E;omega
  have hs:=L.trim _ l Om;rw[hV]at hs;simp only[go_sem,kb,f5];refine BY hs hO rfl λF1 H1 _=>?_;simp only[go_sem];exact bG (.inr rfl) .nil rfl a_ ⟨.refl _,rfl⟩
 simp only[aC.wp,go_sem]at p;simp only[go_sem,W0,arA,BR];by_cases c1:Z' P<Z' a
 ·have e:(Z' P:Int)<(Z' a:Nat):=Om;simp only[go_sem,e];refine body Om _ ?_ _ (by unfold BR;exact Lq);intro i u v' Q H2 N e2 R A B S U;rw[<-N]at B A;exact aG (α:=List Nat × Nat × PV × PH) (i,u,v',H2) ⟨by simp only;omega,A,e2,R,B,U⟩ (by simp only;omega) S b_
 ·have e:¬(Z' P:Int)<(Z' a:Nat):=Om;simp only[go_sem,e];by_cases J:Z' P<Z' b
  ·have d:(Z' P:Int)<(Z' b:Nat):=Om;simp only[go_sem,d];refine body Om _ ?_ _ (by unfold BR;exact Lq);intro i u v' Q H2 N e2 R A B S U;rw[<-N]at B A;exact aG (α:=List Nat × Nat × PV × PH) (i,u,v',H2) ⟨by simp only;omega,A,e2,R,B,U⟩ (by simp only;omega) S b_
  ·have d:¬(Z' P:Int)<(Z' b:Nat):=Om;simp only[go_sem,d];by_cases c3:c=0
   ·have M:¬(c:Int)>0:=Om;simp only[go_sem,M];exact p c1 J c3 _ rfl
   ·have M:(c:Int)>0:=Om;simp only[go_sem,M];refine body Om _ ?_ _ (by unfold BR;exact Lq);intro i u v' Q H2 N e2 R A B S U;rw[<-N]at B A;exact aG (α:=List Nat × Nat × PV × PH) (i,u,v',H2) ⟨by simp only;omega,A,e2,R,B,U⟩ (by simp only;omega) S b_
structure Aw(C:Ctx):Prop extends Z7 C where
 plus:∀a b,Lim a->Lim b->Z' a<=8388608->Z' b<=8388608->aH C 43 [aN a,aN b] .nil (aF (aN (aM (val a+val b))))
theorem a7J(L:Aw C)(a b:List Nat)(l:Lim a)(hb:Lim b)(w:Z' a<=35184372087808)(x:Z' b<=35184372087808) :
  jz.wp C (aX a0T.res (cI (opV (fO (val a) (val b)) (val a+val b)))) (g_ [aN a,aN b]) .nil:=by
 unfold opV;simp only[go_sem,jz,aDU,aDV,a0T];refine aB (L.large a l w) rfl ?_;by_cases e:nl (val a)>512
 ·simp only[go_sem,e,Ov];rw[aI (by simp[fO,e])];exact gT rfl
 simp only[go_sem,e];refine aB (L.large b hb x) rfl ?_;by_cases i:nl (val b)>512
 ·simp only[go_sem,i,Ov];rw[aI (by simp[fO,i])];exact gT rfl
 rw[aD (by simp[fO,e,i])];simp only[go_sem,i,aDW];refine aB (L.trim a l w) rfl ?_;simp only[go_sem];refine aB (L.trim b hb x) rfl ?_;simp only[go_sem];have u:=L.plus (aM (val a)) (aM (val b)) (aY _) (aY _) (by rw[bE];omega) (by rw[bE];omega);rw[aW,aW]at u;refine aB u rfl ?_;have y:=Gr (a:=val a) (b:=val b) (m:=512) Om Om;have p:=L.large (aM (val a+val b)) (aY _) (by rw[bE];omega);rw[aW]at p;simp only[go_sem,aDX];refine aB p rfl ?_;unfold szV szL szE;by_cases d:nl (val a+val b)>512
 ·rw[aI d,aI d];simp only[go_sem,d,aDY];exact gT rfl
 ·rw[aD d,aD d];simp only[go_sem,d,aDZ];exact bG (.inr rfl) .nil rfl a_ ⟨.refl _,rfl⟩
theorem a7Q(L:Aw C)(a b:List Nat)(l:Lim a)(hb:Lim b)(p:Z' a<=35184372087808)(u:Z' b<=35184372087808) :
  kd.wp C (aX a1J.res (cI (yU (val a) (val b)))) (g_ [aN a,aN b]) .nil:=by
 unfold yU;simp only[go_sem,kd,aFG,aFH,a1J];refine aB (L.large a l p) rfl ?_;by_cases d:nl (val a)>512
 ·simp only[go_sem,d,O0];rw[aI (by simp[fO,d])];exact gT rfl
 simp only[go_sem,d];refine aB (L.large b hb u) rfl ?_;by_cases e:nl (val b)>512
 ·simp only[go_sem,e,O0];rw[aI (by simp[fO,e])];exact gT rfl
 rw[aD (by simp[fO,d,e])];simp only[go_sem,e,aFI];refine aB (L.cmp a b l hb p u) rfl ?_;by_cases i:val a<val b
 ·have:eR (val a) (val b)=-1:=by simp[eR,i]
  rw[aI i];simp only[go_sem,this,show((-1:Int)<0) by decide,aFJ];exact gT rfl
 ·have:¬eR (val a) (val b)<0:=by unfold eR;rw[aD i];split<;>decide
  rw[aD i];have y:=jO (Nat.sub_le (val a) (val b));have x:=jO (Om:val b<=val a);simp only[go_sem,this,aFK];refine aB (L.trim a l p) rfl ?_;simp only[go_sem];refine aB (L.trim b hb u) rfl ?_;simp only[go_sem];have w:=L.minus (aM (val a)) (aM (val b)) (aY _) (aY _) (by rw[aW,aW];omega) (by rw[bE,bE];exact x) (by rw[bE];omega);rw[aW,aW]at w;refine aB w rfl ?_;rw[LD Om];simp only[go_sem];exact bG (.inr rfl) .nil rfl a_ ⟨.refl _,rfl⟩
def apP(k:Nat)(v:Nat):PF:=((n_.set 3 (.int .i64 k)).set 4 (.int .u32 v))
theorem a0U(L:uQ C)(xs:List Nat)(J:Lim xs)(Q:Z' xs<=35184372087808) :
  YP.wp C (aX aNI.res (aF (.int .i64 (dC (val xs):Nat)))) (g_ [aN xs]) .nil:=by
 simp only[go_sem,YP,apR,apS,aNI];refine aB (L.trim xs J Q) rfl ?_;have R:=jF J;simp only[go_sem,apT,bkG,bE,NM];by_cases x:nl (val xs)=0
 ·simp only[go_sem,aV x,apU];refine aT (.inr rfl) rfl ?_;have:val xs=0:=kV.1 x;simp[bN,this,nL]
 obtain⟨n,N⟩:∃n,nl (val xs)=n+1:=⟨nl (val xs)-1,by omega⟩;obtain⟨t,w,A⟩:=apC (xs:=aM (val xs)) (aY _) (by rw[aW];exact N);have p:t<4294967296:=aY _ t (bmK w);have O:val xs=val ((aM (val xs)).take n)+4294967296^n*t:=by
  have:=aW (val xs);have d:n<(aM (val xs)).length:=by rw[bE];omega
  have M:(aM (val xs))[n]=t:=by rw[bkT d]at w;exact bmH.inj w
  conv=>lhs;rw[<-this,<-bkZ (l:=aM (val xs)) (i:=n+1) (by rw[bE];omega)]
  rw[dE _ d,M]
 have hb:dC (val xs)=32*n+dC t:=by have F:=iW ((aY (val xs)).take n);rw[bkY,bE,bnA Om]at F;have u:=aaK (lo:=val ((aM (val xs)).take n)) (k:=32*n) (hi:=t) (by rw[Nat.pow_mul];exact F) A;rw[<-u,Nat.pow_mul];exact congrArg dC O
 have e:(aO (aM (val xs)))[n]?=some [.int .u32 (t:Nat)]:=by simp[aO,w]
 have K:i_.wrap (((nl (val xs):Nat):Int)-1)=(n:Int):=by rw[wrap_i64 Om Om];omega
 have e2:i_.wrap (32*(n:Int))=((32*n:Nat):Int):=by rw[wrap_i64 Om Om];omega
 simp only[go_sem,bC x,apV,apW,bkG,bE,K,e2,e];refine wp_loop (α:=Nat × Nat) (λa=>apP a.1 a.2) (λ_=>.nil) (λa=>a.1+dC a.2=32*n+dC t/\a.2<4294967296) (λa=>a.2) (32*n,t) ⟨rfl,p⟩ ?_ a_ ?_
 ·unfold apP;exact Lq
 rintro⟨k,v⟩ ⟨u,hlt⟩;simp only at u hlt;have H:dC t<=32:=(rC t 32).2 p;simp only[go_sem,apQ,apX,apP];by_cases E:(v:Int)>0
 ·have B:v≠0:=Om;have y:IntKind.u32.wrap (bmX (v:Int) 2)=((v/2:Nat):Int):=by rw[show bmX (v:Int) 2=((v/2:Nat):Int)from Int.ofNat_tdiv v 2,dN,bmC Om]
  simp only[go_sem,E,apY,apZ,y,wZz k];refine aG (k+1,v/2) ⟨?_,?_⟩ (Nat.div_lt_self Om aU) ?_ a_
  ·have:=vG B;simp only;omega
  ·simp only;omega
  ·exact Lq
 ·have:v=0:=Om;subst this;simp only[go_sem,E,Wk];refine aT (.inr rfl) rfl ?_;rw[nL]at u;simp only[bN,PV.int.injEq,true_and];omega
theorem T5(n:Nat):4294967296^(n/32)*2^(n%32)=2^n:=by
 rw[show(4294967296:Nat)=2^32 by decide,<-Nat.pow_mul,<-Nat.pow_add];congr 1;omega
theorem aTL(n:Nat):i_.wrap (bmX (n:Int) 32)=i_.wrap ((n/32:Nat):Int):=by
 rw[show bmX (n:Int) 32=((n/32:Nat):Int)from Int.ofNat_tdiv n 32]
theorem aTN(n:Nat):Int.tmod (n:Int) 32=((n%32:Nat):Int):=Int.ofNat_tmod n 32
def a1L(a:List Nat)(n:Nat)(v:PV)(c i:Nat):PF:=(((((n_.set 0 (aN a)).set 1 (.int .i64 n)).set 5 (v)).set 6 (.int .u64 c)).set 7 (.int .i64 i))
theorem baQ(L:uQ C)(a:List Nat)(n:Nat)(ha:Lim a)(h1:Z' a<=8388608)(hn:n<=8388608)(h0:Z' a=0->val a=0) :
  zy.wp C (aX uup.res (tI 1 (aO (aM (val a*2^n))))) (g_ [aN a,.int .i64 n]) .nil:=by
 simp only[go_sem,zy,aTX,aTY,uup,bkG,NM];by_cases E:Z' a=0
 ·simp only[go_sem,aV E,aTZ];rw[h0 E,Nat.zero_mul,fJ];exact SJ (.inr rfl) rfl
 have ez:i_.wrap (bmX (n:Int) 32)=((n/32:Nat):Int):=by rw[aTL,zz Om]
 have em:=aTN n;have eu:u_.wrap ((n%32:Nat):Int)=((n%32:Nat):Int):=bV Om;have U:=T5 n;have S:n%32<32:=bmG _ aU;have hz:n/32<=8388608:=Om;generalize ζ:n/32=z at *
 generalize δ:n%32=s at *
 have Q:((z:Nat):Int)*((4:Nat):Int)<=140737488355328:=Om;have R:((z:Nat):Int)<=9223372036854775807:=Om;have W:bkM z [PV.int .u32 0]=aO (bkM z 0):=by simp[aO]
 have K:2^s<=2147483648:=bnR (show 0<2 by decide) (Om:s<=31);have A:0<2^s:=bnK aU;simp only[go_sem,bC E,aUA,ez,Q,R,W];refine aP λo ho=>?_;simp only[go_sem,aUB,aUC];refine wp_loop (α:=List Nat × Nat × Nat × PV × PH) (λt=>a1L a n t.2.2.2.1 t.2.1 t.2.2.1) (λt=>t.2.2.2.2)
  (λt=>t.2.2.1<=Z' a/\t.1.length=z+t.2.2.1/\Lim t.1/\t.2.1<2^s/\val t.1+4294967296^t.1.length*t.2.1=val (a.take t.2.2.1)*2^n/\cG t.2.2.2.2 1 t.2.2.2.1 (aO t.1)) (λt=>Z' a-t.2.2.1) (bkM z 0,0,0,.osl o 1 0 z,h_.set o (.rows 1 (aO (bkM z 0))))
  ⟨by simp,by simp,ET _,A,by simp[val,zT],.inr ⟨o,aO (bkM z 0),by rw[cX,List.length_replicate],s_,by rw[cX];exact bkN _,blE⟩⟩ ?_ b_ ?_
 ·unfold a1L;exact Lq
 rintro⟨P,c,i,v,H0⟩ ⟨hi,X,d,Y,p,N⟩;simp only at hi X d Y p N ⊢;simp only[go_sem,aFL,aUD,a1L];by_cases F:i<Z' a
 ·have u:(i:Int)<(Z' a:Nat):=Om;have γ:=ha _ (bkK F);have V:=dE a F;have O:=cK a F;generalize Z:a[i]=x at *
  have ε:x*2^s<=4294967295*2147483648:=bnV Om K;have ex:u_.wrap ((x:Nat):Int)=((x:Nat):Int):=bV Om;have β:2^s*x=x*2^s:=blP _ _;have J:shift .shl .u64 (x:Int) (s:Int)=some (.int .u64 ((2^s*x:Nat):Int)):=YG Om Om;have H:=orI (a:=2^s*x) (b:=c) (n:=c+2^s*x) Om Om (by rw[Nat.or_comm];exact alV Y Om) Om;have B:(c+2^s*x)/4294967296<2^s:=by rw[bnU aU];have:2^s*(x+1)<=2^s*4294967296:=bnD _ Om;rw[blA,Nat.mul_one]at this;omega
  have w:(1:Nat)*1<=16777216:=by decide
  simp only[go_sem,u,aUE,O,ex,em,eu,J,H,aUF,dN,w];refine gZ (src:=[[.int .u32 (((c+2^s*x)%4294967296:Nat):Int)]]) N rfl (wT Om) λv' H' l _=>?_;rw[wU]at l;simp only[go_sem,aUG,HO,aFM,wZz i];refine aG (P++[(c+2^s*x)%4294967296],(c+2^s*x)/4294967296,i+1,v',H') ⟨by simp only;omega,by simp;omega,d.app λy hy=>by simp at hy;subst hy;exact bmG _ aU,B,?_,l⟩ (by simp only;omega) ?_ b_
  ·simp only;have hp:4294967296^P.length*(2^s*x)=4294967296^i*x*2^n:=by rw[X,Nat.pow_add,<-U];rw[blL,Nat.mul_left_comm (4294967296^i),<-blL (4294967296^z),blP (4294967296^z*2^s),blL,blP x]
   rw[nA,bkQ,bkV,bmM,blL,bnC,<-blA,Nat.mod_add_div,V,blA,blT,<-bnC,p,hp]
  ·exact Lq
 ·have e:i=Z' a:=Om;subst e;have u:¬(Z' a:Int)<(Z' a:Nat):=Om;have w:(1:Nat)*1<=16777216:=by decide
  have hV:val (P++[c])=val a*2^n:=by rw[nA,p,blE]
  have M:Lim (P++[c]):=d.app λx Z=>by simp at Z;omega
  have ec:IntKind.u32.wrap ((c:Nat):Int)=((c:Nat):Int):=by rw[dN,bmC Om]
  simp only[go_sem,u,aFN,ec,w];refine gZ (src:=[[.int .u32 ((c:Nat):Int)]]) N rfl (wT Om) λv' H' l _=>?_;rw[wU]at l;have S:=L.trimM _ M (by simp;omega);rw[hV]at S;refine Yy S l rfl λF1 H1 _ r H2 hr _=>?_;simp only[go_sem];exact aSQ (.inr rfl) hr rfl
def j4(a:List Nat)(n:Nat)(v:PV)(i:Nat):PF:=((((n_.set 0 (aN a)).set 1 (.int .i64 n)).set 5 (v)).set 6 (.int .i64 i))
theorem a0Y(L:uQ C)(a:List Nat)(n:Nat)(J:Lim a)(h1:Z' a<=8388608)(hn:n<=1000000000) :
  YT.wp C (aX aNM.res (cI (aN (aM (val a/2^n))))) (g_ [aN a,.int .i64 n]) .nil:=by
 have ez:i_.wrap (bmX (n:Int) 32)=((n/32:Nat):Int):=by rw[aTL,zz Om]
 have em:=aTN n;have eu:u_.wrap ((n%32:Nat):Int)=((n%32:Nat):Int):=bV Om;have N:=T5 n;have R:n%32<32:=bmG _ aU;have hz:n/32<=1000000000:=Om;generalize ι:n/32=z at *
 generalize θ:n%32=s at *
 simp only[go_sem,YT,aqF,aqG,aNM,bkG,ez];by_cases c0:Z' a<=z
 ·have p:((z:Nat):Int)>=(Z' a:Nat):=Om;have hq:val a/2^n=0:=by refine boH (Nat.lt_of_lt_of_le (iW J) ?_);rw[<-N];exact blH (bnR aU c0) (Nat.le_mul_of_pos_right _ (bnK aU))
  simp only[go_sem,p,aqH];rw[hq,fJ];exact bG (vs:=[.aK]) (.inr rfl) .nil rfl a_ ⟨.nil 1,rfl⟩
 have p:¬((z:Nat):Int)>=(Z' a:Nat):=Om;have hR:val a/2^n=val (a.drop z)/2^s:=by rw[DJ J Om,<-N,Nat.div_div_eq_div_mul]
 have E:Lim (a.drop z):=J.drop z;simp only[go_sem,p,aqI,aqJ,ez];refine wp_loop (α:=List Nat × PV × PH) (λt=>j4 a n t.2.1 (z+t.1.length)) (λt=>t.2.2)
  (λt=>z+t.1.length<=Z' a/\t.1=fN t.1.length (val (a.drop z)/2^s)/\cG t.2.2 1 t.2.1 (aO t.1)) (λt=>Z' a-t.1.length) ([],.aK,.nil)
  ⟨by simp;omega,rfl,.nil⟩ ?_ a_ ?_
 ·unfold j4
  (repeat' (first|exact c_|refine d_ ?_ ?_))<;>first|(simp only[go_sem,bnB]<;>rfl)|rfl
 rintro⟨P,v,H0⟩ ⟨hP,hD,Z⟩;simp only at hP hD Z ⊢;simp only[go_sem,Wl,aqK,j4];have B:Lim P:=by rw[hD];exact sC _ _
 by_cases S:z+Z' P<Z' a
 ·have u:((z+Z' P:Nat):Int)<(Z' a:Nat):=Om;have η:=J _ (bkK S);have β:=cK a S;have δ:Z' P<=(a.drop z).length:=by rw[bmQ];omega
  have O:=DJ E δ;have d:(a.drop z).drop P.length=a[z+Z' P]::a.drop (z+Z' P+1):=by rw[List.drop_drop,bmP S]
  generalize hx:a[z+Z' P]=x at *
  have ex:u_.wrap ((x:Nat):Int)=((x:Nat):Int):=bV Om;have γ:(1:Nat)*1<=16777216:=by decide
  have Y:i_.wrap (((z+Z' P:Nat):Int)+1)=((z+Z' P+1:Nat):Int):=eM Om;have fin:∀(t:Nat)(F:PF),t<18446744073709551616->val (a.drop z)/4294967296^P.length%(4294967296*4294967296)=t->F 0=some (aN a)->F 1=some (.int .i64 n)->F 5=some v->F 6=some (.int .i64 (z+Z' P:Nat))->F 7=some (.int .u64 t) ->
    ∀K:cH,(∀v' Q H2,(j4 a n v' (z+(Z' P+1))).le Q->cG H2 1 v' (aO (P++[t/2^s%4294967296]))->(P++[t/2^s%4294967296])=fN (Z' P+1) (val (a.drop z)/2^s)->K .normal Q H2) ->
    aC.wp C (.region zq) (gE 1 (kD C (aC.wp C (.region j5)) K)) F H0:=by
   intro t F ht ε f0 f1 f5 f6 f7 K hK;have A:shift .shr .u64 (t:Int) (s:Int)=some (.int .u64 ((t/2^s:Nat):Int)):=baK Om;simp only[go_sem,zq,f5,f7,f1,em,eu,A,dN,γ];refine gZ (src:=[[.int .u32 ((t/2^s%4294967296:Nat):Int)]]) Z rfl (wT Om) λv' H' H _=>?_;rw[wU]at H;simp only[go_sem,j5,f6,Y];refine hK v' _ H' ?_ H ?_
   ·unfold j4;exact Lq
   ·rw[EN,<-hD];congr 2;have e:val (a.drop z)/4294967296^P.length=t%4294967296+4294967296*(t/4294967296+4294967296*(val (a.drop z)/4294967296^P.length/(4294967296*4294967296))):=by have:=Nat.mod_add_div (val (a.drop z)/4294967296^P.length) (4294967296*4294967296);rw[ε]at this;have h2:=Nat.mod_add_div t 4294967296;rw[blA,<-bnC,h2,<-blL];exact this.symm
    have:=tv R e;rw[this];congr 2;have h2:=Nat.mod_add_div t 4294967296;omega
  simp only[aC.wp,go_sem]at fin;simp only[go_sem,u,aqL,β,ex,aqM,Y];by_cases U:z+Z' P+1<Z' a
  ·have w:((z+Z' P+1:Nat):Int)<(Z' a:Nat):=Om;have ζ:=J _ (bkK U);have M:=cK a U;rw[bmP U]at d;generalize hy:a[z+Z' P+1]=y at *
   have ey:u_.wrap ((y:Nat):Int)=((y:Nat):Int):=bV Om;have A:shift .shl .u64 (y:Int) ((32:Nat):Int)=some (.int .u64 ((2^32*y:Nat):Int)):=YG aU Om;have X:=orI (a:=x) (b:=2^32*y) (n:=x+2^32*y) Om Om (alV Om Om) Om;simp only[go_sem,w,aqN,Y,M,ey,show shift .shl .u64 (y:Int) 32=_ from A,X];refine fin (x+2^32*y) _ Om ?_ rfl rfl rfl rfl rfl _ ?_
   ·rw[<-O,d];simp only[val];omega
   ·intro v' Q H2 V e2 W;refine aG (α:=List Nat × PV × PH) (P++[(x+2^32*y)/2^s%4294967296],v',H2) ⟨by simp;omega,by simpa using W,e2⟩ (by simp;omega) ?_ b_;simp only[bkQ,bkV];exact V
  ·have w:¬((z+Z' P+1:Nat):Int)<(Z' a:Nat):=Om;rw[boK (l:=a) (i:=z+Z' P+1) Om]at d;simp only[go_sem,w];refine fin x _ Om ?_ rfl rfl rfl rfl rfl _ ?_
   ·rw[<-O,d];simp only[val];omega
   ·intro v' Q H2 V e2 W;refine aG (α:=List Nat × PV × PH) (P++[x/2^s%4294967296],v',H2) ⟨by simp;omega,by simpa using W,e2⟩ (by simp;omega) ?_ b_;simp only[bkQ,bkV];exact V
 ·have e:z+Z' P=Z' a:=Om;have u:¬((z+Z' P:Nat):Int)<(Z' a:Nat):=Om;have hV:val P=val (a.drop z)/2^s:=by rw[hD];refine uM (Nat.lt_of_le_of_lt (bnQ _ _) ?_);have:=iW E;rw[bmQ]at this;rw[show P.length=Z' a-z by omega];exact this
  have R:=L.trim _ B Om;rw[hV,<-hR]at R;simp only[go_sem,u,Wm];refine BY R Z rfl λF1 H1 _=>?_;simp only[go_sem];exact bG (.inr rfl) .nil rfl a_ ⟨.refl _,rfl⟩
structure b9(C:Ctx):Prop extends Aw C where
 bits:∀xs,Lim xs->Z' xs<=35184372087808->aH C 31 [aN xs] .nil (aF (.int .i64 (dC (val xs):Nat)))
 upM:∀(a:List Nat)(n:Nat),Lim a->Z' a<=8388608->n<=8388608->(Z' a=0->val a=0)->aH C 45 [aN a,.int .i64 n] .nil (tI 1 (aO (aM (val a*2^n))))
 down:∀(a:List Nat)(n:Nat),Lim a->Z' a<=8388608->n<=1000000000->aH C 40 [aN a,.int .i64 n] .nil (aF (aN (aM (val a/2^n))))
def udS:Spec:=λname vs=>match name,vs with
 |35,[.int _ v]=>some ([],λ_=>aF (aN (aM v.toNat)))
 |44,[x,y]=>some ([],λ_=>aF (aN (aM (val (kN x)*val (kN y)))))
 |32,[x,.osl q _ _ _]=>some ([q],λd r H'=>H'=d/\∀xs,Lim xs->d q=some (.rows 1 (aO xs))->r=.int .i64 (eR (val (kN x)) (val xs)))
 |_,_=>none
theorem a0X(v:Nat):udS 35 [.int .u64 v]=some ([],λ_=>aF (aN (aM v))):=rfl
theorem aTQ(x y:List Nat):udS 44 [aN x,aN y]=some ([],λ_=>aF (aN (aM (val x*val y)))):=by
 show some ([],λ_=>aF (aN (aM (val (kN (aN x))*val (kN (aN y))))))=_;rw[eX,eX]
theorem aWA(q:Nat)(x L:List Nat):(h_.set q (.rows 1 (aO L)))=(h_.set q (.rows 1 (aO L)))/\∀xs,Lim xs->(h_.set q (.rows 1 (aO L))) q=some (.rows 1 (aO xs))->(PV.int .i64 (eR (val x) (val L)))=.int .i64 (eR (val (kN (aN x))) (val xs)):=by
 refine⟨rfl,λxs d e=>?_⟩;rw[cW]at e;have:aO L=aO xs:=(bA.rows.inj (bmH.inj e)).2;rw[gl this,eX]
def duF(n o e:Nat)(y:List Nat)(top i d:Nat)(k:Int):PF:=
 ((((((n_.set 10 (.int .i64 n)).set 11 (.osl o 1 0 e)).set 12 (aN y)).set 13 (.int .u64 top)).set 14 (.osl i 1 0 d)).set 15 (.int .i64 k))
abbrev fQ(X:List Nat)(Z:List (List PV)):List (List PV):=aO X++Z
theorem ZN{X:List Nat}{Z:List (List PV)}{i:Nat}(h:i<Z' X):(fQ X Z)[i]?=some [.int .u32 ((X[i]:Nat):Int)]:=by
 rw[fQ,bmU (by rw[cX];exact h),cK X h]
theorem Xw{X:List Nat}{Z:List (List PV)}{i:Nat}(h:i<Z' X)(v:Nat):(fQ X Z).set i [.int .u32 (v:Int)]=fQ (X.set i v) Z:=by
 rw[fQ,List.set_append_left _ _ (by rw[cX];exact h),jW]
theorem Xv{X:List Nat}{Z:List (List PV)}{j m:Nat}(h:j+m<=Z' X):((fQ X Z).drop j).take m=aO ((X.drop j).take m):=by
 rw[fQ,List.drop_append_of_le_length (by rw[cX];omega),List.take_append_of_le_length (by rw[bmQ,cX];omega)];unfold aO;rw[<-List.map_drop,<-bnO]
theorem baO(L:b9 C)(n o p:Nat)(y:List Nat)(top l S j:Nat)(X:List Nat)(Z:List (List PV))(Q:l≠o)(hy:Lim y)(hX:Lim X)(γ:Z' X=p)(hl:p<=5000)(hj:j+(Z' y+1)<=p)(B:0<val y)
  (Y:bA) (g0:Nat) (hg:val ((X.drop j).take (Z' y+1))/val y<=g0) (O:g0<4294967296) (K:cH) (F:PF) (H:PH) (hF:((duF n o p y top l S j).set 17 (.int .u64 g0)).le F) (hH:((h_.set o (.rows 1 (fQ X Z))).set l Y).le H)
  (hK:∀F' H',((duF n o p y top l S j).set 17 (.int .u64 (val ((X.drop j).take (Z' y+1))/val y:Nat))).le F'->((h_.set o (.rows 1 (fQ X Z))).set l Y).le H'->K .normal F' H') :
  aC.wp C (.block 4 (.loop EA)) K F H:=by
 have d:¬o=l:=λh=>Q h.symm;have e:((X.drop j).take (Z' y+1)).length=Z' y+1:=by rw[bkY,bmQ];omega
 have u:Lim ((X.drop j).take (Z' y+1)):=(hX.drop _).take _;have w:=Xv (X:=X) (Z:=Z) (j:=j) (m:=Z' y+1) Om;have x:j+(Z' y+1)<=(fQ X Z).length:=by rw[fQ,bkQ,cX];omega
 have M:aO ((X.drop j).take (Z' y+1))≠[]:=λh=>by have:=congrArg List.length h;rw[cX,e]at this;simp at this
 generalize hW:(X.drop j).take (Z' y+1)=W at *
 generalize A:val W/val y=J at *
 simp only[go_sem];refine wp_loop (α:=Nat) (λg=>(duF n o p y top l S j).set 17 (.int .u64 g)) (λ_=>(h_.set o (.rows 1 (fQ X Z))).set l Y) (λg=>J<=g/\g<4294967296) (λg=>g) g0 ⟨hg,O⟩ hF hH ?_;rintro g ⟨β,hlt⟩;have e1:i_.wrap ((j:Int)+(Z' y:Int))=((j+Z' y:Nat):Int):=kT Om;have e2:i_.wrap (((j+Z' y:Nat):Int)+1)=((j+Z' y+1:Nat):Int):=eM Om;have b1:(j:Int)<=((j+Z' y+1:Nat):Int):=Om;have b2:((j+Z' y+1:Nat):Int)<=(p:Nat):=Om;have b3:j+Z' y+1-j=Z' y+1:=Om;have mk:=L.make g Om;have tm:=L.times y (aM g) hy (aY _) Om (by have E:nl g<=1:=lE (by rw[Nat.pow_one];exact hlt);rw[bE];omega)
 rw[aW]at tm;have R:(aM (val y*g)).length<=35184372087808:=by have E:nl g<=1:=lE (by rw[Nat.pow_one];exact hlt);have h2:=kZ (a:=val y) (b:=g) (jF hy) E;rw[bE];omega
 have cm:=L.cmp (aM (val y*g)) W (aY _) u R Om;rw[aW]at cm;simp only[go_sem,EA];refine bP .nil udS a_ ?_;simp only[go_sem,ui,duF];refine bK (a0X g) mk Sq a_ ?_;simp only[go_sem];have tS:=aTQ y (aM g);rw[aW]at tS;refine bK tS tm Sq a_ ?_;simp only[go_sem,bkG,e1,e2,b1,b2,b3];refine BW (src:=aO W) ?_ ?_ (λh=>absurd h M) λ_ o' i=>?_
 ·simp only[go_sem,d,x,w]
 ·unfold roomFor;rw[cX,e];simp only[maxLen];omega
 refine⟨a_,?_⟩;rw[cX,e];have n1:¬o'=l:=(kP.1 i).1;refine aWJ (o:=o') (s:=1) (rs:=aO W) (vs:=[aN (aM (val y*g)),.osl o' 1 0 (Z' y+1)]) (v:=.int .i64 (eR (val y*g) (val W))) rfl (.int _ _) Sq ?_ ?_ ?_ Sq a_ ?_
 ·rw[blM,blM,bmE,CK (by rw[cX,e];exact bkN _),bkZ (by rw[cX,e];exact bkN _)];exact cm
 ·have:=aWA o' (aM (val y*g)) W;rw[aW]at this;exact this
 ·rintro r H' ⟨E,h2⟩;have:=h2 W u (by rw[cW]);rw[eX,aW]at this;exact⟨this,E⟩
 simp only[go_sem];by_cases c:val W<val y*g
 ·have N:eR (val y*g) (val W)=1:=by unfold eR;rw[aD Om,aI c]
  have hq:J<g:=by rw[<-A];exact(bnU B).2 (by rw[blP];exact c)
  have ew:u_.wrap ((g:Int)-1)=((g-1:Nat):Int):=by rw[wrap_u64 Om Om];omega
  simp only[go_sem,N,show(1:Int)>0 by decide,uj,ew];refine aG (g-1) ⟨by omega,by omega⟩ Om ?_ ?_
  ·exact Lq
  ·refine e_ (e_ a_ ?_) ?_
   ·have U:¬o=o':=λh=>by subst h;rw[bD,aD d,cW]at i;cases i
    simp only[go_sem,U,d]
   ·have V:¬l=o':=λh=>n1 h.symm;simp only[go_sem,V]
 ·have N:¬eR (val y*g) (val W)>0:=by unfold eR;rw[aD c];split<;>decide
  have hq:g=J:=by
   have:g<=J:=by rw[<-A];exact(Nat.le_div_iff_mul_le B).2 (by rw[blP];omega)
   omega
  simp only[go_sem,N];refine hK _ _ ?_ ?_
  ·unfold duF
   (repeat' (first|exact c_|refine d_ ?_ ?_))<;>first|(simp only[go_sem,<-hq]<;>rfl)|rfl
  ·refine e_ (e_ a_ ?_) ?_
   ·have U:¬o=o':=λh=>by subst h;rw[bD,aD d,cW]at i;cases i
    simp only[go_sem,U,d]
   ·have V:¬l=o':=λh=>n1 h.symm;simp only[go_sem,V]
theorem a5I(R k:Nat)(h:k<nl R):∃l:k<(aM R).length,(aM R)[k]=R/4294967296^k%4294967296:=by
 have d:k<(aM R).length:=by rw[bE];exact h
 refine⟨d,?_⟩;have e:=DJ (aY R) (Nat.le_of_lt d);rw[aW,bmP d]at e;have i:=aY R _ (bkK d);simp only[val]at e;rw[<-e,Nat.add_mul_mod_self_left,bmC i]
theorem aYI(R k:Nat)(h:nl R<=k):R/4294967296^k%4294967296=0:=by
 rw[boH ((mQ R k).1 h)]
theorem a7B{A P W Z:List Nat}{i:Nat}(d:Z' P=i)(hi:i<Z' W)(v:Nat):(A++(P++W.drop i)++Z).set (Z' A+i) v=A++((P++[v])++W.drop (i+1))++Z:=
 gl (by rw[<-jW];exact SM d hi v)
theorem bdJ(n o x:Nat)(y:List Nat)(top u S j:Nat)(X:List Nat)(Z:List (List PV))(E:u≠o)(O:Z' X=x)(hl:x<=5000)(hj:j+(Z' y+1)<=x)
  (U:bA) (g R:Nat) (K:cH) (F:PF) (H:PH) (hF:((((duF n o x y top u S j).set 17 (.int .u64 g)).set 18 (aN (aM R))).set 19 (.int .i64 0)).le F) (hH:((h_.set o (.rows 1 (fQ X Z))).set u U).le H)
  (hK:∀V H',((duF n o x y top u S j).set 17 (.int .u64 g)).le V->((h_.set o (.rows 1 (fQ (X.take j++fN (Z' y+1) R++X.drop (j+(Z' y+1))) Z))).set u U).le H'->K .normal V H') :
  aC.wp C (.block 6 (.loop EB)) K F H:=by
 have l:¬o=u:=λh=>E h.symm;have hA:(X.take j).length=j:=by rw[bkY];omega
 have ε:((X.drop j).take (Z' y+1)).length=Z' y+1:=by rw[bkY,bmQ];omega
 have θ:(X.drop (j+(Z' y+1))).length=x-(j+(Z' y+1)):=by rw[bmQ,O]
 have w:X.take j++(X.drop j).take (Z' y+1)++X.drop (j+(Z' y+1))=X:=by rw[blW,<-List.drop_drop,bnP,bnP]
 rw[<-w]at hH;generalize γ:X.take j=A at *
 generalize δ:(X.drop j).take (Z' y+1)=W at *
 generalize η:X.drop (j+(Z' y+1))=p at *
 simp only[go_sem];refine wp_loop (α:=List Nat) (λP=>(((duF n o x y top u S j).set 17 (.int .u64 g)).set 18 (aN (aM R))).set 19 (.int .i64 P.length)) (λP=>(h_.set o (.rows 1 (fQ (A++(P++W.drop P.length)++p) Z))).set u U)
  (λP=>Z' P<=Z' y+1/\P=fN P.length R) (λP=>Z' y+1-Z' P) [] ⟨bkL _,rfl⟩ hF (by simpa using hH) ?_
 rintro P ⟨hP,hD⟩;simp only[go_sem,EB,uk,duF];by_cases c:Z' P<Z' y+1
 ·have M:(Z' P:Int)<=(Z' y:Nat):=Om;have Y:i_.wrap ((j:Int)+(Z' P:Int))=((j+Z' P:Nat):Int):=kT Om;have β:(A++(P++W.drop P.length)++p).length=x:=by simp only[bkQ,bmQ];omega
  have hi:j+Z' P<(A++(P++W.drop P.length)++p).length:=Om;have b1:((j+Z' P:Nat):Int)<(x:Nat):=Om;have r1:=ZN (Z:=Z) hi;have s1:=Xw (Z:=Z) hi 0;have J:j+Z' P<((A++(P++W.drop P.length)++p).set (j+Z' P) 0).length:=by rw[bmD];exact hi
  have d:=λv=>a7B (A:=A) (P:=P) (W:=W) (Z:=p) (i:=Z' P) rfl Om v;rw[hA]at d;generalize ζ:A++(P++W.drop P.length)++p=XX at *
  have r2:(fQ (A++((P++[0])++W.drop (Z' P+1))++p) Z)[j+Z' P]?=some [.int .u32 ((0:Nat):Int)]:=by rw[<-d 0,ZN J,List.getElem_set_self]
  have s2:∀v,(fQ (A++((P++[0])++W.drop (Z' P+1))++p) Z).set (j+Z' P) [.int .u32 ((v:Nat):Int)]=fQ (A++((P++[v])++W.drop (Z' P+1))++p) Z:=by intro v;rw[<-d 0,Xw J,List.set_set,d]
  have bjR:=EN P.length R;rw[<-hD]at bjR;have ew:i_.wrap ((Z' P:Int)+1)=((Z' P+1:Nat):Int):=eM Om;simp only[go_sem,M,ul,Y,b1,l,r1,show([PV.int .u32 (0:Int)])=[PV.int .u32 ((0:Nat):Int)]from rfl,s1,um,bE];by_cases c2:Z' P<nl R
  ·have B:(Z' P:Int)<(nl R:Nat):=Om;obtain⟨N,Q⟩:=a5I R P.length c2;have hr:=cK (aM R) N;rw[Q]at hr;simp only[go_sem,B,uo,hr,Y,b1,l,r2,s2,List.set_set,d,QL,ew];refine aG (P++[R/4294967296^P.length%4294967296]) ⟨by simp;omega,by rw[bkQ,bkV];exact bjR.symm⟩ (by simp;omega) ?_ ?_
   ·rw[bkQ,bkV];exact Lq
   ·rw[bkQ,bkV];refine e_ (e_ a_ ?_) ?_<;>simp only[go_sem,l,show ¬u=o from E]
  ·have B:¬(Z' P:Int)<(nl R:Nat):=Om;have Q:=aYI R P.length Om;rw[Q]at bjR;simp only[go_sem,B,d,QL,ew];refine aG (P++[0]) ⟨by simp;omega,by rw[bkQ,bkV];exact bjR.symm⟩ (by simp;omega) ?_ ?_
   ·rw[bkQ,bkV];exact Lq
   ·rw[bkQ,bkV];refine e_ (e_ a_ ?_) ?_<;>simp only[go_sem,l,show ¬u=o from E]
 ·have M:¬(Z' P:Int)<=(Z' y:Nat):=Om;have e:Z' P=Z' y+1:=Om;simp only[go_sem,M];refine hK _ _ (by unfold duF;exact Lq) ?_;have h2:A++fN (Z' y+1) R++p=A++(P++W.drop P.length)++p:=by rw[boK Om,bmJ,<-e,<-hD]
  rw[h2];exact b_
theorem aXU{y W:List Nat}{m:Nat}(A:Lim y)(hW:Lim W)(w:Z' y=m+1)(u:Z' W=m+2)(x:0<y[m]):val W/val y<=(4294967296*W[m+1]+W[m])/y[m]:=by
 have p:=dE y (Om:m<Z' y);rw[bkZ Om]at p;have i:=dE W (Om:m+1<Z' W);rw[bkZ Om,dE W (Om:m<Z' W)]at i;have l:=iW (hW.take m);rw[bkY,bnA Om]at l;have hp:0<4294967296^m:=bnK aU;have hb:4294967296^m*y[m]<=val y:=Om;have d:0<4294967296^m*y[m]:=Nat.mul_pos hp x;have e:val W=val (W.take m)+4294967296^m*(4294967296*W[m+1]+W[m]):=by rw[i,bmM,blA,blL];omega
 refine blH (Nat.div_le_div_left hb d) ?_;rw[<-Nat.div_div_eq_div_mul,e,Nat.add_mul_div_left _ _ hp,boH l,blG];exact bkN _
theorem aTR(L:b9 C)(U0 n o i d e m:Nat)(y z:List Nat)(N:e≠o)(hy:Lim y)(E:Z' y=m+1)(ht:0<y[m])(d':i=d+(m+1))(R:i<=5000)(X:List Nat)(B:uY U0 (val y) (m+1) i d d X (bkM d 0))(K:cH)(F:PF)(H:PH)
  (hF:(duF n o i y (y[m]) e d ((d:Int)-1)).le F) (hH:((h_.set o (.rows 1 (fQ X (aO z)))).set e (.rows 1 (aO (bkM d 0)))).le H)
  (hK:∀X' Q' F' H',uY U0 (val y) (m+1) i d 0 X' Q'->(duF n o i y (y[m]) e d (-1)).le F'->((h_.set o (.rows 1 (fQ X' (aO z)))).set e (.rows 1 (aO Q'))).le H'->K .normal F' H') :
  aC.wp C (.block 2 (.loop EC)) K F H:=by
 have l:¬o=e:=λh=>N h.symm;have m':¬e=o:=N;have hV:val y<4294967296^(m+1):=by have:=iW hy;rw[E]at this;exact this
 have κ:0<val y:=by have h1:=dE y (Om:m<Z' y);rw[bkZ Om]at h1;have:0<4294967296^m*y[m]:=Nat.mul_pos (bnK aU) ht;omega
 have s':=hy _ (bkK (Om:m<Z' y));generalize htop:y[m]=top at *
 simp only[go_sem];refine wp_loop (α:=Nat × List Nat × List Nat) (λt=>duF n o i y top e d ((t.1:Int)-1)) (λt=>(h_.set o (.rows 1 (fQ t.2.1 (aO z)))).set e (.rows 1 (aO t.2.2)))
  (λt=>t.1<=d/\uY U0 (val y) (m+1) i d t.1 t.2.1 t.2.2) (λt=>t.1) (d,X,bkM d 0) ⟨bkN _,B⟩ hF hH ?_
 rintro⟨k,X,Q⟩ ⟨hk,B⟩;simp only at hk B;simp only[go_sem,EC,uc,duF];by_cases h0:0<k
 ·obtain⟨j,rfl⟩:∃j,k=j+1:=⟨k-1,by omega⟩;have hz:((j+1:Nat):Int)-1=(j:Int):=Om;have Ω:(j:Int)>=0:=Om;have dst:=acQ B hV Om d';rw[show m+1+1=m+2 from rfl]at dst;obtain⟨hlt,Γ⟩:=dst;have μ:=B.lu';have n':=B.lq';have M:((X.drop j).take (m+2)).length=m+2:=by rw[bkY,bmQ];omega
  have Y:Lim ((X.drop j).take (m+2)):=(B.limU.drop _).take _;have q':m+1<((X.drop j).take (m+2)).length:=Om;have p':m<((X.drop j).take (m+2)).length:=Om;have a1:j+(m+1)<Z' X:=Om;have a0:j+m<Z' X:=Om;have w1:((X.drop j).take (m+2))[m+1]=X[j+(m+1)]:=by simp
  have w0:((X.drop j).take (m+2))[m]=X[j+m]:=by simp
  have ξ:=aXU hy Y E M (by rw[htop];exact ht);rw[w1,w0,htop]at ξ;have r1:=ZN (Z:=aO z) a1;have r0:=ZN (Z:=aO z) a0;have l1:=B.limU _ (bkK a1);have l0:=B.limU _ (bkK a0);generalize u':X[j+(m+1)]=w at *
  generalize t':X[j+m]=A at *
  have e1:i_.wrap ((j:Int)+(Z' y:Int))=((j+(m+1):Nat):Int):=by rw[E];exact kT Om
  have e0:i_.wrap (((j+(m+1):Nat):Int)-1)=((j+m:Nat):Int):=by rw[wrap_i64 Om Om];omega
  have b1:((j+(m+1):Nat):Int)<(i:Nat):=Om;have b0:((j+m:Nat):Int)<(i:Nat):=Om;have ψ:u_.wrap ((w:Nat):Int)=((w:Nat):Int):=bV Om;have χ:u_.wrap ((A:Nat):Int)=((A:Nat):Int):=bV Om;have ε:shift .shl .u64 (w:Int) 32=some (.int .u64 ((2^32*w:Nat):Int)):=YG (s:=32) Om Om;have φ:(2:Nat)^32=4294967296:=by decide
  have γ:=orI (a:=2^32*w) (b:=A) (n:=2^32*w+A) Om Om (Nat.two_pow_add_eq_or_of_lt Om w).symm Om;rw[φ]at ε γ;have Λ:¬((top:Nat):Int)=0:=Om;have σ:(4294967296*w+A)/top<18446744073709551616:=Nat.lt_of_le_of_lt (bnQ _ _) Om;have δ:u_.wrap (bmX ((4294967296*w+A:Nat):Int) ((top:Nat):Int))=(((4294967296*w+A)/top:Nat):Int):=by rw[show bmX ((4294967296*w+A:Nat):Int) ((top:Nat):Int)=(((4294967296*w+A)/top:Nat):Int)from rfl];exact bV σ
  have τ:val ((X.drop j).take (m+2))/val y<4294967296:=(bnU κ).2 (by rw[blP];exact hlt);have ν:=Xv (X:=X) (Z:=aO z) (j:=j) (m:=m+2) Om;have ο:j+(m+2)<=(fQ X (aO z)).length:=by rw[fQ,bkQ,cX];omega
  have β:val ((X.drop j).take (m+2))-val y*(val ((X.drop j).take (m+2))/val y)=val ((X.drop j).take (m+2))%val y:=by have:=boG (val ((X.drop j).take (m+2))) (val y);omega
  have x:val y*(val ((X.drop j).take (m+2))/val y)<=val ((X.drop j).take (m+2)):=Nat.mul_div_le _ _;clear w1 w0;have gu:=λg0=>baO (C:=C) L n o i y top e d j X (aO z) N hy B.limU μ R Om κ (.rows 1 (aO Q)) g0;rw[E,show m+1+1=m+2 from rfl]at gu;generalize hW:(X.drop j).take (m+2)=W at *
  generalize r':val W/val y=J at *
  have Δ:aO W≠[]:=λh=>by have:=congrArg List.length h;rw[cX,M]at this;simp at this
  have tail:∀(g0:Nat)(F:PF)(H:PH),J<=g0->g0<4294967296->((duF n o i y top e d j).set 17 (.int .u64 g0)).le F->((h_.set o (.rows 1 (fQ X (aO z)))).set e (.rows 1 (aO Q))).le H ->
    aC.wp C (.seq (.block 4 (.loop EA)) (.seq (.region QJ) (.seq (.seq (.region QK) (.block 6 (.loop EB))) (.region QM)))) (gE 3 (kD C (aC.wp C (.region QN)) (jM (λ(t:Nat × List Nat × List Nat)=>duF n o i y top e d ((t.1:Int)-1)) (λt=>(h_.set o (.rows 1 (fQ t.2.1 (aO z)))).set e (.rows 1 (aO t.2.2))) (λt=>t.1<=d/\uY U0 (val y) (m+1) i d t.1 t.2.1 t.2.2) (λt=>t.1) (j+1) (gE 2 K)))) F H:=by
   intro g0 F H hg Ψ hF hH;have gu:=gu g0 hg Ψ;simp only[go_sem]at gu;simp only[go_sem];refine gu _ F H hF hH ?_;intro S H1 p θ;have f11:S 11=some (.osl o 1 0 i):=p 11 _ (by unfold duF;simp only[go_sem]);have V:S 12=some (aN y):=p 12 _ (by unfold duF;simp only[go_sem]);have ζ:S 15=some (.int .i64 j):=p 15 _ (by unfold duF;simp only[go_sem]);have η:S 17=some (.int .u64 (J:Nat)):=p 17 _ (by unfold duF;simp only[go_sem]);have ω:S 10=some (.int .i64 n):=p 10 _ (by unfold duF;simp only[go_sem]);have f13:S 13=some (.int .u64 top):=p 13 _ (by unfold duF;simp only[go_sem]);have f14:S 14=some (.osl e 1 0 d):=p 14 _ (by unfold duF;simp only[go_sem]);have ho:H1 o=some (.rows 1 (fQ X (aO z))):=θ o _ (by simp only[go_sem,l]);have ρ:H1 e=some (.rows 1 (aO Q)):=θ e _ Sq;have b3:(j:Int)<=((j+(m+1)+1:Nat):Int):=Om;have b4:((j+(m+1)+1:Nat):Int)<=(i:Nat):=Om;have b5:j+(m+1)+1-j=m+2:=Om;have e2:i_.wrap (((j+(m+1):Nat):Int)+1)=((j+(m+1)+1:Nat):Int):=eM Om;simp only[go_sem,QJ,f11,ζ,V,bkG,e1,e2,b3,b4,b5];refine BW (src:=aO W) ?_ ?_ (λh=>absurd h Δ) λ_ o' O=>?_
   ·simp only[go_sem,ho,ο,ν]
   ·unfold roomFor;rw[cX,M];simp only[maxLen];omega
   rw[cX,M];have n1:¬e=o':=λh=>by subst h;rw[ρ]at O;cases O
   have n2:¬o=o':=λh=>by subst h;rw[ho]at O;cases O
   have nq:nl J<=1:=lE (by rw[Nat.pow_one];exact τ);have tm:=L.times y (aM J) hy (aY _) Om (by rw[bE];omega);rw[aW]at tm;have nW:=jF Y;have mn:=L.minus W (aM (val y*J)) Y (aY _) (by rw[aW];exact x) (by rw[bE];exact blH (jO x) nW) Om;rw[aW,β]at mn;have Θ:(aO W).take (m+2)=aO W:=bkZ (by rw[cX];omega);simp only[go_sem,η];refine aB (L.make J Om) Sq ?_;simp only[go_sem,V];refine aB tm Sq ?_;simp only[go_sem];refine xV (o:=o') (s:=1) (rs:=aO W) mn Sq (by simp only[go_sem,show m+2<=W.length by omega,Θ]) ?_;simp only[go_sem,QK];have Φ:(fQ X (aO z)).map (λr=>r.map (PV.eF o' 1 (aO W)))=fQ X (aO z):=by
    have:fQ X (aO z)=aO (X++z):=by simp[fQ,aO]
    rw[this];exact zD _ _ _ _
   have Ξ:(aO Q).map (λr=>r.map (PV.eF o' 1 (aO W)))=aO Q:=zD _ _ _ _;have ur:=bdJ (C:=C) n o i y top e d j X (aO z) N μ R Om (.rows 1 (aO Q)) J (val W%val y);rw[E,show m+1+1=m+2 from rfl]at ur;simp only[go_sem]at ur;refine ur _ _ _ ?_ ?_ ?_
   ·unfold duF
    (repeat' (first|exact c_|refine d_ ?_ ?_))<;>first|(simp only[go_sem,ω,f11,V,f13,f14,ζ,η,n1,n2]<;>rfl)|rfl
   ·refine e_ (e_ a_ ?_) ?_
    ·simp only[go_sem,l,n2,ho,bA.frz,Φ]
    ·simp only[go_sem,n1,ρ,bA.frz,Ξ]
   intro U H3 u ι;have g':U 10=some (.int .i64 n):=u 10 _ (by unfold duF;simp only[go_sem]);have h':U 11=some (.osl o 1 0 i):=u 11 _ (by unfold duF;simp only[go_sem]);have i':U 12=some (aN y):=u 12 _ (by unfold duF;simp only[go_sem]);have j':U 13=some (.int .u64 top):=u 13 _ (by unfold duF;simp only[go_sem]);have υ:U 14=some (.osl e 1 0 d):=u 14 _ (by unfold duF;simp only[go_sem]);have k':U 15=some (.int .i64 j):=u 15 _ (by unfold duF;simp only[go_sem]);have l':U 17=some (.int .u64 J):=u 17 _ (by unfold duF;simp only[go_sem]);have e':H3 o=some (.rows 1 (fQ (X.take j++fN (m+2) (val W%val y)++X.drop (j+(m+2))) (aO z))):=ι o _ (by simp only[go_sem,l]);have f':H3 e=some (.rows 1 (aO Q)):=ι e _ Sq;have b':j<Z' Q:=Om;have rq:=cK Q b';have a':(j:Int)<(d:Nat):=Om;have sq:=jW Q j J;have ec:IntKind.u32.wrap ((J:Nat):Int)=((J:Nat):Int):=by rw[dN,bmC τ]
   have ej:i_.wrap ((j:Int)-1)=(j:Int)-1:=wrap_i64 Om Om;simp only[go_sem,QM,υ,k',l',a',f',rq,ec,sq,QN,ej];refine aG (α:=Nat × List Nat × List Nat) (j,_,_) ⟨by simp only;omega,Γ⟩ (by simp only;omega) ?_ ?_
   ·unfold duF
    (repeat' (first|exact c_|refine d_ ?_ ?_))<;>first|(simp only[go_sem,g',h',i',j',υ]<;>rfl)|rfl
   ·refine e_ (e_ a_ ?_) ?_
    ·simp only[go_sem,l,e']
    ·simp only[go_sem]
  simp only[aC.wp,go_sem]at tail;simp only[go_sem,hz,Ω];refine bP .nil eJ a_ ?_;simp only[go_sem,ud,e1,e0,b1,b0,l,r1,r0,ψ,χ,ε,γ,ue,Λ,δ,ug];by_cases c:(4294967296*w+A)/top>4294967295
  ·have c':(((4294967296*w+A)/top:Nat):Int)>4294967295:=Om;simp only[go_sem,c',uh];exact tail 4294967295 _ _ Om aU (by unfold duF;exact Lq) b_
  ·have c':¬(((4294967296*w+A)/top:Nat):Int)>4294967295:=Om;simp only[go_sem,c'];exact tail _ _ _ ξ Om (by unfold duF;exact Lq) b_
 ·have:k=0:=Om;subst this;have hz:¬((0:Nat):Int)-1>=0:=by decide
  simp only[go_sem,hz];refine hK X Q _ _ B ?_ b_;unfold duF
  (repeat' (first|exact c_|refine d_ ?_ ?_))<;>first|(simp only[go_sem,show((0:Nat):Int)-1=-1 from rfl]<;>rfl)|rfl
end Go.PM
